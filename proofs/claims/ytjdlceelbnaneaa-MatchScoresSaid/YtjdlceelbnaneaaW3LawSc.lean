import Derived.Test.YtjdlceelbnaneaaWg18
set_option linter.unusedSimpArgs false
set_option linter.unusedVariables false
set_option exponentiation.threshold 3000
namespace Go.Ix
open Go.Proofs Ieee
variable{a b:AV}{D D2:List Px}{L S L2 S2:Int}
theorem w_LPair(d:Nat)(L S L2 S2:Int){l r:List Nat}(ha:Sl f32E a l)(hb:Sl f32E b r)(hl:l.length<=1048576)(hl2:r.length<=1048576):∃p q,Sl pxE p (prsM l)/\Sl pxE q (prsM r)/\∀m,x8x (x8w (d+3)) xj [.agg [I L,I S,a,I L2,I S2,b]] m=some (.agg [I L,I S,p,I L2,I S2,q],m):=by
 obtain⟨p,hp,ep⟩:=xjt d L S ha hl
 obtain⟨q,hq,eq⟩:=xjt d L2 S2 hb hl2
 refine⟨p,q,hp,hq,λm=>x99 (by simp[ha.still1,hb.still1]) ?_ m⟩
 rw[x6g]
 unfold x4b x2q
 simp[mem0,ha.one,hb.one,xdc,x93,ep,eq,xcq,hp.one,hq.one,cAp,tR,mkM,clean,ha.clean1,hb.clean1,sLdP,show Nat.blt 0 1=true from rfl]
 exact RetF.st (by simp[hp.still1,hq.still1]) rfl
theorem w_both(d:Nat)(L S L2 S2:Int){l r:List Nat}(ha:Sl f32E a l)(hb:Sl f32E b r)(m:Mem):x8x (x8w (d+2)) x15 [.agg [I L,I S,a,I L2,I S2,b]] m=some (B (decide (l.length<=200)&&decide (r.length<=200)),m):=by
 have s1:=λm=>xju d L S ha m
 have s2:=λm=>xju d L2 S2 hb m
 refine x99 (by simp[ha.still1,hb.still1]) ?_ m
 rw[x6e]
 unfold x49 x2o
 by_cases c:l.length<=200
 .simp[mem0,ha.one,hb.one,s1,s2,c]
  exact RetF.st rfl rfl
 .simp[mem0,ha.one,hb.one,s1,s2,c]
  exact RetF.st rfl rfl
theorem low_self{n:Int}(h:0<n):lowN n n=(1,1):=by
 unfold lowN
 rw[Int.gcd_self,Int.natAbs_of_nonneg (by omega),Int.tdiv_self (by omega)]
theorem fit_of{x y:Int}{z w:Nat}(h:winE L S x y z w=0):fitB L S x y z w=true:=by
 unfold winE at h
 cases c1:wi (z:Int) 1 8
 .simp[c1]at h
 cases c2:wi (w:Int) 1 8
 .simp[c1,c2]at h
 cases c3:fitB L S x y z w
 .simp[c1,c2,c3]at h
 .rfl
theorem sc_self{x y z w:Int}(h:seE L S D L2 S2 D2 x y z w=0):(scP L S D L S D x y z w 0 0).2=11\/(scP L S D L S D x y z w 0 0).2=0/\(scP L S D L S D x y z w 0 0).1=(1,1):=by
 obtain⟨hp,hR,hR2,hw,hx,hy,zn,wn,rfl,rfl,hz,hwn⟩:=seE_0 h
 have c1:=(prE_0 hp).1
 have hs:seE L S D L S D x y zn wn=0:=by
  unfold seE prE
  rw[xmy c1,xmy c1]
  exact hw
 unfold scP
 rw[xmy hs,xoi,xoi]
 have ho:xbd L S x y zn wn 0 0=true:=by
  unfold xbd
  rw[xpc,xpc,fit_of hw]
  rfl
 unfold scM
 rw[xmy ho,xpc,xpc]
 by_cases k:scE (wA L S D x y) wn (zn*wn)=0\/scE (wA L S D x y) wn (zn*wn)=0
 .rw[xmy k];exact Or.inl rfl
 .rw[xmz k]
  refine Or.inr ⟨rfl,?_⟩
  obtain⟨r1,r2⟩:=self_R (wA L S D x y) wn (zn*wn)
  have hn:scN (wA L S D x y) (wA L S D x y) wn (zn*wn)=scE (wA L S D x y) wn (zn*wn)*scE (wA L S D x y) wn (zn*wn):=by
   unfold scN scE
   rw[r1,r2,Int.mul_zero,xpc]
  have hnn:=xdb (w:=wn) (xcn (wA L S D x y)) (zn*wn)
  have hne:scE (wA L S D x y) wn (zn*wn)≠0:=λh=>k (Or.inl h)
  have hpos:0<scE (wA L S D x y) wn (zn*wn):=by unfold scE at *;omega
  rw[hn]
  exact low_self (xpu hpos hpos)
theorem sc_in{x y:Int}{z w:Nat}{p q:Int}(hR:RtI L S D)(hR2:RtI L2 S2 D2)(hz:z<=8)(hw:w<=8)(h:(scM L S D L2 S2 D2 x y z w p q).2=0):0<=(scM L S D L2 S2 D2 x y z w p q).1.1/\(scM L S D L2 S2 D2 x y z w p q).1.1<=(scM L S D L2 S2 D2 x y z w p q).1.2/\1<=(scM L S D L2 S2 D2 x y z w p q).1.2:=by
 unfold scM at h ⊢
 by_cases c:xbd L2 S2 x y z w p q=true
 rotate_left
 .rw[xmz c]at h;exact absurd h (by decide)
 rw[xmy c]at h ⊢
 by_cases k:scE (wA L S D x y) w (z*w)=0\/scE (wA L2 S2 D2 (x+p) (y+q)) w (z*w)=0
 .rw[xmy k]at h;exact absurd h (by decide)
 rw[xmz k]
 have hnn:z*w<=64:=xnl (xox hz hw) (by omega)
 obtain⟨q1,q2,q3,q4,q5,q6,q7⟩:=xbe (w:=w) (xas hR x y) (xas hR2 (x+p) (y+q)) hnn
 obtain⟨-,-,r3,r4,-⟩:=xbe (w:=w) (xas hR2 (x+p) (y+q)) (xas hR2 (x+p) (y+q)) hnn
 have hpos:0<scE (wA L S D x y) w (z*w)*scE (wA L2 S2 D2 (x+p) (y+q)) w (z*w):=by
  have k1:scE (wA L S D x y) w (z*w)≠0:=λh=>k (Or.inl h)
  have k2:scE (wA L2 S2 D2 (x+p) (y+q)) w (z*w)≠0:=λh=>k (Or.inr h)
  exact xpu (by omega) (by omega)
 obtain⟨-,-,-,l4,l5,l6⟩:=low_ok q5 hpos (by omega) (by omega)
 exact⟨l4,l6 q6,l5⟩
theorem law_MatchScores(L S:Int){l r:List Nat}(ha:Sl f32E a l)(L2 S2:Int)(hb:Sl f32E b r)(x y z w:Int){p q:Int}(hp:inW p)(hq:inW q):∃m',x8w 31 [] x23 [.agg [I L,I S,a,I L2,I S2,b],.agg [I x,I y,I z,I w],.agg [I p,I q]] mem0=some (B true,m'):=by
 rw[x6d]
 unfold x48 x2m
 have bo:=λm=>w_both 28 L S L2 S2 ha hb m
 by_cases cl:l.length<=200
 rotate_left
 .simp[mem0,ha.one,hb.one,xcl,bo,cl]
 by_cases cr:r.length<=200
 rotate_left
 .simp[mem0,ha.one,hb.one,xcl,bo,cl,cr]
 obtain⟨u,v,hu,hv,ep⟩:=w_LPair 27 L S L2 S2 ha hb (by omega) (by omega)
 obtain⟨u2,v2,hu2,hv2,ep2⟩:=w_LPair 27 L S L S ha ha (by omega) (by omega)
 have hD:=xh1 l
 have hD2:=xh1 r
 have es:=λm=>w_Score (L:=L) (S:=S) (L2:=L2) (S2:=S2) 21 hu (by omega) hv (by omega) x y z w hp hq m
 have ee:=λm=>xlo (L:=L) (S:=S) (L2:=L2) (S2:=S2) 23 hu (by omega) hv (by omega) x y z w m
 have es2:=λm=>w_Score (L:=L) (S:=S) (L2:=L) (S2:=S) 21 hu2 (by omega) hv2 (by omega) x y z w (p:=0) (q:=0) (by unfold inW;omega) (by unfold inW;omega) m
 by_cases c:seE L S (prsM l) L2 S2 (prsM r) x y z w=0
 rotate_left
 .have e1:scP L S (prsM l) L2 S2 (prsM r) x y z w p q=((0,0),seE L S (prsM l) L2 S2 (prsM r) x y z w):=by unfold scP;rw[xmz c]
  rw[e1]at es
  simp[mem0,ha.one,hb.one,hu.one,hv.one,xcl,bo,cl,cr,ep,es,ee,c,xa0,xdc,x93,x9v,xe2,cAp,tR,mkM,clean,ha.clean1,hb.clean1,hu.clean1,hv.clean1,x9u,disj,show Nat.blt 0 1=true from rfl]
 have hself:=sc_self c
 obtain⟨-,hR,hR2,-,hx,hy,zn,wn,rfl,rfl,hz,hw⟩:=seE_0 c
 have rs:=λm=>w_rScore (p:=p) (q:=q) 26 hu hR hv hR2 hz hw hx hy m
 have e1:scP L S (prsM l) L2 S2 (prsM r) x y zn wn p q=scM L S (prsM l) L2 S2 (prsM r) x y zn wn p q:=by
  unfold scP;rw[xmy c,xoi,xoi]
 rw[e1]at es
 have hin:=sc_in (p:=p) (q:=q) (x:=x) (y:=y) hR hR2 hz.2 hw.2
 generalize scM L S (prsM l) L2 S2 (prsM r) x y zn wn p q=X at *
 generalize scP L S (prsM l) L S (prsM l) x y zn wn 0 0=Y at *
 obtain⟨⟨x1,x2⟩,x3⟩:=X
 obtain⟨⟨y1,y2⟩,y3⟩:=Y
 simp only at es rs es2 hin hself
 by_cases hx3:x3=0
 .subst hx3
  obtain⟨i1,i2,i3⟩:=hin rfl
  have hw1:wi x1 0 x2=true:=by unfold wi;simp;omega
  have hw2:¬x2<1:=by omega
  rcases hself with rfl|⟨rfl,h⟩
  .simp[mem0,ha.one,hb.one,hu.one,hv.one,xcl,bo,cl,cr,ep,ep2,es,es2,ee,c,rs,xa0,xdc,xfd,xcq,x93,x9v,xcp,xe2,xfe,cAp,tR,mkM,clean,ha.clean1,hb.clean1,hu.clean1,hv.clean1,hu2.clean1,hv2.clean1,x9u,disj,show Nat.blt 0 1=true from rfl,sIxA,asI,x9z,hw1,hw2]
  .simp only[xn0]at h
   obtain⟨rfl,rfl⟩:=h
   simp[mem0,ha.one,hb.one,hu.one,hv.one,xcl,bo,cl,cr,ep,ep2,es,es2,ee,c,rs,xa0,xdc,xfd,xcq,x93,x9v,xcp,xe2,xfe,cAp,tR,mkM,clean,ha.clean1,hb.clean1,hu.clean1,hv.clean1,hu2.clean1,hv2.clean1,x9u,disj,show Nat.blt 0 1=true from rfl,sIxA,asI,x9z,hw1,hw2]
 .rcases hself with rfl|⟨rfl,h⟩
  .simp[mem0,ha.one,hb.one,hu.one,hv.one,xcl,bo,cl,cr,ep,ep2,es,es2,ee,c,rs,xa0,xdc,xfd,xcq,x93,x9v,xcp,xe2,xfe,cAp,tR,mkM,clean,ha.clean1,hb.clean1,hu.clean1,hv.clean1,hu2.clean1,hv2.clean1,x9u,disj,show Nat.blt 0 1=true from rfl,sIxA,asI,x9z,hx3]
  .simp only[xn0]at h
   obtain⟨rfl,rfl⟩:=h
   simp[mem0,ha.one,hb.one,hu.one,hv.one,xcl,bo,cl,cr,ep,ep2,es,es2,ee,c,rs,xa0,xdc,xfd,xcq,x93,x9v,xcp,xe2,xfe,cAp,tR,mkM,clean,ha.clean1,hb.clean1,hu.clean1,hv.clean1,hu2.clean1,hv2.clean1,x9u,disj,show Nat.blt 0 1=true from rfl,sIxA,asI,x9z,hx3]
end Go.Ix
