import Derived.Test.YtjdlceelbnaneaaWg10
import Derived.Test.YtjdlceelbnaneaaWg4
import Derived.Test.YtjdlceelbnaneaaWg15
import Derived.Test.YtjdlceelbnaneaaWg16
set_option linter.unusedSimpArgs false
set_option linter.unusedVariables false
namespace Go.Ix
open Go.Proofs
attribute [local simp high] rd_5
variable{a:AV}{l:List Mp}
end Go.Ix
set_option exponentiation.threshold 3000
namespace Go.Ix
open Go.Proofs Ieee
variable{a b:AV}{D D2:List Px}{L S L2 S2:Int}
theorem w_LPair(d:Nat)(L S L2 S2:Int){l r:List Nat}(ha:Sl f32E a l)(hb:Sl f32E b r)(hl:l.length<=1048576)(hl2:r.length<=1048576):∃p q,Sl pxE p (prsM l)/\Sl pxE q (prsM r)/\∀m,x99 (x98 (d+3)) xo [.agg [I L,I S,a,I L2,I S2,b]] m=some (.agg [I L,I S,p,I L2,I S2,q],m):=by
 obtain⟨p,hp,ep⟩:=xjw d L S ha hl
 obtain⟨q,hq,eq⟩:=xjw d L2 S2 hb hl2
 refine⟨p,q,hp,hq,λm=>x9k (by simp[ha.still1,hb.still1]) ?_ m⟩
 rw[x6s]
 unfold x4h x2y
 simp[mem0,ha.one,hb.one,z_mpair,x9e,ep,eq,xhb,hp.one,hq.one,cAp,tR,mkM,clean,ha.clean1,hb.clean1,sLdP,show Nat.blt 0 1=true from rfl]
 exact RetF.st (by simp[hp.still1,hq.still1]) rfl
theorem w_both(d:Nat)(L S L2 S2:Int){l r:List Nat}(ha:Sl f32E a l)(hb:Sl f32E b r)(m:Mem):x99 (x98 (d+2)) x1m [.agg [I L,I S,a,I L2,I S2,b]] m=some (B (decide (l.length<=200)&&decide (r.length<=200)),m):=by
 have s1:=λm=>xjx d L S ha m
 have s2:=λm=>xjx d L2 S2 hb m
 refine x9k (by simp[ha.still1,hb.still1]) ?_ m
 rw[x6q]
 unfold x4f x2w
 by_cases c:l.length<=200
 .simp[mem0,ha.one,hb.one,s1,s2,c]
  exact RetF.st rfl rfl
 .simp[mem0,ha.one,hb.one,s1,s2,c]
  exact RetF.st rfl rfl
end Go.Ix
namespace Go.Ix
open Go.Proofs
variable{a b:AV}{D D2:List Px}{L S L2 S2:Int}
def boE(L S:Int)(D:List Px)(L2 S2:Int)(D2:List Px)(x y z w R:Int):Int:=if seE L S D L2 S2 D2 x y z w=0 then(bif wi R 0 4 then 0 else 2)else seE L S D L2 S2 D2 x y z w
theorem boE_0{x y z w R:Int}(h:boE L S D L2 S2 D2 x y z w R=0):seE L S D L2 S2 D2 x y z w=0/\(0<=R/\R<=4)/\wi R 0 4=true:=by
 unfold boE at h
 by_cases c:seE L S D L2 S2 D2 x y z w=0
 .rw[xn5 c]at h
  cases c2:wi R 0 4
  .rw[c2]at h;exact absurd h (by decide)
  .exact⟨c,wi_t c2,rfl⟩
 .rw[xn6 c]at h;exact absurd h c
theorem w_BestO(d:Nat)(ha:Sl pxE a D)(hl:D.length<=5000)(hb:Sl pxE b D2)(hl2:D2.length<=5000){x y:Int}{z w:Nat}{R:Int}(he:boE L S D L2 S2 D2 x y z w R=0):∃o,BestO (scO L S D L2 S2 D2 x y z w) (grid R) o/\∀m,x99 (x98 (d+9)) x10 [.agg [I L,I S,a,I L2,I S2,b],.agg [I x,I y,I z,I w],I R] m
 = some (.tup [.agg (byO o),.agg (loO o),I (if o.isSome=true then 0 else 12)],m):=by
 obtain⟨h1,h2,h3⟩:=boE_0 he
 obtain⟨c,hR,hR2,c2,hx,hy,zn,wn,e1,e2,hz,hw⟩:=seE_0 h1
 have e1:z=zn:=by omega
 have e2:w=wn:=by omega
 subst e1 e2
 obtain⟨o,ho,eo⟩:=w_best (d+2) ha hR hb hR2 hz hw hx hy h2
 refine⟨o,ho,λm=>?_⟩
 have po:=λm=>xk7 (L:=L) (S:=S) (L2:=L2) (S2:=S2) d ha hl hb hl2 m
 have we:=λm=>xk1 (d+5) ha hR x y z w m
 refine x9k (by simp[ha.still1,hb.still1]) ?_ m
 rw[x6u]
 unfold x4j x30
 cases o with
 |none=>
  have eo':∀m,x99 (x98 (d+8)) xp [.agg [I L,I S,a,I L2,I S2,b],.agg [I x,I y,I z,I w],I R] m=some (.tup [.agg [I 0,I 0,I 0,I 0],B false],m):=eo
  simp[mem0,ha.one,hb.one,xai,xba,xcw,x9e,po,c,we,c2,xb8,h3,eo',sLdP,tR,tS,x9t,disj]
  exact RetF.tup rfl rfl
 |some f=>
  have eo':∀m,x99 (x98 (d+8)) xp [.agg [I L,I S,a,I L2,I S2,b],.agg [I x,I y,I z,I w],I R] m=some (.tup [.agg [I f.p,I f.q,I f.n,I f.e],B true],m):=eo
  have hbf:=xdg hR hR2 hz.2 hw.2 (Best.hs ho)
  have lo:=λm=>xk8 (d+5) (n:=f.n) (e:=f.e) hbf.1 hbf.2.1 (by omega) (by omega) m
  simp[mem0,ha.one,hb.one,xai,xba,xcw,x9e,po,c,we,c2,xb8,h3,eo',lo,sLdP,tR,tS,x9t,disj,cAp,mkM,clean]
  exact RetF.tup rfl rfl
theorem low_le{f g:Fo}(hf:0<=f.n/\0<f.e)(hg:0<=g.n/\0<g.e)(h:¬befF f g):¬cmpI ((lowN f.n f.e).1*(lowN g.n g.e).2) ((lowN g.n g.e).1*(lowN f.n f.e).2) > 0:=by
 have h1:¬g.n*f.e<f.n*g.e:=λh2=>h (Or.inl h2)
 have h2:=low_cross hf.1 hf.2 hg.1 hg.2
 have h3:¬(lowN g.n g.e).1*(lowN f.n f.e).2<(lowN f.n f.e).1*(lowN g.n g.e).2:=λh=>h1 (h2.mp h)
 unfold cmpI
 split<;>omega
theorem law_MatchReaches(L S:Int){l r:List Nat}(ha:Sl f32E a l)(L2 S2:Int)(hb:Sl f32E b r)(x y z w:Int)(p q:Int):∃m',x98 31 [] x2b [.agg [I L,I S,a,I L2,I S2,b],.agg [I x,I y,I z,I w],.agg [I p,I q]] mem0=some (B true,m'):=by
 rw[x6p]
 unfold x4e x2v
 have bo:=λm=>w_both 28 L S L2 S2 ha hb m
 by_cases cl:l.length<=200
 rotate_left
 .simp[mem0,ha.one,hb.one,xdb,bo,cl]
 by_cases cr:r.length<=200
 rotate_left
 .simp[mem0,ha.one,hb.one,xdb,bo,cl,cr]
 cases cp:wi p (-4) 4
 .simp[mem0,ha.one,hb.one,xdb,bo,cl,cr,sIxA,asI,xf6,cp]
 cases cq:wi q (-4) 4
 .simp[mem0,ha.one,hb.one,xdb,bo,cl,cr,sIxA,asI,xf6,cp,cq]
 have hp:=wi_t cp
 have hq:=wi_t cq
 obtain⟨u,v,hu,hv,ep⟩:=w_LPair 27 L S L2 S2 ha hb (by omega) (by omega)
 have hD:=xh8 l
 have hD2:=xh8 r
 have es:=λm=>w_Score (L:=L) (S:=S) (L2:=L2) (S2:=S2) (p:=p) (q:=q) 21 hu (by omega) hv (by omega) x y z w (by unfold inW;omega) (by unfold inW;omega) m
 by_cases c0:(scP L S (prsM l) L2 S2 (prsM r) x y z w p q).2=0
 rotate_left
 .simp[mem0,ha.one,hb.one,hu.one,hv.one,xdb,bo,cl,cr,sIxA,asI,xf6,cp,cq,ep,es,c0,xai,x9e,cAp,tR,mkM,clean,ha.clean1,hb.clean1,hu.clean1,hv.clean1,x9t,disj,show Nat.blt 0 1=true from rfl]
 have c1:seE L S (prsM l) L2 S2 (prsM r) x y z w=0:=by
  unfold scP at c0
  by_cases c:seE L S (prsM l) L2 S2 (prsM r) x y z w=0
  .exact c
  .rw[xn6 c]at c0;exact absurd c0 c
 obtain⟨-,hR,hR2,-,hx,hy,zn,wn,rfl,rfl,hz,hw⟩:=seE_0 c1
 have e1:scP L S (prsM l) L2 S2 (prsM r) x y zn wn p q=scM L S (prsM l) L2 S2 (prsM r) x y zn wn p q:=by
  unfold scP;rw[xn5 c1,xp9,xp9]
 rw[e1]at es c0
 obtain⟨k1,k2⟩:=scM_U (L:=L) (S:=S) (D:=prsM l) (L2:=L2) (S2:=S2) (D2:=prsM r) x y zn wn p q
 rw[c0]at k1
 have k2:=k2 k1.symm
 have hsc:scO L S (prsM l) L2 S2 (prsM r) x y zn wn p q=some ((scU L S (prsM l) L2 S2 (prsM r) x y zn wn p q).1.1,(scU L S (prsM l) L2 S2 (prsM r) x y zn wn p q).1.2):=by
  unfold scO;rw[xn5 k1.symm]
 have hs:=xdg hR hR2 hz.2 hw.2 hsc
 obtain⟨R1,hR1⟩:∃R1:Int,(if(q.natAbs:Int) > p.natAbs then(q.natAbs:Int)else p.natAbs)=R1:=⟨_,rfl⟩
 obtain⟨R2,hR2'⟩:∃R2:Int,(if 4<R1+1 then 4 else R1+1)=R2:=⟨_,rfl⟩
 have hr1:0<=R1/\R1<=4:=by rw[<-hR1];split<;>omega
 have hr2:0<=R2/\R2<=4/\R1<=R2:=by rw[<-hR2'];split<;>omega
 have hpq:(-R1<=p/\p<=R1)/\(-R1<=q/\q<=R1):=by rw[<-hR1];split<;>omega
 have b1:boE L S (prsM l) L2 S2 (prsM r) x y zn wn R1=0:=by
  unfold boE
  rw[xn5 c1,show wi R1 0 4=true by unfold wi;simp;omega];rfl
 have b2:boE L S (prsM l) L2 S2 (prsM r) x y zn wn R2=0:=by
  unfold boE
  rw[xn5 c1,show wi R2 0 4=true by unfold wi;simp;omega];rfl
 obtain⟨o1,ho1,be1⟩:=w_BestO (L:=L) (S:=S) (L2:=L2) (S2:=S2) 21 hu (by omega) hv (by omega) (x:=x) (y:=y) (z:=zn) (w:=wn) (R:=R1) b1
 obtain⟨o2,ho2,be2⟩:=w_BestO (L:=L) (S:=S) (L2:=L2) (S2:=S2) 21 hu (by omega) hv (by omega) (x:=x) (y:=y) (z:=zn) (w:=wn) (R:=R2) b2
 cases o1 with
 |none=>have:=ho1 p q hpq;rw[hsc]at this;cases this
 |some f1=>
 have g1:=Best.own ho1
 cases o2 with
 |none=>
  have:=ho2 f1.p f1.q (by unfold grid at g1 ⊢;omega)
  rw[Best.hs ho1]at this;cases this
 |some f2=>
 have n1:=Best.all ho1 ⟨p,q,(scU L S (prsM l) L2 S2 (prsM r) x y zn wn p q).1.1,(scU L S (prsM l) L2 S2 (prsM r) x y zn wn p q).1.2⟩ hpq hsc
 have n2:=Best.all ho2 f1 (by unfold grid at g1 ⊢;omega) (Best.hs ho1)
 have q1:=xdg hR hR2 hz.2 hw.2 (Best.hs ho1)
 have q2:=xdg hR hR2 hz.2 hw.2 (Best.hs ho2)
 have le1:=low_le ⟨hs.1,hs.2.1⟩ ⟨q1.1,q1.2.1⟩ n1
 have le2:=low_le ⟨q1.1,q1.2.1⟩ ⟨q2.1,q2.2.1⟩ n2
 simp only at le1
 generalize scU L S (prsM l) L2 S2 (prsM r) x y zn wn p q=X at *
 obtain⟨⟨xn,xe⟩,xr⟩:=X
 simp only at *
 rw[k2,c0]at es
 obtain⟨-,-,-,-,a1,a2,a3,a4⟩:=xec hs.1 hs.2.1
 obtain⟨-,-,-,-,a5,a6,a7,a8⟩:=xec q1.1 q1.2.1
 obtain⟨-,-,-,-,a9,a10,a11,a12⟩:=xec q2.1 q2.2.1
 have cm1:=λmm=>xkd 28 (n:=(lowN xn xe).1) (e:=(lowN xn xe).2) (m:=(lowN f1.n f1.e).1) (k:=(lowN f1.n f1.e).2) (by omega) (by omega) (by omega) (by omega) mm
 have cm2:=λmm=>xkd 28 (n:=(lowN f1.n f1.e).1) (e:=(lowN f1.n f1.e).2) (m:=(lowN f2.n f2.e).1) (k:=(lowN f2.n f2.e).2) (by omega) (by omega) (by omega) (by omega) mm
 have sp:=λm=>w_Size 29 p m (by omega) (by omega)
 have sq:=λm=>w_Size 29 q m (by omega) (by omega)
 have w1:¬(lowN xn xe).2<1:=by omega
 have w2:¬(lowN f1.n f1.e).2<1:=by omega
 have w3:¬(lowN f2.n f2.e).2<1:=by omega
 simp only[byO,loO,Option.isSome,xnp]at be1 be2
 have hw64:w64 (R1+1)=R1+1:=x9j (by omega) (by omega)
 have le1':cmpI ((lowN xn xe).1*(lowN f1.n f1.e).2) ((lowN f1.n f1.e).1*(lowN xn xe).2)<=0:=by omega
 have le2':cmpI ((lowN f1.n f1.e).1*(lowN f2.n f2.e).2) ((lowN f2.n f2.e).1*(lowN f1.n f1.e).2)<=0:=by omega
 have mx:sMax (I (p.natAbs:Int)) (I (q.natAbs:Int))=some (I R1):=by rw[sMax_I,hR1]
 have mn:sMin (I (R1+1)) (I 4)=some (I R2):=by rw[sMin_I,hR2']
 simp[mem0,ha.one,hb.one,hu.one,hv.one,xdb,bo,cl,cr,sIxA,asI,xf6,cp,cq,ep,es,xai,x9e,cAp,tR,mkM,clean,ha.clean1,hb.clean1,hu.clean1,hv.clean1,x9t,disj,show Nat.blt 0 1=true from rfl,sp,sq]
 have hR1n:(if p.natAbs<q.natAbs then(q.natAbs:Int)else(p.natAbs:Int))=R1:=by
  rw[<-hR1]
  by_cases c:p.natAbs<q.natAbs
  .rw[xn5 c,xn5 (by omega)]
  .rw[xn6 c,xn6 (by omega)]
 rw[hR1n,hw64,hR2']
 simp[mem0,be1,be2,ep,xai,w1,w2,w3,cm1,cm2,le1',le2',sIxA,asI,cAp,tR,mkM,clean,ha.clean1,hb.clean1,hu.clean1,hv.clean1,x9t,disj,show Nat.blt 0 1=true from rfl]
end Go.Ix
