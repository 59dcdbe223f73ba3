import Derived.Test.YtifmaegopmkaoaaGreatWg13
import Derived.Test.YtifmaegopmkaoaaGreatWg5
import Derived.Test.YtifmaegopmkaoaaGreatWg12
set_option linter.unusedSimpArgs false
set_option linter.unusedVariables false
set_option exponentiation.threshold 3000
namespace Go.Ix
open Go.Proofs Ieee
theorem xmj(g:Nat->Nat->Int){w l s:Nat}(hs:s<w):sumS g w (l*w+s+1)=sumS g w (l*w+s)+g l s:=by
 show sumS g w (l*w+s)+g ((l*w+s) / w) ((l*w+s) % w)=_
 rw[Nat.mul_comm l w,Nat.mul_add_div (by omega),Nat.mul_add_mod,Nat.div_eq_of_lt hs,Nat.mod_eq_of_lt hs,xxt]
def lowN(n e:Int):Int×Int:=(n.tdiv (Int.gcd n e:Int),e.tdiv (Int.gcd n e:Int))
variable{a b:AV}{D D2:List Px}{L S L2 S2:Int}
section
variable(d:Nat)(hs:FHs)(ha:Sl pxE a D)(hR:RtI L S D)(hb:Sl pxE b D2)(hR2:RtI L2 S2 D2){x y p q:Int}{z w:Nat}(hz:z<=8)(hw:w<=8)(hx:0<=x/\x<=64)(hy:0<=y/\y<=64)(hp:-64<=p/\p<=64)(hq:-64<=q/\q<=64){M:Mem}(g3:M.get (0,0,3)=some (.row [I L,I S,a,I L2,I S2,b] 0 false))(g4:M.get (0,1,4)=some (.row [I x,I y,I z,I w] 0 false))(g5:M.get (0,2,5)=some (.row [I p,I q] 0 false))
include ha hR hb hR2 hw hx hy hp hq g3 g4 g5
theorem l_rsc1(rec0:xfj)(l:Nat)(hl:l<8):∀(n s j fc:Nat),s+n=w->n<j ->
 ∃fc',x3h (xep (d+3)) hs 0 rec0 j (.ptr (0,0,3) 0 0) (.ptr (0,1,4) 0 0) (.ptr (0,2,5) 0 0) (.ptr (0,3,6) 0 0)
  (I (sumS (tR1 (wA L S D x y) (wA L2 S2 D2 (x+p) (y+q))) w (l*w+s))) (I (sumS (tI1 (wA L S D x y) (wA L2 S2 D2 (x+p) (y+q))) w (l*w+s))) (I (scE (wA L S D x y) w (l*w+s))) (I (scE (wA L2 S2 D2 (x+p) (y+q)) w (l*w+s))) (I (x+l)) (I (y+s)) M fc
  = x6i (xep (d+3)) hs 0 rec0 (.ptr (0,0,3) 0 0) (.ptr (0,1,4) 0 0) (.ptr (0,2,5) 0 0) (.ptr (0,3,6) 0 0)
    (I (sumS (tR1 (wA L S D x y) (wA L2 S2 D2 (x+p) (y+q))) w (l*w+w))) (I (sumS (tI1 (wA L S D x y) (wA L2 S2 D2 (x+p) (y+q))) w (l*w+w))) (I (scE (wA L S D x y) w (l*w+w))) (I (scE (wA L2 S2 D2 (x+p) (y+q)) w (l*w+w))) (I (x+l)) M fc':=by
 intro n
 induction n with
 |zero=>
  intro s j fc hn hj
  obtain⟨j,rfl⟩:∃i,j=i+1:=⟨j-1,by omega⟩
  have hk0:¬(y+(s:Int)<y+(w:Int)):=by omega
  have hsw:s=w:=by omega
  refine⟨fc+7,?_⟩
  rw[hsw]at hk0 ⊢
  simp only[x3h]
  conv=>lhs;unfold x6j
  simp(disch:=omega) [g4,xet]
 |succ n ih=>
  intro s j fc hn hj
  obtain⟨j,rfl⟩:∃i,j=i+1:=⟨j-1,by omega⟩
  have hk0:y+(s:Int)<y+(w:Int):=by omega
  have hsw:s<w:=by omega
  obtain⟨fc',e⟩:=ih (s+1) j (fc+76) (by omega) (by omega)
  refine⟨fc',?_⟩
  rw[<-e]
  have hA:=xhq hR x y
  have hB:=xhq hR2 (x+p) (y+q)
  have hls:l*w+s<=64:=by
   have:=xx5 (show l<=7 by omega) hw
   omega
  have bds:=xit (w:=w) hA hB hls
  have bdf:=xit (w:=w) hB hB hls
  have r1:=λm=>w_rAt d ha hR (x+l) (y+s) m
  have r2:=λm=>w_rAt d hb hR2 (x+l+p) (y+s+q) m
  have eB:atM L2 S2 D2 (x+l+p) (y+s+q)=wA L2 S2 D2 (x+p) (y+q) l s:=by
   unfold wA
   rw[show x+l+p=x+p+l by omega,show y+s+q=y+q+s by omega]
  have eA:atM L S D (x+l) (y+s)=wA L S D x y l s:=rfl
  rw[eB]at r2
  rw[eA]at r1
  have a1:=(hA l s).1
  have a2:=(hA l s).2
  have b1:=(hB l s).1
  have b2:=(hB l s).2
  have m1:=a1.mul b1
  have m2:=a2.mul b2
  have m3:=a2.mul b1
  have m4:=a1.mul b2
  have m5:=a1.mul a1
  have m6:=a2.mul a2
  have m7:=b1.mul b1
  have m8:=b2.mul b2
  obtain⟨q1,q2,q3,-⟩:=bds
  obtain⟨-,-,q4,-⟩:=bdf
  have s1:=xmj (tR1 (wA L S D x y) (wA L2 S2 D2 (x+p) (y+q))) (l:=l) hsw
  have s2:=xmj (tI1 (wA L S D x y) (wA L2 S2 D2 (x+p) (y+q))) (l:=l) hsw
  have s3:scE (wA L S D x y) w (l*w+s+1)=scE (wA L S D x y) w (l*w+s)+tE1 (wA L S D x y) l s:=xmj _ (l:=l) hsw
  have s4:scE (wA L2 S2 D2 (x+p) (y+q)) w (l*w+s+1)=scE (wA L2 S2 D2 (x+p) (y+q)) w (l*w+s)+tE1 (wA L2 S2 D2 (x+p) (y+q)) l s:=xmj _ (l:=l) hsw
  rw[show l*w+(s+1)=l*w+s+1 by omega,s1,s2,s3,s4]
  have t1:tR1 (wA L S D x y) (wA L2 S2 D2 (x+p) (y+q)) l s=(wA L S D x y l s).1*(wA L2 S2 D2 (x+p) (y+q) l s).1+(wA L S D x y l s).2*(wA L2 S2 D2 (x+p) (y+q) l s).2:=rfl
  have t2:tI1 (wA L S D x y) (wA L2 S2 D2 (x+p) (y+q)) l s=(wA L S D x y l s).2*(wA L2 S2 D2 (x+p) (y+q) l s).1-(wA L S D x y l s).1*(wA L2 S2 D2 (x+p) (y+q) l s).2:=rfl
  have t3:tE1 (wA L S D x y) l s=(wA L S D x y l s).1*(wA L S D x y l s).1+(wA L S D x y l s).2*(wA L S D x y l s).2:=rfl
  have t4:tE1 (wA L2 S2 D2 (x+p) (y+q)) l s=(wA L2 S2 D2 (x+p) (y+q) l s).1*(wA L2 S2 D2 (x+p) (y+q) l s).1+(wA L2 S2 D2 (x+p) (y+q) l s).2*(wA L2 S2 D2 (x+p) (y+q) l s).2:=rfl
  have k1:∀u v t:Int,u+(v+t)=u+v+t:=λu v t=>by omega
  have k2:∀u v t:Int,u+(v-t)=u+v-t:=λu v t=>by omega
  rw[t1,t2,t3,t4,k1,k2,k1,k1]
  generalize sumS (tR1 (wA L S D x y) (wA L2 S2 D2 (x+p) (y+q))) w (l*w+s)=G1 at *
  generalize sumS (tI1 (wA L S D x y) (wA L2 S2 D2 (x+p) (y+q))) w (l*w+s)=G2 at *
  generalize scE (wA L S D x y) w (l*w+s)=G3 at *
  generalize scE (wA L2 S2 D2 (x+p) (y+q)) w (l*w+s)=G4 at *
  generalize (wA L S D x y l s).1=u1 at *
  generalize (wA L S D x y l s).2=u2 at *
  generalize (wA L2 S2 D2 (x+p) (y+q) l s).1=v1 at *
  generalize (wA L2 S2 D2 (x+p) (y+q) l s).2=v2 at *
  unfold bd at m1 m2 m3 m4 m5 m6 m7 m8 q1 q2 q3 q4
  have e3:y+((s+1:Nat):Int)=y+s+1:=by omega
  rw[e3]
  simp only[x3h]
  conv=>lhs;unfold x6j
  simp(disch:=omega) [g3,g4,g5,hsw,sIxA,asI,xet,r1,r2]
  simp only[xxv,xf2]
  simp(disch:=omega) [xet]
theorem l_rsc0:∀(n l j fc:Nat),l+n=z->n<j->z<=8 ->
 ∃fc',x19 (xep (d+3)) hs 0 j (.ptr (0,0,3) 0 0) (.ptr (0,1,4) 0 0) (.ptr (0,2,5) 0 0) (.ptr (0,3,6) 0 0)
  (I (sumS (tR1 (wA L S D x y) (wA L2 S2 D2 (x+p) (y+q))) w (l*w))) (I (sumS (tI1 (wA L S D x y) (wA L2 S2 D2 (x+p) (y+q))) w (l*w))) (I (scE (wA L S D x y) w (l*w))) (I (scE (wA L2 S2 D2 (x+p) (y+q)) w (l*w))) (I (x+l)) M fc
  = x6h (xep (d+3)) hs 0 (.ptr (0,3,6) 0 0)
    (I (sumS (tR1 (wA L S D x y) (wA L2 S2 D2 (x+p) (y+q))) w (z*w))) (I (sumS (tI1 (wA L S D x y) (wA L2 S2 D2 (x+p) (y+q))) w (z*w))) (I (scE (wA L S D x y) w (z*w))) (I (scE (wA L2 S2 D2 (x+p) (y+q)) w (z*w))) M fc':=by
 intro n
 induction n with
 |zero=>
  intro l j fc hn hj hz
  obtain⟨j,rfl⟩:∃i,j=i+1:=⟨j-1,by omega⟩
  have hlz:l=z:=by omega
  refine⟨fc+7,?_⟩
  rw[hlz]
  simp only[x19]
  conv=>lhs;unfold x6k
  simp(disch:=omega) [g4,xet]
 |succ n ih=>
  intro l j fc hn hj hz
  obtain⟨j,rfl⟩:∃i,j=i+1:=⟨j-1,by omega⟩
  have hlz:l<z:=by omega
  obtain⟨fc1,e1⟩:=l_rsc1 d hs ha hR hb hR2 hw hx hy hp hq g3 g4 g5 (x19 (xep (d+3)) hs 0 j) l (by omega) w 0 NN (fc+7+3) (by omega) (by rw[xfm];omega)
  obtain⟨fc',e⟩:=ih (l+1) j (fc1+3) (by omega) (by omega) hz
  refine⟨fc',?_⟩
  rw[<-e]
  simp only[xxt]at e1
  rw[show y+((0:Nat):Int)=y by omega,show l*w+w=(l+1)*w by rw[xxg]]at e1
  simp only[x19]
  conv=>lhs;unfold x6k xa8
  have e3:x+((l+1:Nat):Int)=x+l+1:=by omega
  rw[e3]
  simp(disch:=omega) [g4,xet,hlz]
  rw[e1]
  unfold x6i
  simp(disch:=omega) [xet]
end
theorem low_ok{n e:Int}(h0:0<=n)(he:0<e)(hb:n<=9000000000000000000)(hb2:e<=9000000000000000000):(0:Int)<(Int.gcd n e:Int)/\w64 (n.tdiv (Int.gcd n e:Int))=(lowN n e).1/\w64 (e.tdiv (Int.gcd n e:Int))=(lowN n e).2/\0<=(lowN n e).1/\1<=(lowN n e).2/\(n<=e->(lowN n e).1<=(lowN n e).2):=by
 have hg:0<Int.gcd n e:=Int.gcd_pos_of_ne_zero_right n (by omega)
 have hg':(0:Int)<(Int.gcd n e:Int):=by omega
 have e1:n.tdiv (Int.gcd n e:Int)=n / (Int.gcd n e:Int):=Int.tdiv_eq_ediv_of_nonneg h0
 have e2:e.tdiv (Int.gcd n e:Int)=e / (Int.gcd n e:Int):=Int.tdiv_eq_ediv_of_nonneg (by omega)
 have d2:(Int.gcd n e:Int) ∣ e:=Int.gcd_dvd_right ..
 have p1:0<=n / (Int.gcd n e:Int):=Int.ediv_nonneg h0 (by omega)
 have p2:1<=e / (Int.gcd n e:Int):=by
  have:=Int.ediv_pos_of_pos_of_dvd he (by omega) d2
  omega
 have u1:n / (Int.gcd n e:Int)<=n:=Int.ediv_le_self _ h0
 have u2:e / (Int.gcd n e:Int)<=e:=Int.ediv_le_self _ (by omega)
 unfold lowN
 simp only
 rw[e1,e2]
 refine⟨hg',xet (by omega) (by omega),xet (by omega) (by omega),p1,p2,λh=>Int.ediv_le_ediv hg' h⟩
noncomputable def scM(L S:Int)(D:List Px)(L2 S2:Int)(D2:List Px)(x y:Int)(z w:Nat)(p q:Int):(Int×Int)×Int:=
 if xhp L2 S2 x y z w p q=true then
  (if scE (wA L S D x y) w (z*w)=0\/scE (wA L2 S2 D2 (x+p) (y+q)) w (z*w)=0 then((0,0),11)
   else(lowN (scN (wA L S D x y) (wA L2 S2 D2 (x+p) (y+q)) w (z*w)) (scE (wA L S D x y) w (z*w)*scE (wA L2 S2 D2 (x+p) (y+q)) w (z*w)),0))
 else((0,0),26)
theorem w_rScore(d:Nat)(ha:Sl pxE a D)(hR:RtI L S D)(hb:Sl pxE b D2)(hR2:RtI L2 S2 D2){x y p q:Int}{z w:Nat}(hz:1<=z/\z<=8)(hw:1<=w/\w<=8)(hx:0<=x/\x<=64)(hy:0<=y/\y<=64)(m:Mem) :
 xeq (xep (d+4)) x2k [.agg [I L,I S,a,I L2,I S2,b],.agg [I x,I y,I z,I w],.agg [I p,I q]] m=some (.tup [.agg [I (scM L S D L2 S2 D2 x y z w p q).1.1,I (scM L S D L2 S2 D2 x y z w p q).1.2],I (scM L S D L2 S2 D2 x y z w p q).2],m):=by
 have hl2:=wi_t hR2.l
 have hs2:=wi_t hR2.s
 have li:=λX Y m=>w_lies (d+1) hb.still1 hb.one L2 S2 X Y z w (xet (by omega) (by omega)) (xet (by omega) (by omega)) m
 refine xez (by simp[ha.still1,hb.still1]) ?_ m
 rw[xbr]
 unfold x8e x6l scM xhp
 cases c1:wi p (-64) 64
 .simp[mem0,ha.one,hb.one,xg0,xew,sIxA,asI,xg5,c1,xh8,sLdP]
  exact RetF.tup rfl rfl
 cases c2:wi q (-64) 64
 .simp[mem0,ha.one,hb.one,xg0,xew,sIxA,asI,xg5,c1,c2,xh8,sLdP]
  exact RetF.tup rfl rfl
 have hp:=wi_t c1
 have hq:=wi_t c2
 unfold fitB
 cases c3:(wi (x+p) 0 (L2-z)&&wi (y+q) 0 (S2-w))
 .simp(disch:=omega) [mem0,ha.one,hb.one,xg0,xew,sIxA,asI,xg5,c1,c2,xh8,sLdP,xet,li,c3]
  exact RetF.tup rfl rfl
 simp(disch:=omega) [mem0,ha.one,hb.one,xg0,xew,sIxA,asI,xg5,c1,c2,xh8,sLdP,xet,li,c3]
 generalize hM:Mem.new _ _ _=M
 have g3:M.get (0,0,3)=some (.row [I L,I S,a,I L2,I S2,b] 0 false):=by rw[<-hM];simp
 have g4:M.get (0,1,4)=some (.row [I x,I y,I z,I w] 0 false):=by rw[<-hM];simp
 have g5:M.get (0,2,5)=some (.row [I p,I q] 0 false):=by rw[<-hM];simp
 have g6:M.get (0,3,6)=some (.row [I 0,I 0] 0 false):=by rw[<-hM];simp
 obtain⟨fc',e⟩:=l_rsc0 d [] ha hR hb hR2 hw.2 hx hy hp hq g3 g4 g5 (z:=z) z 0 NN 42 (by omega) (by rw[xfm];omega) hz.2
 rw[xwu,show x+((0:Nat):Int)=x by omega]at e
 have hA:=xhq hR x y
 have hB:=xhq hR2 (x+p) (y+q)
 have hnn:z*w<=64:=xx1 (xx5 hz.2 hw.2) (by omega)
 obtain⟨q1,q2,q3,q4,q5,q6,q7⟩:=xit (w:=w) hA hB hnn
 obtain⟨-,-,r3,r4,-⟩:=xit (w:=w) hB hB hnn
 unfold xa9
 simp[g4]
 have e':x19 (xep (d+3)) [] 0 NN (.ptr (0,0,3) 0 0) (.ptr (0,1,4) 0 0) (.ptr (0,2,5) 0 0) (.ptr (0,3,6) 0 0) (I 0) (I 0) (I 0) (I 0) (I x) M 42=_:=e
 rw[e']
 unfold x6h
 by_cases k1:scE (wA L S D x y) w (z*w)=0
 .simp[k1,g6,xg0,xh8,sLdP]
  exact RetF.tup rfl rfl
 by_cases k2:scE (wA L2 S2 D2 (x+p) (y+q)) w (z*w)=0
 .simp[k1,k2,g6,xg0,xh8,sLdP]
  exact RetF.tup rfl rfl
 have hpos:0<scE (wA L S D x y) w (z*w)*scE (wA L2 S2 D2 (x+p) (y+q)) w (z*w):=xxx (by omega) (by omega)
 have b1:=q1.mul q1
 have b2:=q2.mul q2
 have q8:scN (wA L S D x y) (wA L2 S2 D2 (x+p) (y+q)) w (z*w)=sumS (tR1 (wA L S D x y) (wA L2 S2 D2 (x+p) (y+q))) w (z*w)*sumS (tR1 (wA L S D x y) (wA L2 S2 D2 (x+p) (y+q))) w (z*w)+sumS (tI1 (wA L S D x y) (wA L2 S2 D2 (x+p) (y+q))) w (z*w)*sumS (tI1 (wA L S D x y) (wA L2 S2 D2 (x+p) (y+q))) w (z*w):=(id rfl)
 obtain⟨l1,l2,l3,l4,l5,l6⟩:=low_ok q5 hpos (by omega) (by omega)
 have gc:=λm=>w_Gcd3 (d+1) (a:=scN (wA L S D x y) (wA L2 S2 D2 (x+p) (y+q)) w (z*w)) (b:=scE (wA L S D x y) w (z*w)*scE (wA L2 S2 D2 (x+p) (y+q)) w (z*w)) (by unfold bd;omega) (by unfold bd;omega) m
 rw[if_neg (by rintro(h|h)<;>contradiction)]
 rw[q8]at gc l1 l2 l3 l4 l5 q5 q6 ⊢
 clear q8 l6
 generalize sumS (tR1 (wA L S D x y) (wA L2 S2 D2 (x+p) (y+q))) w (z*w)=R at *
 generalize sumS (tI1 (wA L S D x y) (wA L2 S2 D2 (x+p) (y+q))) w (z*w)=J at *
 generalize scE (wA L S D x y) w (z*w)=E at *
 generalize scE (wA L2 S2 D2 (x+p) (y+q)) w (z*w)=F at *
 unfold bd at b1 b2
 simp(disch:=omega) [k1,k2,xet,gc]
 rw[xio (by omega),xio (by omega),l2,l3]
 simp[xs6,g6,sLdP,xg0]
 exact RetF.tup rfl rfl
open Ieee
end Go.Ix
namespace Go.Ix
open Go.Proofs Ieee
variable{a:AV}{D:List Px}{L S:Int}
end Go.Ix
namespace Go.Ix
open Go.Proofs Ieee
variable{a:AV}{D:List Px}{L S:Int}
def okR(t:Nat):Id->Prop:=λid=>id.1=0/\id.2.2=t
section
variable(d:Nat)(hs:FHs)(ha:Sl pxE a D)(hR:RtI L S D){k:Int}(hk:wi k 0 2=true){f:Aff}(hf:AffIn f)
include ha hR hk hf
end
end Go.Ix
namespace Go.Ix
open Go.Proofs Ieee
variable{a:AV}{D:List Px}{L S:Int}
end Go.Ix
