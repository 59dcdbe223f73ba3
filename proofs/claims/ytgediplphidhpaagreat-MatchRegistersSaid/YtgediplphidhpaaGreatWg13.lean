import Derived.Test.YtgediplphidhpaaGreatWg12
import Derived.Test.YtgediplphidhpaaGreatWg5
set_option linter.unusedSimpArgs false
set_option linter.unusedVariables false
set_option exponentiation.threshold 3000
namespace Go.Ix
open Go.Proofs Ieee
theorem xxp(g:Nat->Nat->Int){w l s:Nat}(hs:s<w):sumS g w (l*w+s+1)=sumS g w (l*w+s)+g l s:=by
 show sumS g w (l*w+s)+g ((l*w+s) / w) ((l*w+s) % w)=_
 rw[Nat.mul_comm l w,Nat.mul_add_div (by omega),Nat.mul_add_mod,Nat.div_eq_of_lt hs,Nat.mod_eq_of_lt hs,x1ay]
def lowN(n e:Int):Int×Int:=(n.tdiv (Int.gcd n e:Int),e.tdiv (Int.gcd n e:Int))
variable{a b:AV}{D D2:List Px}{L S L2 S2:Int}
section
variable(d:Nat)(hs:FHs)(ha:Sl pxE a D)(hR:RtI L S D)(hb:Sl pxE b D2)(hR2:RtI L2 S2 D2){x y p q:Int}{z w:Nat}(hz:z<=8)(hw:w<=8)(hx:0<=x/\x<=64)(hy:0<=y/\y<=64)(hp:-64<=p/\p<=64)(hq:-64<=q/\q<=64){M:Mem}(g3:M.get (0,0,3)=some (.row [I L,I S,a,I L2,I S2,b] 0 false))(g4:M.get (0,1,4)=some (.row [I x,I y,I z,I w] 0 false))(g5:M.get (0,2,5)=some (.row [I p,I q] 0 false))
include ha hR hb hR2 hw hx hy hp hq g3 g4 g5
theorem l_rsc1(rec0:xob)(l:Nat)(hl:l<8):∀(n s j fc:Nat),s+n=w->n<j ->
 ∃fc',x5o (xnt (d+3)) hs 0 rec0 j (.ptr (0,0,3) 0 0) (.ptr (0,1,4) 0 0) (.ptr (0,2,5) 0 0) (.ptr (0,3,6) 0 0)
  (I (sumS (tR1 (wA L S D x y) (wA L2 S2 D2 (x+p) (y+q))) w (l*w+s))) (I (sumS (tI1 (wA L S D x y) (wA L2 S2 D2 (x+p) (y+q))) w (l*w+s))) (I (scE (wA L S D x y) w (l*w+s))) (I (scE (wA L2 S2 D2 (x+p) (y+q)) w (l*w+s))) (I (x+l)) (I (y+s)) M fc
  = xbq (xnt (d+3)) hs 0 rec0 (.ptr (0,0,3) 0 0) (.ptr (0,1,4) 0 0) (.ptr (0,2,5) 0 0) (.ptr (0,3,6) 0 0)
    (I (sumS (tR1 (wA L S D x y) (wA L2 S2 D2 (x+p) (y+q))) w (l*w+w))) (I (sumS (tI1 (wA L S D x y) (wA L2 S2 D2 (x+p) (y+q))) w (l*w+w))) (I (scE (wA L S D x y) w (l*w+w))) (I (scE (wA L2 S2 D2 (x+p) (y+q)) w (l*w+w))) (I (x+l)) M fc':=by
 intro n
 induction n with
 |zero=>
  intro s j fc hn hj
  obtain⟨j,rfl⟩:∃i,j=i+1:=⟨j-1,by omega⟩
  have hk0:¬(y+(s:Int)<y+(w:Int)):=by omega
  have hsw:s=w:=by omega
  refine⟨fc+7,?_⟩
  rw[hsw]at hk0 ⊢
  simp only[x5o]
  conv=>lhs;unfold xbr
  simp(disch:=omega) [g4,xnx]
 |succ n ih=>
  intro s j fc hn hj
  obtain⟨j,rfl⟩:∃i,j=i+1:=⟨j-1,by omega⟩
  have hk0:y+(s:Int)<y+(w:Int):=by omega
  have hsw:s<w:=by omega
  obtain⟨fc',e⟩:=ih (s+1) j (fc+76) (by omega) (by omega)
  refine⟨fc',?_⟩
  rw[<-e]
  have hA:=xry hR x y
  have hB:=xry hR2 (x+p) (y+q)
  have hls:l*w+s<=64:=by
   have:=x1a3 (show l<=7 by omega) hw
   omega
  have bds:=xsx (w:=w) hA hB hls
  have bdf:=xsx (w:=w) hB hB hls
  have r1:=λm=>w_rAt d ha hR (x+l) (y+s) m
  have r2:=λm=>w_rAt d hb hR2 (x+l+p) (y+s+q) m
  have eB:atM L2 S2 D2 (x+l+p) (y+s+q)=wA L2 S2 D2 (x+p) (y+q) l s:=by
   unfold wA
   rw[show x+l+p=x+p+l by omega,show y+s+q=y+q+s by omega]
  have eA:atM L S D (x+l) (y+s)=wA L S D x y l s:=rfl
  rw[eB]at r2
  rw[eA]at r1
  have a1:=(hA l s).1
  have a2:=(hA l s).2
  have b1:=(hB l s).1
  have b2:=(hB l s).2
  have m1:=a1.mul b1
  have m2:=a2.mul b2
  have m3:=a2.mul b1
  have m4:=a1.mul b2
  have m5:=a1.mul a1
  have m6:=a2.mul a2
  have m7:=b1.mul b1
  have m8:=b2.mul b2
  obtain⟨q1,q2,q3,-⟩:=bds
  obtain⟨-,-,q4,-⟩:=bdf
  have s1:=xxp (tR1 (wA L S D x y) (wA L2 S2 D2 (x+p) (y+q))) (l:=l) hsw
  have s2:=xxp (tI1 (wA L S D x y) (wA L2 S2 D2 (x+p) (y+q))) (l:=l) hsw
  have s3:scE (wA L S D x y) w (l*w+s+1)=scE (wA L S D x y) w (l*w+s)+tE1 (wA L S D x y) l s:=xxp _ (l:=l) hsw
  have s4:scE (wA L2 S2 D2 (x+p) (y+q)) w (l*w+s+1)=scE (wA L2 S2 D2 (x+p) (y+q)) w (l*w+s)+tE1 (wA L2 S2 D2 (x+p) (y+q)) l s:=xxp _ (l:=l) hsw
  rw[show l*w+(s+1)=l*w+s+1 by omega,s1,s2,s3,s4]
  have t1:tR1 (wA L S D x y) (wA L2 S2 D2 (x+p) (y+q)) l s=(wA L S D x y l s).1*(wA L2 S2 D2 (x+p) (y+q) l s).1+(wA L S D x y l s).2*(wA L2 S2 D2 (x+p) (y+q) l s).2:=rfl
  have t2:tI1 (wA L S D x y) (wA L2 S2 D2 (x+p) (y+q)) l s=(wA L S D x y l s).2*(wA L2 S2 D2 (x+p) (y+q) l s).1-(wA L S D x y l s).1*(wA L2 S2 D2 (x+p) (y+q) l s).2:=rfl
  have t3:tE1 (wA L S D x y) l s=(wA L S D x y l s).1*(wA L S D x y l s).1+(wA L S D x y l s).2*(wA L S D x y l s).2:=rfl
  have t4:tE1 (wA L2 S2 D2 (x+p) (y+q)) l s=(wA L2 S2 D2 (x+p) (y+q) l s).1*(wA L2 S2 D2 (x+p) (y+q) l s).1+(wA L2 S2 D2 (x+p) (y+q) l s).2*(wA L2 S2 D2 (x+p) (y+q) l s).2:=rfl
  have k1:∀u v t:Int,u+(v+t)=u+v+t:=λu v t=>by omega
  have k2:∀u v t:Int,u+(v-t)=u+v-t:=λu v t=>by omega
  rw[t1,t2,t3,t4,k1,k2,k1,k1]
  generalize sumS (tR1 (wA L S D x y) (wA L2 S2 D2 (x+p) (y+q))) w (l*w+s)=G1 at *
  generalize sumS (tI1 (wA L S D x y) (wA L2 S2 D2 (x+p) (y+q))) w (l*w+s)=G2 at *
  generalize scE (wA L S D x y) w (l*w+s)=G3 at *
  generalize scE (wA L2 S2 D2 (x+p) (y+q)) w (l*w+s)=G4 at *
  generalize (wA L S D x y l s).1=u1 at *
  generalize (wA L S D x y l s).2=u2 at *
  generalize (wA L2 S2 D2 (x+p) (y+q) l s).1=v1 at *
  generalize (wA L2 S2 D2 (x+p) (y+q) l s).2=v2 at *
  unfold bd at m1 m2 m3 m4 m5 m6 m7 m8 q1 q2 q3 q4
  have e3:y+((s+1:Nat):Int)=y+s+1:=by omega
  rw[e3]
  simp only[x5o]
  conv=>lhs;unfold xbr
  simp(disch:=omega) [g3,g4,g5,hsw,sIxA,asI,xnx,r1,r2]
  simp only[x1an,xnz]
  simp(disch:=omega) [xnx]
theorem l_rsc0:∀(n l j fc:Nat),l+n=z->n<j->z<=8 ->
 ∃fc',x24 (xnt (d+3)) hs 0 j (.ptr (0,0,3) 0 0) (.ptr (0,1,4) 0 0) (.ptr (0,2,5) 0 0) (.ptr (0,3,6) 0 0)
  (I (sumS (tR1 (wA L S D x y) (wA L2 S2 D2 (x+p) (y+q))) w (l*w))) (I (sumS (tI1 (wA L S D x y) (wA L2 S2 D2 (x+p) (y+q))) w (l*w))) (I (scE (wA L S D x y) w (l*w))) (I (scE (wA L2 S2 D2 (x+p) (y+q)) w (l*w))) (I (x+l)) M fc
  = xbp (xnt (d+3)) hs 0 (.ptr (0,3,6) 0 0)
    (I (sumS (tR1 (wA L S D x y) (wA L2 S2 D2 (x+p) (y+q))) w (z*w))) (I (sumS (tI1 (wA L S D x y) (wA L2 S2 D2 (x+p) (y+q))) w (z*w))) (I (scE (wA L S D x y) w (z*w))) (I (scE (wA L2 S2 D2 (x+p) (y+q)) w (z*w))) M fc':=by
 intro n
 induction n with
 |zero=>
  intro l j fc hn hj hz
  obtain⟨j,rfl⟩:∃i,j=i+1:=⟨j-1,by omega⟩
  have hlz:l=z:=by omega
  refine⟨fc+7,?_⟩
  rw[hlz]
  simp only[x24]
  conv=>lhs;unfold xbs
  simp(disch:=omega) [g4,xnx]
 |succ n ih=>
  intro l j fc hn hj hz
  obtain⟨j,rfl⟩:∃i,j=i+1:=⟨j-1,by omega⟩
  have hlz:l<z:=by omega
  obtain⟨fc1,e1⟩:=l_rsc1 d hs ha hR hb hR2 hw hx hy hp hq g3 g4 g5 (x24 (xnt (d+3)) hs 0 j) l (by omega) w 0 NN (fc+7+3) (by omega) (by rw[xo8];omega)
  obtain⟨fc',e⟩:=ih (l+1) j (fc1+3) (by omega) (by omega) hz
  refine⟨fc',?_⟩
  rw[<-e]
  simp only[x1ay]at e1
  rw[show y+((0:Nat):Int)=y by omega,show l*w+w=(l+1)*w by rw[x1ak]]at e1
  simp only[x24]
  conv=>lhs;unfold xbs xhk
  have e3:x+((l+1:Nat):Int)=x+l+1:=by omega
  rw[e3]
  simp(disch:=omega) [g4,xnx,hlz]
  rw[e1]
  unfold xbq
  simp(disch:=omega) [xnx]
end
theorem low_ok{n e:Int}(h0:0<=n)(he:0<e)(hb:n<=9000000000000000000)(hb2:e<=9000000000000000000):(0:Int)<(Int.gcd n e:Int)/\w64 (n.tdiv (Int.gcd n e:Int))=(lowN n e).1/\w64 (e.tdiv (Int.gcd n e:Int))=(lowN n e).2/\0<=(lowN n e).1/\1<=(lowN n e).2/\(n<=e->(lowN n e).1<=(lowN n e).2):=by
 have hg:0<Int.gcd n e:=Int.gcd_pos_of_ne_zero_right n (by omega)
 have hg':(0:Int)<(Int.gcd n e:Int):=by omega
 have e1:n.tdiv (Int.gcd n e:Int)=n / (Int.gcd n e:Int):=Int.tdiv_eq_ediv_of_nonneg h0
 have e2:e.tdiv (Int.gcd n e:Int)=e / (Int.gcd n e:Int):=Int.tdiv_eq_ediv_of_nonneg (by omega)
 have d2:(Int.gcd n e:Int) ∣ e:=Int.gcd_dvd_right ..
 have p1:0<=n / (Int.gcd n e:Int):=Int.ediv_nonneg h0 (by omega)
 have p2:1<=e / (Int.gcd n e:Int):=by
  have:=Int.ediv_pos_of_pos_of_dvd he (by omega) d2
  omega
 have u1:n / (Int.gcd n e:Int)<=n:=Int.ediv_le_self _ h0
 have u2:e / (Int.gcd n e:Int)<=e:=Int.ediv_le_self _ (by omega)
 unfold lowN
 simp only
 rw[e1,e2]
 refine⟨hg',xnx (by omega) (by omega),xnx (by omega) (by omega),p1,p2,λh=>Int.ediv_le_ediv hg' h⟩
noncomputable def scM(L S:Int)(D:List Px)(L2 S2:Int)(D2:List Px)(x y:Int)(z w:Nat)(p q:Int):(Int×Int)×Int:=
 if xrx L2 S2 x y z w p q=true then
  (if scE (wA L S D x y) w (z*w)=0\/scE (wA L2 S2 D2 (x+p) (y+q)) w (z*w)=0 then((0,0),11)
   else(lowN (scN (wA L S D x y) (wA L2 S2 D2 (x+p) (y+q)) w (z*w)) (scE (wA L S D x y) w (z*w)*scE (wA L2 S2 D2 (x+p) (y+q)) w (z*w)),0))
 else((0,0),26)
theorem w_rScore(d:Nat)(ha:Sl pxE a D)(hR:RtI L S D)(hb:Sl pxE b D2)(hR2:RtI L2 S2 D2){x y p q:Int}{z w:Nat}(hz:1<=z/\z<=8)(hw:1<=w/\w<=8)(hx:0<=x/\x<=64)(hy:0<=y/\y<=64)(m:Mem) :
 xnu (xnt (d+4)) x4c [.agg [I L,I S,a,I L2,I S2,b],.agg [I x,I y,I z,I w],.agg [I p,I q]] m=some (.tup [.agg [I (scM L S D L2 S2 D2 x y z w p q).1.1,I (scM L S D L2 S2 D2 x y z w p q).1.2],I (scM L S D L2 S2 D2 x y z w p q).2],m):=by
 have hl2:=wi_t hR2.l
 have hs2:=wi_t hR2.s
 have li:=λX Y m=>w_lies (d+1) hb.still1 hb.one L2 S2 X Y z w (xnx (by omega) (by omega)) (xnx (by omega) (by omega)) m
 refine xo0 (by simp[ha.still1,hb.still1]) ?_ m
 rw[xk4]
 unfold xe9 xbt scM xrx
 cases c1:wi p (-64) 64
 .simp[mem0,ha.one,hb.one,xp5,xny,sIxA,asI,xpo,c1,xrc,sLdP]
  exact RetF.tup rfl rfl
 cases c2:wi q (-64) 64
 .simp[mem0,ha.one,hb.one,xp5,xny,sIxA,asI,xpo,c1,c2,xrc,sLdP]
  exact RetF.tup rfl rfl
 have hp:=wi_t c1
 have hq:=wi_t c2
 unfold fitB
 cases c3:(wi (x+p) 0 (L2-z)&&wi (y+q) 0 (S2-w))
 .simp(disch:=omega) [mem0,ha.one,hb.one,xp5,xny,sIxA,asI,xpo,c1,c2,xrc,sLdP,xnx,li,c3]
  exact RetF.tup rfl rfl
 simp(disch:=omega) [mem0,ha.one,hb.one,xp5,xny,sIxA,asI,xpo,c1,c2,xrc,sLdP,xnx,li,c3]
 generalize hM:Mem.new _ _ _=M
 have g3:M.get (0,0,3)=some (.row [I L,I S,a,I L2,I S2,b] 0 false):=by rw[<-hM];simp
 have g4:M.get (0,1,4)=some (.row [I x,I y,I z,I w] 0 false):=by rw[<-hM];simp
 have g5:M.get (0,2,5)=some (.row [I p,I q] 0 false):=by rw[<-hM];simp
 have g6:M.get (0,3,6)=some (.row [I 0,I 0] 0 false):=by rw[<-hM];simp
 obtain⟨fc',e⟩:=l_rsc0 d [] ha hR hb hR2 hw.2 hx hy hp hq g3 g4 g5 (z:=z) z 0 NN 42 (by omega) (by rw[xo8];omega) hz.2
 rw[x19q,show x+((0:Nat):Int)=x by omega]at e
 have hA:=xry hR x y
 have hB:=xry hR2 (x+p) (y+q)
 have hnn:z*w<=64:=x19s (x1a3 hz.2 hw.2) (by omega)
 obtain⟨q1,q2,q3,q4,q5,q6,q7⟩:=xsx (w:=w) hA hB hnn
 obtain⟨-,-,r3,r4,-⟩:=xsx (w:=w) hB hB hnn
 unfold xhl
 simp[g4]
 have e':x24 (xnt (d+3)) [] 0 NN (.ptr (0,0,3) 0 0) (.ptr (0,1,4) 0 0) (.ptr (0,2,5) 0 0) (.ptr (0,3,6) 0 0) (I 0) (I 0) (I 0) (I 0) (I x) M 42=_:=e
 rw[e']
 unfold xbp
 by_cases k1:scE (wA L S D x y) w (z*w)=0
 .simp[k1,g6,xp5,xrc,sLdP]
  exact RetF.tup rfl rfl
 by_cases k2:scE (wA L2 S2 D2 (x+p) (y+q)) w (z*w)=0
 .simp[k1,k2,g6,xp5,xrc,sLdP]
  exact RetF.tup rfl rfl
 have hpos:0<scE (wA L S D x y) w (z*w)*scE (wA L2 S2 D2 (x+p) (y+q)) w (z*w):=x1b5 (by omega) (by omega)
 have b1:=q1.mul q1
 have b2:=q2.mul q2
 have q8:scN (wA L S D x y) (wA L2 S2 D2 (x+p) (y+q)) w (z*w)=sumS (tR1 (wA L S D x y) (wA L2 S2 D2 (x+p) (y+q))) w (z*w)*sumS (tR1 (wA L S D x y) (wA L2 S2 D2 (x+p) (y+q))) w (z*w)+sumS (tI1 (wA L S D x y) (wA L2 S2 D2 (x+p) (y+q))) w (z*w)*sumS (tI1 (wA L S D x y) (wA L2 S2 D2 (x+p) (y+q))) w (z*w):=(id rfl)
 obtain⟨l1,l2,l3,l4,l5,l6⟩:=low_ok q5 hpos (by omega) (by omega)
 have gc:=λm=>xtq (d+1) (a:=scN (wA L S D x y) (wA L2 S2 D2 (x+p) (y+q)) w (z*w)) (b:=scE (wA L S D x y) w (z*w)*scE (wA L2 S2 D2 (x+p) (y+q)) w (z*w)) (by unfold bd;omega) (by unfold bd;omega) m
 rw[if_neg (by rintro(h|h)<;>contradiction)]
 rw[q8]at gc l1 l2 l3 l4 l5 q5 q6 ⊢
 clear q8 l6
 generalize sumS (tR1 (wA L S D x y) (wA L2 S2 D2 (x+p) (y+q))) w (z*w)=R at *
 generalize sumS (tI1 (wA L S D x y) (wA L2 S2 D2 (x+p) (y+q))) w (z*w)=J at *
 generalize scE (wA L S D x y) w (z*w)=E at *
 generalize scE (wA L2 S2 D2 (x+p) (y+q)) w (z*w)=F at *
 unfold bd at b1 b2
 simp(disch:=omega) [k1,k2,xnx,gc]
 rw[xr9 (by omega),xr9 (by omega),l2,l3]
 simp[x13t,g6,sLdP,xp5]
 exact RetF.tup rfl rfl
open Ieee
end Go.Ix
namespace Go.Ix
open Go.Proofs Ieee
variable{a:AV}{D:List Px}{L S:Int}
theorem el1(objs:Id->Option Ob)(x y:Nat):elems objs 1 (.slit [C32 x y] 1 true)=some ([C32 x y],1):=rfl
theorem x13u(L S:Int):xo5 [I 0,I 0,nilS] [(0,1,I L),(1,1,I S)]=some (.agg [I L,I S,nilS]):=rfl
theorem sh_bd{t den:Int}(ht:bd t 127000000000000000)(h1:0<den):bd ((32*t+den) / (2*den)) 2100000000000000000:=by
 unfold bd at *
 constructor
 .exact Int.le_ediv_of_mul_le (by omega) (by omega)
 .exact Int.le_of_lt_add_one (Int.ediv_lt_of_lt_mul (by omega) (by omega))
def pxR(L S:Int)(D:List Px)(k:Int)(f:Aff)(l s:Nat):Px:=spx (smpM L S D k (16*l+shL f l s) (16*s+shS f l s))
def rowR(L S:Int)(D:List Px)(k:Int)(f:Aff)(l s n:Nat):List Px:=(List.range' s n).map (pxR L S D k f l)
def allR(L S:Int)(D:List Px)(k:Int)(f:Aff)(rs l n:Nat):List Px:=(List.range' l n).flatMap λl=>rowR L S D k f l 0 rs
theorem rowR_s(L S:Int)(D:List Px)(k:Int)(f:Aff)(l s n:Nat):rowR L S D k f l s (n+1)=pxR L S D k f l s::rowR L S D k f l (s+1) n:=by
 unfold rowR;rw[x1cz,x19f]
theorem allR_s(L S:Int)(D:List Px)(k:Int)(f:Aff)(rs l n:Nat):allR L S D k f rs l (n+1)=rowR L S D k f l 0 rs++allR L S D k f rs (l+1) n:=by
 unfold allR;rw[x1cz,x19b]
theorem x101(L S:Int)(D:List Px)(k:Int)(f:Aff)(l s n:Nat):(rowR L S D k f l s n).length=n:=by
 unfold rowR;simp
theorem x13v(L S:Int)(D:List Px)(k:Int)(f:Aff)(rs:Nat):∀n l:Nat,(allR L S D k f rs l n).length=n*rs
 |0,l=>by simp[allR]
 |n+1,l=>by rw[allR_s,x1a2,x101,x13v L S D k f rs n (l+1),x1ak];omega
variable{a:AV}{D:List Px}{L S:Int}
def okR(t:Nat):Id->Prop:=λid=>id.1=0/\id.2.2=t
structure RInv (t:Nat) (a:AV) (L S k rl rs:Int) (f:Aff) (v:AV) (acc:List Px) (m:Mem):Prop where
 g2:m.get (0,0,2)=some (.row [I L,I S,a] 0 false)
 g3:m.get (0,1,3)=some (.row ([I k,I rl,I rs]++f.c) 0 false)
 g4:m.get (0,2,4)=some (.row [I 0,I 0,nilS] 0 false)
 g5:m.get (0,8,5)=some (.row [I rl,I rs,v] 0 false)
 gk:Gk 1 pxE (okR t) m v acc
theorem RInv.ends{t:Nat}{k rl rs:Int}{f:Aff}{v:AV}{acc:List Px}{m:Mem}(h:RInv t a L S k rl rs f v acc m)(ht:t≠4):∃v',Go.Ix.frz (m.set (0,2,4) (.row [I rl,I rs,v] 0 false)).get deep (.agg [I rl,I rs,v])=some (.agg [I rl,I rs,v'])/\Sl pxE v' acc:=by
 have hG2:Gk 1 pxE (okR t) (m.set (0,2,4) (.row [I rl,I rs,v] 0 false)) v acc:=h.gk.frame λid hid=>Mem.get_set_ne (by rintro rfl;exact ht hid.2.symm)
 obtain⟨v',hv',hf⟩:=hG2.frz (k:=3) pxL pxS
 exact⟨v',frz_img hf,hv'⟩
section
variable(d:Nat)(hs:FHs)(ha:Sl pxE a D)(hR:RtI L S D){k:Int}(hk:wi k 0 2=true){f:Aff}(hf:AffIn f)
include ha hR hk hf
theorem l_res1(rec0:xoe){rl rs:Nat}(hrl:rl<=64)(hrs:rs<=64)(l:Nat)(hl:l<=63){t15 t16:AV}:∀(n s j:Nat) (v:AV) (acc:List Px) (m:Mem) (fc:Nat),s+n=rs->n<j->acc.length<=64*l+s->RInv 48 a L S k rl rs f v acc m ->
 ∃v' m' fc',x51 (xnt (d+4)) hs 0 rec0 j (.ptr (0,0,2) 0 0) (.ptr (0,1,3) 0 0) (.ptr (0,2,4) 0 0) (.ptr (0,8,5) 0 0) (I l) t15 t16 (I rs) (I s) m fc
  = x8s (xnt (d+4)) hs 0 rec0 (.ptr (0,0,2) 0 0) (.ptr (0,1,3) 0 0) (.ptr (0,2,4) 0 0) (.ptr (0,8,5) 0 0) t15 t16 m' fc'/\RInv 48 a L S k rl rs f v' (acc++rowR L S D k f l s n) m':=by
 intro n
 induction n with
 |zero=>
  intro s j v acc m fc hn hj hacc hI
  obtain⟨j,rfl⟩:∃i,j=i+1:=⟨j-1,by omega⟩
  have hk0:¬((s:Int)<(rs:Int)):=by omega
  refine⟨v,m,fc+1,?_,by simpa[rowR]using hI⟩
  simp only[x51]
  unfold x8t
  simp[hk0]
 |succ n ih=>
  intro s j v acc m fc hn hj hacc hI
  obtain⟨j,rfl⟩:∃i,j=i+1:=⟨j-1,by omega⟩
  have hk0:(s:Int)<(rs:Int):=by omega
  obtain⟨g2,g3,g4,g5,gk⟩:=hI
  have hp:=λm=>w_parts3 (d+1) hf (x:=l) (y:=s) (by unfold bd;omega) (by unfold bd;omega) m
  have b1:bd (shL f l s) 2100000000000000000:=sh_bd (hf.tl (by unfold bd;omega) (by unfold bd;omega)) hf.d0
  have b2:bd (shS f l s) 2100000000000000000:=sh_bd (hf.ts (by unfold bd;omega) (by unfold bd;omega)) hf.d0
  have hsm:=λm=>w_sample d ha hR hk (y:=16*l+shL f l s) (x:=16*s+shS f l s) (by unfold bd at *;omega) (by unfold bd at *;omega) m
  obtain⟨M,hM⟩:∃M:Mem,(m.new (0,fc+9,8) (.row [I 0,I 0] 0 false)).set (0,fc+9,8) (.row [I (shL f l s),I (shS f l s)] 0 false)=M:=⟨_,rfl⟩
  have fr:∀id:Id,id.2.2≠8->M.get id=m.get id:=λid h=>by
   rw[<-hM,Mem.get_set_ne (by rintro rfl;exact h rfl),Mem.get_new_ne (by rintro rfl;exact h rfl)]
  have gk1:Gk 1 pxE (okR 48) M v acc:=gk.frame λid hid=>fr id (by rw[hid.2];decide)
  have e8:M.get (0,fc+9,8)=some (.row [I (shL f l s),I (shS f l s)] 0 false):=by rw[<-hM];simp
  obtain⟨v2,m2,hA,hG2,c2,o2,hn2,hfr⟩:=gk1.app pxL (by decide) (bytes:=8) (id0:=(0,fc+29,48)) ⟨rfl,rfl⟩ (by unfold xol;omega) (pxR L S D k f l s)
  have hA':∀(k':AV->Mem->O2),sApp 1 8 (0,fc+29,48) (some ([sPX (smpM L S D k (16*l+shL f l s) (16*s+shS f l s))],1)) v M k'=k' v2 m2:=hA
  have fr2:∀id:Id,id.2.2≠8->id.2.2≠48->m2.get id=m.get id:=λid h h'=>by
   rw[hfr _ (λq=>h' q.2),fr id h]
  obtain⟨v',m',fc',e,hI'⟩:=ih (s+1) j v2 (acc++[pxR L S D k f l s]) (m2.set (0,8,5) (.row [I rl,I rs,v2] 0 false)) (fc+34) (by omega) (by omega) (by simp;omega)
   ⟨by rw[Mem.get_set_ne (by decide),fr2 _ (by decide) (by decide)];exact g2,by rw[Mem.get_set_ne (by decide),fr2 _ (by decide) (by decide)];exact g3,by rw[Mem.get_set_ne (by decide),fr2 _ (by decide) (by decide)];exact g4,by simp,hG2.frame λid hid=>Mem.get_set_ne (by rintro rfl;exact absurd hid.2 (by decide))⟩
  refine⟨v',m',fc',?_,by rw[rowR_s];simpa using hI'⟩
  rw[<-e]
  have G2:M.get (0,0,2)=some (.row [I L,I S,a] 0 false):=by rw[fr _ (by decide)];exact g2
  have G3:M.get (0,1,3)=some (.row ([I k,I rl,I rs]++f.c) 0 false):=by rw[fr _ (by decide)];exact g3
  have G5:M.get (0,8,5)=some (.row [I rl,I rs,v] 0 false):=by rw[fr _ (by decide)];exact g5
  have G5':m2.get (0,8,5)=some (.row [I rl,I rs,v] 0 false):=by rw[fr2 _ (by decide) (by decide)];exact g5
  simp only[x51]
  conv=>lhs;unfold x8t
  unfold bd at b1 b2
  simp only[Aff.c]at g3 G3 hp
  simp only[xou,hk0,x19d,xnz,xot]
  have bs:xo5 xfq [(0,7,AV.agg [I f.den,I f.l0,I f.l1,I f.l2,I f.s0,I f.s1,I f.s2])]=some (AV.agg [I f.den,I f.l0,I f.l1,I f.l2,I f.s0,I f.s1,I f.s2]):=by rw[z_shift3];rfl
  have e16:∀q:Nat,(q:Int)*16=16*q:=λq=>Int.mul_comm _ _
  simp(disch:=omega) [g3,Aff.c,bs,hp,xp5,e16]
  rw[hM]
  simp(disch:=omega) [G2,G3,G5,g2,g5,e8,sIxA,asI,xvn,xnx,hsm,z_c64]
  rw[xvi (xzr _ _) rfl rfl,el1,hA']
  simp[G5',o2,c2,tR,xoa,disj,cAp,mkM,clean,ha.clean1]
theorem l_res0{rl rs:Nat}(hrl:rl<=64)(hrs:rs<=64):∀(n l j:Nat) (v:AV) (acc:List Px) (m:Mem) (fc:Nat),l+n=rl->n<j->acc.length<=64*l->RInv 48 a L S k rl rs f v acc m ->
 ∃v' m' fc',x36 (xnt (d+4)) hs 0 j (.ptr (0,0,2) 0 0) (.ptr (0,1,3) 0 0) (.ptr (0,2,4) 0 0) (.ptr (0,8,5) 0 0) (I rl) (I l) m fc
  = x8r (xnt (d+4)) hs 0 (.ptr (0,2,4) 0 0) (.ptr (0,8,5) 0 0) m' fc'/\RInv 48 a L S k rl rs f v' (acc++allR L S D k f rs l n) m':=by
 intro n
 induction n with
 |zero=>
  intro l j v acc m fc hn hj hacc hI
  obtain⟨j,rfl⟩:∃i,j=i+1:=⟨j-1,by omega⟩
  have hk0:¬((l:Int)<(rl:Int)):=by omega
  refine⟨v,m,fc+1,?_,by simpa[allR]using hI⟩
  simp only[x36]
  unfold x8u
  simp[hk0]
 |succ n ih=>
  intro l j v acc m fc hn hj hacc hI
  obtain⟨j,rfl⟩:∃i,j=i+1:=⟨j-1,by omega⟩
  have hk0:(l:Int)<(rl:Int):=by omega
  obtain⟨v1,m1,fc1,e1,hI1⟩:=l_res1 d hs ha hR hk hf (x36 (xnt (d+4)) hs 0 j) hrl hrs l (by omega) (t15:=I rl) (t16:=I l) rs 0 NN v acc m (fc+1+5) (by omega) (by rw[xo8];omega) (by omega) hI
  have hlen:(acc++rowR L S D k f l 0 rs).length<=64*(l+1):=by rw[x1a2,x101];omega
  obtain⟨v',m',fc',e,hI'⟩:=ih (l+1) j v1 _ m1 (fc1+2) (by omega) (by omega) hlen hI1
  refine⟨v',m',fc',?_,by rw[allR_s,<-x1ao];exact hI'⟩
  rw[<-e]
  have g3:=hI.g3
  simp only[x36]
  conv=>lhs;unfold x8u xfr
  simp only[xou,hk0,x19d,xnz,xot]
  simp only[Aff.c]at g3
  simp[g3]
  rw[show(0:Int)=((0:Nat):Int)from rfl,e1]
  unfold x8s
  simp(disch:=omega) [xnx]
theorem x163{rl rs:Nat}(hrl:rl<=64)(hrs:rs<=64):∃b,Sl pxE b (allR L S D k f rs 0 rl)/\∀m,xnu (xnt (d+5)) x2g [.agg [I L,I S,a],.agg ([I k,I rl,I rs]++f.c)] m=some (.agg [I rl,I rs,b],m):=by
 obtain⟨M,hM⟩:∃M:Mem,((((((⟨[],1⟩:Mem).new (0,0,2) (.row [I L,I S,a] 0 false)).new (0,1,3) (.row ([I k,I rl,I rs]++f.c) 0 false)).new (0,2,4) (.row [I 0,I 0,nilS] 0 false)).new (0,8,5) (.row [I 0,I 0,nilS] 0 false)).set (0,8,5) (.row [I rl,I rs,nilS] 0 false))=M:=⟨_,rfl⟩
 have hI:RInv 48 a L S k rl rs f nilS [] M:=⟨by rw[<-hM];simp,by rw[<-hM];simp,by rw[<-hM];simp,by rw[<-hM];simp,Gk.nil⟩
 have g3:=hI.g3
 obtain⟨v',m',fc',e,hI'⟩:=l_res0 d [] ha hR hk hf hrl hrs rl 0 NN nilS [] M 13 (by omega) (by rw[xo8];omega) (by simp) hI
 obtain⟨v2,hfz,hv2⟩:=hI'.ends (by decide)
 rw[x19r]at hv2
 refine⟨v2,hv2,λm=>xo0 (by simp[ha.still1,Aff.c]) ?_ m⟩
 rw[xj0]
 unfold xd6 x8v
 simp only[Aff.c,x1ad,x19r]at hM g3
 simp[mem0,ha.one,xq5,xny,x13u,Aff.c]
 rw[hM]
 unfold xfs
 simp[g3]
 rw[show(0:Int)=((0:Nat):Int)from rfl,e]
 unfold x8r
 have h4:=hI'.g4
 have h5:=hI'.g5
 have o:=hI'.gk.one
 simp[h4,h5,o.1,o.2,sLdP]
 exact⟨_,_,_,rfl,hfz,rfl⟩
end
end Go.Ix
namespace Go.Ix
open Go.Proofs Ieee
variable{a:AV}{D:List Px}{L S:Int}
end Go.Ix
