import Derived.Test.YtjdlceelbnaneaaWg11
import Derived.Test.YtjdlceelbnaneaaWg4
import Derived.Test.YtjdlceelbnaneaaWg1
set_option linter.unusedSimpArgs false
set_option linter.unusedVariables false
set_option exponentiation.threshold 3000
namespace Go.Ix
open Go.Proofs Ieee
def val(x:Nat):Int:=match fcs x with
 | .num s V=>sg s (V / 2 ^ 1074)
 |_=>0
def RtP(x:Nat):Prop:=∃s k,fcs x=.num s (k*2 ^ 1074)/\k<=2047
theorem RtP.val{x:Nat}(h:RtP x):∃s k,fcs x=.num s (k*2 ^ 1074)/\k<=2047/\val x=sg s k:=by
 obtain⟨s,k,h1,h2⟩:=h
 refine⟨s,k,h1,h2,?_⟩
 unfold Go.Ix.val
 rw[h1]
 show sg s (k*2 ^ 1074 / 2 ^ 1074)=_
 rw[Nat.mul_div_cancel _ (Nat.two_pow_pos _)]
theorem RtP.bd{x:Nat}(h:RtP x):-2047<=Go.Ix.val x/\Go.Ix.val x<=2047:=by
 obtain⟨s,k,-,h2,h3⟩:=h.val
 rw[h3]
 cases s<;>simp[sg]<;>omega
theorem xjz{c:Fc}(h1:c.whole=true)(h2:c.big=false):∃s k,c=.num s (k*2 ^ 1074)/\k<=2047:=by
 obtain⟨s,V,rfl⟩:=xh3 h1
 have h1:(V % 2 ^ 1074 == 0)=true:=h1
 have h2:decide (2047*2 ^ 1074<V)=false:=h2
 have g1:V % 2 ^ 1074=0:=by simpa using h1
 have g2:¬2047*2 ^ 1074<V:=of_decide_eq_false h2
 have hd:=Nat.div_add_mod V (2 ^ 1074)
 have hp:0<2 ^ 1074:=Nat.two_pow_pos _
 refine⟨s,V / 2 ^ 1074,?_,?_⟩
 .congr 1
  rw[g1,Nat.mul_comm]at hd
  omega
 .exact Nat.le_of_lt_succ (Nat.div_lt_of_lt_mul (by
   generalize (2:Nat) ^ 1074=K at *
   have:K*(2047+1)=2047*K+K:=by omega
   omega))
theorem pxErr_0{p:Px}(h:xct p=0):RtP p.1/\RtP p.2:=by
 unfold xct pE at h
 cases c1:(fcs p.1).whole
 .rw[c1]at h;simp at h
 cases c2:(fcs p.2).whole
 .rw[c1,c2]at h;simp at h
 rw[c1,c2]at h
 cases b1:(fcs p.1).big
 rotate_left
 .rw[b1]at h;simp at h
 cases b2:(fcs p.2).big
 rotate_left
 .rw[b1,b2]at h;simp at h
 exact⟨xjz c1 b1,xjz c2 b2⟩
def RtD(D:List Px):Prop:=∀p∈D,RtP p.1/\RtP p.2
theorem chkS_0:∀(D:List Px) (k:Nat),(chkS k D).2=0->RtD D
 |[],_,_=>λ_ h=>by cases h
 |p::r,k,h=>by
  unfold chkS at h
  by_cases c:xct p=0
  .rw[xn5 c]at h
   have:=chkS_0 r (k+1) h
   intro q hq
   rcases xnh.mp hq with rfl|hq
   .exact pxErr_0 c
   .exact this q hq
  .rw[xn6 c]at h;exact absurd h c
structure RtI (L S:Int) (D:List Px):Prop where
 l:wi L 1 64=true
 s:wi S 1 64=true
 n:(D.length:Int)=L*S
 d:RtD D
theorem imE_0{L S:Int}{D:List Px}(h:(imE L S D).2=0):RtI L S D:=by
 unfold imE at h
 by_cases c:szE L S D.length=0
 .rw[xn5 c]at h
  unfold szE at c
  cases c1:wi L 1 64
  .rw[c1]at c;simp at c
  cases c2:wi S 1 64
  .rw[c1,c2]at c;simp at c
  rw[c1,c2]at c
  by_cases c3:(D.length:Int)=L*S
  .exact⟨c1,c2,c3,chkS_0 D 0 h⟩
  .simp[c3]at c
 .rw[xn6 c]at h;exact absurd h c
theorem Fz_i{x y:Nat}(hx:RtP x)(hy:RtP y){v:Value}(h:Fz (fcs x) (fcs y) v):Fzi (val x) (val y) v:=by
 obtain⟨s,k,h1,h2,h3⟩:=hx.val
 obtain⟨s',k',g1,g2,g3⟩:=hy.val
 rw[h1,g1]at h
 obtain⟨p,q,rfl,hp,hq⟩:=h
 rw[h3,g3]
 exact⟨p,q,rfl,Cl_I hp,Cl_I hq⟩
theorem s_c2ci{x y:Nat}(hx:RtP x)(hy:RtP y):∃r,sCvt Try.prog xh x8 (C32 x y)=some r/\Is (Fzi (val x) (val y)) r:=by
 obtain⟨r,e,h⟩:=s_c2c x y
 exact⟨r,e,h.mono λv hv=>Fz_i hx hy hv⟩
def atM(L S:Int)(D:List Px)(l s:Int):Int×Int:=
 bif wi l 0 (L-1)&&wi s 0 (S-1)then(val (D.getD (l*S+s).toNat (0,0)).1,val (D.getD (l*S+s).toNat (0,0)).2)else(0,0)
theorem I_0:IsI 0 0:=⟨false,0,-1074,rfl,by omega,by omega,by
 show((0*2 ^ ((-1074:Int)+1074).toNat:Nat):Int)=0*2 ^ 1074
 rw[xo1,Int.zero_mul];rfl⟩
theorem at_in{L S l s:Int}{D:List Px}(hR:RtI L S D)(h1:wi l 0 (L-1)=true)(h2:wi s 0 (S-1)=true):0<=l*S+s/\l*S+s<D.length/\0<=l*S/\l*S<=4096:=by
 have a1:=wi_t h1
 have a2:=wi_t h2
 have a3:=wi_t hR.s
 have a4:=wi_t hR.l
 have b1:0<=l*S:=xo5 (by omega) (by omega)
 have b2:l*S<=(L-1)*S:=xov (by omega) (by omega)
 have b3:(L-1)*S=L*S-S:=by rw[Int.sub_mul,xox]
 have b4:=mul_bd hR.l hR.s
 have:=hR.n
 omega
variable{a:AV}{D:List Px}{L S:Int}
theorem w_at(d:Nat)(ha:Sl pxE a D)(hR:RtI L S D)(l s:Int)(m:Mem):∃r,x99 (x98 (d+2)) x1u [.agg [I L,I S,a],I l,I s] m=some (r,m)/\Is (Fzi (atM L S D l s).1 (atM L S D l s).2) r:=by
 have hl:=wi_t hR.l
 have hs:=wi_t hR.s
 cases c1:wi l 0 (L-1)
 .refine⟨.sc (.complex .f64 0 0),x9k (by simp[ha.still1]) ?_ m,?_⟩
  .rw[x5j]
   unfold x2c x25
   simp(disch:=omega) [mem0,ha.one,xb8,c1,x9j]
   exact RetF.st rfl rfl
  .unfold atM
   rw[c1]
   exact Is.sc ⟨0,0,rfl,I_0,I_0⟩
 cases c2:wi s 0 (S-1)
 .refine⟨.sc (.complex .f64 0 0),x9k (by simp[ha.still1]) ?_ m,?_⟩
  .rw[x5j]
   unfold x2c x25
   simp(disch:=omega) [mem0,ha.one,xb8,c1,c2,x9j]
   exact RetF.st rfl rfl
  .unfold atM
   rw[c1,c2]
   exact Is.sc ⟨0,0,rfl,I_0,I_0⟩
 obtain⟨b1,b2,b3,b4⟩:=at_in hR c1 c2
 have hk:(l*S+s).toNat<D.length:=by omega
 have ix:=ha.ixI pxL b1 b2
 rw[xb7 hk,xom]at ix
 have hrt:=hR.d _ (xoa hk)
 obtain⟨r,e,hr⟩:=s_c2ci hrt.1 hrt.2
 have b5:=mul_bd hR.l hR.s
 have b6:=hR.n
 refine⟨r,x9k (by simp[ha.still1]) ?_ m,?_⟩
 .rw[x5j]
  unfold x2c x25
  simp(disch:=omega) [mem0,ha.one,xb8,c1,c2,x9j,ix,pxE,e]
  exact RetF.st hr.oneZi.st rfl
 .unfold atM
  rw[c1,c2,xnn,xnj hk]
  exact hr
open Go.Proofs
theorem s_zmul{a b:AV}{p q u v:Int}{t:TypeId}{X Y:Operand}(ha:Is (Fzi p q) a)(hb:Is (Fzi u v) b)(h1:bd p 4000000000000000)(h2:bd q 4000000000000000)(h3:bd u 4000000000000000)(h4:bd v 4000000000000000)(k1:bd (p*u) 2000000000000000)(k2:bd (q*v) 2000000000000000)(k3:bd (p*v) 2000000000000000)(k4:bd (q*u) 2000000000000000):∃r,sBin Try.prog .mul t X Y a b=some r/\Is (Fzi (p*u-q*v) (p*v+q*u)) r:=by
 refine sBin_R ha hb ?_
 rintro _ _ ⟨x,y,rfl,hx,hy⟩ ⟨z,w,rfl,hz,hw⟩
 unfold bd at *
 obtain⟨e,f,h,he,hf⟩:=zi_mul hx hy hz hw (by omega) (by omega) (by omega) (by omega) (by omega) (by omega) (by omega) (by omega)
 have hb:binS .mul t X Y [.complex .f64 x y,.complex .f64 z w]=Op.complexOp .mul .f64 x y z w:=rfl
 rw[hb,h]
 exact OkR.pure ⟨xfc ⟨e,f,rfl,he,hf⟩,e,f,rfl,he,hf⟩
theorem s_zadd{a b:AV}{p q u v:Int}{t:TypeId}{X Y:Operand}(ha:Is (Fzi p q) a)(hb:Is (Fzi u v) b)(k1:bd (p+u) 4000000000000000)(k2:bd (q+v) 4000000000000000):∃r,sBin Try.prog .add t X Y a b=some r/\Is (Fzi (p+u) (q+v)) r:=by
 refine sBin_R ha hb ?_
 rintro _ _ ⟨x,y,rfl,hx,hy⟩ ⟨z,w,rfl,hz,hw⟩
 unfold bd at *
 obtain⟨e,f,h,he,hf⟩:=zi_add hx hy hz hw (by omega) (by omega)
 have hb:binS .add t X Y [.complex .f64 x y,.complex .f64 z w]=Op.complexOp .add .f64 x y z w:=rfl
 rw[hb,h]
 exact OkR.pure ⟨xfc ⟨e,f,rfl,he,hf⟩,e,f,rfl,he,hf⟩
theorem s_zreal{a:AV}{p q:Int}{t:TypeId}{ts:Array TypeId}(ha:Is (Fzi p q) a):∃r,x9s Try.prog .real ts t [a]=some r/\Is (Fi p) r:=by
 refine xf9 ha ?_
 rintro _ ⟨u,v,rfl,hu,hv⟩
 exact OkR.pure ⟨one_Fi ⟨u,rfl,hu⟩,u,rfl,hu⟩
theorem s_zimag{a:AV}{p q:Int}{t:TypeId}{ts:Array TypeId}(ha:Is (Fzi p q) a):∃r,x9s Try.prog .imag ts t [a]=some r/\Is (Fi q) r:=by
 refine xf9 ha ?_
 rintro _ ⟨u,v,rfl,hu,hv⟩
 exact OkR.pure ⟨one_Fi ⟨v,rfl,hv⟩,v,rfl,hv⟩
theorem s_fi{a:AV}{n:Int}(ha:Is (Fi n) a)(hn:bd n 9000000000000000000):sCvt Try.prog x6 x9q a=some (I n):=by
 refine sCvt_1 (A:=Fi n) ha rfl (λu hu=>by obtain⟨w,rfl,-⟩:=hu;rfl) (λu hu=>?_)
 obtain⟨w,rfl,hw⟩:=hu
 have hn':nfS Try.prog (convert x6 x9q (.float .f64 w))=nfS Try.prog (Conv.floatToInt .f64 w .i64):=by kernel_rfl
 rw[<-xcc,hn',xcc]
 unfold Conv.floatToInt
 simp only[I_toInt hw]
 have e1:IntKind.i64.min=-9223372036854775808:=rfl
 have e2:IntKind.i64.max=9223372036854775807:=rfl
 unfold bd at hn
 rw[e1,e2,xn5 (by omega)]
 exact OkR.pure rfl
theorem atM_bd{L S:Int}{D:List Px}(hR:RtI L S D)(l s:Int):bd (atM L S D l s).1 2047/\bd (atM L S D l s).2 2047:=by
 unfold atM
 cases c:(wi l 0 (L-1)&&wi s 0 (S-1))
 .unfold bd;simp
 rw[xn9]at c
 obtain⟨b1,b2,-,-⟩:=at_in hR c.1 c.2
 have hk:(l*S+s).toNat<D.length:=by omega
 have hrt:=hR.d _ (xoa hk)
 rw[xe2,xnn,xnj hk]
 exact⟨hrt.1.bd,hrt.2.bd⟩
theorem u_int:Try.prog.underlying xx=some (.slice x9q):=by kernel_rfl
abbrev slI(l:List Int):AV:=.slit (l.flatMap intE) l.length true
theorem slI_S(l:List Int):Sl intE (slI l) l:=Sl.lit l true
variable{a:AV}{D:List Px}{L S:Int}
section
variable(d:Nat)(hs:FHs)(u:Nat)(ha:Sl pxE a D)(hR:RtI L S D)
include ha hR
end
end Go.Ix
namespace Go.Ix
open Go.Proofs Ieee
variable{a:AV}{D:List Px}{L S:Int}
section
variable(d:Nat)(hs:FHs)(u:Nat)(ha:Sl pxE a D)(hR:RtI L S D)
include ha hR
end
end Go.Ix
