import Derived.Test.YtklcdahoajabmaaWg3
import Derived.Test.YtklcdahoajabmaaWg2
import Derived.ProofKit
import Derived.Test.YtklcdahoajabmaaWg0
import Derived.Test.YtklcdahoajabmaaWg1
set_option linter.unusedSimpArgs false
set_option linter.unusedVariables false
set_option exponentiation.threshold 3000
namespace Go.Ix
open Ieee
variable{P:Program}
theorem near_0(neg:Bool)(place:Int):double.read (double.nearest neg 0 place)=.number neg 0 (-1074):=by
 unfold Format.nearest
 rw[xta rfl,xji neg (by omega),xta (by omega)]
theorem xjl(s:Bool)(n:Nat):(sg s n).natAbs=n:=by cases s<;>simp[sg]
theorem xhi(s:Bool)(n k:Nat):sg s (n*k)=sg s n*k:=by cases s<;>simp[sg,Int.neg_mul]
theorem I_abs{s:Bool}{m:Nat}{e n:Int}(h:sg s (sv m e)=n*2 ^ 1074):sv m e=n.natAbs*2 ^ 1074:=by
 have h1:=congrArg Int.natAbs h
 rw[xjl,xwf]at h1
 exact h1
theorem I_of{neg:Bool}{T w:Int}{mag:Nat}{place:Int}{n:Int}(hp:-1074<=place)(hp2:place<=900)(hn:n.natAbs<2 ^ 53)(h:T*2 ^ (place+1074).toNat=n*2 ^ 1074)(hm:mag=T.natAbs)(hneg:T≠0->neg=decide (T<0)):IsI (double.nearest neg mag place) n:=by
 have hs:sv mag place=n.natAbs*2 ^ 1074:=by
  have h1:=congrArg Int.natAbs h
  rw[xwf,xwf]at h1
  subst hm
  exact h1
 obtain⟨m,e,h1,h2,h3,h4⟩:=near_I (neg:=neg) hp hp2 hn hs
 refine⟨neg,m,e,h1,h2,h3,?_⟩
 rw[h4,xhi]
 have hc:((2 ^ 1074:Nat):Int)=2 ^ 1074:=Int.natCast_pow 2 1074
 rw[hc]
 congr 1
 by_cases hT:T=0
 .subst hT
  rw[Int.zero_mul]at h
  have:n=0:=by
   rcases Int.mul_eq_zero.mp h.symm with h0|h0
   .exact h0
   .exact absurd h0 (Int.ne_of_gt (Int.pow_pos (by decide)))
  subst this
  cases neg<;>rfl
 .have hk:(0:Int)<2 ^ (place+1074).toNat:=Int.pow_pos (by decide)
  have hk2:(0:Int)<2 ^ 1074:=Int.pow_pos (by decide)
  rw[hneg hT]
  by_cases hl:T<0
  .rw[xtq hl]
   have:n*2 ^ 1074<0:=by rw[<-h];exact Int.mul_neg_of_neg_of_pos hl hk
   have hn0:n<0:=by
    rcases Int.lt_or_le n 0 with g|g
    .exact g
    .exact absurd (xuv g (Int.le_of_lt hk2)) (by omega)
   unfold sg
   rw[xta rfl]
   omega
  .rw[xu5 hl]
   have:0<=n*2 ^ 1074:=by rw[<-h];exact xuv (by omega) (Int.le_of_lt hk)
   have hn0:0<=n:=by
    rcases Int.lt_or_le n 0 with g|g
    .exact absurd (Int.mul_neg_of_neg_of_pos g hk2) (by omega)
    .exact g
   unfold sg
   rw[xtb (by decide)]
   omega
theorem write_num(s:Bool)(m:Nat)(e:Int):double.write (.number s m e)=double.nearest s m e:=rfl
theorem I_sum{s t:Bool}{m n:Nat}{i j a b:Int}(hi:-1074<=i)(hj:-1074<=j)(hi2:i<=900)(ha:sg s (sv m i)=a*2 ^ 1074)(hb:sg t (sv n j)=b*2 ^ 1074)(hn:(a+b).natAbs<2 ^ 53) :
 ∃d,(Datum.number s m i).sum (.number t n j)=some d/\IsI (double.write d) (a+b):=by
 refine⟨_,rfl,?_⟩
 rw[write_num]
 refine I_of (T:=signed s m (i-min i j).toNat+signed t n (j-min i j).toNat) (w:=0) (by omega) (by omega) hn ?_ rfl (λh=>xtb h)
 have h1:=xhh s m i (min i j) (by omega) (by omega)
 have h2:=xhh t n j (min i j) (by omega) (by omega)
 have hc:(((2:Nat) ^ (min i j+1074).toNat:Nat):Int)=2 ^ (min i j+1074).toNat:=Int.natCast_pow 2 _
 rw[hc]at h1 h2
 rw[xvw,h1,h2,ha,hb,xvw]
theorem IsI.add{x y:Nat}{a b:Int}(hx:IsI x a)(hy:IsI y b)(hn:(a+b).natAbs<2 ^ 53):∃r,double.add x y=some r/\IsI r (a+b):=by
 obtain⟨s,m,i,h1,h2,h3,h4⟩:=hx
 obtain⟨t,n,j,g1,g2,g3,g4⟩:=hy
 obtain⟨d,hd,hI⟩:=I_sum h2 g2 h3 h4 g4 hn
 refine⟨double.write d,?_,hI⟩
 unfold Format.add
 rw[h1,g1,hd];rfl
theorem sg_not(s:Bool)(n:Nat):sg (!s) n=-sg s n:=by cases s<;>simp[sg]
theorem IsI.sub{x y:Nat}{a b:Int}(hx:IsI x a)(hy:IsI y b)(hn:(a-b).natAbs<2 ^ 53):∃r,double.sub x y=some r/\IsI r (a-b):=by
 obtain⟨s,m,i,h1,h2,h3,h4⟩:=hx
 obtain⟨t,n,j,g1,g2,g3,g4⟩:=hy
 obtain⟨d,hd,hI⟩:=I_sum (t:=!t) (b:=-b) h2 g2 h3 h4 (by rw[sg_not,g4,Int.neg_mul]) (by rw[<-xwh];exact hn)
 refine⟨double.write d,?_,by rw[xwh];exact hI⟩
 unfold Format.sub
 rw[h1,g1]
 show((Datum.number s m i).sum (Datum.number (!t) n j)).map double.write=_
 rw[hd];rfl
theorem e_bd{m:Nat}{e:Int}{N:Nat}(hm:m<2 ^ 53)(he:-1074<=e)(h0:0<N)(hN:N<2 ^ 53)(h:sv m e=N*2 ^ 1074):-53<=e/\e<=53:=by
 unfold sv at h
 have hm0:0<m:=by
  rcases Nat.eq_zero_or_pos m with g|g
  .subst g
   rw[xty]at h
   have:=xuk h0 (Nat.two_pow_pos 1074)
   omega
  .exact g
 constructor
 .rcases Int.lt_or_le e (-53)with g|g
  .exfalso
   have h1:m*2 ^ (e+1074).toNat<2 ^ 53*2 ^ (e+1074).toNat:=Nat.mul_lt_mul_of_pos_right hm (Nat.two_pow_pos _)
   rw[<-Nat.pow_add]at h1
   have h2:2 ^ (53+(e+1074).toNat)<=2 ^ 1074:=Nat.pow_le_pow_right (by omega) (by omega)
   have h3:1*2 ^ 1074<=N*2 ^ 1074:=xu4 _ h0
   rw[h]at h1
   omega
  .exact g
 .rcases Int.lt_or_le 53 e with g|g
  .exfalso
   have h1:1*2 ^ (e+1074).toNat<=m*2 ^ (e+1074).toNat:=xu4 _ hm0
   have h2:2 ^ (53+1074)<=2 ^ (e+1074).toNat:=Nat.pow_le_pow_right (by omega) (by omega)
   have h3:N*2 ^ 1074<2 ^ 53*2 ^ 1074:=Nat.mul_lt_mul_of_pos_right hN (Nat.two_pow_pos _)
   rw[<-Nat.pow_add]at h3
   rw[h]at h1
   omega
  .exact g
theorem IsI.mul{x y:Nat}{a b:Int}(hx:IsI x a)(hy:IsI y b)(ha:a.natAbs<2 ^ 53)(hb:b.natAbs<2 ^ 53)(hn:(a*b).natAbs<2 ^ 53):∃r,double.mul x y=some r/\IsI r (a*b):=by
 obtain⟨s,m,i,h1,h2,h3,h4⟩:=hx
 obtain⟨t,n,j,g1,g2,g3,g4⟩:=hy
 refine⟨double.nearest (s ^^ t) (m*n) (i+j),?_,?_⟩
 .unfold Format.mul
  rw[h1,g1];rfl
 have h5:=I_abs h4
 have g5:=I_abs g4
 by_cases c:m*n=0
 .rw[c]
  refine⟨s ^^ t,0,-1074,near_0 _ _,by omega,by omega,?_⟩
  have hz:a=0\/b=0:=by
   rcases Nat.mul_eq_zero.mp c with g|g
   .left
    subst g
    unfold sv at h5
    rw[xty]at h5
    rcases Nat.mul_eq_zero.mp h5.symm with q|q
    .omega
    .exact absurd q (Nat.ne_of_gt (Nat.two_pow_pos _))
   .right
    subst g
    unfold sv at g5
    rw[xty]at g5
    rcases Nat.mul_eq_zero.mp g5.symm with q|q
    .omega
    .exact absurd q (Nat.ne_of_gt (Nat.two_pow_pos _))
  have h0:a*b=0:=by rcases hz with g|g<;>simp[g]
  rw[h0]
  unfold sv
  rw[xty,Int.zero_mul]
  cases(s ^^ t)<;>rfl
 .have hm0:0<m:=xw1 λq=>c (by rw[q,xty])
  have hn0:0<n:=xw1 λq=>c (by rw[q,Nat.mul_zero])
  have pa:0<a.natAbs:=by
   rcases Nat.eq_zero_or_pos a.natAbs with q|q
   .rw[q,xty]at h5
    have:=xuk hm0 (Nat.two_pow_pos (i+1074).toNat)
    unfold sv at h5;omega
   .exact q
  have pb:0<b.natAbs:=by
   rcases Nat.eq_zero_or_pos b.natAbs with q|q
   .rw[q,xty]at g5
    have:=xuk hn0 (Nat.two_pow_pos (j+1074).toNat)
    unfold sv at g5;omega
   .exact q
  have e1:=e_bd (xhf h1).1 h2 pa ha h5
  have e2:=e_bd (xhf g1).1 g2 pb hb g5
  have key:sg (s ^^ t) (m*n)*2 ^ (i+j+1074).toNat=a*b*2 ^ 1074:=by
   have k1:sg s m*2 ^ (i+1074).toNat=a*2 ^ 1074:=by
    have:=h4
    unfold sv at this
    rw[xhi]at this
    rw[<-this,Int.natCast_pow];rfl
   have k2:sg t n*2 ^ (j+1074).toNat=b*2 ^ 1074:=by
    have:=g4
    unfold sv at this
    rw[xhi]at this
    rw[<-this,Int.natCast_pow];rfl
   have k3:sg (s ^^ t) (m*n)=sg s m*sg t n:=by
    cases s<;>cases t<;>simp[sg,Int.neg_mul,Int.mul_neg]
   have k4:(2:Int) ^ (i+1074).toNat*2 ^ (j+1074).toNat=2 ^ (i+j+1074).toNat*2 ^ 1074:=by
    rw[<-Int.pow_add,<-Int.pow_add]
    congr 1
    omega
   have k5:(sg s m*2 ^ (i+1074).toNat)*(sg t n*2 ^ (j+1074).toNat)=(a*2 ^ 1074)*(b*2 ^ 1074):=by rw[k1,k2]
   have hp:(0:Int)<2 ^ 1074:=Int.pow_pos (by decide)
   refine Int.eq_of_mul_eq_mul_right (Int.ne_of_gt hp) ?_
   rw[k3]
   generalize (2:Int) ^ 1074=K at *
   generalize (2:Int) ^ (i+j+1074).toNat=L at *
   generalize (2:Int) ^ (i+1074).toNat=M at *
   generalize (2:Int) ^ (j+1074).toNat=N at *
   generalize sg s m=u at *
   generalize sg t n=v at *
   grind
  refine I_of (T:=sg (s ^^ t) (m*n)) (w:=0) (by omega) (by omega) hn key (xjl _ _).symm ?_
  intro hT
  have:0<m*n:=xuk hm0 hn0
  generalize m*n=k at *
  cases(s ^^ t)<;>simp[sg]<;>omega
theorem I_int{n:Int}(h:n.natAbs<2 ^ 53):IsI (FloatKind.f64.nearest n) n:=by
 show IsI (double.nearest (decide (n<0)) n.natAbs 0) n
 exact I_of (T:=n) (w:=0) (by omega) (by omega) h rfl rfl (λ_=>rfl)
theorem I_Cl{w:Nat}{n:Int}(h:IsI w n):∃s,Cl (.num s (n.natAbs*2 ^ 1074)) w/\sg s n.natAbs=n:=by
 obtain⟨s,m,e,h1,h2,h3,h4⟩:=h
 refine⟨s,⟨m,e,h1,h2,h3,I_abs h4⟩,?_⟩
 have h5:=I_abs h4
 rw[h5,xhi]at h4
 have hp:(0:Int)<2 ^ 1074:=Int.pow_pos (by decide)
 refine Int.eq_of_mul_eq_mul_right (Int.ne_of_gt hp) ?_
 rw[<-h4,Int.natCast_pow];rfl
theorem Cl_I{s:Bool}{k w:Nat}(h:Cl (.num s (k*2 ^ 1074)) w):IsI w (sg s k):=by
 obtain⟨m,e,h1,h2,h3,h4⟩:=h
 refine⟨s,m,e,h1,h2,h3,?_⟩
 rw[h4,xhi,Int.natCast_pow];rfl
theorem I_toInt{w:Nat}{n:Int}(h:IsI w n):(FloatKind.f64.decode w).toInt .zero=some n:=by
 obtain⟨s,h1,h2⟩:=I_Cl h
 rw[xom h1,Nat.mul_div_cancel _ (Nat.two_pow_pos _),h2]
def Fi(n:Int)(v:Value):Prop:=∃w,v=.float .f64 w/\IsI w n
def Fzi(a b:Int)(v:Value):Prop:=∃x y,v=.complex .f64 x y/\IsI x a/\IsI y b
theorem xjm{n:Int}{v:Value}(h:Fi n v):one1 v:=by
 obtain⟨w,rfl,-⟩:=h
 exact⟨rfl,rfl,λb hb=>by cases hb⟩
theorem xjn{a b:Int}{v:Value}(h:Fzi a b v):one1 v:=by
 obtain⟨x,y,rfl,-⟩:=h
 exact⟨rfl,rfl,λb hb=>by cases hb⟩
theorem zi_add{x y u v:Nat}{a b c d:Int}(hx:IsI x a)(hy:IsI y b)(hu:IsI u c)(hv:IsI v d)(h1:(a+c).natAbs<2 ^ 53)(h2:(b+d).natAbs<2 ^ 53) :
 ∃p q,Op.complexOp .add .f64 x y u v=.pure (.complex .f64 p q)/\IsI p (a+c)/\IsI q (b+d):=by
 obtain⟨p,e1,g1⟩:=hx.add hu h1
 obtain⟨q,e2,g2⟩:=hy.add hv h2
 refine⟨p,q,?_,g1,g2⟩
 have k1:Op.Complex.arith .add .f64 x u=.pure p:=by
  unfold Op.Complex.arith Op.floatArith
  show(Sem.bind (match double.add x u with
   |some r=>Pure.pure (Value.float .f64 r)
   |none=>_) _)=_
  rw[e1];rfl
 have k2:Op.Complex.arith .add .f64 y v=.pure q:=by
  unfold Op.Complex.arith Op.floatArith
  show(Sem.bind (match double.add y v with
   |some r=>Pure.pure (Value.float .f64 r)
   |none=>_) _)=_
  rw[e2];rfl
 show(do pure (Value.complex .f64 (<-Op.Complex.arith .add .f64 x u) (<-Op.Complex.arith .add .f64 y v)):Sem Value)=_
 rw[k1,k2];rfl
theorem ar_add{x u p:Nat}(e1:double.add x u=some p):Op.Complex.add x u=.pure p:=by
 unfold Op.Complex.add Op.Complex.arith Op.floatArith
 show(Sem.bind (match double.add x u with
  |some r=>Pure.pure (Value.float .f64 r)
  |none=>_) _)=_
 rw[e1];rfl
theorem ar_sub{x u p:Nat}(e1:double.sub x u=some p):Op.Complex.sub x u=.pure p:=by
 unfold Op.Complex.sub Op.Complex.arith Op.floatArith
 show(Sem.bind (match double.sub x u with
  |some r=>Pure.pure (Value.float .f64 r)
  |none=>_) _)=_
 rw[e1];rfl
theorem xjo{x u p:Nat}(e1:double.mul x u=some p):Op.Complex.mul x u=.pure p:=by
 unfold Op.Complex.mul Op.Complex.arith Op.floatArith
 show(Sem.bind (match double.mul x u with
  |some r=>Pure.pure (Value.float .f64 r)
  |none=>_) _)=_
 rw[e1];rfl
theorem zi_mul{x y u v:Nat}{a b c d:Int}(hx:IsI x a)(hy:IsI y b)(hu:IsI u c)(hv:IsI v d)(ha:a.natAbs<2 ^ 53)(hb:b.natAbs<2 ^ 53)(hc:c.natAbs<2 ^ 53)(hd:d.natAbs<2 ^ 53)(b1:(a*c).natAbs<2 ^ 51)(b2:(b*d).natAbs<2 ^ 51)(b3:(a*d).natAbs<2 ^ 51)(b4:(b*c).natAbs<2 ^ 51) :
 ∃p q,Op.complexOp .mul .f64 x y u v=.pure (.complex .f64 p q)/\IsI p (a*c-b*d)/\IsI q (a*d+b*c):=by
 obtain⟨p1,e1,g1⟩:=hx.mul hu (by omega) (by omega) (by omega)
 obtain⟨p2,e2,g2⟩:=hy.mul hv (by omega) (by omega) (by omega)
 obtain⟨p3,e3,g3⟩:=hx.mul hv (by omega) (by omega) (by omega)
 obtain⟨p4,e4,g4⟩:=hy.mul hu (by omega) (by omega) (by omega)
 obtain⟨p,e5,g5⟩:=g1.sub g2 (by omega)
 obtain⟨q,e6,g6⟩:=g3.add g4 (by omega)
 refine⟨p,q,?_,g5,g6⟩
 have hp:Op.Complex.product x y u v=.pure (p,q):=by
  unfold Op.Complex.product
  rw[xjo e1,xjo e2,xjo e3,xjo e4]
  show(do pure (<-Op.Complex.sub p1 p2,<-Op.Complex.add p3 p4):Sem (Nat×Nat))=_
  rw[ar_sub e5,ar_add e6];rfl
 show(do
  let(e,f) <-Op.Complex.product x y u v
  pure (Value.complex .f64 (<-Op.Complex.conv .f64 e .f64) (<-Op.Complex.conv .f64 f .f64)):Sem Value)=_
 rw[hp];rfl
structure PtIn (x:Mp):Prop where
 l0:0<=x.ln
 l1:x.ln<=63
 s0:0<=x.sm
 s1:x.sm<=63
 b0:bd x.b0 8
 b1:bd x.b1 8
def PtsIn(l:List Mp):Prop:=∀x∈l,PtIn x
theorem su_bd{f:Mp->Int}{b:Int}{l:List Mp}(hl:l.length<=13)(h0:0<=b)(h:∀x∈l,bd (f x) b):bd (su f l) (13*b):=by
 have h1:=su_le (f:=f) (b:=b) (l:=l) h
 have h2:(l.length:Int)*b<=13*b:=xvx (by omega) h0
 unfold bd;omega
theorem PtIn.ln{x:Mp}(h:PtIn x):bd x.ln 63:=by have:=h.l0;have:=h.l1;unfold bd;omega
theorem PtIn.sm{x:Mp}(h:PtIn x):bd x.sm 63:=by have:=h.s0;have:=h.s1;unfold bd;omega
section
variable{l:List Mp}
theorem bE(h:PtsIn l)(hl:l.length<=13):bd (sE l) 51597:=(su_bd (b:=3969) hl (by omega) λx hx=>((h x hx).sm.mul (h x hx).sm).mono (by omega)).mono (by omega)
end
open Go.Proofs
theorem xjp{v:AV}{call:xcw}{f:FuncId}{l:List AV}(h:((call [] f l mem0).bind λp=>Go.Ix.frz p.2.get deep p.1)=some v):RetF (λa=>a=v) (call [] f l mem0):=by
 rw[xug]at h
 obtain⟨⟨a,m'⟩,h1,h2⟩:=h
 exact⟨a,m',v,h1,h2,rfl⟩
def mW(a b:Int):Int:=w64 (a*b)
def aW(a b:Int):Int:=w64 (a+b)
def sW2(a b:Int):Int:=w64 (a-b)
structure Nm where
 a:Int
 b:Int
 c:Int
 d:Int
 e:Int
 f:Int
 g:Int
 h:Int
 i:Int
 x:Int
 y:Int
 z:Int
abbrev Nm.v(n:Nm):AV:=.agg [I n.a,I n.b,I n.c,I n.d,I n.e,I n.f,I n.g,I n.h,I n.i,I n.x,I n.y,I n.z]
structure Ep where
 day:Int
 bl:Int
 ph:Int
 mg:Int
def Ep.c(e:Ep):List AV:=[I e.day,I e.bl,I e.ph,I e.mg]
def Ep.r(d0:Int)(e:Ep):List AV:=[I (sW2 e.day d0),I e.bl,I 1]
def Ep.p(e:Ep):List AV:=[I e.ph]
theorem Ep.len(e:Ep):e.c.length=4:=rfl
theorem Ep.still(e:Ep):e.c.all still1=true:=rfl
def Cg(x y:Int):Prop:=∃k:Int,x=y+18446744073709551616*k
theorem Cg.refl(x:Int):Cg x x:=⟨0,by omega⟩
theorem w64_rng(n:Int):Cg (w64 n) n/\-9223372036854775808<=w64 n/\w64 n<=9223372036854775807:=by
 rw[xgt]
 have e:IntKind.i64.wrap n=if(n % 18446744073709551616) ≥ 9223372036854775808 then n % 18446744073709551616-18446744073709551616 else n % 18446744073709551616:=by
  show(if(true&&decide (n % (2 ^ 64:Int) ≥ (2 ^ 63:Int)))=true then n % (2 ^ 64:Int)-(2 ^ 64:Int)else n % (2 ^ 64:Int))=_
  simp
 rw[e]
 have h1:=xx5 n (show(18446744073709551616:Int)≠0 by omega)
 have h2:=xx6 n (show(0:Int)<18446744073709551616 by omega)
 have h3:=Int.mul_ediv_add_emod n 18446744073709551616
 split
 .exact⟨⟨-(n / 18446744073709551616)-1,by omega⟩,by omega,by omega⟩
 .exact⟨⟨-(n / 18446744073709551616),by omega⟩,by omega,by omega⟩
theorem Cg.w{x y:Int}(h:Cg x y):Cg (w64 x) y:=by
 obtain⟨k,h⟩:=h
 obtain⟨⟨j,e⟩,-⟩:=w64_rng x
 exact⟨k+j,by rw[e,h];omega⟩
theorem Cg.add{a b x y:Int}(h:Cg a x)(k:Cg b y):Cg (a+b) (x+y):=by
 obtain⟨p,h⟩:=h
 obtain⟨q,k⟩:=k
 exact⟨p+q,by rw[h,k];omega⟩
theorem Cg.sub{a b x y:Int}(h:Cg a x)(k:Cg b y):Cg (a-b) (x-y):=by
 obtain⟨p,h⟩:=h
 obtain⟨q,k⟩:=k
 exact⟨p-q,by rw[h,k];omega⟩
theorem Cg.mul{a b x y:Int}(h:Cg a x)(k:Cg b y):Cg (a*b) (x*y):=by
 obtain⟨p,h⟩:=h
 obtain⟨q,k⟩:=k
 exact⟨x*q+p*y+18446744073709551616*(p*q),by rw[h,k];grind⟩
theorem Cg.fin{x y:Int}(h:Cg x y)(h1:bd x 9223372036854775807)(hb:bd y 9223372036854775807):x=y:=by
 obtain⟨k,h⟩:=h
 unfold bd at *
 omega
theorem cg_m{a b x y:Int}(h:Cg a x)(k:Cg b y):Cg (mW a b) (x*y):=(h.mul k).w
theorem cg_a{a b x y:Int}(h:Cg a x)(k:Cg b y):Cg (aW a b) (x+y):=(h.add k).w
theorem aW_of{a b y:Int}(h:Cg (aW a b) y)(hb:bd y 9223372036854775807):aW a b=y:=by
 obtain⟨k,e⟩:=h
 obtain⟨-,h1,h2⟩:=w64_rng (a+b)
 unfold aW at *
 unfold bd at hb
 omega
theorem Cg.trans{x y z:Int}(h:Cg x y)(e:y=z):Cg x z:=e▸h
end Go.Ix
namespace Go.Ix
variable{R:Type}{m:Mem}
theorem xhj:∀l:List Int,l.flatMap intE=l.map I
 |[]=>rfl
 |x::l=>by rw[xu7,xhj l];rfl
theorem xon(l:List Int):(l.flatMap intE).length=l.length:=by rw[xhj];simp
@[simp high] theorem ldRow_int{l:List Int}{k:Nat}{fz:Bool}(hk:k<l.length):ldRow false 1 0 k (some (.row (l.flatMap intE) 0 fz))=some (I (at0 l k)):=by
  simp only[ldRow,Nat.beq_refl,cond_true,rd,xu6,xtt]
  rw[xhj,<-List.map_drop,xe2 hk,xfl hk]
  rfl
@[simp high] theorem stRow_int{l:List Int}{k:Nat}{v:Int}(hk:k<l.length):stRow 1 0 k (I v) (some (.row (l.flatMap intE) 0 false))=some (.row ((l.set k v).flatMap intE) 0 false):=by
  have h:(0:Nat)=0/\(I v).cells.length=1/\k+1<=(l.flatMap intE).length/\((I v).cells.all AV.one)=true:=⟨rfl,rfl,by rw[xon];omega,rfl⟩
  rw[xle,xtq h,cond_true]
  simp only[xhj,xdl,cells_I]
  congr 2
  rw[List.map_set,xxc,xta (by simpa using hk)]
  simp
end Go.Ix
namespace Go.Ix
open Go.Proofs
variable{α:Type}{z:Nat}{enc:α->List AV}{l:List α}{a:AV}
def Gq{α:Type}(z:Nat)(enc:α->List AV)(u:Nat)(T:List Nat)(m:Mem)(a:AV)(l:List α):Prop:=
 (a=nilS/\l=[])\/∃s t ver,t∈T/\a=.sref (u,s,t) ver 0 l.length z true/\m.get (u,s,t)=some (.row (l.flatMap enc) ver false)
theorem Gq.nil{u:Nat}{T:List Nat}{m:Mem}:Gq z enc u T m nilS []:=Or.inl ⟨rfl,rfl⟩
theorem Gq.frame{u:Nat}{T:List Nat}{m m':Mem}(h:Gq z enc u T m a l)(hm:∀s t,t∈T->m'.get (u,s,t)=m.get (u,s,t)):Gq z enc u T m' a l:=by
 rcases h with h|⟨s,t,ver,h0,h1,h2⟩
 .exact Or.inl h
 .exact Or.inr ⟨s,t,ver,h0,h1,by rw[hm _ _ h0];exact h2⟩
theorem Gq.app(hz:∀x,(enc x).length=z)(h0:0<z){u t0 s0 bytes:Nat}{T:List Nat}{m:Mem}(ht:t0∈T)(hr:xda (l.length+1) bytes)(h:Gq z enc u T m a l)(x:α) :
 ∃a' m',(∀{R:Type} (k:AV->Mem->Option R),sApp z bytes (u,s0,t0) (some (enc x,1)) a m k=k a' m')/\Gq z enc u T m' a' (l++[x])/\m'.next=m.next/\∀j:Id,j.2.2∉T->m'.get j=m.get j:=by
 rcases h with ⟨rfl,rfl⟩|⟨s,t,ver,h1,rfl,hg⟩
 .refine⟨.sref (u,s0,t0) 0 0 1 z true,m.new (u,s0,t0) (.row (enc x) 0 false),λk=>?_,Or.inr ⟨s0,t0,0,ht,rfl,by simp⟩,rfl,λj hj=>?_⟩
  .simp only[sApp]
   rw[xtb (by omega),xta (by simpa using hr)]
  .rw[Mem.get_new,xtb (by rintro rfl;exact hj ht)]
 .have hl:=xfk hz l
  refine⟨.sref (u,s,t) (ver+1) 0 (l.length+1) z true,m.set (u,s,t) (.row (l.flatMap enc++enc x) (ver+1) false),λk=>?_,Or.inr ⟨s,t,ver+1,h1,by simp,by simp⟩,rfl,λj hj=>?_⟩
  .simp only[sApp,hg]
   rw[xta ⟨trivial,trivial,by omega,hr⟩,xtb (by omega),xtb (by rw[hl,xua];omega),xu9,xud (by omega)]
  .rw[Mem.get_set,xtb (by rintro rfl;exact hj h1)]
theorem Gq.frz(hz:∀x,(enc x).length=z)(hs:∀x,(enc x).all still1=true){u:Nat}{T:List Nat}{m:Mem}(h:Gq z enc u T m a l):∃a',Sl enc a' l/\Go.Ix.frz m.get deep a=some a':=by
 rcases h with ⟨rfl,rfl⟩|⟨s,t,ver,_,rfl,hg⟩
 .exact⟨nilS,Or.inl ⟨rfl,rfl⟩,rfl⟩
 .have hl:=xfk hz l
  refine⟨.slit (l.flatMap enc) l.length false,Sl.lit l false,?_⟩
  have:=xhd (objs:=m.get) (id:=(u,s,t)) (cs:=l.flatMap enc) (ver:=ver) (off:=0) (n:=l.length) (z:=z) (k:=4) (f:=false) (x:=true) hg (by omega) (by
   rw[xu9,xud (by omega)];exact xib hs l)
  rw[xu9,xud (by omega)]at this
  exact this
theorem Gq.len{u:Nat}{T:List Nat}{m:Mem}{t e:TypeId}(ht:Try.prog.underlying t=some (.slice e))(h:Gq z enc u T m a l):sLen Try.prog t a=some (I l.length):=by
 rcases h with ⟨rfl,rfl⟩|⟨s,t,ver,_,rfl,hg⟩
 .exact xjd ht
 .rfl
end Go.Ix
