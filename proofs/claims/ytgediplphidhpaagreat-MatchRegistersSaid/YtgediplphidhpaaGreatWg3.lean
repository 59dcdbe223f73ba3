import Derived.Test.YtgediplphidhpaaGreatWg2
import Derived.Test.YtgediplphidhpaaGreatWg0
import Derived.ProofKit
set_option linter.unusedSimpArgs false
set_option linter.unusedVariables false
set_option exponentiation.threshold 3000
namespace Go.Ix
open Ieee
variable{P:Program}
inductive Fc where
 |num (s:Bool) (V:Nat)
 |inf (s:Bool)
 |nan
def Cl:Fc->Nat->Prop
 | .num s V,w=>∃m e,double.read w=.number s m e/\-1074<=e/\e<=900/\sv m e=V
 | .inf s,w=>double.read w=.infinity s
 | .nan,w=>∃s t,double.read w=.nan s t
def fcs(x:Nat):Fc:=match single.read x with
 | .number s m e=>.num s (sv m e)
 | .infinity s=>.inf s
 | .nan ..=>.nan
theorem x12u{x:Nat}{s:Bool}{m:Nat}{e:Int}(h:single.read x=.number s m e):m<2 ^ 24/\-149<=e/\e<=104:=by
 have e1:single.leastPlace=-149:=rfl
 have e3:single.binade=2 ^ 23:=rfl
 have e4:single.infRung=255*2 ^ 23:=rfl
 have e5:single.signWeight=2 ^ 31:=rfl
 unfold Format.read at h
 simp only[e1,e3,e4,e5]at h
 generalize x % 2 ^ 31=r at h
 split at h
 .cases h;omega
 .split at h
  .cases h;omega
  .split at h<;>cases h
theorem xvs{x:Nat}{s:Bool}{m:Nat}{e:Int}(h:double.read x=.number s m e):m<2 ^ 53/\-1074<=e/\e<=971:=by
 have e1:double.leastPlace=-1074:=rfl
 have e3:double.binade=2 ^ 52:=rfl
 have e4:double.infRung=2047*2 ^ 52:=rfl
 have e5:double.signWeight=2 ^ 63:=rfl
 unfold Format.read at h
 simp only[e1,e3,e4,e5]at h
 generalize x % 2 ^ 63=r at h
 split at h
 .cases h;omega
 .split at h
  .cases h;omega
  .split at h<;>cases h
theorem x12v(a r:Nat)(h:r<2 ^ 52-1):Cl .nan (a % 2*2 ^ 63+0x7ff0000000000000+1+r):=by
 have e1:double.leastPlace=-1074:=rfl
 have e3:double.binade=2 ^ 52:=rfl
 have e4:double.infRung=2047*2 ^ 52:=rfl
 have e5:double.signWeight=2 ^ 63:=rfl
 unfold Cl Format.read
 simp only[e1,e3,e4,e5]
 have h1:(a % 2*2 ^ 63+0x7ff0000000000000+1+r) % 2 ^ 63=0x7ff0000000000000+1+r:=by omega
 rw[h1,if_neg (by omega),if_neg (by omega),if_neg (by omega)]
 exact⟨_,_,rfl⟩
theorem inf_Cl(s:Bool):Cl (.inf s) (double.write (.infinity s)):=by cases s<;>rfl
def Fa(c:Fc)(v:Value):Prop:=∃w,v=.float .f64 w/\Cl c w
def Fu(c:Fc)(v:Value):Prop:=∃w:Nat,v=.int .u64 w/\Cl c w
def Fz(a b:Fc)(v:Value):Prop:=∃x y,v=.complex .f64 x y/\Cl a x/\Cl b y
theorem xuk{c:Fc}{v:Value}(h:Fa c v):one1 v:=by
 obtain⟨w,rfl,-⟩:=h
 exact⟨rfl,rfl,λb hb=>by cases hb⟩
theorem one_U{c:Fc}{v:Value}(h:Fu c v):one1 v:=by
 obtain⟨w,rfl,-⟩:=h
 exact⟨rfl,rfl,λb hb=>by cases hb⟩
theorem one_Z{a b:Fc}{v:Value}(h:Fz a b v):one1 v:=by
 obtain⟨x,y,rfl,-⟩:=h
 exact⟨rfl,rfl,λb hb=>by cases hb⟩
theorem f2f(x:Nat):OkR P (Conv.floatToFloat .f32 x .f64) (Fa (fcs x)):=by
 unfold Conv.floatToFloat
 rw[if_neg (by decide)]
 unfold fcs
 simp only[show FloatKind.f32.decode x=single.read x from rfl]
 cases h:single.read x with
 |nan s t=>
  refine OkR.choose rfl λt=>OkR.pure ⟨_,rfl,?_⟩
  exact x12v t _ (x1aa _ (by omega))
 |infinity s=>exact OkR.pure ⟨_,rfl,inf_Cl s⟩
 |number s m e=>
  obtain⟨h1,h2,h3⟩:=x12u h
  obtain⟨m',e',g1,g2,g3,g4⟩:=xze (neg:=s) (mag:=m) (place:=e) (by omega) (by omega) (by omega)
  have hi:(double.read (double.write (.number s m e))).isInfinity=false:=by
   show(double.read (double.nearest s m e)).isInfinity=false
   rw[g1];rfl
  simp only[show ∀d,FloatKind.f64.encode d=double.write d from λ_=>rfl,show ∀d,FloatKind.f64.decode d=double.read d from λ_=>rfl,hi]
  exact OkR.pure ⟨_,rfl,m',e',g1,g2,g3,g4⟩
theorem c2c(x y:Nat):OkR P (Conv.complexToComplex .f32 x y .f64) (Fz (fcs x) (fcs y)):=by
 unfold Conv.complexToComplex
 refine OkR.bind (Q:=Fa (fcs x)) ?_ (f2f x)
 rintro _ ⟨u,rfl,hu⟩
 refine OkR.bind (Q:=Fa (fcs y)) ?_ (f2f y)
 rintro _ ⟨w,rfl,hw⟩
 exact OkR.pure ⟨u,w,rfl,hu,hw⟩
theorem cmp_scale(a b:Int)(k:Nat)(hk:0<k):compare (a*k) (b*k)=compare a b:=by
 have hk':(0:Int)<k:=by omega
 have h1:a*k<b*k↔a<b:=Int.mul_lt_mul_right hk'
 have h2:a*k=b*k↔a=b:=⟨λh=>Int.eq_of_mul_eq_mul_right (by omega) h,λh=>by rw[h]⟩
 simp only[compare,compareOfLessAndEq,h1,h2]
theorem xul(s:Bool)(m:Nat)(i b:Int)(hb:-1074<=b)(hi:b<=i):signed s m (i-b).toNat*(2 ^ (b+1074).toNat:Nat)=sg s (sv m i):=by
 have e:m <<< (i-b).toNat*2 ^ (b+1074).toNat=sv m i:=by
  unfold sv
  rw[Nat.shiftLeft_eq,Nat.mul_assoc,<-Nat.pow_add]
  congr 2;omega
 unfold signed sg
 cases s
 .simp only[x1a0,x19l]
  rw[<-e];simp
 .simp only[x19o]
  rw[<-e,Int.neg_mul];simp
theorem x12w{s t:Bool}{m n:Nat}{i j:Int}(hi:-1074<=i)(hj:-1074<=j):(Datum.number s m i).order (.number t n j)=some (compare (sg s (sv m i)) (sg t (sv n j))):=by
 show some (compare (signed s m (i-min i j).toNat) (signed t n (j-min i j).toNat))=_
 rw[<-cmp_scale _ _ (2 ^ (min i j+1074).toNat) (Nat.two_pow_pos _),xul s m i _ (by omega) (by omega),xul t n j _ (by omega) (by omega)]
def Fc.order:Fc->Fc->Option Ordering
 | .nan,_|_,.nan=>none
 | .inf s,.inf t=>some (compare t.toNat s.toNat)
 | .inf s,.num ..=>some (if s then .lt else .gt)
 | .num ..,.inf t=>some (if t then .gt else .lt)
 | .num s V,.num t W=>some (compare (sg s V) (sg t W))
theorem order_Cl{a b:Fc}{x y:Nat}(hx:Cl a x)(hy:Cl b y):double.order x y=a.order b:=by
 unfold Format.order
 cases a with
 |nan=>
  obtain⟨s,t,h⟩:=hx
  rw[h];rfl
 |inf s=>
  have h:double.read x=.infinity s:=hx
  rw[h]
  cases b with
  |nan=>obtain⟨s,t,h⟩:=hy;rw[h];rfl
  |inf t=>have h:double.read y=.infinity t:=hy;rw[h];rfl
  |num t W=>obtain⟨n,j,h,-⟩:=hy;rw[h];rfl
 |num s V=>
  obtain⟨m,i,h,h1,h2,h3⟩:=hx
  rw[h]
  cases b with
  |nan=>obtain⟨s,t,h⟩:=hy;rw[h];rfl
  |inf t=>have h:double.read y=.infinity t:=hy;rw[h];rfl
  |num t W=>
   obtain⟨n,j,h',g1,g2,g3⟩:=hy
   rw[h',x12w h1 g1,h3,g3]
   rfl
def cmpB(op:BinOp)(c:Option Ordering):Bool:=match op with
 | .eql=>c == some .eq
 | .neq=>c != some .eq
 | .lss=>c == some .lt
 | .leq=>c == some .lt||c == some .eq
 | .gtr=>c == some .gt
 |_=>c == some .gt||c == some .eq
def isCmp:BinOp->Bool
 | .eql | .neq | .lss | .leq | .gtr | .geq=>true
 |_=>false
section
variable{op:BinOp}{t:TypeId}{x y:Operand}{a b:AV}{c d:Fc}
theorem x12x(ho:isCmp op=true){u v:Nat}:binS op t x y [.float .f64 u,.float .f64 v]=.pure (.bool (cmpB op (double.order u v))):=by
 cases op
 case eql=>rfl
 case neq=>rfl
 case lss=>rfl
 case leq=>rfl
 case gtr=>rfl
 case geq=>rfl
 all_goals cases ho
theorem xqq(ho:isCmp op=true)(ha:Is (Fa c) a)(hb:Is (Fa d) b):sBin P op t x y a b=some (B (cmpB op (c.order d))):=by
 refine sBin_1 (v0:=.bool (cmpB op (c.order d))) ha hb rfl ?_
 rintro _ _ ⟨u,rfl,hu⟩ ⟨v,rfl,hv⟩
 rw[<-order_Cl hu hv]
 rw[x12x ho];exact OkR.pure rfl
theorem s_real{p q:Fc}{ts:Array TypeId}(ha:Is (Fz p q) a):∃r,xoi P .real ts t [a]=some r/\Is (Fa p) r:=by
 refine xxa ha ?_
 rintro _ ⟨u,v,rfl,hu,hv⟩
 exact OkR.pure ⟨xuk ⟨u,rfl,hu⟩,u,rfl,hu⟩
theorem s_imag{p q:Fc}{ts:Array TypeId}(ha:Is (Fz p q) a):∃r,xoi P .imag ts t [a]=some r/\Is (Fa q) r:=by
 refine xxa ha ?_
 rintro _ ⟨u,v,rfl,hu,hv⟩
 exact OkR.pure ⟨xuk ⟨v,rfl,hv⟩,v,rfl,hv⟩
end
def Fc.tr:Fc->Fc
 | .num s V=>.num s (V / 2 ^ 1074*2 ^ 1074)
 |c=>c
def Fc.abs:Fc->Fc
 | .num _ V=>.num false V
 | .inf _=>.inf false
 | .nan=>.nan
def trM(m:Nat)(e:Int):Nat:=if 0<=e then m*2 ^ e.toNat else m / 2 ^ (-e).toNat
theorem xxb{m:Nat}{e:Int}(he:-1074<=e):trM m e=sv m e / 2 ^ 1074:=by
 unfold trM sv
 by_cases c:0<=e
 .rw[if_pos c,show(e+1074).toNat=e.toNat+1074 by omega,Nat.pow_add,<-Nat.mul_assoc,Nat.mul_div_cancel _ (Nat.two_pow_pos _)]
 .rw[if_neg c,show(1074:Nat)=(-e).toNat+(e+1074).toNat by omega,Nat.pow_add]
  exact(Nat.mul_div_mul_right _ _ (Nat.two_pow_pos _)).symm
theorem cut_zero(s:Bool)(n d:Nat):Toward.zero.cut s n d=n / 2 ^ d:=by
 unfold Toward.cut
 simp only[Nat.shiftLeft_eq,Nat.one_mul]
 show n / 2 ^ min d (n.log2+2)+0=_
 rcases Nat.le_total d (n.log2+2)with h|h
 .rw[x1ca h];rfl
 .rw[Nat.min_eq_right h]
  have hu:n<2 ^ (n.log2+1):=Nat.lt_log2_self
  have h1:n<2 ^ (n.log2+2):=x19m hu (Nat.pow_le_pow_right (by omega) (by omega))
  have h2:n<2 ^ d:=x19m h1 (Nat.pow_le_pow_right (by omega) h)
  rw[Nat.div_eq_of_lt h1,Nat.div_eq_of_lt h2]
theorem xzg(s:Bool)(m:Nat)(e:Int):(Datum.number s m e).integral .zero=.number s (trM m e) 0:=by
 show Datum.number s (Toward.zero.cut s (m <<< e.toNat) (-e).toNat) 0=_
 congr 1
 rw[cut_zero,Nat.shiftLeft_eq]
 unfold trM
 by_cases c:0<=e
 .rw[if_pos c,show(-e).toNat=0 by omega];simp
 .rw[if_neg c,show e.toNat=0 by omega];simp
theorem near_tr(neg:Bool){m:Nat}{e:Int}(hm:m<2 ^ 53)(he:-1074<=e)(he2:e<=900):∃m' e',double.read (double.nearest neg (trM m e) 0)=.number neg m' e'/\-1074<=e'/\e'<=900/\sv m' e'=trM m e*2 ^ 1074:=by
 by_cases c:0<=e
 .have ht:trM m e=m*2 ^ e.toNat:=by unfold trM;rw[if_pos c]
  by_cases h0:m=0
  .have:trM m e=0:=by rw[ht,h0];simp
   rw[this]
   exact xze (by omega) (by omega) (by omega)
  .have hpos:0<trM m e:=by rw[ht];exact x1at (by omega) (Nat.two_pow_pos _)
   have hlog:(trM m e).log2<=52+e.toNat:=by
    have h1:trM m e<2 ^ (53+e.toNat):=by rw[ht,Nat.pow_add];exact Nat.mul_lt_mul_of_pos_right hm (Nat.two_pow_pos _)
    have:=(Nat.log2_lt (n:=trM m e) (k:=53+e.toNat) (by omega)).mpr h1
    omega
   have hd:(0:Int)<xo7 0 (trM m e)->2 ^ (xo7 0 (trM m e)-0).toNat ∣ trM m e:=by
    intro hlt
    have hdv:2 ^ e.toNat ∣ trM m e:=⟨m,by rw[ht,Nat.mul_comm]⟩
    refine Nat.dvd_trans (Nat.pow_dvd_pow 2 ?_) hdv
    have:xo7 0 (trM m e)<=e:=by unfold xo7;omega
    omega
   have hb:xo7 0 (trM m e)<=900:=by unfold xo7;omega
   exact⟨_,_,xzc neg hpos hd hb,by unfold xo7;omega,hb,by rw[xzd (by omega) hd];rfl⟩
 .have h1:trM m e<2 ^ 53:=by
   unfold trM
   rw[if_neg c]
   exact Nat.lt_of_le_of_lt (x1dl ..) hm
  exact xze (by omega) (by omega) h1
theorem tr_Cl{s:Bool}{V:Nat}{w:Nat}(h:Cl (.num s V) w)(neg:Bool):Cl (.num neg (V / 2 ^ 1074*2 ^ 1074)) (double.nearest neg (V / 2 ^ 1074) 0):=by
 obtain⟨m,e,h1,h2,h3,h4⟩:=h
 obtain⟨m',e',g1,g2,g3,g4⟩:=near_tr neg (xvs h1).1 h2 h3
 rw[xxb h2,h4]at g1 g4
 exact⟨m',e',g1,g2,g3,g4⟩
theorem quiet_Cl(s:Bool)(t:Nat):Cl .nan (double.write (.nan s (double.quiet t))):=by
 have e3:double.binade=2 ^ 52:=rfl
 have e4:double.infRung=2047*2 ^ 52:=rfl
 have e5:double.signWeight=2 ^ 63:=rfl
 have hq:double.quiet t % 2 ^ 52≠0:=by
  intro h
  have h1:(double.quiet t % 2 ^ 52).testBit 51=true:=by
   rw[Nat.testBit_mod_two_pow]
   unfold Format.quiet
   rw[Nat.testBit_or,show Nat.testBit (2 ^ (double.fractionBits-1)) 51=true from by decide]
   simp
  rw[h]at h1
  simp at h1
 show Cl .nan (double.word s (double.infRung+double.quiet t % double.binade))
 generalize hg:double.quiet t % double.binade=g
 have hg2:g<2 ^ 52:=by rw[<-hg,e3];exact x1aa _ (Nat.two_pow_pos _)
 have hg3:g≠0:=by rw[<-hg,e3];exact hq
 unfold Cl Format.word Format.read
 simp only[e3,e4,e5]
 have h1:(if s=true then 2 ^ 63+(2047*2 ^ 52+g)else 2047*2 ^ 52+g) % 2 ^ 63=2047*2 ^ 52+g:=by
  cases s
  .simp;omega
  .simp;omega
 rw[h1,if_neg (by omega),if_neg (by omega),if_neg (by omega)]
 exact⟨_,_,rfl⟩
theorem trunc_Cl{c:Fc}{w:Nat}(h:Cl c w):OkR P (Extern.MathFloor.toIntegral "math.archTrunc" .zero #[.float .f64 w]) (Fa c.tr):=by
 show OkR P (match double.read w with
  | .nan s t=>
    if double.quiet t=t then(Pure.pure (Value.float .f64 w):Sem Value)else do
    let kept <-choose (.extern "math.Floor,Ceil,Trunc,RoundToEven.signallingNaN kept" 2)
    Pure.pure (Value.float .f64 (if kept == 1 then w else double.write (.nan s (double.quiet t))))
  |d=>Pure.pure (Value.float .f64 (double.write (d.integral .zero)))) _
 cases c with
 |nan=>
  have h':=h
  obtain⟨s,t,h⟩:=h
  rw[h]
  simp only
  by_cases q:double.quiet t=t
  .rw[if_pos q];exact OkR.pure ⟨w,rfl,h'⟩
  .rw[if_neg q]
   refine OkR.choose rfl λk=>OkR.pure ?_
   generalize (Question.extern "math.Floor,Ceil,Trunc,RoundToEven.signallingNaN kept" 2).cut k=kk
   by_cases hk:(kk == 1)=true
   .rw[if_pos hk];exact⟨w,rfl,h'⟩
   .rw[if_neg hk];exact⟨_,rfl,quiet_Cl s t⟩
 |inf s=>
  have h:double.read w=.infinity s:=h
  rw[h]
  exact OkR.pure ⟨_,rfl,inf_Cl s⟩
 |num s V=>
  have h':=h
  obtain⟨m,e,h1,h2,h3,h4⟩:=h
  rw[h1]
  simp only
  rw[xzg,xxb h2,h4]
  exact OkR.pure ⟨_,rfl,tr_Cl h' s⟩
theorem x12y{s:Bool}{V:Nat}{w:Nat}(h:Cl (.num s V) w):(FloatKind.f64.decode w).toInt .zero=some (sg s (V / 2 ^ 1074)):=by
 obtain⟨m,e,h1,h2,h3,h4⟩:=h
 show(double.read w).toInt .zero=_
 rw[h1]
 unfold Datum.toInt
 rw[xzg,xxb h2,h4]
 show some (signed s (V / 2 ^ 1074) 0)=_
 unfold signed sg
 rw[Nat.shiftLeft_zero]
theorem abs_Cl{c:Fc}{w:Nat}(h:Cl c w):Cl c.abs (w % 2 ^ 63):=by
 have e5:double.signWeight=2 ^ 63:=rfl
 have hr:double.read (w % 2 ^ 63)=match double.read w with
  | .number _ m e=>.number false m e
  | .infinity _=>.infinity false
  | .nan _ t=>.nan false t:=by
  unfold Format.read
  simp only[e5,Nat.mod_mod]
  have h1:(w % 2 ^ 63 / 2 ^ 63 % 2 == 1)=false:=by
   have:w % 2 ^ 63 / 2 ^ 63=0:=by omega
   rw[this];rfl
  rw[h1]
  by_cases c1:w % 2 ^ 63<double.binade
  .simp only[if_pos c1]
  .by_cases c2:w % 2 ^ 63<double.infRung
   .simp only[if_neg c1,if_pos c2]
   .by_cases c3:w % 2 ^ 63=double.infRung
    .simp only[if_neg c1,if_neg c2,if_pos c3]
    .simp only[if_neg c1,if_neg c2,if_neg c3]
 cases c with
 |nan=>obtain⟨s,t,h⟩:=h;exact⟨false,t,by rw[hr,h]⟩
 |inf s=>have h:double.read w=.infinity s:=h;show double.read _=_;rw[hr,h]
 |num s V=>obtain⟨m,e,h1,h2,h3,h4⟩:=h;exact⟨m,e,by rw[hr,h1],h2,h3,h4⟩
end Go.Ix
namespace Go.Ix
open Ieee
variable{P:Program}
theorem near_0(neg:Bool)(place:Int):double.read (double.nearest neg 0 place)=.number neg 0 (-1074):=by
 unfold Format.nearest
 rw[if_pos rfl,xx8 neg (by omega),if_pos (by omega)]
theorem xxc(s:Bool)(n:Nat):(sg s n).natAbs=n:=by cases s<;>simp[sg]
theorem xvt(s:Bool)(n k:Nat):sg s (n*k)=sg s n*k:=by cases s<;>simp[sg,Int.neg_mul]
theorem I_abs{s:Bool}{m:Nat}{e n:Int}(h:sg s (sv m e)=n*2 ^ 1074):sv m e=n.natAbs*2 ^ 1074:=by
 have h1:=congrArg Int.natAbs h
 rw[xxc,x1c9]at h1
 exact h1
theorem I_of{neg:Bool}{T w:Int}{mag:Nat}{place:Int}{n:Int}(hp:-1074<=place)(hp2:place<=900)(hn:n.natAbs<2 ^ 53)(h:T*2 ^ (place+1074).toNat=n*2 ^ 1074)(hm:mag=T.natAbs)(hneg:T≠0->neg=decide (T<0)):IsI (double.nearest neg mag place) n:=by
 have hs:sv mag place=n.natAbs*2 ^ 1074:=by
  have h1:=congrArg Int.natAbs h
  rw[x1c9,x1c9]at h1
  subst hm
  exact h1
 obtain⟨m,e,h1,h2,h3,h4⟩:=near_I (neg:=neg) hp hp2 hn hs
 refine⟨neg,m,e,h1,h2,h3,?_⟩
 rw[h4,xvt]
 have hc:((2 ^ 1074:Nat):Int)=2 ^ 1074:=Int.natCast_pow 2 1074
 rw[hc]
 congr 1
 by_cases hT:T=0
 .subst hT
  rw[Int.zero_mul]at h
  have:n=0:=by
   rcases x1cb.mp h.symm with h0|h0
   .exact h0
   .exact absurd h0 (Int.ne_of_gt (Int.pow_pos (by decide)))
  subst this
  cases neg<;>rfl
 .have hk:(0:Int)<2 ^ (place+1074).toNat:=Int.pow_pos (by decide)
  have hk2:(0:Int)<2 ^ 1074:=Int.pow_pos (by decide)
  rw[hneg hT]
  by_cases hl:T<0
  .rw[x19h hl]
   have:n*2 ^ 1074<0:=by rw[<-h];exact Int.mul_neg_of_neg_of_pos hl hk
   have hn0:n<0:=by
    rcases Int.lt_or_le n 0 with g|g
    .exact g
    .exact absurd (x19z g (Int.le_of_lt hk2)) (by omega)
   unfold sg
   rw[if_pos rfl]
   omega
  .rw[x19w hl]
   have:0<=n*2 ^ 1074:=by rw[<-h];exact x19z (by omega) (Int.le_of_lt hk)
   have hn0:0<=n:=by
    rcases Int.lt_or_le n 0 with g|g
    .exact absurd (Int.mul_neg_of_neg_of_pos g hk2) (by omega)
    .exact g
   unfold sg
   rw[if_neg (by decide)]
   omega
theorem write_num(s:Bool)(m:Nat)(e:Int):double.write (.number s m e)=double.nearest s m e:=rfl
theorem I_sum{s t:Bool}{m n:Nat}{i j a b:Int}(hi:-1074<=i)(hj:-1074<=j)(hi2:i<=900)(ha:sg s (sv m i)=a*2 ^ 1074)(hb:sg t (sv n j)=b*2 ^ 1074)(hn:(a+b).natAbs<2 ^ 53) :
 ∃d,(Datum.number s m i).sum (.number t n j)=some d/\IsI (double.write d) (a+b):=by
 refine⟨_,rfl,?_⟩
 rw[write_num]
 refine I_of (T:=signed s m (i-min i j).toNat+signed t n (j-min i j).toNat) (w:=0) (by omega) (by omega) hn ?_ rfl (λh=>if_neg h)
 have h1:=xul s m i (min i j) (by omega) (by omega)
 have h2:=xul t n j (min i j) (by omega) (by omega)
 have hc:(((2:Nat) ^ (min i j+1074).toNat:Nat):Int)=2 ^ (min i j+1074).toNat:=Int.natCast_pow 2 _
 rw[hc]at h1 h2
 rw[x1av,h1,h2,ha,hb,x1av]
theorem IsI.add{x y:Nat}{a b:Int}(hx:IsI x a)(hy:IsI y b)(hn:(a+b).natAbs<2 ^ 53):∃r,double.add x y=some r/\IsI r (a+b):=by
 obtain⟨s,m,i,h1,h2,h3,h4⟩:=hx
 obtain⟨t,n,j,g1,g2,g3,g4⟩:=hy
 obtain⟨d,hd,hI⟩:=I_sum h2 g2 h3 h4 g4 hn
 refine⟨double.write d,?_,hI⟩
 unfold Format.add
 rw[h1,g1,hd];rfl
theorem sg_not(s:Bool)(n:Nat):sg (!s) n=-sg s n:=by cases s<;>simp[sg]
theorem IsI.sub{x y:Nat}{a b:Int}(hx:IsI x a)(hy:IsI y b)(hn:(a-b).natAbs<2 ^ 53):∃r,double.sub x y=some r/\IsI r (a-b):=by
 obtain⟨s,m,i,h1,h2,h3,h4⟩:=hx
 obtain⟨t,n,j,g1,g2,g3,g4⟩:=hy
 obtain⟨d,hd,hI⟩:=I_sum (t:=!t) (b:=-b) h2 g2 h3 h4 (by rw[sg_not,g4,Int.neg_mul]) (by rw[<-Int.sub_eq_add_neg];exact hn)
 refine⟨double.write d,?_,by rw[Int.sub_eq_add_neg];exact hI⟩
 unfold Format.sub
 rw[h1,g1]
 show((Datum.number s m i).sum (Datum.number (!t) n j)).map double.write=_
 rw[hd];rfl
theorem e_bd{m:Nat}{e:Int}{N:Nat}(hm:m<2 ^ 53)(he:-1074<=e)(h0:0<N)(hN:N<2 ^ 53)(h:sv m e=N*2 ^ 1074):-53<=e/\e<=53:=by
 unfold sv at h
 have hm0:0<m:=by
  rcases Nat.eq_zero_or_pos m with g|g
  .subst g
   rw[x19q]at h
   have:=x1at h0 (Nat.two_pow_pos 1074)
   omega
  .exact g
 constructor
 .rcases Int.lt_or_le e (-53)with g|g
  .exfalso
   have h1:m*2 ^ (e+1074).toNat<2 ^ 53*2 ^ (e+1074).toNat:=Nat.mul_lt_mul_of_pos_right hm (Nat.two_pow_pos _)
   rw[<-Nat.pow_add]at h1
   have h2:2 ^ (53+(e+1074).toNat)<=2 ^ 1074:=Nat.pow_le_pow_right (by omega) (by omega)
   have h3:1*2 ^ 1074<=N*2 ^ 1074:=x1ac _ h0
   rw[h]at h1
   omega
  .exact g
 .rcases Int.lt_or_le 53 e with g|g
  .exfalso
   have h1:1*2 ^ (e+1074).toNat<=m*2 ^ (e+1074).toNat:=x1ac _ hm0
   have h2:2 ^ (53+1074)<=2 ^ (e+1074).toNat:=Nat.pow_le_pow_right (by omega) (by omega)
   have h3:N*2 ^ 1074<2 ^ 53*2 ^ 1074:=Nat.mul_lt_mul_of_pos_right hN (Nat.two_pow_pos _)
   rw[<-Nat.pow_add]at h3
   rw[h]at h1
   omega
  .exact g
theorem IsI.mul{x y:Nat}{a b:Int}(hx:IsI x a)(hy:IsI y b)(ha:a.natAbs<2 ^ 53)(hb:b.natAbs<2 ^ 53)(hn:(a*b).natAbs<2 ^ 53):∃r,double.mul x y=some r/\IsI r (a*b):=by
 obtain⟨s,m,i,h1,h2,h3,h4⟩:=hx
 obtain⟨t,n,j,g1,g2,g3,g4⟩:=hy
 refine⟨double.nearest (s ^^ t) (m*n) (i+j),?_,?_⟩
 .unfold Format.mul
  rw[h1,g1];rfl
 have h5:=I_abs h4
 have g5:=I_abs g4
 by_cases c:m*n=0
 .rw[c]
  refine⟨s ^^ t,0,-1074,near_0 _ _,by omega,by omega,?_⟩
  have hz:a=0\/b=0:=by
   rcases Nat.mul_eq_zero.mp c with g|g
   .left
    subst g
    unfold sv at h5
    rw[x19q]at h5
    rcases Nat.mul_eq_zero.mp h5.symm with q|q
    .omega
    .exact absurd q (Nat.ne_of_gt (Nat.two_pow_pos _))
   .right
    subst g
    unfold sv at g5
    rw[x19q]at g5
    rcases Nat.mul_eq_zero.mp g5.symm with q|q
    .omega
    .exact absurd q (Nat.ne_of_gt (Nat.two_pow_pos _))
  have h0:a*b=0:=by rcases hz with g|g<;>simp[g]
  rw[h0]
  unfold sv
  rw[x19q,Int.zero_mul]
  cases(s ^^ t)<;>rfl
 .have hm0:0<m:=x1ci λq=>c (by rw[q,x19q])
  have hn0:0<n:=x1ci λq=>c (by rw[q,Nat.mul_zero])
  have pa:0<a.natAbs:=by
   rcases Nat.eq_zero_or_pos a.natAbs with q|q
   .rw[q,x19q]at h5
    have:=x1at hm0 (Nat.two_pow_pos (i+1074).toNat)
    unfold sv at h5;omega
   .exact q
  have pb:0<b.natAbs:=by
   rcases Nat.eq_zero_or_pos b.natAbs with q|q
   .rw[q,x19q]at g5
    have:=x1at hn0 (Nat.two_pow_pos (j+1074).toNat)
    unfold sv at g5;omega
   .exact q
  have e1:=e_bd (xvs h1).1 h2 pa ha h5
  have e2:=e_bd (xvs g1).1 g2 pb hb g5
  have key:sg (s ^^ t) (m*n)*2 ^ (i+j+1074).toNat=a*b*2 ^ 1074:=by
   have k1:sg s m*2 ^ (i+1074).toNat=a*2 ^ 1074:=by
    have:=h4
    unfold sv at this
    rw[xvt]at this
    rw[<-this,Int.natCast_pow];rfl
   have k2:sg t n*2 ^ (j+1074).toNat=b*2 ^ 1074:=by
    have:=g4
    unfold sv at this
    rw[xvt]at this
    rw[<-this,Int.natCast_pow];rfl
   have k3:sg (s ^^ t) (m*n)=sg s m*sg t n:=by
    cases s<;>cases t<;>simp[sg,Int.neg_mul,Int.mul_neg]
   have k4:(2:Int) ^ (i+1074).toNat*2 ^ (j+1074).toNat=2 ^ (i+j+1074).toNat*2 ^ 1074:=by
    rw[<-Int.pow_add,<-Int.pow_add]
    congr 1
    omega
   have k5:(sg s m*2 ^ (i+1074).toNat)*(sg t n*2 ^ (j+1074).toNat)=(a*2 ^ 1074)*(b*2 ^ 1074):=by rw[k1,k2]
   have hp:(0:Int)<2 ^ 1074:=Int.pow_pos (by decide)
   refine Int.eq_of_mul_eq_mul_right (Int.ne_of_gt hp) ?_
   rw[k3]
   generalize (2:Int) ^ 1074=K at *
   generalize (2:Int) ^ (i+j+1074).toNat=L at *
   generalize (2:Int) ^ (i+1074).toNat=M at *
   generalize (2:Int) ^ (j+1074).toNat=N at *
   generalize sg s m=u at *
   generalize sg t n=v at *
   grind
  refine I_of (T:=sg (s ^^ t) (m*n)) (w:=0) (by omega) (by omega) hn key (xxc _ _).symm ?_
  intro hT
  have:0<m*n:=x1at hm0 hn0
  generalize m*n=k at *
  cases(s ^^ t)<;>simp[sg]<;>omega
theorem I_int{n:Int}(h:n.natAbs<2 ^ 53):IsI (FloatKind.f64.nearest n) n:=by
 show IsI (double.nearest (decide (n<0)) n.natAbs 0) n
 exact I_of (T:=n) (w:=0) (by omega) (by omega) h rfl rfl (λ_=>rfl)
theorem I_Cl{w:Nat}{n:Int}(h:IsI w n):∃s,Cl (.num s (n.natAbs*2 ^ 1074)) w/\sg s n.natAbs=n:=by
 obtain⟨s,m,e,h1,h2,h3,h4⟩:=h
 refine⟨s,⟨m,e,h1,h2,h3,I_abs h4⟩,?_⟩
 have h5:=I_abs h4
 rw[h5,xvt]at h4
 have hp:(0:Int)<2 ^ 1074:=Int.pow_pos (by decide)
 refine Int.eq_of_mul_eq_mul_right (Int.ne_of_gt hp) ?_
 rw[<-h4,Int.natCast_pow];rfl
theorem Cl_I{s:Bool}{k w:Nat}(h:Cl (.num s (k*2 ^ 1074)) w):IsI w (sg s k):=by
 obtain⟨m,e,h1,h2,h3,h4⟩:=h
 refine⟨s,m,e,h1,h2,h3,?_⟩
 rw[h4,xvt,Int.natCast_pow];rfl
theorem I_toInt{w:Nat}{n:Int}(h:IsI w n):(FloatKind.f64.decode w).toInt .zero=some n:=by
 obtain⟨s,h1,h2⟩:=I_Cl h
 rw[x12y h1,Nat.mul_div_cancel _ (Nat.two_pow_pos _),h2]
def Fi(n:Int)(v:Value):Prop:=∃w,v=.float .f64 w/\IsI w n
def Fzi(a b:Int)(v:Value):Prop:=∃x y,v=.complex .f64 x y/\IsI x a/\IsI y b
theorem xxd{n:Int}{v:Value}(h:Fi n v):one1 v:=by
 obtain⟨w,rfl,-⟩:=h
 exact⟨rfl,rfl,λb hb=>by cases hb⟩
theorem xxe{a b:Int}{v:Value}(h:Fzi a b v):one1 v:=by
 obtain⟨x,y,rfl,-⟩:=h
 exact⟨rfl,rfl,λb hb=>by cases hb⟩
theorem zi_add{x y u v:Nat}{a b c d:Int}(hx:IsI x a)(hy:IsI y b)(hu:IsI u c)(hv:IsI v d)(h1:(a+c).natAbs<2 ^ 53)(h2:(b+d).natAbs<2 ^ 53) :
 ∃p q,Op.complexOp .add .f64 x y u v=.pure (.complex .f64 p q)/\IsI p (a+c)/\IsI q (b+d):=by
 obtain⟨p,e1,g1⟩:=hx.add hu h1
 obtain⟨q,e2,g2⟩:=hy.add hv h2
 refine⟨p,q,?_,g1,g2⟩
 have k1:Op.Complex.arith .add .f64 x u=.pure p:=by
  unfold Op.Complex.arith Op.floatArith
  show(Sem.bind (match double.add x u with
   |some r=>Pure.pure (Value.float .f64 r)
   |none=>_) _)=_
  rw[e1];rfl
 have k2:Op.Complex.arith .add .f64 y v=.pure q:=by
  unfold Op.Complex.arith Op.floatArith
  show(Sem.bind (match double.add y v with
   |some r=>Pure.pure (Value.float .f64 r)
   |none=>_) _)=_
  rw[e2];rfl
 show(do pure (Value.complex .f64 (<-Op.Complex.arith .add .f64 x u) (<-Op.Complex.arith .add .f64 y v)):Sem Value)=_
 rw[k1,k2];rfl
theorem ar_add{x u p:Nat}(e1:double.add x u=some p):Op.Complex.add x u=.pure p:=by
 unfold Op.Complex.add Op.Complex.arith Op.floatArith
 show(Sem.bind (match double.add x u with
  |some r=>Pure.pure (Value.float .f64 r)
  |none=>_) _)=_
 rw[e1];rfl
theorem ar_sub{x u p:Nat}(e1:double.sub x u=some p):Op.Complex.sub x u=.pure p:=by
 unfold Op.Complex.sub Op.Complex.arith Op.floatArith
 show(Sem.bind (match double.sub x u with
  |some r=>Pure.pure (Value.float .f64 r)
  |none=>_) _)=_
 rw[e1];rfl
theorem xxf{x u p:Nat}(e1:double.mul x u=some p):Op.Complex.mul x u=.pure p:=by
 unfold Op.Complex.mul Op.Complex.arith Op.floatArith
 show(Sem.bind (match double.mul x u with
  |some r=>Pure.pure (Value.float .f64 r)
  |none=>_) _)=_
 rw[e1];rfl
theorem zi_mul{x y u v:Nat}{a b c d:Int}(hx:IsI x a)(hy:IsI y b)(hu:IsI u c)(hv:IsI v d)(ha:a.natAbs<2 ^ 53)(hb:b.natAbs<2 ^ 53)(hc:c.natAbs<2 ^ 53)(hd:d.natAbs<2 ^ 53)(b1:(a*c).natAbs<2 ^ 51)(b2:(b*d).natAbs<2 ^ 51)(b3:(a*d).natAbs<2 ^ 51)(b4:(b*c).natAbs<2 ^ 51) :
 ∃p q,Op.complexOp .mul .f64 x y u v=.pure (.complex .f64 p q)/\IsI p (a*c-b*d)/\IsI q (a*d+b*c):=by
 obtain⟨p1,e1,g1⟩:=hx.mul hu (by omega) (by omega) (by omega)
 obtain⟨p2,e2,g2⟩:=hy.mul hv (by omega) (by omega) (by omega)
 obtain⟨p3,e3,g3⟩:=hx.mul hv (by omega) (by omega) (by omega)
 obtain⟨p4,e4,g4⟩:=hy.mul hu (by omega) (by omega) (by omega)
 obtain⟨p,e5,g5⟩:=g1.sub g2 (by omega)
 obtain⟨q,e6,g6⟩:=g3.add g4 (by omega)
 refine⟨p,q,?_,g5,g6⟩
 have hp:Op.Complex.product x y u v=.pure (p,q):=by
  unfold Op.Complex.product
  rw[xxf e1,xxf e2,xxf e3,xxf e4]
  show(do pure (<-Op.Complex.sub p1 p2,<-Op.Complex.add p3 p4):Sem (Nat×Nat))=_
  rw[ar_sub e5,ar_add e6];rfl
 show(do
  let(e,f) <-Op.Complex.product x y u v
  pure (Value.complex .f64 (<-Op.Complex.conv .f64 e .f64) (<-Op.Complex.conv .f64 f .f64)):Sem Value)=_
 rw[hp];rfl
structure PtIn (x:Mp):Prop where
 l0:0<=x.ln
 l1:x.ln<=63
 s0:0<=x.sm
 s1:x.sm<=63
 b0:bd x.b0 8
 b1:bd x.b1 8
def xod(l:List Mp):Prop:=∀x∈l,PtIn x
theorem xpk{f:Mp->Int}{b:Int}{l:List Mp}(hl:l.length<=13)(h0:0<=b)(h:∀x∈l,bd (f x) b):bd (su f l) (13*b):=by
 have h1:=su_le (f:=f) (b:=b) (l:=l) h
 have h2:(l.length:Int)*b<=13*b:=x1aw (by omega) h0
 unfold bd;omega
theorem PtIn.ln{x:Mp}(h:PtIn x):bd x.ln 63:=by have:=h.l0;have:=h.l1;unfold bd;omega
theorem PtIn.sm{x:Mp}(h:PtIn x):bd x.sm 63:=by have:=h.s0;have:=h.s1;unfold bd;omega
section
variable{l:List Mp}
theorem bN(h:xod l)(hl:l.length<=13):bd (sN l) 13:=(xpk (b:=1) hl (by omega) λx hx=>by unfold bd;omega).mono (by omega)
theorem bA(h:xod l)(hl:l.length<=13):bd (sA l) 819:=(xpk (b:=63) hl (by omega) λx hx=>(h x hx).ln).mono (by omega)
theorem bB(h:xod l)(hl:l.length<=13):bd (sB l) 819:=(xpk (b:=63) hl (by omega) λx hx=>(h x hx).sm).mono (by omega)
theorem bC(h:xod l)(hl:l.length<=13):bd (sC l) 51597:=(xpk (b:=3969) hl (by omega) λx hx=>((h x hx).ln.mul (h x hx).ln).mono (by omega)).mono (by omega)
theorem bD(h:xod l)(hl:l.length<=13):bd (sD l) 51597:=(xpk (b:=3969) hl (by omega) λx hx=>((h x hx).ln.mul (h x hx).sm).mono (by omega)).mono (by omega)
theorem bE(h:xod l)(hl:l.length<=13):bd (sE l) 51597:=(xpk (b:=3969) hl (by omega) λx hx=>((h x hx).sm.mul (h x hx).sm).mono (by omega)).mono (by omega)
theorem b0F{g:Mp->Int}(h:xod l)(hl:l.length<=13)(hg:∀x∈l,bd (g x) 8):bd (of0 g l) 104:=(xpk (b:=8) hl (by omega) hg).mono (by omega)
theorem b1F{g:Mp->Int}(h:xod l)(hl:l.length<=13)(hg:∀x∈l,bd (g x) 8):bd (of1 g l) 6552:=(xpk (b:=504) hl (by omega) λx hx=>((h x hx).ln.mul (hg x hx)).mono (by omega)).mono (by omega)
theorem b2F{g:Mp->Int}(h:xod l)(hl:l.length<=13)(hg:∀x∈l,bd (g x) 8):bd (of2 g l) 6552:=(xpk (b:=504) hl (by omega) λx hx=>((h x hx).sm.mul (hg x hx)).mono (by omega)).mono (by omega)
theorem DD_bd(h:xod l)(hl:l.length<=13):bd (DD l) 1000000000000:=by
 have N:=bN h hl;have A:=bA h hl;have B:=bB h hl;have C:=bC h hl;have D:=bD h hl;have E:=bE h hl
 unfold DD dt
 exact(((N.mul ((C.mul E).sub (D.mul D))).sub (A.mul ((A.mul E).sub (D.mul B)))).add (B.mul ((A.mul D).sub (C.mul B)))).mono (by omega)
theorem C0_bd{g:Mp->Int}(h:xod l)(hl:l.length<=13)(hg:∀x∈l,bd (g x) 8):bd (C0 g l) 10000000000000:=by
 have N:=bN h hl;have A:=bA h hl;have B:=bB h hl;have C:=bC h hl;have D:=bD h hl;have E:=bE h hl
 have X:=b0F h hl hg;have Y:=b1F h hl hg;have Z:=b2F h hl hg
 unfold C0 c0
 exact(((X.mul ((C.mul E).sub (D.mul D))).sub (Y.mul ((A.mul E).sub (B.mul D)))).add (Z.mul ((A.mul D).sub (B.mul C)))).mono (by omega)
theorem C1_bd{g:Mp->Int}(h:xod l)(hl:l.length<=13)(hg:∀x∈l,bd (g x) 8):bd (C1 g l) 10000000000000:=by
 have N:=bN h hl;have A:=bA h hl;have B:=bB h hl;have C:=bC h hl;have D:=bD h hl;have E:=bE h hl
 have X:=b0F h hl hg;have Y:=b1F h hl hg;have Z:=b2F h hl hg
 unfold C1 c1
 exact(((N.mul ((Y.mul E).sub (Z.mul D))).sub (X.mul ((A.mul E).sub (B.mul D)))).add (B.mul ((A.mul Z).sub (B.mul Y)))).mono (by omega)
theorem C2_bd{g:Mp->Int}(h:xod l)(hl:l.length<=13)(hg:∀x∈l,bd (g x) 8):bd (C2 g l) 10000000000000:=by
 have N:=bN h hl;have A:=bA h hl;have B:=bB h hl;have C:=bC h hl;have D:=bD h hl;have E:=bE h hl
 have X:=b0F h hl hg;have Y:=b1F h hl hg;have Z:=b2F h hl hg
 unfold C2 c2
 exact(((N.mul ((C.mul Z).sub (D.mul Y))).sub (A.mul ((A.mul Z).sub (B.mul Y)))).add (X.mul ((A.mul D).sub (B.mul C)))).mono (by omega)
theorem xq4{x g b:Int}(hg:0<g)(hd:g ∣ x)(h:bd x b):bd (x / g) b:=by
 obtain⟨u,rfl⟩:=hd
 rw[Int.mul_ediv_cancel_left _ (by omega)]
 rw[bd.abs]at *
 rw[x1c9,Int.natCast_mul]at h
 have:(1:Int)*(u.natAbs:Int)<=(g.natAbs:Int)*(u.natAbs:Int):=x1aw (by omega) (by omega)
 omega
theorem fit_bd(h:xod l)(hl:l.length<=13)(hD:0<DD l):(0<(fitM l).den/\(fitM l).den<=1000000000000) /\
 bd (fitM l).l0 10000000000000/\bd (fitM l).l1 10000000000000/\bd (fitM l).l2 10000000000000/\bd (fitM l).s0 10000000000000/\bd (fitM l).s1 10000000000000/\bd (fitM l).s2 10000000000000:=by
 have hg:=xvo hD
 obtain⟨d0,d1⟩:=xvp l
 have g0:∀x∈l,bd x.b0 8:=λx hx=>(h x hx).b0
 have g1:∀x∈l,bd x.b1 8:=λx hx=>(h x hx).b1
 have e:=(xq4 hg d0 (DD_bd h hl)).2
 exact⟨⟨fit_den hD,e⟩,xq4 hg (d1 _ (by simp[xp8])) (C0_bd h hl g0),xq4 hg (d1 _ (by simp[xp8])) (C1_bd h hl g0),xq4 hg (d1 _ (by simp[xp8])) (C2_bd h hl g0),
  xq4 hg (d1 _ (by simp[xp8])) (C0_bd h hl g1),xq4 hg (d1 _ (by simp[xp8])) (C1_bd h hl g1),xq4 hg (d1 _ (by simp[xp8])) (C2_bd h hl g1)⟩
end
open Go.Proofs
theorem xpw{v:AV}{call:xnv}{f:FuncId}{l:List AV}(h:((call [] f l mem0).bind λp=>Go.Ix.frz p.2.get deep p.1)=some v):RetF (λa=>a=v) (call [] f l mem0):=by
 rw[x1af]at h
 obtain⟨⟨a,m'⟩,h1,h2⟩:=h
 exact⟨a,m',v,h1,h2,rfl⟩
def mW(a b:Int):Int:=w64 (a*b)
def aW(a b:Int):Int:=w64 (a+b)
def sW2(a b:Int):Int:=w64 (a-b)
structure Nm where
 a:Int
 b:Int
 c:Int
 d:Int
 e:Int
 f:Int
 g:Int
 h:Int
 i:Int
 x:Int
 y:Int
 z:Int
abbrev Nm.v(n:Nm):AV:=.agg [I n.a,I n.b,I n.c,I n.d,I n.e,I n.f,I n.g,I n.h,I n.i,I n.x,I n.y,I n.z]
def co2(p q r s:Int):Int:=sW2 (mW p q) (mW r s)
structure Ep where
 day:Int
 bl:Int
 ph:Int
 mg:Int
def Ep.c(e:Ep):List AV:=[I e.day,I e.bl,I e.ph,I e.mg]
def Ep.r(d0:Int)(e:Ep):List AV:=[I (sW2 e.day d0),I e.bl,I 1]
def Ep.p(e:Ep):List AV:=[I e.ph]
theorem Ep.len(e:Ep):e.c.length=4:=rfl
theorem Ep.still(e:Ep):e.c.all still1=true:=rfl
def Cg(x y:Int):Prop:=∃k:Int,x=y+18446744073709551616*k
theorem Cg.refl(x:Int):Cg x x:=⟨0,by omega⟩
theorem xzh(n:Int):Cg (w64 n) n/\-9223372036854775808<=w64 n/\w64 n<=9223372036854775807:=by
 rw[xsu]
 have e:IntKind.i64.wrap n=if(n % 18446744073709551616) ≥ 9223372036854775808 then n % 18446744073709551616-18446744073709551616 else n % 18446744073709551616:=by
  show(if(true&&decide (n % (2 ^ 64:Int) ≥ (2 ^ 63:Int)))=true then n % (2 ^ 64:Int)-(2 ^ 64:Int)else n % (2 ^ 64:Int))=_
  simp
 rw[e]
 have h1:=x1cx n (show(18446744073709551616:Int)≠0 by omega)
 have h2:=x1cy n (show(0:Int)<18446744073709551616 by omega)
 have h3:=Int.mul_ediv_add_emod n 18446744073709551616
 split
 .exact⟨⟨-(n / 18446744073709551616)-1,by omega⟩,by omega,by omega⟩
 .exact⟨⟨-(n / 18446744073709551616),by omega⟩,by omega,by omega⟩
theorem Cg.w{x y:Int}(h:Cg x y):Cg (w64 x) y:=by
 obtain⟨k,h⟩:=h
 obtain⟨⟨j,e⟩,-⟩:=xzh x
 exact⟨k+j,by rw[e,h];omega⟩
theorem Cg.add{a b x y:Int}(h:Cg a x)(k:Cg b y):Cg (a+b) (x+y):=by
 obtain⟨p,h⟩:=h
 obtain⟨q,k⟩:=k
 exact⟨p+q,by rw[h,k];omega⟩
theorem Cg.sub{a b x y:Int}(h:Cg a x)(k:Cg b y):Cg (a-b) (x-y):=by
 obtain⟨p,h⟩:=h
 obtain⟨q,k⟩:=k
 exact⟨p-q,by rw[h,k];omega⟩
theorem Cg.mul{a b x y:Int}(h:Cg a x)(k:Cg b y):Cg (a*b) (x*y):=by
 obtain⟨p,h⟩:=h
 obtain⟨q,k⟩:=k
 exact⟨x*q+p*y+18446744073709551616*(p*q),by rw[h,k];grind⟩
theorem Cg.fin{x y:Int}(h:Cg x y)(h1:bd x 9223372036854775807)(hb:bd y 9223372036854775807):x=y:=by
 obtain⟨k,h⟩:=h
 unfold bd at *
 omega
theorem xxg{x y:Int}(h:Cg x y)(hb:bd y 9223372036854775807):w64 x=y:=by
 obtain⟨k,e⟩:=h.w
 obtain⟨-,h1,h2⟩:=xzh x
 unfold bd at hb
 omega
theorem cg_m{a b x y:Int}(h:Cg a x)(k:Cg b y):Cg (mW a b) (x*y):=(h.mul k).w
theorem cg_a{a b x y:Int}(h:Cg a x)(k:Cg b y):Cg (aW a b) (x+y):=(h.add k).w
theorem cg_s{a b x y:Int}(h:Cg a x)(k:Cg b y):Cg (sW2 a b) (x-y):=(h.sub k).w
theorem aW_of{a b y:Int}(h:Cg (aW a b) y)(hb:bd y 9223372036854775807):aW a b=y:=by
 obtain⟨k,e⟩:=h
 obtain⟨-,h1,h2⟩:=xzh (a+b)
 unfold aW at *
 unfold bd at hb
 omega
theorem Cg.trans{x y z:Int}(h:Cg x y)(e:y=z):Cg x z:=e▸h
theorem e_awake3:((xnt 30 [] xf4 [] mem0).map (λp=>p.1))=some (B true):=by kernel_rfl
theorem xvu(m:Mem):xnu (xnt 30) xf4 [] m=some (B true,m):=by
 have h:=e_awake3
 rw[x194]at h
 obtain⟨⟨r,m'⟩,h1,rfl⟩:=h
 exact call0 rfl h1 rfl
end Go.Ix
