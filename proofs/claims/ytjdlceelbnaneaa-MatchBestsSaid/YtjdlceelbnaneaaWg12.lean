import Derived.Test.YtjdlceelbnaneaaWg11
import Derived.Test.YtjdlceelbnaneaaWg4
import Derived.Test.YtjdlceelbnaneaaWg1
set_option linter.unusedSimpArgs false
set_option linter.unusedVariables false
set_option exponentiation.threshold 3000
namespace Go.Ix
open Go.Proofs Ieee
def val(x:Nat):Int:=match fcs x with
 | .num s V=>sg s (V / 2 ^ 1074)
 |_=>0
def RtP(x:Nat):Prop:=∃s k,fcs x=.num s (k*2 ^ 1074)/\k<=2047
theorem RtP.val{x:Nat}(h:RtP x):∃s k,fcs x=.num s (k*2 ^ 1074)/\k<=2047/\val x=sg s k:=by
 obtain⟨s,k,h1,h2⟩:=h
 refine⟨s,k,h1,h2,?_⟩
 unfold Go.Ix.val
 rw[h1]
 show sg s (k*2 ^ 1074 / 2 ^ 1074)=_
 rw[Nat.mul_div_cancel _ (Nat.two_pow_pos _)]
theorem RtP.bd{x:Nat}(h:RtP x):-2047<=Go.Ix.val x/\Go.Ix.val x<=2047:=by
 obtain⟨s,k,-,h2,h3⟩:=h.val
 rw[h3]
 cases s<;>simp[sg]<;>omega
theorem xni{c:Fc}(h1:c.whole=true)(h2:c.big=false):∃s k,c=.num s (k*2 ^ 1074)/\k<=2047:=by
 obtain⟨s,V,rfl⟩:=xhd h1
 have h1:(V % 2 ^ 1074 == 0)=true:=h1
 have h2:decide (2047*2 ^ 1074<V)=false:=h2
 have g1:V % 2 ^ 1074=0:=by simpa using h1
 have g2:¬2047*2 ^ 1074<V:=of_decide_eq_false h2
 have hd:=Nat.div_add_mod V (2 ^ 1074)
 have hp:0<2 ^ 1074:=Nat.two_pow_pos _
 refine⟨s,V / 2 ^ 1074,?_,?_⟩
 .congr 1
  rw[g1,Nat.mul_comm]at hd
  omega
 .exact Nat.le_of_lt_succ (Nat.div_lt_of_lt_mul (by
   generalize (2:Nat) ^ 1074=K at *
   have:K*(2047+1)=2047*K+K:=by omega
   omega))
theorem pxErr_0{p:Px}(h:xer p=0):RtP p.1/\RtP p.2:=by
 unfold xer pE at h
 cases c1:(fcs p.1).whole
 .rw[c1]at h;simp at h
 cases c2:(fcs p.2).whole
 .rw[c1,c2]at h;simp at h
 rw[c1,c2]at h
 cases b1:(fcs p.1).big
 rotate_left
 .rw[b1]at h;simp at h
 cases b2:(fcs p.2).big
 rotate_left
 .rw[b1,b2]at h;simp at h
 exact⟨xni c1 b1,xni c2 b2⟩
def RtD(D:List Px):Prop:=∀p∈D,RtP p.1/\RtP p.2
theorem chkS_0:∀(D:List Px) (k:Nat),(chkS k D).2=0->RtD D
 |[],_,_=>λ_ h=>by cases h
 |p::r,k,h=>by
  unfold chkS at h
  by_cases c:xer p=0
  .rw[xr8 c]at h
   have:=chkS_0 r (k+1) h
   intro q hq
   rcases xrj.mp hq with rfl|hq
   .exact pxErr_0 c
   .exact this q hq
  .rw[xr9 c]at h;exact absurd h c
structure RtI (L S:Int) (D:List Px):Prop where
 l:wi L 1 64=true
 s:wi S 1 64=true
 n:(D.length:Int)=L*S
 d:RtD D
theorem imE_0{L S:Int}{D:List Px}(h:(imE L S D).2=0):RtI L S D:=by
 unfold imE at h
 by_cases c:szE L S D.length=0
 .rw[xr8 c]at h
  unfold szE at c
  cases c1:wi L 1 64
  .rw[c1]at c;simp at c
  cases c2:wi S 1 64
  .rw[c1,c2]at c;simp at c
  rw[c1,c2]at c
  by_cases c3:(D.length:Int)=L*S
  .exact⟨c1,c2,c3,chkS_0 D 0 h⟩
  .simp[c3]at c
 .rw[xr9 c]at h;exact absurd h c
theorem Fz_i{x y:Nat}(hx:RtP x)(hy:RtP y){v:Value}(h:Fz (fcs x) (fcs y) v):Fzi (val x) (val y) v:=by
 obtain⟨s,k,h1,h2,h3⟩:=hx.val
 obtain⟨s',k',g1,g2,g3⟩:=hy.val
 rw[h1,g1]at h
 obtain⟨p,q,rfl,hp,hq⟩:=h
 rw[h3,g3]
 exact⟨p,q,rfl,Cl_I hp,Cl_I hq⟩
theorem s_c2ci{x y:Nat}(hx:RtP x)(hy:RtP y):∃r,sCvt Try.prog xb xa (C32 x y)=some r/\Is (Fzi (val x) (val y)) r:=by
 obtain⟨r,e,h⟩:=s_c2c x y
 exact⟨r,e,h.mono λv hv=>Fz_i hx hy hv⟩
def atM(L S:Int)(D:List Px)(l s:Int):Int×Int:=
 bif wi l 0 (L-1)&&wi s 0 (S-1)then(val (D.getD (l*S+s).toNat (0,0)).1,val (D.getD (l*S+s).toNat (0,0)).2)else(0,0)
theorem I_0:IsI 0 0:=⟨false,0,-1074,rfl,by omega,by omega,by
 show((0*2 ^ ((-1074:Int)+1074).toNat:Nat):Int)=0*2 ^ 1074
 rw[xs2,Int.zero_mul];rfl⟩
theorem at_in{L S l s:Int}{D:List Px}(hR:RtI L S D)(h1:wi l 0 (L-1)=true)(h2:wi s 0 (S-1)=true):0<=l*S+s/\l*S+s<D.length/\0<=l*S/\l*S<=4096:=by
 have a1:=wi_t h1
 have a2:=wi_t h2
 have a3:=wi_t hR.s
 have a4:=wi_t hR.l
 have b1:0<=l*S:=xs9 (by omega) (by omega)
 have b2:l*S<=(L-1)*S:=xt2 (by omega) (by omega)
 have b3:(L-1)*S=L*S-S:=by rw[Int.sub_mul,xt3]
 have b4:=xhj hR.l hR.s
 have:=hR.n
 omega
variable{a:AV}{D:List Px}{L S:Int}
theorem w_at(d:Nat)(ha:Sl pxE a D)(hR:RtI L S D)(l s:Int)(m:Mem):∃r,xbz (xby (d+2)) x28 [.agg [I L,I S,a],I l,I s] m=some (r,m)/\Is (Fzi (atM L S D l s).1 (atM L S D l s).2) r:=by
 have hl:=wi_t hR.l
 have hs:=wi_t hR.s
 cases c1:wi l 0 (L-1)
 .refine⟨.sc (.complex .f64 0 0),xc8 (by simp[ha.still1]) ?_ m,?_⟩
  .rw[x7c]
   unfold x2y x2r
   simp(disch:=omega) [mem0,ha.one,xdx,c1,xc4]
   exact RetF.st rfl rfl
  .unfold atM
   rw[c1]
   exact Is.sc ⟨0,0,rfl,I_0,I_0⟩
 cases c2:wi s 0 (S-1)
 .refine⟨.sc (.complex .f64 0 0),xc8 (by simp[ha.still1]) ?_ m,?_⟩
  .rw[x7c]
   unfold x2y x2r
   simp(disch:=omega) [mem0,ha.one,xdx,c1,c2,xc4]
   exact RetF.st rfl rfl
  .unfold atM
   rw[c1,c2]
   exact Is.sc ⟨0,0,rfl,I_0,I_0⟩
 obtain⟨b1,b2,b3,b4⟩:=at_in hR c1 c2
 have hk:(l*S+s).toNat<D.length:=by omega
 have ix:=ha.ixI pxL b1 b2
 rw[xdp hk,xsj]at ix
 have hrt:=hR.d _ (xsb hk)
 obtain⟨r,e,hr⟩:=s_c2ci hrt.1 hrt.2
 have b5:=xhj hR.l hR.s
 have b6:=hR.n
 refine⟨r,xc8 (by simp[ha.still1]) ?_ m,?_⟩
 .rw[x7c]
  unfold x2y x2r
  simp(disch:=omega) [mem0,ha.one,xdx,c1,c2,xc4,ix,pxE,e]
  exact RetF.st hr.oneZi.st rfl
 .unfold atM
  rw[c1,c2,xrr,xrn hk]
  exact hr
theorem w_lies(d:Nat)(hb:still1 a=true)(ho:a.one=true)(L S l s p q:Int)(h1:w64 (L-p)=L-p)(h2:w64 (S-q)=S-q)(m:Mem):xbz (xby (d+2)) xo [.agg [I L,I S,a],I l,I s,I p,I q] m=some (B (wi l 0 (L-p)&&wi s 0 (S-q)),m):=by
 refine xc8 (by simp[hb]) ?_ m
 rw[x98]
 unfold x6e x4m
 cases c1:wi l 0 (L-p)
 .simp[mem0,ho,xd7,h1,h2,c1]
  exact RetF.st rfl rfl
 .simp[mem0,ho,xd7,h1,h2,c1]
  exact RetF.st rfl rfl
theorem s_f32i{x:Nat}(h:RtP x):sCvt Try.prog x9 xcb (.sc (.float .f32 x))=some (I (val x)):=by
 obtain⟨s,k,h1,h2,h3⟩:=h.val
 refine sCvt_1 (A:=(·=.float .f32 x)) (Is.sc rfl) rfl (λu hu=>by subst hu;rfl) (λu hu=>?_)
 subst hu
 have hn:nfS Try.prog (convert x9 xcb (.float .f32 x))=nfS Try.prog (Conv.floatToInt .f32 x .i64):=by kernel_rfl
 rw[<-xdm,hn,xdm]
 unfold Conv.floatToInt
 have ht:(FloatKind.f32.decode x).toInt .zero=some (sg s k):=by
  show(single.read x).toInt .zero=_
  unfold fcs at h1
  cases hr:single.read x with
  |nan=>rw[hr]at h1;cases h1
  |infinity=>rw[hr]at h1;cases h1
  |number s' m e=>
   rw[hr]at h1
   simp only[Fc.num.injEq]at h1
   obtain⟨rfl,h1⟩:=h1
   obtain⟨q1,q2,q3⟩:=xmv hr
   unfold Datum.toInt
   rw[xke,xig (by omega),h1,Nat.mul_div_cancel _ (Nat.two_pow_pos _)]
   show some (signed s' k 0)=_
   unfold signed sg
   rw[Nat.shiftLeft_zero]
 simp only[ht]
 have e1:IntKind.i64.min=-9223372036854775808:=rfl
 have e2:IntKind.i64.max=9223372036854775807:=rfl
 have:=h.bd
 rw[h3]at this
 rw[e1,e2,xr8 (by omega),h3]
 exact OkR.pure rfl
theorem w_Parts{x y:Nat}(hx:RtP x)(hy:RtP y)(d:Nat)(m:Mem):xbz (xby (d+1)) x23 [C32 x y] m=some (.tup [I (val x),I (val y)],m):=by
 refine xc8 (by simp) ?_ m
 rw[x9e]
 unfold x6k x4v
 simp[mem0,real32,imag32,s_f32i hx,s_f32i hy]
 exact RetF.tup rfl rfl
theorem w_rAt(d:Nat)(ha:Sl pxE a D)(hR:RtI L S D)(l s:Int)(m:Mem):xbz (xby (d+3)) x18 [.agg [I L,I S,a],I l,I s] m=some (.tup [I (atM L S D l s).1,I (atM L S D l s).2],m):=by
 have hl:=wi_t hR.l
 have hs:=wi_t hR.s
 have hlies:=λd m=>w_lies d ha.still1 ha.one L S l s 1 1 (xc4 (by omega) (by omega)) (xc4 (by omega) (by omega)) m
 refine xc8 (by simp[ha.still1]) ?_ m
 rw[x91]
 unfold x67 x4a atM
 cases c:(wi l 0 (L-1)&&wi s 0 (S-1))
 .simp[mem0,ha.one,hlies,c]
  exact RetF.tup rfl rfl
 have c':=c
 rw[xrc]at c'
 obtain⟨c1,c2⟩:=c'
 obtain⟨b1,b2,b3,b4⟩:=at_in hR c1 c2
 have hk:(l*S+s).toNat<D.length:=by omega
 have ix:=ha.ixI pxL b1 b2
 rw[xdp hk,xsj]at ix
 have hrt:=hR.d _ (xsb hk)
 have b5:=xhj hR.l hR.s
 have b6:=hR.n
 simp(disch:=omega) [mem0,ha.one,hlies,c,xc4,ix,pxE,w_Parts hrt.1 hrt.2]
 exact RetF.tup rfl rfl
open Go.Proofs
theorem s_zmul{a b:AV}{p q u v:Int}{t:TypeId}{X Y:Operand}(ha:Is (Fzi p q) a)(hb:Is (Fzi u v) b)(h1:bd p 4000000000000000)(h2:bd q 4000000000000000)(h3:bd u 4000000000000000)(h4:bd v 4000000000000000)(k1:bd (p*u) 2000000000000000)(k2:bd (q*v) 2000000000000000)(k3:bd (p*v) 2000000000000000)(k4:bd (q*u) 2000000000000000):∃r,sBin Try.prog .mul t X Y a b=some r/\Is (Fzi (p*u-q*v) (p*v+q*u)) r:=by
 refine xie ha hb ?_
 rintro _ _ ⟨x,y,rfl,hx,hy⟩ ⟨z,w,rfl,hz,hw⟩
 unfold bd at *
 obtain⟨e,f,h,he,hf⟩:=zi_mul hx hy hz hw (by omega) (by omega) (by omega) (by omega) (by omega) (by omega) (by omega) (by omega)
 have hb:binS .mul t X Y [.complex .f64 x y,.complex .f64 z w]=Op.complexOp .mul .f64 x y z w:=rfl
 rw[hb,h]
 exact OkR.pure ⟨xii ⟨e,f,rfl,he,hf⟩,e,f,rfl,he,hf⟩
theorem s_zadd{a b:AV}{p q u v:Int}{t:TypeId}{X Y:Operand}(ha:Is (Fzi p q) a)(hb:Is (Fzi u v) b)(k1:bd (p+u) 4000000000000000)(k2:bd (q+v) 4000000000000000):∃r,sBin Try.prog .add t X Y a b=some r/\Is (Fzi (p+u) (q+v)) r:=by
 refine xie ha hb ?_
 rintro _ _ ⟨x,y,rfl,hx,hy⟩ ⟨z,w,rfl,hz,hw⟩
 unfold bd at *
 obtain⟨e,f,h,he,hf⟩:=zi_add hx hy hz hw (by omega) (by omega)
 have hb:binS .add t X Y [.complex .f64 x y,.complex .f64 z w]=Op.complexOp .add .f64 x y z w:=rfl
 rw[hb,h]
 exact OkR.pure ⟨xii ⟨e,f,rfl,he,hf⟩,e,f,rfl,he,hf⟩
theorem s_zreal{a:AV}{p q:Int}{t:TypeId}{ts:Array TypeId}(ha:Is (Fzi p q) a):∃r,xce Try.prog .real ts t [a]=some r/\Is (Fi p) r:=by
 refine xif ha ?_
 rintro _ ⟨u,v,rfl,hu,hv⟩
 exact OkR.pure ⟨one_Fi ⟨u,rfl,hu⟩,u,rfl,hu⟩
theorem s_zimag{a:AV}{p q:Int}{t:TypeId}{ts:Array TypeId}(ha:Is (Fzi p q) a):∃r,xce Try.prog .imag ts t [a]=some r/\Is (Fi q) r:=by
 refine xif ha ?_
 rintro _ ⟨u,v,rfl,hu,hv⟩
 exact OkR.pure ⟨one_Fi ⟨v,rfl,hv⟩,v,rfl,hv⟩
theorem s_fi{a:AV}{n:Int}(ha:Is (Fi n) a)(hn:bd n 9000000000000000000):sCvt Try.prog x6 xcb a=some (I n):=by
 refine sCvt_1 (A:=Fi n) ha rfl (λu hu=>by obtain⟨w,rfl,-⟩:=hu;rfl) (λu hu=>?_)
 obtain⟨w,rfl,hw⟩:=hu
 have hn':nfS Try.prog (convert x6 xcb (.float .f64 w))=nfS Try.prog (Conv.floatToInt .f64 w .i64):=by kernel_rfl
 rw[<-xdm,hn',xdm]
 unfold Conv.floatToInt
 simp only[I_toInt hw]
 have e1:IntKind.i64.min=-9223372036854775808:=rfl
 have e2:IntKind.i64.max=9223372036854775807:=rfl
 unfold bd at hn
 rw[e1,e2,xr8 (by omega)]
 exact OkR.pure rfl
theorem atM_bd{L S:Int}{D:List Px}(hR:RtI L S D)(l s:Int):bd (atM L S D l s).1 2047/\bd (atM L S D l s).2 2047:=by
 unfold atM
 cases c:(wi l 0 (L-1)&&wi s 0 (S-1))
 .unfold bd;simp
 rw[xrc]at c
 obtain⟨b1,b2,-,-⟩:=at_in hR c.1 c.2
 have hk:(l*S+s).toNat<D.length:=by omega
 have hrt:=hR.d _ (xsb hk)
 rw[xh6,xrr,xrn hk]
 exact⟨hrt.1.bd,hrt.2.bd⟩
theorem u_int:Try.prog.underlying x10=some (.slice xcb):=by kernel_rfl
abbrev slI(l:List Int):AV:=.slit (l.flatMap intE) l.length true
theorem slI_S(l:List Int):Sl intE (slI l) l:=Sl.lit l true
variable{a:AV}{D:List Px}{L S:Int}
section
variable(d:Nat)(hs:FHs)(u:Nat)(ha:Sl pxE a D)(hR:RtI L S D)
include ha hR
end
end Go.Ix
namespace Go.Ix
open Go.Proofs Ieee
variable{a:AV}{D:List Px}{L S:Int}
section
variable(d:Nat)(hs:FHs)(u:Nat)(ha:Sl pxE a D)(hR:RtI L S D)
include ha hR
end
end Go.Ix
