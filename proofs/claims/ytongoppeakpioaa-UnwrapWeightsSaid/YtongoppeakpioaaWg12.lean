import Derived.Test.YtongoppeakpioaaWg11
set_option linter.unusedSimpArgs false
set_option linter.unusedVariables false
set_option exponentiation.threshold 3000
namespace Go.Ix
open Go.Proofs Ieee
theorem andnot_w(w:Nat):(BitVec.ofInt 64 (w:Int) &&& ~~~BitVec.ofInt 64 9223372036854775808).toNat=w % 2 ^ 63:=by
 have h1:BitVec.ofInt 64 (w:Int)=BitVec.ofNat 64 w:=by
  apply BitVec.eq_of_toNat_eq
  rw[BitVec.toNat_ofInt,BitVec.toNat_ofNat]
  omega
 have h2:(~~~BitVec.ofInt 64 9223372036854775808)=BitVec.ofNat 64 (2 ^ 63-1):=rfl
 rw[h1,h2,BitVec.toNat_and,BitVec.toNat_ofNat,BitVec.toNat_ofNat,show(2 ^ 63-1) % 2 ^ 64=2 ^ 63-1 by omega,Nat.and_two_pow_sub_one_eq_mod]
 omega
theorem s_andNot{P:Program}{c:Fc}{a:AV}{t:TypeId}{X Y:Operand}(ha:Is (Fu c) a):∃r,sBin P .andNot t X Y a (AV.sc (.int .u64 9223372036854775808))=some r/\Is (Fu c.abs) r:=by
 refine sBin_R (B:=(·=.int .u64 9223372036854775808)) ha (Is.sc rfl) ?_
 rintro _ _ ⟨w,rfl,hw⟩ rfl
 have e:binS .andNot t X Y [.int .u64 (w:Int),.int .u64 9223372036854775808]=.pure (.int .u64 (IntKind.wrap .u64 ((BitVec.ofInt 64 (w:Int) &&& ~~~BitVec.ofInt 64 9223372036854775808).toNat:Int))):=rfl
 rw[e,andnot_w]
 have e2:IntKind.wrap .u64 ((w % 2 ^ 63:Nat):Int)=((w % 2 ^ 63:Nat):Int):=by
  show((w % 2 ^ 63:Nat):Int) % 18446744073709551616=_
  omega
 rw[e2]
 have g:Fu c.abs (.int .u64 ((w % 2 ^ 63:Nat):Int)):=⟨_,rfl,abs_Cl hw⟩
 exact OkR.pure ⟨one_U g,g⟩
theorem w_Abs{c:Fc}{a:AV}(ha:Is (Fa c) a)(d:Nat)(m:Mem):∃r,x3u (x3q (d+2)) xr [a] m=some (r,m)/\Is (Fa c.abs) r:=by
 obtain⟨r1,e1,h1⟩:=w_F64bits ha d (⟨[],1⟩:Mem)
 obtain⟨r2,e2,h2⟩:=s_andNot (P:=Try.prog) (t:=x2s) (X:=.tmp 4) (Y:=.const (.int .u64 9223372036854775808)) h1
 obtain⟨r3,e3,h3⟩:=w_F64from h2 d (⟨[],1⟩:Mem)
 refine⟨r3,callV (by simp[ha.oneA.st]) ?_ m,h3⟩
 rw[x34]
 unfold x27 x1p
 simp[mem0,e1,e2,e3]
 exact RetF.st h3.oneA.st rfl
def Fc.isInf:Fc->Bool
 | .inf _=>true
 |_=>false
theorem s_gtMax{c:Fc}{a:AV}{t:TypeId}{X Y:Operand}(ha:Is (Fa c) a):sBin Try.prog .gtr t X Y a (AV.sc (.float .f64 9218868437227405311))=some (B (match c with | .inf s=>!s|_=>false)):=by
 refine sBin_1 (B:=(·=.float .f64 9218868437227405311)) ha (Is.sc rfl) rfl ?_
 rintro _ _ ⟨u,rfl,hu⟩ rfl
 rw[xe3 rfl]
 have hM:double.read 9218868437227405311=.number false (2 ^ 53-1) 971:=rfl
 refine OkR.pure ?_
 congr 2
 unfold Format.order
 rw[hM]
 cases c with
 |nan=>
  obtain⟨s,t,h⟩:=hu
  rw[h];rfl
 |inf s=>
  have hu:double.read u=.infinity s:=hu
  rw[hu]
  cases s<;>rfl
 |num s V=>
  obtain⟨m,e,h1,h2,h3,h4⟩:=hu
  have hm:=(x8w h1).1
  rw[h1,xbh h2 (by omega)]
  have hlt:sg s (sv m e)<sg false (sv (2 ^ 53-1) 971):=by
   have h5:sv m e<sv (2 ^ 53-1) 971:=by
    unfold sv
    have q1:m*2 ^ (e+1074).toNat<=2 ^ 53*2 ^ (900+1074):=Nat.mul_le_mul (Nat.le_of_lt hm) (Nat.pow_le_pow_right (by omega) (by omega))
    have q2:2 ^ 53*2 ^ (900+1074)<(2 ^ 53-1)*2 ^ ((971:Int)+1074).toNat:=by decide
    omega
   have:sg s (sv m e)<=(sv m e:Int):=by cases s<;>simp[sg]<;>omega
   have h6:sg false (sv (2 ^ 53-1) 971)=(sv (2 ^ 53-1) 971:Int):=rfl
   omega
  rw[Int.compare_eq_lt.mpr hlt]
  rfl
theorem w_IsInf{c:Fc}{a:AV}(ha:Is (Fa c) a)(d:Nat)(m:Mem):x3u (x3q (d+3)) xh [a,I 0] m=some (B c.isInf,m):=by
 obtain⟨r1,e1,h1⟩:=w_Abs ha d (⟨[],1⟩:Mem)
 refine callV (by simp[ha.oneA.st]) ?_ m
 rw[x2z]
 unfold x23 x1k x2p x14
 simp[mem0,e1,s_gtMax h1]
 refine RetF.st rfl ?_
 cases c<;>rfl
theorem w_Trunc{c:Fc}{a:AV}(ha:Is (Fa c) a)(d:Nat)(m:Mem):∃r,x3u (x3q (d+2)) xg [a] m=some (r,m)/\Is (Fa c.tr) r:=by
 obtain⟨r1,e1,h1⟩:=w_aTrunc ha d (⟨[],1⟩:Mem)
 refine⟨r1,callV (by simp[ha.oneA.st]) ?_ m,h1⟩
 rw[x2y]
 unfold x22 x1j
 simp[mem0,e1]
 exact RetF.st h1.oneA.st rfl
def Fc.whole:Fc->Bool
 | .num _ V=>V % 2 ^ 1074 == 0
 |_=>false
theorem sg_inj{s:Bool}{a b:Nat}:sg s a=sg s b↔a=b:=by
 unfold sg
 cases s<;>simp<;>omega
theorem neq_tr(c:Fc):cmpB .neq (c.order c.tr)=(c.isInf == false&&c.whole == false):=by
 cases c with
 |nan=>rfl
 |inf s=>cases s<;>rfl
 |num s V=>
  show(some (compare (sg s V) (sg s (V / 2 ^ 1074*2 ^ 1074))) != some .eq)=_
  show _=(true&&((V % 2 ^ 1074 == 0) == false))
  have hd:=Nat.div_add_mod V (2 ^ 1074)
  generalize (2:Nat) ^ 1074=K at *
  rw[Nat.mul_comm]at hd
  by_cases h:V % K=0
  .have:V=V / K*K:=by omega
   rw[<-this,Int.compare_eq_eq.mpr rfl,h];rfl
  .have hne:sg s V≠sg s (V / K*K):=λe=>h (by have:=sg_inj.mp e;omega)
   have h2:compare (sg s V) (sg s (V / K*K))≠.eq:=λe=>hne (Int.compare_eq_eq.mp e)
   have h3:(V % K == 0)=false:=by simpa using h
   rw[h3]
   cases hc:compare (sg s V) (sg s (V / K*K))
   .rfl
   .exact absurd hc h2
   .rfl
theorem x9x{c:Fc}(h:c.whole=true):∃s V,c=.num s V:=by
 cases c with
 |num s V=>exact⟨s,V,rfl⟩
 |inf=>cases h
 |nan=>cases h
theorem s_f2f(x:Nat):∃r,sCvt Try.prog x6 x3 (.sc (.float .f32 x))=some r/\Is (Fa (fcs x)) r:=by
 refine sCvt_R (A:=(·=.float .f32 x)) (Is.sc rfl) (λu hu=>by rw[conc_sc.mp hu];rfl) ?_
 rintro _ rfl
 have h:nfS Try.prog (convert x6 x3 (.float .f32 x))=nfS Try.prog (Conv.floatToFloat .f32 x .f64):=by kernel_rfl
 rw[<-x5y,h,x5y]
 exact(f2f x).mono λv hv=>⟨one_A hv,hv⟩
theorem neq_self(c:Fc):cmpB .neq (c.order c)=(match c with | .nan=>true|_=>false):=by
 cases c with
 |nan=>rfl
 |inf s=>cases s<;>rfl
 |num s V=>
  show(some (compare (sg s V) (sg s V)) != some .eq)=false
  rw[Int.compare_eq_eq.mpr rfl];rfl
def Fc.sub0:Fc->Fc
 | .num _ _=>.num false 0
 |_=>.nan
theorem binS_sub{t:TypeId}{x y:Operand}{u v:Nat}:binS .sub t x y [.float .f64 u,.float .f64 v]=Op.floatArith .sub .f64 u v:=rfl
theorem fsub_some{u v r:Nat}(h:double.sub u v=some r):Op.floatArith .sub .f64 u v=.pure (.float .f64 r):=by
 unfold Op.floatArith
 show(match double.sub u v with
  |some r=>Pure.pure (Value.float .f64 r)
  |none=>_)=_
 rw[h];rfl
theorem fsub_none{u v:Nat}(h:double.sub u v=none):Op.floatArith .sub .f64 u v=.choose (.nanBits .f64 u v) λk=>.pure (.float .f64 k):=by
 unfold Op.floatArith
 show(match double.sub u v with
  |some r=>Pure.pure (Value.float .f64 r)
  |none=>_)=_
 rw[h];rfl
theorem nan_cut(u v t:Nat):Cl .nan ((Question.nanBits .f64 u v).cut t):=xe2 t _ (xih _ (by omega))
theorem s_sub0{c:Fc}{a:AV}{t:TypeId}{X Y:Operand}(ha:Is (Fa c) a)(h:c≠.nan):∃r,sBin Try.prog .sub t X Y a a=some r/\Is (Fa c.sub0) r:=by
 refine sBin_R ha ha ?_
 rintro _ _ ⟨u,rfl,hu⟩ ⟨v,rfl,hv⟩
 rw[binS_sub]
 cases c with
 |nan=>exact absurd rfl h
 |inf s=>
  have hu:double.read u=.infinity s:=hu
  have hv:double.read v=.infinity s:=hv
  have e:double.sub u v=none:=by
   unfold Format.sub
   rw[hu,hv]
   cases s<;>rfl
  rw[fsub_none e]
  exact OkR.choose rfl λt=>OkR.pure ⟨one_A (c:=.nan) ⟨_,rfl,nan_cut u v t⟩,_,rfl,nan_cut u v t⟩
 |num s V=>
  obtain⟨m,i,h1,h2,h3,h4⟩:=hu
  obtain⟨n,j,g1,g2,g3,g4⟩:=hv
  have e:double.sub u v=some (double.nearest false 0 (min i j)):=by
   unfold Format.sub
   rw[h1,g1]
   show some (double.write (.number (if signed s m (i-min i j).toNat+signed (!s) n (j-min i j).toNat=0 then s&&!s else decide (signed s m (i-min i j).toNat+signed (!s) n (j-min i j).toNat<0)) (signed s m (i-min i j).toNat+signed (!s) n (j-min i j).toNat).natAbs (min i j)))=_
   have k1:=x82 s m i (min i j) (by omega) (by omega)
   have k2:=x82 (!s) n j (min i j) (by omega) (by omega)
   rw[h4]at k1
   rw[g4,sg_not]at k2
   have k3:signed s m (i-min i j).toNat+signed (!s) n (j-min i j).toNat=0:=by
    have hp:(0:Int)<((2 ^ (min i j+1074).toNat:Nat):Int):=Int.natCast_pos.mpr (Nat.two_pow_pos _)
    have:(signed s m (i-min i j).toNat+signed (!s) n (j-min i j).toNat)*((2 ^ (min i j+1074).toNat:Nat):Int)=0:=by rw[xi8,k1,k2];omega
    rcases Int.mul_eq_zero.mp this with q|q
    .exact q
    .omega
   rw[k3,xgh rfl]
   cases s<;>rfl
  rw[fsub_some e]
  have g:Fa (.num false 0) (.float .f64 (double.nearest false 0 (min i j))):=⟨_,rfl,0,-1074,near_0 _ _,by omega,by omega,by unfold sv;simp⟩
  exact OkR.pure ⟨one_A g,g⟩
def T16:Nat:=10000000000000000*2 ^ 1074
theorem k0:Is (Fa (.num false 0)) (AV.sc (.float .f64 0)):=Is.sc ⟨_,rfl,0,-1074,rfl,by omega,by omega,rfl⟩
theorem kT{s:Bool}{w:Nat}(h:double.read w=.number s 5000000000000000 1):Is (Fa (.num s T16)) (AV.sc (.float .f64 w)):=by
 refine Is.sc ⟨_,rfl,_,_,h,by omega,by omega,?_⟩
 unfold sv T16
 rw[show((1:Int)+1074).toNat=1075 from rfl,show(1075:Nat)=1+1074 from rfl,Nat.pow_add,<-Nat.mul_assoc]
theorem geqT{s:Bool}{V:Nat}:cmpB .geq ((Fc.num s V).order (.num true T16))=(!s||decide (V<=T16)):=by
 show(some (compare (sg s V) (sg true T16)) == some .gt||some (compare (sg s V) (sg true T16)) == some .eq)=_
 have hT:0<T16:=xi7 (by omega) (Nat.two_pow_pos _)
 generalize T16=T at *
 have e:sg true T=-(T:Int):=rfl
 rw[e]
 cases s
 .have e2:sg false V=(V:Int):=rfl
  rw[e2,Int.compare_eq_gt.mpr (by omega)];rfl
 .have e2:sg true V=-(V:Int):=rfl
  rw[e2]
  rcases Nat.lt_trichotomy V T with g|g|g
  .rw[Int.compare_eq_gt.mpr (by omega),xgw (by omega)];rfl
  .rw[Int.compare_eq_eq.mpr (by omega),xgw (by omega)];rfl
  .rw[Int.compare_eq_lt.mpr (by omega),xhv (by omega)];rfl
theorem leqT{s:Bool}{V:Nat}:cmpB .leq ((Fc.num s V).order (.num false T16))=(s||decide (V<=T16)):=by
 show(some (compare (sg s V) (sg false T16)) == some .lt||some (compare (sg s V) (sg false T16)) == some .eq)=_
 have hT:0<T16:=xi7 (by omega) (Nat.two_pow_pos _)
 generalize T16=T at *
 have e:sg false T=(T:Int):=rfl
 rw[e]
 cases s
 .have e2:sg false V=(V:Int):=rfl
  rw[e2]
  rcases Nat.lt_trichotomy V T with g|g|g
  .rw[Int.compare_eq_lt.mpr (by omega),xgw (by omega)];rfl
  .rw[Int.compare_eq_eq.mpr (by omega),xgw (by omega)];rfl
  .rw[Int.compare_eq_gt.mpr (by omega),xhv (by omega)];rfl
 .have e2:sg true V=-(V:Int):=rfl
  rw[e2,Int.compare_eq_lt.mpr (by omega)];rfl
theorem xfy{s:Bool}{V:Nat}{a:AV}(ha:Is (Fa (.num s V)) a)(h:T16<V):V % 2 ^ 1074=0:=by
 obtain⟨v,hv⟩:=ha.1
 obtain⟨w,rfl,m,e,h1,h2,h3,h4⟩:=ha.2 v hv
 have hm:=(x8w h1).1
 have he:0<=e:=by
  rcases Int.lt_or_le e 0 with g|g
  .exfalso
   have q1:m*2 ^ (e+1074).toNat<=2 ^ 53*2 ^ 1073:=Nat.mul_le_mul (Nat.le_of_lt hm) (Nat.pow_le_pow_right (by omega) (by omega))
   have q2:2 ^ 53*2 ^ 1073<T16:=by unfold T16;decide
   unfold sv at h4
   omega
  .exact g
 rw[<-h4]
 unfold sv
 rw[show(e+1074).toNat=e.toNat+1074 by omega,Nat.pow_add,<-Nat.mul_assoc,Nat.mul_mod_left]
theorem s_f2i{s:Bool}{V:Nat}{a:AV}(ha:Is (Fa (.num s V)) a)(h:V<=T16):sCvt Try.prog x3 x4n a=some (I (sg s (V / 2 ^ 1074))):=by
 have hb:V / 2 ^ 1074<=10000000000000000:=Nat.div_le_of_le_mul (by rw[Nat.mul_comm];exact h)
 generalize hq:V / 2 ^ 1074=q at *
 refine sCvt_1 (A:=Fa (.num s V)) ha rfl (λu hu=>by obtain⟨w,rfl,-⟩:=hu;rfl) (λu hu=>?_)
 .obtain⟨w,rfl,hw⟩:=hu
  have hn:nfS Try.prog (convert x3 x4n (.float .f64 w))=nfS Try.prog (Conv.floatToInt .f64 w .i64):=by kernel_rfl
  rw[<-x5y,hn,x5y]
  unfold Conv.floatToInt
  simp only[toInt_num hw,hq]
  have h1:IntKind.i64.min=-9223372036854775808:=rfl
  have h2:IntKind.i64.max=9223372036854775807:=rfl
  rw[h1,h2,xgh (by cases s<;>simp[sg]<;>omega)]
  exact OkR.pure rfl
theorem s_i2f{n:Int}(h:n.natAbs<2 ^ 53\/n.natAbs<=10000000000000000):∃r,sCvt Try.prog x4n x3 (I n)=some r/\r=.sc (.float .f64 (FloatKind.f64.nearest n)):=by
 refine⟨_,?_,rfl⟩
 have hn:x3w Try.prog (convert x4n x3 (.int .i64 n))=some (.float .f64 (FloatKind.f64.nearest n)):=by kernel_rfl
 unfold sCvt cvt0
 simp only[show x3s (I n)=some (.int .i64 n)from rfl,show x7o Try.prog x4n x3 (.int .i64 n)=none from rfl,hn]
 rfl
theorem eql_back{s:Bool}{V:Nat}:cmpB .eql ((Fc.num (decide (sg s (V / 2 ^ 1074)<0)) (V / 2 ^ 1074*2 ^ 1074)).order (.num s V))=(V % 2 ^ 1074 == 0):=by
 show(some (compare (sg (decide (sg s (V / 2 ^ 1074)<0)) (V / 2 ^ 1074*2 ^ 1074)) (sg s V)) == some .eq)=_
 have hd:=Nat.div_add_mod V (2 ^ 1074)
 have hK:0<2 ^ 1074:=Nat.two_pow_pos _
 generalize (2:Nat) ^ 1074=K at *
 rw[Nat.mul_comm]at hd
 have e:sg (decide (sg s (V / K)<0)) (V / K*K)=sg s (V / K*K):=by
  cases s
  .rw[show decide (sg false (V / K)<0)=false from xhv (Int.not_lt.mpr (Int.natCast_nonneg _))]
  .by_cases h:V / K=0
   .rw[h,xh5];rfl
   .rw[show decide (sg true (V / K)<0)=true from xgw (by show -((V / K:Nat):Int)<0;generalize V / K=q at *;omega)]
 rw[e]
 by_cases h:V % K=0
 .have:V=V / K*K:=by omega
  rw[<-this,Int.compare_eq_eq.mpr rfl,h];rfl
 .have hne:sg s (V / K*K)≠sg s V:=λe=>h (by have:=sg_inj.mp e;omega)
  have h2:compare (sg s (V / K*K)) (sg s V)≠.eq:=λe=>hne (Int.compare_eq_eq.mp e)
  have h3:(V % K == 0)=false:=by simpa using h
  rw[h3]
  cases hc:compare (sg s (V / K*K)) (sg s V)
  .rfl
  .exact absurd hc h2
  .rfl
theorem near_num(n:Int)(h:n.natAbs<=10000000000000000){s:Bool}{V:Nat}{w:Nat}(hw:Cl (.num s V) w)(hq:n=sg s (V / 2 ^ 1074)):Cl (.num (decide (n<0)) (V / 2 ^ 1074*2 ^ 1074)) (FloatKind.f64.nearest n):=by
 show Cl _ (double.nearest (decide (n<0)) n.natAbs 0)
 have:n.natAbs=V / 2 ^ 1074:=by rw[hq,x9r]
 rw[this]
 exact tr_Cl hw _
theorem w_IsWhole{c:Fc}{a:AV}(ha:Is (Fa c) a)(d:Nat)(m:Mem):x3u (x3q (d+1)) xq [a] m=some (B c.whole,m):=by
 refine callV (by simp[ha.oneA.st]) ?_ m
 rw[x32]
 unfold x26 x1n
 have h1:=λX Y=>x6h (P:=Try.prog) (t:=x3) (x:=X) (y:=Y) (op:=.neq) rfl ha ha
 rw[neq_self]at h1
 cases c with
 |nan=>
  simp[mem0,h1]
  exact RetF.st rfl rfl
 |inf s=>
  obtain⟨r,e,hr⟩:=s_sub0 (t:=x3) (X:=.tmp 7) (Y:=.tmp 8) ha (λh=>by cases h)
  have h2:=x6h (P:=Try.prog) (t:=x3) (x:=.tmp 9) (y:=.const (.float .f64 0)) (op:=.neq) rfl hr k0
  rw[show cmpB .neq ((Fc.inf s).sub0.order (.num false 0))=true from rfl]at h2
  simp[mem0,h1,e,h2]
  exact RetF.st rfl rfl
 |num s V=>
  obtain⟨r,e,hr⟩:=s_sub0 (t:=x3) (X:=.tmp 7) (Y:=.tmp 8) ha (λh=>by cases h)
  have h2:=x6h (P:=Try.prog) (t:=x3) (x:=.tmp 9) (y:=.const (.float .f64 0)) (op:=.neq) rfl hr k0
  rw[show cmpB .neq ((Fc.num s V).sub0.order (.num false 0))=false from rfl]at h2
  have h3:=x6h (P:=Try.prog) (t:=x3) (x:=.tmp 12) (y:=.const (.float .f64 14069741636278059008)) (op:=.geq) rfl ha (kT (s:=true) (w:=14069741636278059008) rfl)
  have h4:=x6h (P:=Try.prog) (t:=x3) (x:=.tmp 15) (y:=.const (.float .f64 4846369599423283200)) (op:=.leq) rfl ha (kT (s:=false) (w:=4846369599423283200) rfl)
  rw[geqT]at h3
  rw[leqT]at h4
  by_cases hV:V<=T16
  .have h5:=s_f2i ha hV
   have hb:V / 2 ^ 1074<=10000000000000000:=Nat.div_le_of_le_mul (by rw[Nat.mul_comm];exact hV)
   have hb2:(sg s (V / 2 ^ 1074)).natAbs<=10000000000000000:=by rw[x9r];exact hb
   obtain⟨r2,e2,hr2⟩:=s_i2f (n:=sg s (V / 2 ^ 1074)) (Or.inr hb2)
   obtain⟨v,hv⟩:=ha.1
   obtain⟨w,rfl,hw⟩:=ha.2 v hv
   have hr3:Is (Fa (.num (decide (sg s (V / 2 ^ 1074)<0)) (V / 2 ^ 1074*2 ^ 1074))) r2:=by
    rw[hr2]
    exact Is.sc ⟨_,rfl,near_num _ hb2 hw rfl⟩
   have h6:=x6h (P:=Try.prog) (t:=x3) (x:=.tmp 21) (y:=.tmp 22) (op:=.eql) rfl hr3 ha
   rw[eql_back]at h6
   simp[mem0,h1,e,h2,h3,h4,xgw hV,h5,e2,h6]
   exact RetF.st rfl rfl
  .have hw:(Fc.num s V).whole=true:=by
    show(V % 2 ^ 1074 == 0)=true
    rw[xfy ha (by omega)];rfl
   rw[hw]
   rw[xhv hV]at h3 h4
   cases s
   .simp[mem0,h1,e,h2,h3,h4]
    exact RetF.st rfl rfl
   .simp[mem0,h1,e,h2,h3,h4]
    exact RetF.st rfl rfl
end Go.Ix
