import Derived.Test.YtgediplphidhpaaGreatWg5
import Derived.Test.YtgediplphidhpaaGreatWg3
set_option linter.unusedSimpArgs false
set_option linter.unusedVariables false
set_option exponentiation.threshold 3000
namespace Go.Ix
open Go.Proofs Ieee
theorem andnot_w(w:Nat):(BitVec.ofInt 64 (w:Int) &&& ~~~BitVec.ofInt 64 9223372036854775808).toNat=w % 2 ^ 63:=by
 have h1:BitVec.ofInt 64 (w:Int)=BitVec.ofNat 64 w:=by
  apply BitVec.eq_of_toNat_eq
  rw[BitVec.toNat_ofInt,BitVec.toNat_ofNat]
  omega
 have h2:(~~~BitVec.ofInt 64 9223372036854775808)=BitVec.ofNat 64 (2 ^ 63-1):=rfl
 rw[h1,h2,BitVec.toNat_and,BitVec.toNat_ofNat,BitVec.toNat_ofNat,show(2 ^ 63-1) % 2 ^ 64=2 ^ 63-1 by omega,Nat.and_two_pow_sub_one_eq_mod]
 omega
theorem s_andNot{P:Program}{c:Fc}{a:AV}{t:TypeId}{X Y:Operand}(ha:Is (Fu c) a):∃r,sBin P .andNot t X Y a (AV.sc (.int .u64 9223372036854775808))=some r/\Is (Fu c.abs) r:=by
 refine xx9 (B:=(·=.int .u64 9223372036854775808)) ha (Is.sc rfl) ?_
 rintro _ _ ⟨w,rfl,hw⟩ rfl
 have e:binS .andNot t X Y [.int .u64 (w:Int),.int .u64 9223372036854775808]=.pure (.int .u64 (IntKind.wrap .u64 ((BitVec.ofInt 64 (w:Int) &&& ~~~BitVec.ofInt 64 9223372036854775808).toNat:Int))):=rfl
 rw[e,andnot_w]
 have e2:IntKind.wrap .u64 ((w % 2 ^ 63:Nat):Int)=((w % 2 ^ 63:Nat):Int):=by
  show((w % 2 ^ 63:Nat):Int) % 18446744073709551616=_
  omega
 rw[e2]
 have g:Fu c.abs (.int .u64 ((w % 2 ^ 63:Nat):Int)):=⟨_,rfl,abs_Cl hw⟩
 exact OkR.pure ⟨one_U g,g⟩
theorem w_Abs{c:Fc}{a:AV}(ha:Is (Fa c) a)(d:Nat)(m:Mem):∃r,xnu (xnt (d+2)) x1q [a] m=some (r,m)/\Is (Fa c.abs) r:=by
 obtain⟨r1,e1,h1⟩:=w_F64bits ha d (⟨[],1⟩:Mem)
 obtain⟨r2,e2,h2⟩:=s_andNot (P:=Tryz.prog) (t:=x7) (X:=.tmp 4) (Y:=.const (.int .u64 9223372036854775808)) h1
 obtain⟨r3,e3,h3⟩:=w_F64from h2 d (⟨[],1⟩:Mem)
 refine⟨r3,xo0 (by simp[ha.oneA.st]) ?_ m,h3⟩
 rw[xkv]
 unfold xf0 xco
 simp[mem0,e1,e2,e3]
 exact RetF.st h3.oneA.st rfl
def Fc.isInf:Fc->Bool
 | .inf _=>true
 |_=>false
theorem s_gtMax{c:Fc}{a:AV}{t:TypeId}{X Y:Operand}(ha:Is (Fa c) a):sBin Tryz.prog .gtr t X Y a (AV.sc (.float .f64 9218868437227405311))=some (B (match c with | .inf s=>!s|_=>false)):=by
 refine sBin_1 (B:=(·=.float .f64 9218868437227405311)) ha (Is.sc rfl) rfl ?_
 rintro _ _ ⟨u,rfl,hu⟩ rfl
 rw[x12x rfl]
 have hM:double.read 9218868437227405311=.number false (2 ^ 53-1) 971:=rfl
 refine OkR.pure ?_
 congr 2
 unfold Format.order
 rw[hM]
 cases c with
 |nan=>
  obtain⟨s,t,h⟩:=hu
  rw[h];rfl
 |inf s=>
  have hu:double.read u=.infinity s:=hu
  rw[hu]
  cases s<;>rfl
 |num s V=>
  obtain⟨m,e,h1,h2,h3,h4⟩:=hu
  have hm:=(xvs h1).1
  rw[h1,x12w h2 (by omega)]
  have hlt:sg s (sv m e)<sg false (sv (2 ^ 53-1) 971):=by
   have h5:sv m e<sv (2 ^ 53-1) 971:=by
    unfold sv
    have q1:m*2 ^ (e+1074).toNat<=2 ^ 53*2 ^ (900+1074):=x1a3 (Nat.le_of_lt hm) (Nat.pow_le_pow_right (by omega) (by omega))
    have q2:2 ^ 53*2 ^ (900+1074)<(2 ^ 53-1)*2 ^ ((971:Int)+1074).toNat:=by decide
    omega
   have:sg s (sv m e)<=(sv m e:Int):=by cases s<;>simp[sg]<;>omega
   have h6:sg false (sv (2 ^ 53-1) 971)=(sv (2 ^ 53-1) 971:Int):=rfl
   omega
  rw[Int.compare_eq_lt.mpr hlt]
  rfl
theorem w_IsInf{c:Fc}{a:AV}(ha:Is (Fa c) a)(d:Nat)(m:Mem):xnu (xnt (d+3)) x32 [a,I 0] m=some (B c.isInf,m):=by
 obtain⟨r1,e1,h1⟩:=w_Abs ha d (⟨[],1⟩:Mem)
 refine xo0 (by simp[ha.oneA.st]) ?_ m
 rw[xkt]
 unfold xey xcm xhy x7m
 simp[mem0,e1,s_gtMax h1]
 refine RetF.st rfl ?_
 cases c<;>rfl
theorem w_Trunc{c:Fc}{a:AV}(ha:Is (Fa c) a)(d:Nat)(m:Mem):∃r,xnu (xnt (d+2)) x33 [a] m=some (r,m)/\Is (Fa c.tr) r:=by
 obtain⟨r1,e1,h1⟩:=w_aTrunc ha d (⟨[],1⟩:Mem)
 refine⟨r1,xo0 (by simp[ha.oneA.st]) ?_ m,h1⟩
 rw[xku]
 unfold xez xcn
 simp[mem0,e1]
 exact RetF.st h1.oneA.st rfl
def Fc.whole:Fc->Bool
 | .num _ V=>V % 2 ^ 1074 == 0
 |_=>false
def Fc.big:Fc->Bool
 | .num _ V=>decide (2047*2 ^ 1074<V)
 |_=>false
def pE(c d:Fc):Int:=bif c.whole&&d.whole then(bif c.big||d.big then 2 else 0)else 29
theorem sg_inj{s:Bool}{a b:Nat}:sg s a=sg s b↔a=b:=by
 unfold sg
 cases s<;>simp<;>omega
theorem neq_tr(c:Fc):cmpB .neq (c.order c.tr)=(c.isInf == false&&c.whole == false):=by
 cases c with
 |nan=>rfl
 |inf s=>cases s<;>rfl
 |num s V=>
  show(some (compare (sg s V) (sg s (V / 2 ^ 1074*2 ^ 1074))) != some .eq)=_
  show _=(true&&((V % 2 ^ 1074 == 0) == false))
  have hd:=Nat.div_add_mod V (2 ^ 1074)
  generalize (2:Nat) ^ 1074=K at *
  rw[Nat.mul_comm]at hd
  by_cases h:V % K=0
  .have:V=V / K*K:=by omega
   rw[<-this,Int.compare_eq_eq.mpr rfl,h];rfl
  .have hne:sg s V≠sg s (V / K*K):=λe=>h (by have:=sg_inj.mp e;omega)
   have h2:compare (sg s V) (sg s (V / K*K))≠.eq:=λe=>hne (Int.compare_eq_eq.mp e)
   have h3:(V % K == 0)=false:=by simpa using h
   rw[h3]
   cases hc:compare (sg s V) (sg s (V / K*K))
   .rfl
   .exact absurd hc h2
   .rfl
theorem k2047:Is (Fa (.num false (2047*2 ^ 1074))) (AV.sc (.float .f64 4656717616654581760)):=by
 refine Is.sc ⟨_,rfl,?_⟩
 refine⟨2047*2 ^ 42,-42,rfl,by omega,by omega,?_⟩
 unfold sv
 rw[show((-42:Int)+1074).toNat=1032 from rfl,Nat.mul_assoc,<-Nat.pow_add]
theorem gtr_abs{s:Bool}{V:Nat}:cmpB .gtr ((Fc.num s V).abs.order (.num false (2047*2 ^ 1074)))=(Fc.num s V).big:=by
 show(some (compare (sg false V) (sg false (2047*2 ^ 1074))) == some .gt)=decide (2047*2 ^ 1074<V)
 generalize 2047*2 ^ 1074=K
 show(some (compare (V:Int) (K:Int)) == some .gt)=_
 by_cases h:K<V
 .rw[Int.compare_eq_gt.mpr (by omega),x19h h];rfl
 .rw[x19w h]
  rcases x19t V K with g|g
  .rw[Int.compare_eq_lt.mpr (by omega)];rfl
  .rw[Int.compare_eq_eq.mpr (by omega)];rfl
theorem xvv{c:Fc}(h:c.whole=true):∃s V,c=.num s V:=by
 cases c with
 |num s V=>exact⟨s,V,rfl⟩
 |inf=>cases h
 |nan=>cases h
theorem z_2f:x5s=[AV.sc (.float .f64 0),AV.sc (.float .f64 0)]:=by kernel_rfl
theorem build_FF{a b:AV}(ha:One a)(hb:One b):xo5 x5s [(0,1,a),(1,1,b)]=some (.agg [a,b]):=by
 unfold xo5
 rw[z_2f]
 simp[xq9,ha.cs,hb.cs,xon]
theorem idx_0(a b:AV):sIdx Tryz.prog x7g (.agg [a,b]) (I 0)=some a:=by kernel_rfl
theorem idx_1(a b:AV):sIdx Tryz.prog x7g (.agg [a,b]) (I 1)=some b:=by kernel_rfl
theorem s_c2c(x y:Nat):∃r,sCvt Tryz.prog xd xa (.sc (.complex .f32 x y))=some r/\Is (Fz (fcs x) (fcs y)) r:=by
 refine sCvt_R (A:=(·=.complex .f32 x y)) (Is.sc rfl) (λu hu=>by rw[conc_sc.mp hu];rfl) ?_
 rintro _ rfl
 have h:nfS Tryz.prog (convert xd xa (.complex .f32 x y))=nfS Tryz.prog (Conv.complexToComplex .f32 x y .f64):=by kernel_rfl
 rw[<-xqd,h,xqd]
 exact(c2c x y).mono λv hv=>⟨one_Z hv,hv⟩
theorem s_f2f(x:Nat):∃r,sCvt Tryz.prog x9 x8 (.sc (.float .f32 x))=some r/\Is (Fa (fcs x)) r:=by
 refine sCvt_R (A:=(·=.float .f32 x)) (Is.sc rfl) (λu hu=>by rw[conc_sc.mp hu];rfl) ?_
 rintro _ rfl
 have h:nfS Tryz.prog (convert x9 x8 (.float .f32 x))=nfS Tryz.prog (Conv.floatToFloat .f32 x .f64):=by kernel_rfl
 rw[<-xqd,h,xqd]
 exact(f2f x).mono λv hv=>⟨xuk hv,hv⟩
abbrev C32(x y:Nat):AV:=.sc (.complex .f32 x y)
abbrev xqi:AV:=.sc (.float .f64 4656717616654581760)
noncomputable def MemA(a b:AV):Mem:=((⟨[],1⟩:Mem).new (0,9,6) (.row x5s 0 false)).set (0,9,6) (.row [a,b] 0 false)
theorem x130{c:Fc}{a:AV}(ha:Is (Fa c) a)(d:Nat)(m:Mem){α:Type}(A:Mem->Option α)(C:Mem->Option α) :
 ((xnu (xnt (d+3)) x32 [a,(I 0)] m).bind λp23=>
 sGv p23.1 false a p23.2 λp25=>
 sGv p23.1 false a p25.2 λp26=>
 sGp p23.1 false (xnu (xnt (d+3)) x33 [p26.1] p26.2) p26.2 λp27=>
 sGo p23.1 false (sBin Tryz.prog .neq x8 (.tmp 25) (.tmp 27) p25.1 p27.1) p27.2 λp28=>
 (xog p23.1 (B true) p28.1).bind λt29=>
 xnw t29 (A p28.2) (C p28.2))=bif c.whole then C m else A m:=by
 rw[w_IsInf ha d m]
 cases hi:c.isInf
 .obtain⟨r,e,hr⟩:=w_Trunc ha (d+1) m
  have hn:=xqq (P:=Tryz.prog) (t:=x8) (x:=.tmp 25) (y:=.tmp 27) (op:=.neq) rfl ha hr
  rw[neq_tr,hi]at hn
  simp[e,hn]
  cases c.whole<;>rfl
 .have:c.whole=false:=by cases c<;>first|rfl|cases hi
  simp[this]
theorem w_big1{s:Bool}{V:Nat}{a:AV}(ha:Is (Fa (.num s V)) a)(d:Nat)(m:Mem){α:Type}(A:Mem->Option α)(C:Mem->Option α) :
 ((xnu (xnt (d+3)) x1q [a] m).bind λp36=>
 (sBin Tryz.prog .gtr x8 (.tmp 36) (.tmp 37) p36.1 xqi).bind λt38=>
 xnw t38 (A p36.2) (C p36.2))=bif(Fc.num s V).big then A m else C m:=by
 obtain⟨r,e,hr⟩:=w_Abs ha (d+1) m
 have hn:=xqq (P:=Tryz.prog) (t:=x8) (x:=.tmp 36) (y:=.tmp 37) (op:=.gtr) rfl hr k2047
 rw[gtr_abs]at hn
 simp[e,hn]
 cases(Fc.num s V).big<;>rfl
theorem st_w0{c:Fc}{a b:AV}(ha:Is (Fa c) a)(d:Nat)(hs:FHs)(u:Nat)(rec1:xo6)(t1 t6:AV)(m:Mem)(fc:Nat) :
 x16 (xnt (d+3)) hs u rec1 t1 t6 (.agg [a,b]) (I 0) m fc=bif c.whole then rec1 t1 t6 (.agg [a,b]) (I 1) m (fc+13)else some (I 29,m):=by
 unfold x16
 rw[xou,show decide ((0:Int)<2)=true from rfl]
 rw[xnz,xot,idx_0,xnz]
 exact x130 ha d m (λm=>some (I 29,m)) (λm=>rec1 t1 t6 (.agg [a,b]) (I 1) m (fc+13))
theorem st_w1{c:Fc}{a b:AV}(hb:Is (Fa c) b)(d:Nat)(hs:FHs)(u:Nat)(rec1:xo6)(t1 t6:AV)(m:Mem)(fc:Nat) :
 x16 (xnt (d+3)) hs u rec1 t1 t6 (.agg [a,b]) (I 1) m fc=bif c.whole then rec1 t1 t6 (.agg [a,b]) (I 2) m (fc+13)else some (I 29,m):=by
 unfold x16
 rw[xou,show decide ((1:Int)<2)=true from rfl]
 rw[xnz,xot,idx_1,xnz]
 exact x130 hb d m (λm=>some (I 29,m)) (λm=>rec1 t1 t6 (.agg [a,b]) (I 2) m (fc+13))
theorem st_b0{s:Bool}{V:Nat}{a b:AV}(ha:Is (Fa (.num s V)) a)(d:Nat)(hs:FHs)(u:Nat)(rec1:xpc)(m:Mem)(fc:Nat) :
 x15 (xnt (d+3)) hs u rec1 xqi (.agg [a,b]) (I 0) m fc=bif(Fc.num s V).big then some (I 2,m)else rec1 xqi (.agg [a,b]) (I 1) m (fc+9):=by
 unfold x15
 rw[xou,show decide ((0:Int)<2)=true from rfl]
 rw[xnz,xot,idx_0,xnz]
 exact w_big1 ha d m (λm=>some (I 2,m)) (λm=>rec1 xqi (.agg [a,b]) (I 1) m (fc+9))
theorem st_b1{s:Bool}{V:Nat}{a b:AV}(hb:Is (Fa (.num s V)) b)(d:Nat)(hs:FHs)(u:Nat)(rec1:xpc)(m:Mem)(fc:Nat) :
 x15 (xnt (d+3)) hs u rec1 xqi (.agg [a,b]) (I 1) m fc=bif(Fc.num s V).big then some (I 2,m)else rec1 xqi (.agg [a,b]) (I 2) m (fc+9):=by
 unfold x15
 rw[xou,show decide ((1:Int)<2)=true from rfl]
 rw[xnz,xot,idx_1,xnz]
 exact w_big1 hb d m (λm=>some (I 2,m)) (λm=>rec1 xqi (.agg [a,b]) (I 2) m (fc+9))
theorem x131(d:Nat)(x y:Nat)(m:Mem):xnu (xnt (d+4)) x4k [C32 x y,xqi] m=some (I (pE (fcs x) (fcs y)),m):=by
 obtain⟨z,e1,h1⟩:=s_c2c x y
 obtain⟨a,e2,ha⟩:=s_real (P:=Tryz.prog) (t:=x8) (ts:=#[xa]) h1
 obtain⟨b,e3,hb⟩:=s_imag (P:=Tryz.prog) (t:=x8) (ts:=#[xa]) h1
 refine xo0 (by simp) ?_ m
 rw[xkp]
 unfold xeu xci
 have hst:∀k:Mem->Option (AV×Mem),sSt 2 (.ptr (0,9,6) 0 0) (.agg [a,b]) ((⟨[],1⟩:Mem).new (0,9,6) (.row x5s 0 false)) k=k (MemA a b):=by
  intro k
  unfold MemA
  rw[z_2f]
  simp[ha.oneA.on,hb.oneA.on]
 have hld:sLd true 2 (.ptr (0,9,6) 0 0) (MemA a b)=some (.agg [a,b]):=by
  unfold MemA
  simp
 simp only[mem0,e1,e2,e3,build_FF ha.oneA hb.oneA,xnz,xny]
 rw[hst]
 unfold xhw
 rw[hld]
 obtain⟨NM,hNM⟩:∃NM,NN=NM+3:=⟨NN-3,by have:=xo8;omega⟩
 rw[xnz,hNM,show x7i (xnt (d+3)) [] 0 (NM+3)=x16 (xnt (d+3)) [] 0 (x16 (xnt (d+3)) [] 0 (x16 (xnt (d+3)) [] 0 (x7i (xnt (d+3)) [] 0 NM)))from rfl]
 rw[st_w0 ha]
 unfold pE
 cases cx:(fcs x).whole
 .exact RetF.st rfl rfl
 rw[xqc,st_w1 hb]
 cases cy:(fcs y).whole
 .exact RetF.st rfl rfl
 rw[xqc]
 unfold x16
 rw[xou,show decide ((2:Int)<2)=false from rfl,xnz,xpj]
 unfold xhv
 rw[hld,xnz,hNM,show x7h (xnt (d+3)) [] 0 (NM+3)=x15 (xnt (d+3)) [] 0 (x15 (xnt (d+3)) [] 0 (x15 (xnt (d+3)) [] 0 (x7h (xnt (d+3)) [] 0 NM)))from rfl]
 obtain⟨s,V,hx⟩:=xvv cx
 obtain⟨s',V',hy⟩:=xvv cy
 rw[hx]at ha ⊢
 rw[hy]at hb ⊢
 rw[st_b0 ha]
 cases bx:(Fc.num s V).big
 rotate_left
 .exact RetF.st rfl rfl
 rw[xrs,st_b1 hb]
 cases bY:(Fc.num s' V').big
 rotate_left
 .exact RetF.st rfl rfl
 rw[xrs]
 unfold x15
 rw[xou,show decide ((2:Int)<2)=false from rfl,xnz,xpj]
 exact RetF.st rfl rfl
theorem neq_self(c:Fc):cmpB .neq (c.order c)=(match c with | .nan=>true|_=>false):=by
 cases c with
 |nan=>rfl
 |inf s=>cases s<;>rfl
 |num s V=>
  show(some (compare (sg s V) (sg s V)) != some .eq)=false
  rw[Int.compare_eq_eq.mpr rfl];rfl
def Fc.sub0:Fc->Fc
 | .num _ _=>.num false 0
 |_=>.nan
theorem binS_sub{t:TypeId}{x y:Operand}{u v:Nat}:binS .sub t x y [.float .f64 u,.float .f64 v]=Op.floatArith .sub .f64 u v:=rfl
theorem fsub_some{u v r:Nat}(h:double.sub u v=some r):Op.floatArith .sub .f64 u v=.pure (.float .f64 r):=by
 unfold Op.floatArith
 show(match double.sub u v with
  |some r=>Pure.pure (Value.float .f64 r)
  |none=>_)=_
 rw[h];rfl
theorem fsub_none{u v:Nat}(h:double.sub u v=none):Op.floatArith .sub .f64 u v=.choose (.nanBits .f64 u v) λk=>.pure (.float .f64 k):=by
 unfold Op.floatArith
 show(match double.sub u v with
  |some r=>Pure.pure (Value.float .f64 r)
  |none=>_)=_
 rw[h];rfl
theorem nan_cut(u v t:Nat):Cl .nan ((Question.nanBits .f64 u v).cut t):=x12v t _ (x1aa _ (by omega))
theorem s_sub0{c:Fc}{a:AV}{t:TypeId}{X Y:Operand}(ha:Is (Fa c) a)(h:c≠.nan):∃r,sBin Tryz.prog .sub t X Y a a=some r/\Is (Fa c.sub0) r:=by
 refine xx9 ha ha ?_
 rintro _ _ ⟨u,rfl,hu⟩ ⟨v,rfl,hv⟩
 rw[binS_sub]
 cases c with
 |nan=>exact absurd rfl h
 |inf s=>
  have hu:double.read u=.infinity s:=hu
  have hv:double.read v=.infinity s:=hv
  have e:double.sub u v=none:=by
   unfold Format.sub
   rw[hu,hv]
   cases s<;>rfl
  rw[fsub_none e]
  exact OkR.choose rfl λt=>OkR.pure ⟨xuk (c:=.nan) ⟨_,rfl,nan_cut u v t⟩,_,rfl,nan_cut u v t⟩
 |num s V=>
  obtain⟨m,i,h1,h2,h3,h4⟩:=hu
  obtain⟨n,j,g1,g2,g3,g4⟩:=hv
  have e:double.sub u v=some (double.nearest false 0 (min i j)):=by
   unfold Format.sub
   rw[h1,g1]
   show some (double.write (.number (if signed s m (i-min i j).toNat+signed (!s) n (j-min i j).toNat=0 then s&&!s else decide (signed s m (i-min i j).toNat+signed (!s) n (j-min i j).toNat<0)) (signed s m (i-min i j).toNat+signed (!s) n (j-min i j).toNat).natAbs (min i j)))=_
   have k1:=xul s m i (min i j) (by omega) (by omega)
   have k2:=xul (!s) n j (min i j) (by omega) (by omega)
   rw[h4]at k1
   rw[g4,sg_not]at k2
   have k3:signed s m (i-min i j).toNat+signed (!s) n (j-min i j).toNat=0:=by
    have hp:(0:Int)<((2 ^ (min i j+1074).toNat:Nat):Int):=Int.natCast_pos.mpr (Nat.two_pow_pos _)
    have:(signed s m (i-min i j).toNat+signed (!s) n (j-min i j).toNat)*((2 ^ (min i j+1074).toNat:Nat):Int)=0:=by rw[x1av,k1,k2];omega
    rcases x1cb.mp this with q|q
    .exact q
    .omega
   rw[k3,if_pos rfl]
   cases s<;>rfl
  rw[fsub_some e]
  have g:Fa (.num false 0) (.float .f64 (double.nearest false 0 (min i j))):=⟨_,rfl,0,-1074,near_0 _ _,by omega,by omega,by unfold sv;simp⟩
  exact OkR.pure ⟨xuk g,g⟩
def T16:Nat:=10000000000000000*2 ^ 1074
theorem k0:Is (Fa (.num false 0)) (AV.sc (.float .f64 0)):=Is.sc ⟨_,rfl,0,-1074,rfl,by omega,by omega,rfl⟩
theorem kT{s:Bool}{w:Nat}(h:double.read w=.number s 5000000000000000 1):Is (Fa (.num s T16)) (AV.sc (.float .f64 w)):=by
 refine Is.sc ⟨_,rfl,_,_,h,by omega,by omega,?_⟩
 unfold sv T16
 rw[show((1:Int)+1074).toNat=1075 from rfl,show(1075:Nat)=1+1074 from rfl,Nat.pow_add,<-Nat.mul_assoc]
theorem geqT{s:Bool}{V:Nat}:cmpB .geq ((Fc.num s V).order (.num true T16))=(!s||decide (V<=T16)):=by
 show(some (compare (sg s V) (sg true T16)) == some .gt||some (compare (sg s V) (sg true T16)) == some .eq)=_
 have hT:0<T16:=x1at (by omega) (Nat.two_pow_pos _)
 generalize T16=T at *
 have e:sg true T=-(T:Int):=rfl
 rw[e]
 cases s
 .have e2:sg false V=(V:Int):=rfl
  rw[e2,Int.compare_eq_gt.mpr (by omega)];rfl
 .have e2:sg true V=-(V:Int):=rfl
  rw[e2]
  rcases Nat.lt_trichotomy V T with g|g|g
  .rw[Int.compare_eq_gt.mpr (by omega),x19h (by omega)];rfl
  .rw[Int.compare_eq_eq.mpr (by omega),x19h (by omega)];rfl
  .rw[Int.compare_eq_lt.mpr (by omega),x19w (by omega)];rfl
theorem leqT{s:Bool}{V:Nat}:cmpB .leq ((Fc.num s V).order (.num false T16))=(s||decide (V<=T16)):=by
 show(some (compare (sg s V) (sg false T16)) == some .lt||some (compare (sg s V) (sg false T16)) == some .eq)=_
 have hT:0<T16:=x1at (by omega) (Nat.two_pow_pos _)
 generalize T16=T at *
 have e:sg false T=(T:Int):=rfl
 rw[e]
 cases s
 .have e2:sg false V=(V:Int):=rfl
  rw[e2]
  rcases Nat.lt_trichotomy V T with g|g|g
  .rw[Int.compare_eq_lt.mpr (by omega),x19h (by omega)];rfl
  .rw[Int.compare_eq_eq.mpr (by omega),x19h (by omega)];rfl
  .rw[Int.compare_eq_gt.mpr (by omega),x19w (by omega)];rfl
 .have e2:sg true V=-(V:Int):=rfl
  rw[e2,Int.compare_eq_lt.mpr (by omega)];rfl
theorem x15o{s:Bool}{V:Nat}{a:AV}(ha:Is (Fa (.num s V)) a)(h:T16<V):V % 2 ^ 1074=0:=by
 obtain⟨v,hv⟩:=ha.1
 obtain⟨w,rfl,m,e,h1,h2,h3,h4⟩:=ha.2 v hv
 have hm:=(xvs h1).1
 have he:0<=e:=by
  rcases Int.lt_or_le e 0 with g|g
  .exfalso
   have q1:m*2 ^ (e+1074).toNat<=2 ^ 53*2 ^ 1073:=x1a3 (Nat.le_of_lt hm) (Nat.pow_le_pow_right (by omega) (by omega))
   have q2:2 ^ 53*2 ^ 1073<T16:=by unfold T16;decide
   unfold sv at h4
   omega
  .exact g
 rw[<-h4]
 unfold sv
 rw[show(e+1074).toNat=e.toNat+1074 by omega,Nat.pow_add,<-Nat.mul_assoc,Nat.mul_mod_left]
theorem s_f2i{s:Bool}{V:Nat}{a:AV}(ha:Is (Fa (.num s V)) a)(h:V<=T16):sCvt Tryz.prog x8 xo4 a=some (I (sg s (V / 2 ^ 1074))):=by
 have hb:V / 2 ^ 1074<=10000000000000000:=Nat.div_le_of_le_mul (by rw[Nat.mul_comm];exact h)
 generalize hq:V / 2 ^ 1074=q at *
 refine sCvt_1 (A:=Fa (.num s V)) ha rfl (λu hu=>by obtain⟨w,rfl,-⟩:=hu;rfl) (λu hu=>?_)
 .obtain⟨w,rfl,hw⟩:=hu
  have hn:nfS Tryz.prog (convert x8 xo4 (.float .f64 w))=nfS Tryz.prog (Conv.floatToInt .f64 w .i64):=by kernel_rfl
  rw[<-xqd,hn,xqd]
  unfold Conv.floatToInt
  simp only[x12y hw,hq]
  have h1:IntKind.i64.min=-9223372036854775808:=rfl
  have h2:IntKind.i64.max=9223372036854775807:=rfl
  rw[h1,h2,if_pos (by cases s<;>simp[sg]<;>omega)]
  exact OkR.pure rfl
theorem s_i2f{n:Int}(h:n.natAbs<2 ^ 53\/n.natAbs<=10000000000000000):∃r,sCvt Tryz.prog xo4 x8 (I n)=some r/\r=.sc (.float .f64 (FloatKind.f64.nearest n)):=by
 refine⟨_,?_,rfl⟩
 have hn:xo1 Tryz.prog (convert xo4 x8 (.int .i64 n))=some (.float .f64 (FloatKind.f64.nearest n)):=by kernel_rfl
 unfold sCvt cvt0
 simp only[show xo9 (I n)=some (.int .i64 n)from rfl,show xr2 Tryz.prog xo4 x8 (.int .i64 n)=none from rfl,hn]
 rfl
theorem eql_back{s:Bool}{V:Nat}:cmpB .eql ((Fc.num (decide (sg s (V / 2 ^ 1074)<0)) (V / 2 ^ 1074*2 ^ 1074)).order (.num s V))=(V % 2 ^ 1074 == 0):=by
 show(some (compare (sg (decide (sg s (V / 2 ^ 1074)<0)) (V / 2 ^ 1074*2 ^ 1074)) (sg s V)) == some .eq)=_
 have hd:=Nat.div_add_mod V (2 ^ 1074)
 have hK:0<2 ^ 1074:=Nat.two_pow_pos _
 generalize (2:Nat) ^ 1074=K at *
 rw[Nat.mul_comm]at hd
 have e:sg (decide (sg s (V / K)<0)) (V / K*K)=sg s (V / K*K):=by
  cases s
  .rw[show decide (sg false (V / K)<0)=false from x19w (Int.not_lt.mpr (Int.natCast_nonneg _))]
  .by_cases h:V / K=0
   .rw[h,x19q];rfl
   .rw[show decide (sg true (V / K)<0)=true from x19h (by show -((V / K:Nat):Int)<0;generalize V / K=q at *;omega)]
 rw[e]
 by_cases h:V % K=0
 .have:V=V / K*K:=by omega
  rw[<-this,Int.compare_eq_eq.mpr rfl,h];rfl
 .have hne:sg s (V / K*K)≠sg s V:=λe=>h (by have:=sg_inj.mp e;omega)
  have h2:compare (sg s (V / K*K)) (sg s V)≠.eq:=λe=>hne (Int.compare_eq_eq.mp e)
  have h3:(V % K == 0)=false:=by simpa using h
  rw[h3]
  cases hc:compare (sg s (V / K*K)) (sg s V)
  .rfl
  .exact absurd hc h2
  .rfl
theorem near_num(n:Int)(h:n.natAbs<=10000000000000000){s:Bool}{V:Nat}{w:Nat}(hw:Cl (.num s V) w)(hq:n=sg s (V / 2 ^ 1074)):Cl (.num (decide (n<0)) (V / 2 ^ 1074*2 ^ 1074)) (FloatKind.f64.nearest n):=by
 show Cl _ (double.nearest (decide (n<0)) n.natAbs 0)
 have:n.natAbs=V / 2 ^ 1074:=by rw[hq,xxc]
 rw[this]
 exact tr_Cl hw _
theorem xvw{c:Fc}{a:AV}(ha:Is (Fa c) a)(d:Nat)(m:Mem):xnu (xnt (d+1)) x30 [a] m=some (B c.whole,m):=by
 refine xo0 (by simp[ha.oneA.st]) ?_ m
 rw[xkr]
 unfold xew xck
 have h1:=λX Y=>xqq (P:=Tryz.prog) (t:=x8) (x:=X) (y:=Y) (op:=.neq) rfl ha ha
 rw[neq_self]at h1
 cases c with
 |nan=>
  simp[mem0,h1]
  exact RetF.st rfl rfl
 |inf s=>
  obtain⟨r,e,hr⟩:=s_sub0 (t:=x8) (X:=.tmp 7) (Y:=.tmp 8) ha (λh=>by cases h)
  have h2:=xqq (P:=Tryz.prog) (t:=x8) (x:=.tmp 9) (y:=.const (.float .f64 0)) (op:=.neq) rfl hr k0
  rw[show cmpB .neq ((Fc.inf s).sub0.order (.num false 0))=true from rfl]at h2
  simp[mem0,h1,e,h2]
  exact RetF.st rfl rfl
 |num s V=>
  obtain⟨r,e,hr⟩:=s_sub0 (t:=x8) (X:=.tmp 7) (Y:=.tmp 8) ha (λh=>by cases h)
  have h2:=xqq (P:=Tryz.prog) (t:=x8) (x:=.tmp 9) (y:=.const (.float .f64 0)) (op:=.neq) rfl hr k0
  rw[show cmpB .neq ((Fc.num s V).sub0.order (.num false 0))=false from rfl]at h2
  have h3:=xqq (P:=Tryz.prog) (t:=x8) (x:=.tmp 12) (y:=.const (.float .f64 14069741636278059008)) (op:=.geq) rfl ha (kT (s:=true) (w:=14069741636278059008) rfl)
  have h4:=xqq (P:=Tryz.prog) (t:=x8) (x:=.tmp 15) (y:=.const (.float .f64 4846369599423283200)) (op:=.leq) rfl ha (kT (s:=false) (w:=4846369599423283200) rfl)
  rw[geqT]at h3
  rw[leqT]at h4
  by_cases hV:V<=T16
  .have h5:=s_f2i ha hV
   have hb:V / 2 ^ 1074<=10000000000000000:=Nat.div_le_of_le_mul (by rw[Nat.mul_comm];exact hV)
   have hb2:(sg s (V / 2 ^ 1074)).natAbs<=10000000000000000:=by rw[xxc];exact hb
   obtain⟨r2,e2,hr2⟩:=s_i2f (n:=sg s (V / 2 ^ 1074)) (Or.inr hb2)
   obtain⟨v,hv⟩:=ha.1
   obtain⟨w,rfl,hw⟩:=ha.2 v hv
   have hr3:Is (Fa (.num (decide (sg s (V / 2 ^ 1074)<0)) (V / 2 ^ 1074*2 ^ 1074))) r2:=by
    rw[hr2]
    exact Is.sc ⟨_,rfl,near_num _ hb2 hw rfl⟩
   have h6:=xqq (P:=Tryz.prog) (t:=x8) (x:=.tmp 21) (y:=.tmp 22) (op:=.eql) rfl hr3 ha
   rw[eql_back]at h6
   simp[mem0,h1,e,h2,h3,h4,x19h hV,h5,e2,h6]
   exact RetF.st rfl rfl
  .have hw:(Fc.num s V).whole=true:=by
    show(V % 2 ^ 1074 == 0)=true
    rw[x15o ha (by omega)];rfl
   rw[hw]
   rw[x19w hV]at h3 h4
   cases s
   .simp[mem0,h1,e,h2,h3,h4]
    exact RetF.st rfl rfl
   .simp[mem0,h1,e,h2,h3,h4]
    exact RetF.st rfl rfl
theorem kM:Is (Fa (.num true (2047*2 ^ 1074))) (AV.sc (.float .f64 13880089653509357568)):=by
 refine Is.sc ⟨_,rfl,?_⟩
 refine⟨2047*2 ^ 42,-42,rfl,by omega,by omega,?_⟩
 unfold sv
 rw[show((-42:Int)+1074).toNat=1032 from rfl,Nat.mul_assoc,<-Nat.pow_add]
theorem lss_M{s:Bool}{V:Nat}:cmpB .lss ((Fc.num s V).order (.num true (2047*2 ^ 1074)))=(s&&(Fc.num s V).big):=by
 show(some (compare (sg s V) (sg true (2047*2 ^ 1074))) == some .lt)=(s&&decide (2047*2 ^ 1074<V))
 have hK:0<2047*2 ^ 1074:=x1at (by omega) (Nat.two_pow_pos _)
 generalize 2047*2 ^ 1074=K at *
 have e:sg true K=-(K:Int):=rfl
 rw[e]
 cases s
 .have e2:sg false V=(V:Int):=rfl
  rw[e2,Int.compare_eq_gt.mpr (by omega)];rfl
 .have e2:sg true V=-(V:Int):=rfl
  rw[e2]
  rcases Nat.lt_trichotomy V K with g|g|g
  .rw[Int.compare_eq_gt.mpr (by omega),x19w (by omega)];rfl
  .rw[Int.compare_eq_eq.mpr (by omega),x19w (by omega)];rfl
  .rw[Int.compare_eq_lt.mpr (by omega),x19h (by omega)];rfl
theorem gtr_M{s:Bool}{V:Nat}:cmpB .gtr ((Fc.num s V).order (.num false (2047*2 ^ 1074)))=(!s&&(Fc.num s V).big):=by
 show(some (compare (sg s V) (sg false (2047*2 ^ 1074))) == some .gt)=(!s&&decide (2047*2 ^ 1074<V))
 have hK:0<2047*2 ^ 1074:=x1at (by omega) (Nat.two_pow_pos _)
 generalize 2047*2 ^ 1074=K at *
 have e:sg false K=(K:Int):=rfl
 rw[e]
 cases s
 .have e2:sg false V=(V:Int):=rfl
  rw[e2]
  rcases Nat.lt_trichotomy V K with g|g|g
  .rw[Int.compare_eq_lt.mpr (by omega),x19w (by omega)];rfl
  .rw[Int.compare_eq_eq.mpr (by omega),x19w (by omega)];rfl
  .rw[Int.compare_eq_gt.mpr (by omega),x19h (by omega)];rfl
 .have e2:sg true V=-(V:Int):=rfl
  rw[e2,Int.compare_eq_lt.mpr (by omega)];rfl
theorem cvt2047:sCvt Tryz.prog xo4 x8 (I 2047)=some xqi:=by
 obtain⟨r,e,h⟩:=s_i2f (n:=2047) (Or.inl (by decide))
 rw[e,h];rfl
theorem neg2047:sUn Tryz.prog .neg xqi=some (AV.sc (.float .f64 13880089653509357568)):=by
 have h:xo1 Tryz.prog (Op.unary .neg (.float .f64 4656717616654581760))=some (.float .f64 13880089653509357568):=by kernel_rfl
 unfold sUn un0
 simp only[show xo9 xqi=some (.float .f64 4656717616654581760)from rfl,h]
 rfl
theorem x15p{c e:Fc}{a b:AV}(ha:Is (Fa c) a)(hb:Is (Fa e) b)(d:Nat)(m:Mem):xnu (xnt (d+2)) x4i [a,b,I 2047] m=some (I (pE c e),m):=by
 refine xo0 (by simp[ha.oneA.st,hb.oneA.st]) ?_ m
 rw[xkj]
 unfold xeo xcc
 unfold pE
 cases cx:c.whole
 .simp[mem0,xvw ha,cx]
  exact RetF.st rfl rfl
 cases cy:e.whole
 .simp[mem0,xvw ha,xvw hb,cx,cy]
  exact RetF.st rfl rfl
 obtain⟨s,V,rfl⟩:=xvv cx
 obtain⟨s',V',rfl⟩:=xvv cy
 have l1:=λX Y=>xqq (P:=Tryz.prog) (t:=x8) (x:=X) (y:=Y) (op:=.lss) rfl ha kM
 have l2:=λX Y=>xqq (P:=Tryz.prog) (t:=x8) (x:=X) (y:=Y) (op:=.gtr) rfl ha k2047
 have l3:=λX Y=>xqq (P:=Tryz.prog) (t:=x8) (x:=X) (y:=Y) (op:=.lss) rfl hb kM
 have l4:=λX Y=>xqq (P:=Tryz.prog) (t:=x8) (x:=X) (y:=Y) (op:=.gtr) rfl hb k2047
 simp only[lss_M,gtr_M]at l1 l2 l3 l4
 simp[mem0,xvw ha,xvw hb,cx,cy,cvt2047,neg2047,l1]
 cases s<;>cases s'<;>cases bx:(Fc.big _)<;>cases bY:(Fc.big (.num _ V'))<;>simp[bx,bY,l2,l3,l4,neg2047]<;>exact RetF.st rfl rfl
theorem xvx(x y:Nat):xoi Tryz.prog .real #[xd] x9 [C32 x y]=some (.sc (.float .f32 x)):=by
 have h:xo1 Tryz.prog (biS .real #[xd] x9 [.complex .f32 x y])=some (.float .f32 x):=by kernel_rfl
 unfold xoi bi0
 simp only[show xop [C32 x y]=some [.complex .f32 x y]from rfl,h]
 rfl
theorem xxi(x y:Nat):xoi Tryz.prog .imag #[xd] x9 [C32 x y]=some (.sc (.float .f32 y)):=by
 have h:xo1 Tryz.prog (biS .imag #[xd] x9 [.complex .f32 x y])=some (.float .f32 y):=by kernel_rfl
 unfold xoi bi0
 simp only[show xop [C32 x y]=some [.complex .f32 x y]from rfl,h]
 rfl
theorem x132(d:Nat)(x y:Nat)(m:Mem):xnu (xnt (d+3)) x4b [C32 x y,I 2047] m=some (I (pE (fcs x) (fcs y)),m):=by
 obtain⟨a,e1,ha⟩:=s_f2f x
 obtain⟨b,e2,hb⟩:=s_f2f y
 refine xo0 (by simp) ?_ m
 rw[xk3]
 unfold xe8 xbo
 simp[mem0,xvx,xxi,e1,e2,x15p ha hb]
 exact RetF.st rfl rfl
open Go.Proofs
def dt9(n a b d e f g h i:Int):Int:=n*(e*i-f*h)+a*(f*g-d*i)+b*(d*h-e*g)
def row9(n a b d e f g h i:Int):List AV:=[I n,I a,I b,I d,I e,I f,I g,I h,I i]
theorem e_cross3(k:Nat)(d e f g h i:Int):((xnt (k+1) [] xfg [.agg [I d,I e,I f],.agg [I g,I h,I i]] mem0).bind λp=>Go.Ix.frz p.2.get deep p.1)=some (.agg [I (co2 e i f h),I (co2 f g d i),I (co2 d h e g)]):=by kernel_rfl
theorem e_detP(k:Nat)(n a b d e f g h i:Int):((xnt (k+2) [] x69 [.agg (row9 n a b d e f g h i)] mem0).bind λp=>Go.Ix.frz p.2.get deep p.1)=some (I (dotW n a b (co2 e i f h) (co2 f g d i) (co2 d h e g))):=by kernel_rfl
theorem e_detR(k:Nat)(n a b d e f g h i:Int):((xnt (k+1) [] x6k [.agg (row9 n a b d e f g h i)] mem0).bind λp=>Go.Ix.frz p.2.get deep p.1)=some (I (aW (sW2 (mW n (co2 e i f h)) (mW a (co2 d i f g))) (mW b (co2 d h e g)))):=by kernel_rfl
theorem xtn(p q r s:Int):Cg (co2 p q r s) (p*q-r*s):=cg_s (cg_m (.refl p) (.refl q)) (cg_m (.refl r) (.refl s))
section
variable{n a b d e f g h i:Int}
theorem xto(k:Nat)(hb:bd (dt9 n a b d e f g h i) 9223372036854775807)(m:Mem):xnu (xnt (k+2)) x69 [.agg (row9 n a b d e f g h i)] m=some (I (dt9 n a b d e f g h i),m):=by
 have h0:=e_detP k n a b d e f g h i
 have h1:dotW n a b (co2 e i f h) (co2 f g d i) (co2 d h e g)=dt9 n a b d e f g h i:=by
  refine aW_of ?_ hb
  exact cg_a (cg_a (cg_m (.refl n) (xtn ..)) (cg_m (.refl a) (xtn ..))) (cg_m (.refl b) (xtn ..))
 rw[h1]at h0
 exact xo0 rfl (xpw h0) m
theorem xtp(k:Nat)(hb:bd (dt9 n a b d e f g h i) 9223372036854775807)(m:Mem):xnu (xnt (k+1)) x6k [.agg (row9 n a b d e f g h i)] m=some (I (dt9 n a b d e f g h i),m):=by
 have h0:=e_detR k n a b d e f g h i
 have h1:aW (sW2 (mW n (co2 e i f h)) (mW a (co2 d i f g))) (mW b (co2 d h e g))=dt9 n a b d e f g h i:=by
  refine aW_of ?_ hb
  refine(cg_a (cg_s (cg_m (.refl n) (xtn ..)) (cg_m (.refl a) (xtn ..))) (cg_m (.refl b) (xtn ..))).trans ?_
  unfold dt9
  grind
 rw[h1]at h0
 exact xo0 rfl (xpw h0) m
theorem w_withP0(k:Nat)(x y z:Int)(m:Mem):xnu (xnt (k+1)) x68 [.agg (row9 n a b d e f g h i),I 0,.agg [I x,I y,I z]] m=some (.agg (row9 x y z d e f g h i),m):=xo0 rfl (xpw (by kernel_rfl)) m
theorem w_withP1(k:Nat)(x y z:Int)(m:Mem):xnu (xnt (k+1)) x68 [.agg (row9 n a b d e f g h i),I 1,.agg [I x,I y,I z]] m=some (.agg (row9 n a b x y z g h i),m):=xo0 rfl (xpw (by kernel_rfl)) m
theorem w_withP2(k:Nat)(x y z:Int)(m:Mem):xnu (xnt (k+1)) x68 [.agg (row9 n a b d e f g h i),I 2,.agg [I x,I y,I z]] m=some (.agg (row9 n a b d e f x y z),m):=xo0 rfl (xpw (by kernel_rfl)) m
theorem w_withR0(k:Nat)(x y z:Int)(m:Mem):xnu (xnt (k+1)) x6j [.agg (row9 n a b d e f g h i),.agg [I x,I y,I z],I 0] m=some (.agg (row9 x a b y e f z h i),m):=xo0 rfl (xpw (by kernel_rfl)) m
theorem w_withR1(k:Nat)(x y z:Int)(m:Mem):xnu (xnt (k+1)) x6j [.agg (row9 n a b d e f g h i),.agg [I x,I y,I z],I 1] m=some (.agg (row9 n x b d y f g z i),m):=xo0 rfl (xpw (by kernel_rfl)) m
theorem w_withR2(k:Nat)(x y z:Int)(m:Mem):xnu (xnt (k+1)) x6j [.agg (row9 n a b d e f g h i),.agg [I x,I y,I z],I 2] m=some (.agg (row9 n a x d e y g h z),m):=xo0 rfl (xpw (by kernel_rfl)) m
theorem xxj(k:Nat)(x y:Int)(m:Mem):xnu (xnt (k+1)) x8l [I x,I y] m=some (.agg [I 1,I x,I y],m):=xo0 rfl (xpw (by kernel_rfl)) m
end
theorem l_div3(call:xnv)(hs:FHs)(u:Nat)(m:Mem):∀(n:Nat) (a b:Int) (j fc:Nat),b.natAbs<2 ^ n->2*n+1<=j ->
 ∃fc',x1z call hs u j (I a) (I b) m fc=xa4 call hs u (I (eG a b)) m fc':=by
 intro n
 induction n with
 |zero=>
  intro a b j fc h hj
  obtain⟨j,rfl⟩:∃i,j=i+1:=⟨j-1,by omega⟩
  have:b=0:=by simp at h;omega
  subst this
  simp only[x1z]
  unfold x5e
  exact⟨fc+2,by simp[eG_0]⟩
 |succ n ih=>
  intro a b j fc h hj
  obtain⟨j,rfl⟩:∃i,j=i+1+1:=⟨j-2,by omega⟩
  by_cases hb:b=0
  .subst hb
   simp only[x1z]
   unfold x5e
   exact⟨fc+2,by simp[eG_0]⟩
  .have e1:(a.tmod b).natAbs=a.natAbs % b.natAbs:=Int.natAbs_tmod a b
   rw[eG_s hb]
   by_cases hc:a.tmod b=0
   .refine⟨fc+8+2,?_⟩
    simp only[x1z]
    unfold x5e
    simp[hb,xrq hb,hc,eG_0]
   .have e2:(b.tmod (a.tmod b)).natAbs=b.natAbs % (a.natAbs % b.natAbs):=by rw[Int.natAbs_tmod,e1]
    have h2:=x12s (a:=a.natAbs) (b:=b.natAbs) (by omega) (by omega)
    obtain⟨fc',hf⟩:=ih (a.tmod b) (b.tmod (a.tmod b)) j (fc+8+8) (by rw[e2];have:=Nat.pow_succ 2 n;omega) (by omega)
    refine⟨fc',?_⟩
    rw[eG_s hc,<-hf]
    simp only[x1z]
    unfold x5e
    simp[hb,xrq hb,hc,xrq hc]
theorem l_gcdR(call:xnv)(hs:FHs)(u:Nat)(m:Mem):∀(n:Nat) (a b:Int) (j fc:Nat),b.natAbs<2 ^ n->2*n+1<=j ->
 ∃fc',x23 call hs u j (I a) (I b) m fc=xau call hs u (I (eG a b)) m fc':=by
 intro n
 induction n with
 |zero=>
  intro a b j fc h hj
  obtain⟨j,rfl⟩:∃i,j=i+1:=⟨j-1,by omega⟩
  have:b=0:=by simp at h;omega
  subst this
  simp only[x23]
  unfold x5k
  exact⟨fc+2,by simp[eG_0]⟩
 |succ n ih=>
  intro a b j fc h hj
  obtain⟨j,rfl⟩:∃i,j=i+1+1:=⟨j-2,by omega⟩
  by_cases hb:b=0
  .subst hb
   simp only[x23]
   unfold x5k
   exact⟨fc+2,by simp[eG_0]⟩
  .have e1:(a.tmod b).natAbs=a.natAbs % b.natAbs:=Int.natAbs_tmod a b
   rw[eG_s hb]
   by_cases hc:a.tmod b=0
   .refine⟨fc+8+2,?_⟩
    simp only[x23]
    unfold x5k
    simp[hb,xrq hb,hc,eG_0]
   .have e2:(b.tmod (a.tmod b)).natAbs=b.natAbs % (a.natAbs % b.natAbs):=by rw[Int.natAbs_tmod,e1]
    have h2:=x12s (a:=a.natAbs) (b:=b.natAbs) (by omega) (by omega)
    obtain⟨fc',hf⟩:=ih (a.tmod b) (b.tmod (a.tmod b)) j (fc+8+8) (by rw[e2];have:=Nat.pow_succ 2 n;omega) (by omega)
    refine⟨fc',?_⟩
    rw[eG_s hc,<-hf]
    simp only[x23]
    unfold x5k
    simp[hb,xrq hb,hc,xrq hc]
theorem eG_bd{a b:Int}(ha:bd a 4000000000000000000)(hb:bd b 4000000000000000000):bd (eG a b) 4000000000000000000:=by
 have hg:(eG a b).natAbs=Int.gcd a b:=eG_gcd b.natAbs a b (x196 _)
 rw[bd.abs]at *
 rw[hg]
 by_cases h:b=0
 .subst h
  simpa using ha
 .have h1:((Int.gcd a b:Nat):Int) ∣ b:=Int.gcd_dvd_right a b
  have h2:=Int.natAbs_dvd_natAbs.mpr h1
  have h3:=Nat.le_of_dvd (by omega) h2
  simp at h3
  omega
theorem xun(k:Nat){a b:Int}(ha:bd a 4000000000000000000)(hb:bd b 4000000000000000000)(m:Mem):xnu (xnt (k+2)) x2o [I a,I b] m=some (I (Int.gcd a b:Int),m):=by
 refine xo0 rfl ?_ m
 have hbd:=eG_bd ha hb
 unfold bd at hbd hb
 obtain⟨fc',h⟩:=l_div3 (xnt (k+1)) [] 0 ⟨[],1⟩ 64 a b NN 1 (by omega) (by rw[xo8];omega)
 rw[xjf]
 unfold xdl xa5
 simp only[mem0]
 rw[h]
 unfold xa4
 have e:(xnt (k+1))=xnt (k+1):=rfl
 have hs:xnu (xnt (k+1)) xh [I (eG a b)] (⟨[],1⟩:Mem)=some (I ((eG a b).natAbs:Int),⟨[],1⟩):=by
  refine call0 rfl (m':=⟨[],1⟩) ?_ rfl
  rw[xi6]
  unfold x7v x71
  simp(disch:=omega) [mem0]
  split<;>omega
 rw[hs,eG_gcd b.natAbs a b (x196 _)]
 exact RetF.st rfl rfl
theorem xtq(k:Nat){a b:Int}(ha:bd a 4000000000000000000)(hb:bd b 4000000000000000000)(m:Mem):xnu (xnt (k+2)) x1k [I a,I b] m=some (I (Int.gcd a b:Int),m):=by
 refine xo0 rfl ?_ m
 have hbd:=eG_bd ha hb
 unfold bd at hbd hb
 obtain⟨fc',h⟩:=l_gcdR (xnt (k+1)) [] 0 ⟨[],1⟩ 64 a b NN 1 (by omega) (by rw[xo8];omega)
 rw[xjn]
 unfold xdt xav
 simp only[mem0]
 rw[h]
 unfold xau
 rw[xvj k (eG a b) _ (by omega) (by omega),eG_gcd b.natAbs a b (x196 _)]
 exact RetF.st rfl rfl
theorem xqe{x g:Int}(h0:0<g)(hd:g ∣ x)(hb:bd x 4000000000000000000):sQuo (I x) (I g)=some (I (x / g)):=by
 rw[xr9 (by omega),Int.tdiv_eq_ediv_of_dvd hd]
 have:=xq4 h0 hd hb
 unfold bd at this
 rw[xnx (by omega) (by omega)]
end Go.Ix
namespace Go.Ix.Th
theorem xpk{f:Mp->Int}{b:Int}{l:List Mp}(hl:l.length<=30)(h0:0<=b)(h:∀x∈l,bd (f x) b):bd (su f l) (30*b):=by
 have h1:=su_le (f:=f) (b:=b) (l:=l) h
 have h2:(l.length:Int)*b<=30*b:=x1aw (by omega) h0
 unfold bd;omega
section
variable{l:List Mp}
theorem bN(h:xod l)(hl:l.length<=30):bd (sN l) 30:=(xpk (b:=1) hl (by omega) λx hx=>by unfold bd;omega).mono (by omega)
theorem bA(h:xod l)(hl:l.length<=30):bd (sA l) 1890:=(xpk (b:=63) hl (by omega) λx hx=>(h x hx).ln).mono (by omega)
theorem bB(h:xod l)(hl:l.length<=30):bd (sB l) 1890:=(xpk (b:=63) hl (by omega) λx hx=>(h x hx).sm).mono (by omega)
theorem bC(h:xod l)(hl:l.length<=30):bd (sC l) 119070:=(xpk (b:=3969) hl (by omega) λx hx=>((h x hx).ln.mul (h x hx).ln).mono (by omega)).mono (by omega)
theorem bD(h:xod l)(hl:l.length<=30):bd (sD l) 119070:=(xpk (b:=3969) hl (by omega) λx hx=>((h x hx).ln.mul (h x hx).sm).mono (by omega)).mono (by omega)
theorem bE(h:xod l)(hl:l.length<=30):bd (sE l) 119070:=(xpk (b:=3969) hl (by omega) λx hx=>((h x hx).sm.mul (h x hx).sm).mono (by omega)).mono (by omega)
theorem b0F{g:Mp->Int}(h:xod l)(hl:l.length<=30)(hg:∀x∈l,bd (g x) 8):bd (of0 g l) 240:=(xpk (b:=8) hl (by omega) hg).mono (by omega)
theorem b1F{g:Mp->Int}(h:xod l)(hl:l.length<=30)(hg:∀x∈l,bd (g x) 8):bd (of1 g l) 15120:=(xpk (b:=504) hl (by omega) λx hx=>((h x hx).ln.mul (hg x hx)).mono (by omega)).mono (by omega)
theorem b2F{g:Mp->Int}(h:xod l)(hl:l.length<=30)(hg:∀x∈l,bd (g x) 8):bd (of2 g l) 15120:=(xpk (b:=504) hl (by omega) λx hx=>((h x hx).sm.mul (hg x hx)).mono (by omega)).mono (by omega)
theorem DD_bd0(h:xod l)(hl:l.length<=30):bd (DD l) 3000000000000:=by
 have N:=bN h hl;have A:=bA h hl;have B:=bB h hl;have C:=bC h hl;have D:=bD h hl;have E:=bE h hl
 unfold DD dt
 exact(((N.mul ((C.mul E).sub (D.mul D))).sub (A.mul ((A.mul E).sub (D.mul B)))).add (B.mul ((A.mul D).sub (C.mul B)))).mono (by omega)
theorem C0_bd{g:Mp->Int}(h:xod l)(hl:l.length<=30)(hg:∀x∈l,bd (g x) 8):bd (C0 g l) 21000000000000:=by
 have N:=bN h hl;have A:=bA h hl;have B:=bB h hl;have C:=bC h hl;have D:=bD h hl;have E:=bE h hl
 have X:=b0F h hl hg;have Y:=b1F h hl hg;have Z:=b2F h hl hg
 unfold C0 c0
 exact(((X.mul ((C.mul E).sub (D.mul D))).sub (Y.mul ((A.mul E).sub (B.mul D)))).add (Z.mul ((A.mul D).sub (B.mul C)))).mono (by omega)
theorem C1_bd{g:Mp->Int}(h:xod l)(hl:l.length<=30)(hg:∀x∈l,bd (g x) 8):bd (C1 g l) 21000000000000:=by
 have N:=bN h hl;have A:=bA h hl;have B:=bB h hl;have C:=bC h hl;have D:=bD h hl;have E:=bE h hl
 have X:=b0F h hl hg;have Y:=b1F h hl hg;have Z:=b2F h hl hg
 unfold C1 c1
 exact(((N.mul ((Y.mul E).sub (Z.mul D))).sub (X.mul ((A.mul E).sub (B.mul D)))).add (B.mul ((A.mul Z).sub (B.mul Y)))).mono (by omega)
theorem C2_bd{g:Mp->Int}(h:xod l)(hl:l.length<=30)(hg:∀x∈l,bd (g x) 8):bd (C2 g l) 21000000000000:=by
 have N:=bN h hl;have A:=bA h hl;have B:=bB h hl;have C:=bC h hl;have D:=bD h hl;have E:=bE h hl
 have X:=b0F h hl hg;have Y:=b1F h hl hg;have Z:=b2F h hl hg
 unfold C2 c2
 exact(((N.mul ((C.mul Z).sub (D.mul Y))).sub (A.mul ((A.mul Z).sub (B.mul Y)))).add (X.mul ((A.mul D).sub (B.mul C)))).mono (by omega)
theorem sq_ge(q:Int):∀l:List Mp,0<=sN l*(q*q)-2*q*sB l+sE l
 |[]=>by simp[sN,sB,sE,su]
 |x::l=>by
  have ih:=sq_ge q l
  have h1:0<=(q-x.sm)*(q-x.sm):=by
   rcases x1bv 0 (q-x.sm)with h|h
   .exact x19z h h
   .exact Int.mul_nonneg_of_nonpos_of_nonpos h h
  have e:sN (x::l)*(q*q)-2*q*sB (x::l)+sE (x::l)=(sN l*(q*q)-2*q*sB l+sE l)+(q-x.sm)*(q-x.sm):=by
   simp only[sN,sB,sE,su];grind
  rw[e];omega
theorem cauchy:∀l:List Mp,sB l*sB l<=sN l*sE l
 |[]=>by simp[sN,sB,sE,su]
 |x::l=>by
  have ih:=cauchy l
  have h1:=sq_ge x.sm l
  have e:sN (x::l)*sE (x::l)-sB (x::l)*sB (x::l)=(sN l*sE l-sB l*sB l)+(sN l*(x.sm*x.sm)-2*x.sm*sB l+sE l):=by
   simp only[sN,sB,sE,su];grind
  omega
theorem su_nn{f:Mp->Int}:∀l:List Mp,(∀x∈l,0<=f x)->0<=su f l
 |[],_=>x1b6 _
 |x::l,h=>by
  have h1:=h x (x199 ..)
  have h2:=su_nn l λy hy=>h y (x198 _ hy)
  simp only[su];omega
theorem xqs(x:Int):0<=x*x:=by
 rcases x1bv 0 x with h|h
 .exact x19z h h
 .exact Int.mul_nonneg_of_nonpos_of_nonpos h h
theorem form_nn{n e a b d:Int}(he:0<=e)(hn:0<=n)(h:b*b<=n*e):0<=e*(a*a)-2*(b*d)*a+n*(d*d):=by
 rcases Int.lt_or_eq_of_le he with h1|rfl
 .have h2:0<=e*(e*(a*a)-2*(b*d)*a+n*(d*d)):=by
   have e1:e*(e*(a*a)-2*(b*d)*a+n*(d*d))=(e*a-b*d)*(e*a-b*d)+(n*e-b*b)*(d*d):=by grind
   rw[e1]
   exact Int.add_nonneg (xqs _) (x19z (by omega) (xqs _))
  by_cases hc:0<=e*(a*a)-2*(b*d)*a+n*(d*d)
  .exact hc
  .have:=Int.mul_neg_of_pos_of_neg h1 (by omega:e*(a*a)-2*(b*d)*a+n*(d*d)<0)
   omega
 .have hb:b=0:=by
   have:=xqs b
   have h3:b*b=0:=by omega
   rcases x1cb.mp h3 with h4|h4<;>exact h4
  subst hb
  have:=x19z hn (xqs d)
  have e1:(0:Int)*(a*a)-2*(0*d)*a+n*(d*d)=n*(d*d):=by grind
  rw[e1];exact this
theorem DD_bd(h:xod l)(hl:l.length<=30):bd (DD l) 3000000000000:=DD_bd0 h hl
theorem DD_le(h:xod l)(hl:l.length<=30):DD l<=1000000000000:=by
 have N:=bN h hl;have C:=bC h hl;have E:=bE h hl
 have n0:0<=sN l:=su_nn l λ_ _=>by omega
 have e0:0<=sE l:=su_nn l λx _=>xqs x.sm
 have c0:0<=sC l:=su_nn l λx _=>xqs x.ln
 have f:=form_nn (a:=sA l) (d:=sD l) e0 n0 (cauchy l)
 have g:=x19z c0 (xqs (sB l))
 have e:DD l=sN l*(sC l*sE l)-(sE l*(sA l*sA l)-2*(sB l*sD l)*sA l+sN l*(sD l*sD l))-sC l*(sB l*sB l):=by
  unfold DD dt;grind
 have k:=((N.mul (C.mul E)).mono (show(30:Int)*(119070*119070)<=1000000000000 by omega)).2
 omega
theorem fit_bd(h:xod l)(hl:l.length<=30)(hD:0<DD l):(0<(fitM l).den/\(fitM l).den<=1000000000000) /\
 bd (fitM l).l0 21000000000000/\bd (fitM l).l1 21000000000000/\bd (fitM l).l2 21000000000000/\bd (fitM l).s0 21000000000000/\bd (fitM l).s1 21000000000000/\bd (fitM l).s2 21000000000000:=by
 have hg:=xvo hD
 obtain⟨d0,d1⟩:=xvp l
 have g0:∀x∈l,bd x.b0 8:=λx hx=>(h x hx).b0
 have g1:∀x∈l,bd x.b1 8:=λx hx=>(h x hx).b1
 have e:(fitM l).den<=1000000000000:=by
  have hp:=DD_le h hl
  exact(xq4 hg d0 (show bd (DD l) 1000000000000 from⟨by omega,hp⟩)).2
 exact⟨⟨fit_den hD,e⟩,xq4 hg (d1 _ (by simp[xp8])) (C0_bd h hl g0),xq4 hg (d1 _ (by simp[xp8])) (C1_bd h hl g0),xq4 hg (d1 _ (by simp[xp8])) (C2_bd h hl g0),
  xq4 hg (d1 _ (by simp[xp8])) (C0_bd h hl g1),xq4 hg (d1 _ (by simp[xp8])) (C1_bd h hl g1),xq4 hg (d1 _ (by simp[xp8])) (C2_bd h hl g1)⟩
end
end Go.Ix.Th
