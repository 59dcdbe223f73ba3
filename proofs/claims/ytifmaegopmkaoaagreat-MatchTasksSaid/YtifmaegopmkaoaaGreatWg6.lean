import Derived.Test.YtifmaegopmkaoaaGreatWg5
set_option linter.unusedSimpArgs false
set_option linter.unusedVariables false
set_option exponentiation.threshold 3000
namespace Go.Ix
open Go.Proofs Ieee
theorem andnot_w(w:Nat):(BitVec.ofInt 64 (w:Int) &&& ~~~BitVec.ofInt 64 9223372036854775808).toNat=w % 2 ^ 63:=by
 have h1:BitVec.ofInt 64 (w:Int)=BitVec.ofNat 64 w:=by
  apply BitVec.eq_of_toNat_eq
  rw[BitVec.toNat_ofInt,BitVec.toNat_ofNat]
  omega
 have h2:(~~~BitVec.ofInt 64 9223372036854775808)=BitVec.ofNat 64 (2 ^ 63-1):=rfl
 rw[h1,h2,BitVec.toNat_and,BitVec.toNat_ofNat,BitVec.toNat_ofNat,show(2 ^ 63-1) % 2 ^ 64=2 ^ 63-1 by omega,Nat.and_two_pow_sub_one_eq_mod]
 omega
theorem s_andNot{P:Program}{c:Fc}{a:AV}{t:TypeId}{X Y:Operand}(ha:Is (Fu c) a):∃r,sBin P .andNot t X Y a (AV.sc (.int .u64 9223372036854775808))=some r/\Is (Fu c.abs) r:=by
 refine xma (B:=(·=.int .u64 9223372036854775808)) ha (Is.sc rfl) ?_
 rintro _ _ ⟨w,rfl,hw⟩ rfl
 have e:binS .andNot t X Y [.int .u64 (w:Int),.int .u64 9223372036854775808]=.pure (.int .u64 (IntKind.wrap .u64 ((BitVec.ofInt 64 (w:Int) &&& ~~~BitVec.ofInt 64 9223372036854775808).toNat:Int))):=rfl
 rw[e,andnot_w]
 have e2:IntKind.wrap .u64 ((w % 2 ^ 63:Nat):Int)=((w % 2 ^ 63:Nat):Int):=by
  show((w % 2 ^ 63:Nat):Int) % 18446744073709551616=_
  omega
 rw[e2]
 have g:Fu c.abs (.int .u64 ((w % 2 ^ 63:Nat):Int)):=⟨_,rfl,abs_Cl hw⟩
 exact OkR.pure ⟨one_U g,g⟩
theorem w_Abs{c:Fc}{a:AV}(ha:Is (Fa c) a)(d:Nat)(m:Mem):∃r,xeq (xep (d+2)) xz [a] m=some (r,m)/\Is (Fa c.abs) r:=by
 obtain⟨r1,e1,h1⟩:=w_F64bits ha d (⟨[],1⟩:Mem)
 obtain⟨r2,e2,h2⟩:=s_andNot (P:=Tryz.prog) (t:=x6) (X:=.tmp 4) (Y:=.const (.int .u64 9223372036854775808)) h1
 obtain⟨r3,e3,h3⟩:=w_F64from h2 d (⟨[],1⟩:Mem)
 refine⟨r3,xez (by simp[ha.oneA.st]) ?_ m,h3⟩
 rw[xco]
 unfold x9b x7n
 simp[mem0,e1,e2,e3]
 exact RetF.st h3.oneA.st rfl
def Fc.isInf:Fc->Bool
 | .inf _=>true
 |_=>false
theorem s_gtMax{c:Fc}{a:AV}{t:TypeId}{X Y:Operand}(ha:Is (Fa c) a):sBin Tryz.prog .gtr t X Y a (AV.sc (.float .f64 9218868437227405311))=some (B (match c with | .inf s=>!s|_=>false)):=by
 refine sBin_1 (B:=(·=.float .f64 9218868437227405311)) ha (Is.sc rfl) rfl ?_
 rintro _ _ ⟨u,rfl,hu⟩ rfl
 rw[xri rfl]
 have hM:double.read 9218868437227405311=.number false (2 ^ 53-1) 971:=rfl
 refine OkR.pure ?_
 congr 2
 unfold Format.order
 rw[hM]
 cases c with
 |nan=>
  obtain⟨s,t,h⟩:=hu
  rw[h];rfl
 |inf s=>
  have hu:double.read u=.infinity s:=hu
  rw[hu]
  cases s<;>rfl
 |num s V=>
  obtain⟨m,e,h1,h2,h3,h4⟩:=hu
  have hm:=(xl5 h1).1
  rw[h1,xrh h2 (by omega)]
  have hlt:sg s (sv m e)<sg false (sv (2 ^ 53-1) 971):=by
   have h5:sv m e<sv (2 ^ 53-1) 971:=by
    unfold sv
    have q1:m*2 ^ (e+1074).toNat<=2 ^ 53*2 ^ (900+1074):=xx5 (Nat.le_of_lt hm) (Nat.pow_le_pow_right (by omega) (by omega))
    have q2:2 ^ 53*2 ^ (900+1074)<(2 ^ 53-1)*2 ^ ((971:Int)+1074).toNat:=by decide
    omega
   have:sg s (sv m e)<=(sv m e:Int):=by cases s<;>simp[sg]<;>omega
   have h6:sg false (sv (2 ^ 53-1) 971)=(sv (2 ^ 53-1) 971:Int):=rfl
   omega
  rw[Int.compare_eq_lt.mpr hlt]
  rfl
theorem w_IsInf{c:Fc}{a:AV}(ha:Is (Fa c) a)(d:Nat)(m:Mem):xeq (xep (d+3)) x1v [a,I 0] m=some (B c.isInf,m):=by
 obtain⟨r1,e1,h1⟩:=w_Abs ha d (⟨[],1⟩:Mem)
 refine xez (by simp[ha.oneA.st]) ?_ m
 rw[xcm]
 unfold x99 x7l xal x4q
 simp[mem0,e1,s_gtMax h1]
 refine RetF.st rfl ?_
 cases c<;>rfl
theorem w_Trunc{c:Fc}{a:AV}(ha:Is (Fa c) a)(d:Nat)(m:Mem):∃r,xeq (xep (d+2)) x1w [a] m=some (r,m)/\Is (Fa c.tr) r:=by
 obtain⟨r1,e1,h1⟩:=w_aTrunc ha d (⟨[],1⟩:Mem)
 refine⟨r1,xez (by simp[ha.oneA.st]) ?_ m,h1⟩
 rw[xcn]
 unfold x9a x7m
 simp[mem0,e1]
 exact RetF.st h1.oneA.st rfl
def Fc.whole:Fc->Bool
 | .num _ V=>V % 2 ^ 1074 == 0
 |_=>false
def Fc.big:Fc->Bool
 | .num _ V=>decide (2047*2 ^ 1074<V)
 |_=>false
def pE(c d:Fc):Int:=bif c.whole&&d.whole then(bif c.big||d.big then 2 else 0)else 29
theorem sg_inj{s:Bool}{a b:Nat}:sg s a=sg s b↔a=b:=by
 unfold sg
 cases s<;>simp<;>omega
theorem neq_tr(c:Fc):cmpB .neq (c.order c.tr)=(c.isInf == false&&c.whole == false):=by
 cases c with
 |nan=>rfl
 |inf s=>cases s<;>rfl
 |num s V=>
  show(some (compare (sg s V) (sg s (V / 2 ^ 1074*2 ^ 1074))) != some .eq)=_
  show _=(true&&((V % 2 ^ 1074 == 0) == false))
  have hd:=Nat.div_add_mod V (2 ^ 1074)
  generalize (2:Nat) ^ 1074=K at *
  rw[Nat.mul_comm]at hd
  by_cases h:V % K=0
  .have:V=V / K*K:=by omega
   rw[<-this,Int.compare_eq_eq.mpr rfl,h];rfl
  .have hne:sg s V≠sg s (V / K*K):=λe=>h (by have:=sg_inj.mp e;omega)
   have h2:compare (sg s V) (sg s (V / K*K))≠.eq:=λe=>hne (Int.compare_eq_eq.mp e)
   have h3:(V % K == 0)=false:=by simpa using h
   rw[h3]
   cases hc:compare (sg s V) (sg s (V / K*K))
   .rfl
   .exact absurd hc h2
   .rfl
theorem k2047:Is (Fa (.num false (2047*2 ^ 1074))) (AV.sc (.float .f64 4656717616654581760)):=by
 refine Is.sc ⟨_,rfl,?_⟩
 refine⟨2047*2 ^ 42,-42,rfl,by omega,by omega,?_⟩
 unfold sv
 rw[show((-42:Int)+1074).toNat=1032 from rfl,Nat.mul_assoc,<-Nat.pow_add]
theorem gtr_abs{s:Bool}{V:Nat}:cmpB .gtr ((Fc.num s V).abs.order (.num false (2047*2 ^ 1074)))=(Fc.num s V).big:=by
 show(some (compare (sg false V) (sg false (2047*2 ^ 1074))) == some .gt)=decide (2047*2 ^ 1074<V)
 generalize 2047*2 ^ 1074=K
 show(some (compare (V:Int) (K:Int)) == some .gt)=_
 by_cases h:K<V
 .rw[Int.compare_eq_gt.mpr (by omega),xwj h];rfl
 .rw[xww h]
  rcases xwq V K with g|g
  .rw[Int.compare_eq_lt.mpr (by omega)];rfl
  .rw[Int.compare_eq_eq.mpr (by omega)];rfl
theorem xl8{c:Fc}(h:c.whole=true):∃s V,c=.num s V:=by
 cases c with
 |num s V=>exact⟨s,V,rfl⟩
 |inf=>cases h
 |nan=>cases h
theorem z_2f:x3n=[AV.sc (.float .f64 0),AV.sc (.float .f64 0)]:=by kernel_rfl
theorem build_FF{a b:AV}(ha:One a)(hb:One b):xf7 x3n [(0,1,a),(1,1,b)]=some (.agg [a,b]):=by
 unfold xf7
 rw[z_2f]
 simp[xhl,ha.cs,hb.cs,xfe]
theorem idx_0(a b:AV):sIdx Tryz.prog x4n (.agg [a,b]) (I 0)=some a:=by kernel_rfl
theorem idx_1(a b:AV):sIdx Tryz.prog x4n (.agg [a,b]) (I 1)=some b:=by kernel_rfl
theorem s_c2c(x y:Nat):∃r,sCvt Tryz.prog xb x9 (.sc (.complex .f32 x y))=some r/\Is (Fz (fcs x) (fcs y)) r:=by
 refine sCvt_R (A:=(·=.complex .f32 x y)) (Is.sc rfl) (λu hu=>by rw[conc_sc.mp hu];rfl) ?_
 rintro _ rfl
 have h:nfS Tryz.prog (convert xb x9 (.complex .f32 x y))=nfS Tryz.prog (Conv.complexToComplex .f32 x y .f64):=by kernel_rfl
 rw[<-xgn,h,xgn]
 exact(c2c x y).mono λv hv=>⟨one_Z hv,hv⟩
theorem s_f2f(x:Nat):∃r,sCvt Tryz.prog x8 x7 (.sc (.float .f32 x))=some r/\Is (Fa (fcs x)) r:=by
 refine sCvt_R (A:=(·=.float .f32 x)) (Is.sc rfl) (λu hu=>by rw[conc_sc.mp hu];rfl) ?_
 rintro _ rfl
 have h:nfS Tryz.prog (convert x8 x7 (.float .f32 x))=nfS Tryz.prog (Conv.floatToFloat .f32 x .f64):=by kernel_rfl
 rw[<-xgn,h,xgn]
 exact(f2f x).mono λv hv=>⟨xk3 hv,hv⟩
abbrev C32(x y:Nat):AV:=.sc (.complex .f32 x y)
abbrev xgr:AV:=.sc (.float .f64 4656717616654581760)
noncomputable def MemA(a b:AV):Mem:=((⟨[],1⟩:Mem).new (0,9,6) (.row x3n 0 false)).set (0,9,6) (.row [a,b] 0 false)
theorem xrl{c:Fc}{a:AV}(ha:Is (Fa c) a)(d:Nat)(m:Mem){α:Type}(A:Mem->Option α)(C:Mem->Option α) :
 ((xeq (xep (d+3)) x1v [a,(I 0)] m).bind λp23=>
 sGv p23.1 false a p23.2 λp25=>
 sGv p23.1 false a p25.2 λp26=>
 sGp p23.1 false (xeq (xep (d+3)) x1w [p26.1] p26.2) p26.2 λp27=>
 sGo p23.1 false (sBin Tryz.prog .neq x7 (.tmp 25) (.tmp 27) p25.1 p27.1) p27.2 λp28=>
 (xf4 p23.1 (B true) p28.1).bind λt29=>
 xes t29 (A p28.2) (C p28.2))=bif c.whole then C m else A m:=by
 rw[w_IsInf ha d m]
 cases hi:c.isInf
 .obtain⟨r,e,hr⟩:=w_Trunc ha (d+1) m
  have hn:=xgw (P:=Tryz.prog) (t:=x7) (x:=.tmp 25) (y:=.tmp 27) (op:=.neq) rfl ha hr
  rw[neq_tr,hi]at hn
  simp[e,hn]
  cases c.whole<;>rfl
 .have:c.whole=false:=by cases c<;>first|rfl|cases hi
  simp[this]
theorem w_big1{s:Bool}{V:Nat}{a:AV}(ha:Is (Fa (.num s V)) a)(d:Nat)(m:Mem){α:Type}(A:Mem->Option α)(C:Mem->Option α) :
 ((xeq (xep (d+3)) xz [a] m).bind λp36=>
 (sBin Tryz.prog .gtr x7 (.tmp 36) (.tmp 37) p36.1 xgr).bind λt38=>
 xes t38 (A p36.2) (C p36.2))=bif(Fc.num s V).big then A m else C m:=by
 obtain⟨r,e,hr⟩:=w_Abs ha (d+1) m
 have hn:=xgw (P:=Tryz.prog) (t:=x7) (x:=.tmp 36) (y:=.tmp 37) (op:=.gtr) rfl hr k2047
 rw[gtr_abs]at hn
 simp[e,hn]
 cases(Fc.num s V).big<;>rfl
theorem st_w0{c:Fc}{a b:AV}(ha:Is (Fa c) a)(d:Nat)(hs:FHs)(u:Nat)(rec1:xfp)(t1 t6:AV)(m:Mem)(fc:Nat) :
 xm (xep (d+3)) hs u rec1 t1 t6 (.agg [a,b]) (I 0) m fc=bif c.whole then rec1 t1 t6 (.agg [a,b]) (I 1) m (fc+13)else some (I 29,m):=by
 unfold xm
 rw[xin,show decide ((0:Int)<2)=true from rfl]
 rw[xf2,xi4,idx_0,xf2]
 exact xrl ha d m (λm=>some (I 29,m)) (λm=>rec1 t1 t6 (.agg [a,b]) (I 1) m (fc+13))
theorem st_w1{c:Fc}{a b:AV}(hb:Is (Fa c) b)(d:Nat)(hs:FHs)(u:Nat)(rec1:xfp)(t1 t6:AV)(m:Mem)(fc:Nat) :
 xm (xep (d+3)) hs u rec1 t1 t6 (.agg [a,b]) (I 1) m fc=bif c.whole then rec1 t1 t6 (.agg [a,b]) (I 2) m (fc+13)else some (I 29,m):=by
 unfold xm
 rw[xin,show decide ((1:Int)<2)=true from rfl]
 rw[xf2,xi4,idx_1,xf2]
 exact xrl hb d m (λm=>some (I 29,m)) (λm=>rec1 t1 t6 (.agg [a,b]) (I 2) m (fc+13))
theorem st_b0{s:Bool}{V:Nat}{a b:AV}(ha:Is (Fa (.num s V)) a)(d:Nat)(hs:FHs)(u:Nat)(rec1:xis)(m:Mem)(fc:Nat) :
 xl (xep (d+3)) hs u rec1 xgr (.agg [a,b]) (I 0) m fc=bif(Fc.num s V).big then some (I 2,m)else rec1 xgr (.agg [a,b]) (I 1) m (fc+9):=by
 unfold xl
 rw[xin,show decide ((0:Int)<2)=true from rfl]
 rw[xf2,xi4,idx_0,xf2]
 exact w_big1 ha d m (λm=>some (I 2,m)) (λm=>rec1 xgr (.agg [a,b]) (I 1) m (fc+9))
theorem st_b1{s:Bool}{V:Nat}{a b:AV}(hb:Is (Fa (.num s V)) b)(d:Nat)(hs:FHs)(u:Nat)(rec1:xis)(m:Mem)(fc:Nat) :
 xl (xep (d+3)) hs u rec1 xgr (.agg [a,b]) (I 1) m fc=bif(Fc.num s V).big then some (I 2,m)else rec1 xgr (.agg [a,b]) (I 2) m (fc+9):=by
 unfold xl
 rw[xin,show decide ((1:Int)<2)=true from rfl]
 rw[xf2,xi4,idx_1,xf2]
 exact w_big1 hb d m (λm=>some (I 2,m)) (λm=>rec1 xgr (.agg [a,b]) (I 2) m (fc+9))
theorem xrm(d:Nat)(x y:Nat)(m:Mem):xeq (xep (d+4)) x30 [C32 x y,xgr] m=some (I (pE (fcs x) (fcs y)),m):=by
 obtain⟨z,e1,h1⟩:=s_c2c x y
 obtain⟨a,e2,ha⟩:=s_real (P:=Tryz.prog) (t:=x7) (ts:=#[x9]) h1
 obtain⟨b,e3,hb⟩:=s_imag (P:=Tryz.prog) (t:=x7) (ts:=#[x9]) h1
 refine xez (by simp) ?_ m
 rw[xcj]
 unfold x96 x7i
 have hst:∀k:Mem->Option (AV×Mem),sSt 2 (.ptr (0,9,6) 0 0) (.agg [a,b]) ((⟨[],1⟩:Mem).new (0,9,6) (.row x3n 0 false)) k=k (MemA a b):=by
  intro k
  unfold MemA
  rw[z_2f]
  simp[ha.oneA.on,hb.oneA.on]
 have hld:sLd true 2 (.ptr (0,9,6) 0 0) (MemA a b)=some (.agg [a,b]):=by
  unfold MemA
  simp
 simp only[mem0,e1,e2,e3,build_FF ha.oneA hb.oneA,xf2,xew]
 rw[hst]
 unfold xak
 rw[hld]
 obtain⟨NM,hNM⟩:∃NM,NN=NM+3:=⟨NN-3,by have:=xfm;omega⟩
 rw[xf2,hNM,show x4p (xep (d+3)) [] 0 (NM+3)=xm (xep (d+3)) [] 0 (xm (xep (d+3)) [] 0 (xm (xep (d+3)) [] 0 (x4p (xep (d+3)) [] 0 NM)))from rfl]
 rw[st_w0 ha]
 unfold pE
 cases cx:(fcs x).whole
 .exact RetF.st rfl rfl
 rw[xl1,st_w1 hb]
 cases cy:(fcs y).whole
 .exact RetF.st rfl rfl
 rw[xl1]
 unfold xm
 rw[xin,show decide ((2:Int)<2)=false from rfl,xf2,xjh]
 unfold xaj
 rw[hld,xf2,hNM,show x4o (xep (d+3)) [] 0 (NM+3)=xl (xep (d+3)) [] 0 (xl (xep (d+3)) [] 0 (xl (xep (d+3)) [] 0 (x4o (xep (d+3)) [] 0 NM)))from rfl]
 obtain⟨s,V,hx⟩:=xl8 cx
 obtain⟨s',V',hy⟩:=xl8 cy
 rw[hx]at ha ⊢
 rw[hy]at hb ⊢
 rw[st_b0 ha]
 cases bx:(Fc.num s V).big
 rotate_left
 .exact RetF.st rfl rfl
 rw[xm6,st_b1 hb]
 cases bY:(Fc.num s' V').big
 rotate_left
 .exact RetF.st rfl rfl
 rw[xm6]
 unfold xl
 rw[xin,show decide ((2:Int)<2)=false from rfl,xf2,xjh]
 exact RetF.st rfl rfl
theorem neq_self(c:Fc):cmpB .neq (c.order c)=(match c with | .nan=>true|_=>false):=by
 cases c with
 |nan=>rfl
 |inf s=>cases s<;>rfl
 |num s V=>
  show(some (compare (sg s V) (sg s V)) != some .eq)=false
  rw[Int.compare_eq_eq.mpr rfl];rfl
def Fc.sub0:Fc->Fc
 | .num _ _=>.num false 0
 |_=>.nan
theorem binS_sub{t:TypeId}{x y:Operand}{u v:Nat}:binS .sub t x y [.float .f64 u,.float .f64 v]=Op.floatArith .sub .f64 u v:=rfl
theorem fsub_some{u v r:Nat}(h:double.sub u v=some r):Op.floatArith .sub .f64 u v=.pure (.float .f64 r):=by
 unfold Op.floatArith
 show(match double.sub u v with
  |some r=>Pure.pure (Value.float .f64 r)
  |none=>_)=_
 rw[h];rfl
theorem fsub_none{u v:Nat}(h:double.sub u v=none):Op.floatArith .sub .f64 u v=.choose (.nanBits .f64 u v) λk=>.pure (.float .f64 k):=by
 unfold Op.floatArith
 show(match double.sub u v with
  |some r=>Pure.pure (Value.float .f64 r)
  |none=>_)=_
 rw[h];rfl
theorem nan_cut(u v t:Nat):Cl .nan ((Question.nanBits .f64 u v).cut t):=xrg t _ (xx7 _ (by omega))
theorem s_sub0{c:Fc}{a:AV}{t:TypeId}{X Y:Operand}(ha:Is (Fa c) a)(h:c≠.nan):∃r,sBin Tryz.prog .sub t X Y a a=some r/\Is (Fa c.sub0) r:=by
 refine xma ha ha ?_
 rintro _ _ ⟨u,rfl,hu⟩ ⟨v,rfl,hv⟩
 rw[binS_sub]
 cases c with
 |nan=>exact absurd rfl h
 |inf s=>
  have hu:double.read u=.infinity s:=hu
  have hv:double.read v=.infinity s:=hv
  have e:double.sub u v=none:=by
   unfold Format.sub
   rw[hu,hv]
   cases s<;>rfl
  rw[fsub_none e]
  exact OkR.choose rfl λt=>OkR.pure ⟨xk3 (c:=.nan) ⟨_,rfl,nan_cut u v t⟩,_,rfl,nan_cut u v t⟩
 |num s V=>
  obtain⟨m,i,h1,h2,h3,h4⟩:=hu
  obtain⟨n,j,g1,g2,g3,g4⟩:=hv
  have e:double.sub u v=some (double.nearest false 0 (min i j)):=by
   unfold Format.sub
   rw[h1,g1]
   show some (double.write (.number (if signed s m (i-min i j).toNat+signed (!s) n (j-min i j).toNat=0 then s&&!s else decide (signed s m (i-min i j).toNat+signed (!s) n (j-min i j).toNat<0)) (signed s m (i-min i j).toNat+signed (!s) n (j-min i j).toNat).natAbs (min i j)))=_
   have k1:=xk4 s m i (min i j) (by omega) (by omega)
   have k2:=xk4 (!s) n j (min i j) (by omega) (by omega)
   rw[h4]at k1
   rw[g4,sg_not]at k2
   have k3:signed s m (i-min i j).toNat+signed (!s) n (j-min i j).toNat=0:=by
    have hp:(0:Int)<((2 ^ (min i j+1074).toNat:Nat):Int):=Int.natCast_pos.mpr (Nat.two_pow_pos _)
    have:(signed s m (i-min i j).toNat+signed (!s) n (j-min i j).toNat)*((2 ^ (min i j+1074).toNat:Nat):Int)=0:=by rw[xxs,k1,k2];omega
    rcases Int.mul_eq_zero.mp this with q|q
    .exact q
    .omega
   rw[k3,if_pos rfl]
   cases s<;>rfl
  rw[fsub_some e]
  have g:Fa (.num false 0) (.float .f64 (double.nearest false 0 (min i j))):=⟨_,rfl,0,-1074,near_0 _ _,by omega,by omega,by unfold sv;simp⟩
  exact OkR.pure ⟨xk3 g,g⟩
def T16:Nat:=10000000000000000*2 ^ 1074
theorem k0:Is (Fa (.num false 0)) (AV.sc (.float .f64 0)):=Is.sc ⟨_,rfl,0,-1074,rfl,by omega,by omega,rfl⟩
theorem kT{s:Bool}{w:Nat}(h:double.read w=.number s 5000000000000000 1):Is (Fa (.num s T16)) (AV.sc (.float .f64 w)):=by
 refine Is.sc ⟨_,rfl,_,_,h,by omega,by omega,?_⟩
 unfold sv T16
 rw[show((1:Int)+1074).toNat=1075 from rfl,show(1075:Nat)=1+1074 from rfl,Nat.pow_add,<-Nat.mul_assoc]
theorem geqT{s:Bool}{V:Nat}:cmpB .geq ((Fc.num s V).order (.num true T16))=(!s||decide (V<=T16)):=by
 show(some (compare (sg s V) (sg true T16)) == some .gt||some (compare (sg s V) (sg true T16)) == some .eq)=_
 have hT:0<T16:=xxq (by omega) (Nat.two_pow_pos _)
 generalize T16=T at *
 have e:sg true T=-(T:Int):=rfl
 rw[e]
 cases s
 .have e2:sg false V=(V:Int):=rfl
  rw[e2,Int.compare_eq_gt.mpr (by omega)];rfl
 .have e2:sg true V=-(V:Int):=rfl
  rw[e2]
  rcases Nat.lt_trichotomy V T with g|g|g
  .rw[Int.compare_eq_gt.mpr (by omega),xwj (by omega)];rfl
  .rw[Int.compare_eq_eq.mpr (by omega),xwj (by omega)];rfl
  .rw[Int.compare_eq_lt.mpr (by omega),xww (by omega)];rfl
theorem leqT{s:Bool}{V:Nat}:cmpB .leq ((Fc.num s V).order (.num false T16))=(s||decide (V<=T16)):=by
 show(some (compare (sg s V) (sg false T16)) == some .lt||some (compare (sg s V) (sg false T16)) == some .eq)=_
 have hT:0<T16:=xxq (by omega) (Nat.two_pow_pos _)
 generalize T16=T at *
 have e:sg false T=(T:Int):=rfl
 rw[e]
 cases s
 .have e2:sg false V=(V:Int):=rfl
  rw[e2]
  rcases Nat.lt_trichotomy V T with g|g|g
  .rw[Int.compare_eq_lt.mpr (by omega),xwj (by omega)];rfl
  .rw[Int.compare_eq_eq.mpr (by omega),xwj (by omega)];rfl
  .rw[Int.compare_eq_gt.mpr (by omega),xww (by omega)];rfl
 .have e2:sg true V=-(V:Int):=rfl
  rw[e2,Int.compare_eq_lt.mpr (by omega)];rfl
theorem xu1{s:Bool}{V:Nat}{a:AV}(ha:Is (Fa (.num s V)) a)(h:T16<V):V % 2 ^ 1074=0:=by
 obtain⟨v,hv⟩:=ha.1
 obtain⟨w,rfl,m,e,h1,h2,h3,h4⟩:=ha.2 v hv
 have hm:=(xl5 h1).1
 have he:0<=e:=by
  rcases Int.lt_or_le e 0 with g|g
  .exfalso
   have q1:m*2 ^ (e+1074).toNat<=2 ^ 53*2 ^ 1073:=xx5 (Nat.le_of_lt hm) (Nat.pow_le_pow_right (by omega) (by omega))
   have q2:2 ^ 53*2 ^ 1073<T16:=by unfold T16;decide
   unfold sv at h4
   omega
  .exact g
 rw[<-h4]
 unfold sv
 rw[show(e+1074).toNat=e.toNat+1074 by omega,Nat.pow_add,<-Nat.mul_assoc,Nat.mul_mod_left]
theorem s_f2i{s:Bool}{V:Nat}{a:AV}(ha:Is (Fa (.num s V)) a)(h:V<=T16):sCvt Tryz.prog x7 xey a=some (I (sg s (V / 2 ^ 1074))):=by
 have hb:V / 2 ^ 1074<=10000000000000000:=Nat.div_le_of_le_mul (by rw[Nat.mul_comm];exact h)
 generalize hq:V / 2 ^ 1074=q at *
 refine sCvt_1 (A:=Fa (.num s V)) ha rfl (λu hu=>by obtain⟨w,rfl,-⟩:=hu;rfl) (λu hu=>?_)
 .obtain⟨w,rfl,hw⟩:=hu
  have hn:nfS Tryz.prog (convert x7 xey (.float .f64 w))=nfS Tryz.prog (Conv.floatToInt .f64 w .i64):=by kernel_rfl
  rw[<-xgn,hn,xgn]
  unfold Conv.floatToInt
  simp only[xrj hw,hq]
  have h1:IntKind.i64.min=-9223372036854775808:=rfl
  have h2:IntKind.i64.max=9223372036854775807:=rfl
  rw[h1,h2,if_pos (by cases s<;>simp[sg]<;>omega)]
  exact OkR.pure rfl
theorem s_i2f{n:Int}(h:n.natAbs<2 ^ 53\/n.natAbs<=10000000000000000):∃r,sCvt Tryz.prog xey x7 (I n)=some r/\r=.sc (.float .f64 (FloatKind.f64.nearest n)):=by
 refine⟨_,?_,rfl⟩
 have hn:xev Tryz.prog (convert xey x7 (.int .i64 n))=some (.float .f64 (FloatKind.f64.nearest n)):=by kernel_rfl
 unfold sCvt cvt0
 simp only[show xf1 (I n)=some (.int .i64 n)from rfl,show xhu Tryz.prog xey x7 (.int .i64 n)=none from rfl,hn]
 rfl
theorem eql_back{s:Bool}{V:Nat}:cmpB .eql ((Fc.num (decide (sg s (V / 2 ^ 1074)<0)) (V / 2 ^ 1074*2 ^ 1074)).order (.num s V))=(V % 2 ^ 1074 == 0):=by
 show(some (compare (sg (decide (sg s (V / 2 ^ 1074)<0)) (V / 2 ^ 1074*2 ^ 1074)) (sg s V)) == some .eq)=_
 have hd:=Nat.div_add_mod V (2 ^ 1074)
 have hK:0<2 ^ 1074:=Nat.two_pow_pos _
 generalize (2:Nat) ^ 1074=K at *
 rw[Nat.mul_comm]at hd
 have e:sg (decide (sg s (V / K)<0)) (V / K*K)=sg s (V / K*K):=by
  cases s
  .rw[show decide (sg false (V / K)<0)=false from xww (Int.not_lt.mpr (Int.natCast_nonneg _))]
  .by_cases h:V / K=0
   .rw[h,xwu];rfl
   .rw[show decide (sg true (V / K)<0)=true from xwj (by show -((V / K:Nat):Int)<0;generalize V / K=q at *;omega)]
 rw[e]
 by_cases h:V % K=0
 .have:V=V / K*K:=by omega
  rw[<-this,Int.compare_eq_eq.mpr rfl,h];rfl
 .have hne:sg s (V / K*K)≠sg s V:=λe=>h (by have:=sg_inj.mp e;omega)
  have h2:compare (sg s (V / K*K)) (sg s V)≠.eq:=λe=>hne (Int.compare_eq_eq.mp e)
  have h3:(V % K == 0)=false:=by simpa using h
  rw[h3]
  cases hc:compare (sg s (V / K*K)) (sg s V)
  .rfl
  .exact absurd hc h2
  .rfl
theorem near_num(n:Int)(h:n.natAbs<=10000000000000000){s:Bool}{V:Nat}{w:Nat}(hw:Cl (.num s V) w)(hq:n=sg s (V / 2 ^ 1074)):Cl (.num (decide (n<0)) (V / 2 ^ 1074*2 ^ 1074)) (FloatKind.f64.nearest n):=by
 show Cl _ (double.nearest (decide (n<0)) n.natAbs 0)
 have:n.natAbs=V / 2 ^ 1074:=by rw[hq,xmd]
 rw[this]
 exact tr_Cl hw _
theorem xl9{c:Fc}{a:AV}(ha:Is (Fa c) a)(d:Nat)(m:Mem):xeq (xep (d+1)) x1u [a] m=some (B c.whole,m):=by
 refine xez (by simp[ha.oneA.st]) ?_ m
 rw[xcl]
 unfold x98 x7k
 have h1:=λX Y=>xgw (P:=Tryz.prog) (t:=x7) (x:=X) (y:=Y) (op:=.neq) rfl ha ha
 rw[neq_self]at h1
 cases c with
 |nan=>
  simp[mem0,h1]
  exact RetF.st rfl rfl
 |inf s=>
  obtain⟨r,e,hr⟩:=s_sub0 (t:=x7) (X:=.tmp 7) (Y:=.tmp 8) ha (λh=>by cases h)
  have h2:=xgw (P:=Tryz.prog) (t:=x7) (x:=.tmp 9) (y:=.const (.float .f64 0)) (op:=.neq) rfl hr k0
  rw[show cmpB .neq ((Fc.inf s).sub0.order (.num false 0))=true from rfl]at h2
  simp[mem0,h1,e,h2]
  exact RetF.st rfl rfl
 |num s V=>
  obtain⟨r,e,hr⟩:=s_sub0 (t:=x7) (X:=.tmp 7) (Y:=.tmp 8) ha (λh=>by cases h)
  have h2:=xgw (P:=Tryz.prog) (t:=x7) (x:=.tmp 9) (y:=.const (.float .f64 0)) (op:=.neq) rfl hr k0
  rw[show cmpB .neq ((Fc.num s V).sub0.order (.num false 0))=false from rfl]at h2
  have h3:=xgw (P:=Tryz.prog) (t:=x7) (x:=.tmp 12) (y:=.const (.float .f64 14069741636278059008)) (op:=.geq) rfl ha (kT (s:=true) (w:=14069741636278059008) rfl)
  have h4:=xgw (P:=Tryz.prog) (t:=x7) (x:=.tmp 15) (y:=.const (.float .f64 4846369599423283200)) (op:=.leq) rfl ha (kT (s:=false) (w:=4846369599423283200) rfl)
  rw[geqT]at h3
  rw[leqT]at h4
  by_cases hV:V<=T16
  .have h5:=s_f2i ha hV
   have hb:V / 2 ^ 1074<=10000000000000000:=Nat.div_le_of_le_mul (by rw[Nat.mul_comm];exact hV)
   have hb2:(sg s (V / 2 ^ 1074)).natAbs<=10000000000000000:=by rw[xmd];exact hb
   obtain⟨r2,e2,hr2⟩:=s_i2f (n:=sg s (V / 2 ^ 1074)) (Or.inr hb2)
   obtain⟨v,hv⟩:=ha.1
   obtain⟨w,rfl,hw⟩:=ha.2 v hv
   have hr3:Is (Fa (.num (decide (sg s (V / 2 ^ 1074)<0)) (V / 2 ^ 1074*2 ^ 1074))) r2:=by
    rw[hr2]
    exact Is.sc ⟨_,rfl,near_num _ hb2 hw rfl⟩
   have h6:=xgw (P:=Tryz.prog) (t:=x7) (x:=.tmp 21) (y:=.tmp 22) (op:=.eql) rfl hr3 ha
   rw[eql_back]at h6
   simp[mem0,h1,e,h2,h3,h4,xwj hV,h5,e2,h6]
   exact RetF.st rfl rfl
  .have hw:(Fc.num s V).whole=true:=by
    show(V % 2 ^ 1074 == 0)=true
    rw[xu1 ha (by omega)];rfl
   rw[hw]
   rw[xww hV]at h3 h4
   cases s
   .simp[mem0,h1,e,h2,h3,h4]
    exact RetF.st rfl rfl
   .simp[mem0,h1,e,h2,h3,h4]
    exact RetF.st rfl rfl
theorem kM:Is (Fa (.num true (2047*2 ^ 1074))) (AV.sc (.float .f64 13880089653509357568)):=by
 refine Is.sc ⟨_,rfl,?_⟩
 refine⟨2047*2 ^ 42,-42,rfl,by omega,by omega,?_⟩
 unfold sv
 rw[show((-42:Int)+1074).toNat=1032 from rfl,Nat.mul_assoc,<-Nat.pow_add]
theorem lss_M{s:Bool}{V:Nat}:cmpB .lss ((Fc.num s V).order (.num true (2047*2 ^ 1074)))=(s&&(Fc.num s V).big):=by
 show(some (compare (sg s V) (sg true (2047*2 ^ 1074))) == some .lt)=(s&&decide (2047*2 ^ 1074<V))
 have hK:0<2047*2 ^ 1074:=xxq (by omega) (Nat.two_pow_pos _)
 generalize 2047*2 ^ 1074=K at *
 have e:sg true K=-(K:Int):=rfl
 rw[e]
 cases s
 .have e2:sg false V=(V:Int):=rfl
  rw[e2,Int.compare_eq_gt.mpr (by omega)];rfl
 .have e2:sg true V=-(V:Int):=rfl
  rw[e2]
  rcases Nat.lt_trichotomy V K with g|g|g
  .rw[Int.compare_eq_gt.mpr (by omega),xww (by omega)];rfl
  .rw[Int.compare_eq_eq.mpr (by omega),xww (by omega)];rfl
  .rw[Int.compare_eq_lt.mpr (by omega),xwj (by omega)];rfl
theorem gtr_M{s:Bool}{V:Nat}:cmpB .gtr ((Fc.num s V).order (.num false (2047*2 ^ 1074)))=(!s&&(Fc.num s V).big):=by
 show(some (compare (sg s V) (sg false (2047*2 ^ 1074))) == some .gt)=(!s&&decide (2047*2 ^ 1074<V))
 have hK:0<2047*2 ^ 1074:=xxq (by omega) (Nat.two_pow_pos _)
 generalize 2047*2 ^ 1074=K at *
 have e:sg false K=(K:Int):=rfl
 rw[e]
 cases s
 .have e2:sg false V=(V:Int):=rfl
  rw[e2]
  rcases Nat.lt_trichotomy V K with g|g|g
  .rw[Int.compare_eq_lt.mpr (by omega),xww (by omega)];rfl
  .rw[Int.compare_eq_eq.mpr (by omega),xww (by omega)];rfl
  .rw[Int.compare_eq_gt.mpr (by omega),xwj (by omega)];rfl
 .have e2:sg true V=-(V:Int):=rfl
  rw[e2,Int.compare_eq_lt.mpr (by omega)];rfl
theorem cvt2047:sCvt Tryz.prog xey x7 (I 2047)=some xgr:=by
 obtain⟨r,e,h⟩:=s_i2f (n:=2047) (Or.inl (by decide))
 rw[e,h];rfl
theorem neg2047:sUn Tryz.prog .neg xgr=some (AV.sc (.float .f64 13880089653509357568)):=by
 have h:xev Tryz.prog (Op.unary .neg (.float .f64 4656717616654581760))=some (.float .f64 13880089653509357568):=by kernel_rfl
 unfold sUn un0
 simp only[show xf1 xgr=some (.float .f64 4656717616654581760)from rfl,h]
 rfl
theorem xu2{c e:Fc}{a b:AV}(ha:Is (Fa c) a)(hb:Is (Fa e) b)(d:Nat)(m:Mem):xeq (xep (d+2)) x2y [a,b,I 2047] m=some (I (pE c e),m):=by
 refine xez (by simp[ha.oneA.st,hb.oneA.st]) ?_ m
 rw[xcg]
 unfold x93 x7f
 unfold pE
 cases cx:c.whole
 .simp[mem0,xl9 ha,cx]
  exact RetF.st rfl rfl
 cases cy:e.whole
 .simp[mem0,xl9 ha,xl9 hb,cx,cy]
  exact RetF.st rfl rfl
 obtain⟨s,V,rfl⟩:=xl8 cx
 obtain⟨s',V',rfl⟩:=xl8 cy
 have l1:=λX Y=>xgw (P:=Tryz.prog) (t:=x7) (x:=X) (y:=Y) (op:=.lss) rfl ha kM
 have l2:=λX Y=>xgw (P:=Tryz.prog) (t:=x7) (x:=X) (y:=Y) (op:=.gtr) rfl ha k2047
 have l3:=λX Y=>xgw (P:=Tryz.prog) (t:=x7) (x:=X) (y:=Y) (op:=.lss) rfl hb kM
 have l4:=λX Y=>xgw (P:=Tryz.prog) (t:=x7) (x:=X) (y:=Y) (op:=.gtr) rfl hb k2047
 simp only[lss_M,gtr_M]at l1 l2 l3 l4
 simp[mem0,xl9 ha,xl9 hb,cx,cy,cvt2047,neg2047,l1]
 cases s<;>cases s'<;>cases bx:(Fc.big _)<;>cases bY:(Fc.big (.num _ V'))<;>simp[bx,bY,l2,l3,l4,neg2047]<;>exact RetF.st rfl rfl
theorem real32(x y:Nat):xfa Tryz.prog .real #[xb] x8 [C32 x y]=some (.sc (.float .f32 x)):=by
 have h:xev Tryz.prog (biS .real #[xb] x8 [.complex .f32 x y])=some (.float .f32 x):=by kernel_rfl
 unfold xfa bi0
 simp only[show xf9 [C32 x y]=some [.complex .f32 x y]from rfl,h]
 rfl
theorem imag32(x y:Nat):xfa Tryz.prog .imag #[xb] x8 [C32 x y]=some (.sc (.float .f32 y)):=by
 have h:xev Tryz.prog (biS .imag #[xb] x8 [.complex .f32 x y])=some (.float .f32 y):=by kernel_rfl
 unfold xfa bi0
 simp only[show xf9 [C32 x y]=some [.complex .f32 x y]from rfl,h]
 rfl
theorem xrn(d:Nat)(x y:Nat)(m:Mem):xeq (xep (d+3)) x2u [C32 x y,I 2047] m=some (I (pE (fcs x) (fcs y)),m):=by
 obtain⟨a,e1,ha⟩:=s_f2f x
 obtain⟨b,e2,hb⟩:=s_f2f y
 refine xez (by simp) ?_ m
 rw[xc7]
 unfold x8u x74
 simp[mem0,real32,imag32,e1,e2,xu2 ha hb]
 exact RetF.st rfl rfl
open Go.Proofs
section
variable{n a b d e f g h i:Int}
end
theorem l_gcdR(call:xer)(hs:FHs)(u:Nat)(m:Mem):∀(n:Nat) (a b:Int) (j fc:Nat),b.natAbs<2 ^ n->2*n+1<=j ->
 ∃fc',x1a call hs u j (I a) (I b) m fc=x6o call hs u (I (eG a b)) m fc':=by
 intro n
 induction n with
 |zero=>
  intro a b j fc h hj
  obtain⟨j,rfl⟩:∃i,j=i+1:=⟨j-1,by omega⟩
  have:b=0:=by simp at h;omega
  subst this
  simp only[x1a]
  unfold x3i
  exact⟨fc+2,by simp[eG_0]⟩
 |succ n ih=>
  intro a b j fc h hj
  obtain⟨j,rfl⟩:∃i,j=i+1+1:=⟨j-2,by omega⟩
  by_cases hb:b=0
  .subst hb
   simp only[x1a]
   unfold x3i
   exact⟨fc+2,by simp[eG_0]⟩
  .have e1:(a.tmod b).natAbs=a.natAbs % b.natAbs:=Int.natAbs_tmod a b
   rw[eG_s hb]
   by_cases hc:a.tmod b=0
   .refine⟨fc+8+2,?_⟩
    simp only[x1a]
    unfold x3i
    simp[hb,xky hb,hc,eG_0]
   .have e2:(b.tmod (a.tmod b)).natAbs=b.natAbs % (a.natAbs % b.natAbs):=by rw[Int.natAbs_tmod,e1]
    have h2:=mod_half (a:=a.natAbs) (b:=b.natAbs) (by omega) (by omega)
    obtain⟨fc',hf⟩:=ih (a.tmod b) (b.tmod (a.tmod b)) j (fc+8+8) (by rw[e2];have:=Nat.pow_succ 2 n;omega) (by omega)
    refine⟨fc',?_⟩
    rw[eG_s hc,<-hf]
    simp only[x1a]
    unfold x3i
    simp[hb,xky hb,hc,xky hc]
theorem eG_bd{a b:Int}(ha:bd a 4000000000000000000)(hb:bd b 4000000000000000000):bd (eG a b) 4000000000000000000:=by
 have hg:(eG a b).natAbs=Int.gcd a b:=eG_gcd b.natAbs a b (xwd _)
 rw[bd.abs]at *
 rw[hg]
 by_cases h:b=0
 .subst h
  simpa using ha
 .have h1:((Int.gcd a b:Nat):Int) ∣ b:=Int.gcd_dvd_right a b
  have h2:=Int.natAbs_dvd_natAbs.mpr h1
  have h3:=Nat.le_of_dvd (by omega) h2
  simp at h3
  omega
theorem w_Gcd3(k:Nat){a b:Int}(ha:bd a 4000000000000000000)(hb:bd b 4000000000000000000)(m:Mem):xeq (xep (k+2)) x2l [I a,I b] m=some (I (Int.gcd a b:Int),m):=by
 refine xez rfl ?_ m
 have hbd:=eG_bd ha hb
 unfold bd at hbd hb
 obtain⟨fc',h⟩:=l_gcdR (xep (k+1)) [] 0 ⟨[],1⟩ 64 a b NN 1 (by omega) (by rw[xfm];omega)
 rw[xbu]
 unfold x8h x6p
 simp only[mem0]
 rw[h]
 unfold x6o
 rw[w_Size k (eG a b) _ (by omega) (by omega),eG_gcd b.natAbs a b (xwd _)]
 exact RetF.st rfl rfl
end Go.Ix
