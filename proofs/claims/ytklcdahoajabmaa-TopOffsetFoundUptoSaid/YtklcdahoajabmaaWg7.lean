import Derived.Test.YtklcdahoajabmaaWg4
import Derived.Test.YtklcdahoajabmaaWg6
set_option linter.unusedSimpArgs false
set_option linter.unusedVariables false
set_option exponentiation.threshold 3000
namespace Go.Ix
open Go.Proofs Ieee
theorem OkR.mono{P:Program}{α:Type}{s:Sem α}{R Q:α->Prop}(h:OkR P s R)(hi:∀v,R v->Q v):OkR P s Q:=⟨h.1,λv hv=>hi v (h.2 v hv)⟩
theorem xlq{P:Program}{α:Type}:∀{s:Sem α} {v:α},xd0 P s=some v->OkR P s (·=v)
 | .pure a,v,h=>by cases h;exact⟨trivial,λu e=>e.symm⟩
 | .program k,v,h=>xlq (s:=k P) h
 | .mark _ k,v,h=>xlq (s:=k) h
 | .choose ..,v,h=>by cases h
 | .load ..,v,h=>by cases h
 | .store ..,v,h=>by cases h
 | .new ..,v,h=>by cases h
 | .shape ..,v,h=>by cases h
 | .freeze ..,v,h=>by cases h
 | .frozen ..,v,h=>by cases h
 | .getObj ..,v,h=>by cases h
 | .setObj ..,v,h=>by cases h
 | .sys ..,v,h=>by cases h
 | .halt ..,v,h=>by cases h
theorem OkR.of{P:Program}{α:Type}{s:Sem α}{v:α}{R:α->Prop}(h:xd0 P s=some v)(hr:R v):OkR P s R:=(xlq h).mono λu hu=>hu▸hr
theorem sCvt_1{P:Program}{A:Value->Prop}{a:AV}{s d:TypeId}{v0:Value}(ha:Is A a)(hv:xdk v0=.sc v0)(hno:∀u,A u->xfr P s d u=none)(h:∀u,A u->OkR P (convert s d u) (·=v0)):sCvt P s d a=some (.sc v0):=by
 refine op_1 (l:=[a]) (s:=cvtS s d) hv ?_ (cs1 ha.1) (cs1' λu hu=>h u (ha.2 u hu))
 intro r hr
 unfold cvt0 at hr
 cases e:xd7 a with
 |none=>simp[e]at hr
 |some u=>
  simp only[e,hno u (ha.2 u (xfy e)),xtf]at hr
  obtain⟨z,hz,rfl⟩:=hr
  exact⟨[u],z,⟨xfy e,trivial⟩,xgd hz,rfl⟩
def nfS(P:Program){α:Type}:Sem α->Sem α
 | .program k=>nfS P (k P)
 | .mark _ k=>nfS P k
 |s=>s
theorem xeh{P:Program}{α:Type}{R:α->Prop}:∀{s:Sem α},OkR P (nfS P s) R↔OkR P s R
 | .program k=>xeh (s:=k P)
 | .mark _ k=>xeh (s:=k)
 | .choose ..=>Iff.rfl
 | .pure _=>Iff.rfl
 | .load ..=>Iff.rfl
 | .store ..=>Iff.rfl
 | .new ..=>Iff.rfl
 | .shape ..=>Iff.rfl
 | .freeze ..=>Iff.rfl
 | .frozen ..=>Iff.rfl
 | .getObj ..=>Iff.rfl
 | .setObj ..=>Iff.rfl
 | .sys ..=>Iff.rfl
 | .halt ..=>Iff.rfl
structure One (a:AV):Prop where
 st:still a=true
 s1:still1 a=true
 on:a.one=true
 cs:a.cells=[a]
 cl:clean a=true
 c1:clean1 a=true
def one2(v:Value):Prop:=one1 v/\∀f,v≠.func (.func f) #[] #[]
theorem one2A{c:Fc}{v:Value}(h:Fa c v):one2 v:=⟨xhg h,λf e=>by obtain⟨w,rfl,-⟩:=h;cases e⟩
theorem one2U{c:Fc}{v:Value}(h:Fu c v):one2 v:=⟨one_U h,λf e=>by obtain⟨w,rfl,-⟩:=h;cases e⟩
theorem one2Fi{n:Int}{v:Value}(h:Fi n v):one2 v:=⟨xjm h,λf e=>by obtain⟨w,rfl,-⟩:=h;cases e⟩
theorem one2Zi{p q:Int}{v:Value}(h:Fzi p q v):one2 v:=⟨xjn h,λf e=>by obtain⟨x,y,rfl,-⟩:=h;cases e⟩
theorem Is.one{R:Value->Prop}{a:AV}(h:Is R a)(h1:∀v,R v->one2 v):One a:=by
 obtain⟨⟨v,hv⟩,hR⟩:=h
 cases a with
 |sc v'=>
  have e:v=v':=conc_sc.mp hv
  subst e
  have g:=(h1 v (hR v hv)).1
  refine⟨rfl,rfl,g.2.1,?_,rfl,rfl⟩
  show v.cells.toList.map AV.sc=_
  rw[g.1];rfl
 |un p=>exact⟨rfl,rfl,rfl,rfl,rfl,rfl⟩
 |agg cs=>
  exfalso
  have hv':xd7 (.agg cs)=some v:=hv
  simp only[xd7]at hv'
  cases e:scs cs with
  |none=>simp[e]at hv'
  |some l=>
   simp only[e,xtd]at hv'
   subst hv'
   have g:=(h1 _ (hR _ hv)).1
   exact absurd g.2.1 (by simp[Value.oneCell'])
 |clo f l=>
  cases l with
  |nil=>
   have e:Value.func (.func f) #[] #[]=v:=xuw (show xd7 _=some v from hv)
   exact absurd e.symm ((h1 v (hR v hv)).2 f)
  |cons=>exact nomatch (show xd7 _=some v from hv)
 |_=>exact nomatch (show xd7 _=some v from hv)
theorem Is.oneA{c:Fc}{a:AV}(h:Is (Fa c) a):One a:=h.one λ_=>one2A
theorem Is.oneFi{n:Int}{a:AV}(h:Is (Fi n) a):One a:=h.one λ_=>one2Fi
theorem Is.oneZi{p q:Int}{a:AV}(h:Is (Fzi p q) a):One a:=h.one λ_=>one2Zi
theorem w_ext{f:FuncId}{a:AV}{R Q:Value->Prop}(hE:∀d hs args m,xcu (d+1) hs f args m=(xg1 Try.prog f args).map λv=>(v,m))(ha:Is Q a)(hq:∀v,Q v->one2 v)(h1:∀v,R v->one2 v)(h:∀u,Q u->OkR Try.prog (callFunc f #[u] >>= extK) R)(d:Nat)(m:Mem) :
 ∃r,xcv (xcu (d+1)) f [a] m=some (r,m)/\Is R r:=by
 obtain⟨r,e,hr⟩:=sExt_R (P:=Try.prog) (f:=f) ha (R:=R) (λu hu=>(h u hu).mono λv hv=>⟨(h1 v hv).1,hv⟩)
 refine⟨r,?_,hr⟩
 have o:=ha.one hq
 have o2:=hr.one h1
 exact call0 (m':=mem0) (by simp[o.st]) (by rw[hE,e];rfl) o2.st
theorem xqz:∀(d:Nat) (hs:FHs) (args:List AV) (m:Mem),xcu (d+1) hs x3j args m=(xg1 Try.prog x3j args).map λv=>(v,m):=λd hs args m=>by kernel_rfl
theorem xr0:∀(d:Nat) (hs:FHs) (args:List AV) (m:Mem),xcu (d+1) hs x3k args m=(xg1 Try.prog x3k args).map λv=>(v,m):=λd hs args m=>by kernel_rfl
theorem ce_aTrunc:∀(d:Nat) (hs:FHs) (args:List AV) (m:Mem),xcu (d+1) hs x3i args m=(xg1 Try.prog x3i args).map λv=>(v,m):=λd hs args m=>by kernel_rfl
theorem w_F64bits{c:Fc}{a:AV}(ha:Is (Fa c) a)(d:Nat)(m:Mem):∃r,xcv (xcu (d+1)) x3j [a] m=some (r,m)/\Is (Fu c) r:=by
 refine w_ext xqz ha (λ_=>one2A) (λ_=>one2U) (λu hu=>?_) d m
 obtain⟨w,rfl,hw⟩:=hu
 have h:xd0 Try.prog (callFunc x3j #[.float .f64 w] >>= extK)=some (.int .u64 w):=by kernel_rfl
 exact OkR.of h ⟨w,rfl,hw⟩
theorem w_F64from{c:Fc}{a:AV}(ha:Is (Fu c) a)(d:Nat)(m:Mem):∃r,xcv (xcu (d+1)) x3k [a] m=some (r,m)/\Is (Fa c) r:=by
 refine w_ext xr0 ha (λ_=>one2U) (λ_=>one2A) (λu hu=>?_) d m
 obtain⟨w,rfl,hw⟩:=hu
 have h:xd0 Try.prog (callFunc x3k #[.int .u64 (w:Nat)] >>= extK)=some (.float .f64 w):=by kernel_rfl
 exact OkR.of h ⟨w,rfl,hw⟩
theorem nf_aTrunc(w:Nat):nfS Try.prog (callFunc x3i #[.float .f64 w] >>= extK)=nfS Try.prog (Sem.bind (Sem.bind (Extern.MathFloor.toIntegral "math.archTrunc" .zero #[.float .f64 w]) λv=>.pure (.value v)) extK):=by kernel_rfl
theorem w_aTrunc{c:Fc}{a:AV}(ha:Is (Fa c) a)(d:Nat)(m:Mem):∃r,xcv (xcu (d+1)) x3i [a] m=some (r,m)/\Is (Fa c.tr) r:=by
 refine w_ext ce_aTrunc ha (λ_=>one2A) (λ_=>one2A) (λu hu=>?_) d m
 obtain⟨w,rfl,hw⟩:=hu
 rw[<-xeh,nf_aTrunc,xeh]
 exact OkR.bind (Q:=λx=>∃v,x=.value v/\Fa c.tr v) (λx hx=>by obtain⟨v,rfl,hv⟩:=hx;exact OkR.pure hv) (OkR.bind (λv hv=>OkR.pure ⟨v,rfl,hv⟩) (trunc_Cl hw))
theorem andnot_w(w:Nat):(BitVec.ofInt 64 (w:Int) &&& ~~~BitVec.ofInt 64 9223372036854775808).toNat=w % 2 ^ 63:=by
 have h1:BitVec.ofInt 64 (w:Int)=BitVec.ofNat 64 w:=by
  apply BitVec.eq_of_toNat_eq
  rw[BitVec.toNat_ofInt,BitVec.toNat_ofNat]
  omega
 have h2:(~~~BitVec.ofInt 64 9223372036854775808)=BitVec.ofNat 64 (2 ^ 63-1):=rfl
 rw[h1,h2,BitVec.toNat_and,BitVec.toNat_ofNat,BitVec.toNat_ofNat,show(2 ^ 63-1) % 2 ^ 64=2 ^ 63-1 by omega,Nat.and_two_pow_sub_one_eq_mod]
 omega
theorem s_andNot{P:Program}{c:Fc}{a:AV}{t:TypeId}{X Y:Operand}(ha:Is (Fu c) a):∃r,sBin P .andNot t X Y a (AV.sc (.int .u64 9223372036854775808))=some r/\Is (Fu c.abs) r:=by
 refine xjj (B:=(·=.int .u64 9223372036854775808)) ha (Is.sc rfl) ?_
 rintro _ _ ⟨w,rfl,hw⟩ rfl
 have e:binS .andNot t X Y [.int .u64 (w:Int),.int .u64 9223372036854775808]=.pure (.int .u64 (IntKind.wrap .u64 ((BitVec.ofInt 64 (w:Int) &&& ~~~BitVec.ofInt 64 9223372036854775808).toNat:Int))):=rfl
 rw[e,andnot_w]
 have e2:IntKind.wrap .u64 ((w % 2 ^ 63:Nat):Int)=((w % 2 ^ 63:Nat):Int):=by
  show((w % 2 ^ 63:Nat):Int) % 18446744073709551616=_
  omega
 rw[e2]
 have g:Fu c.abs (.int .u64 ((w % 2 ^ 63:Nat):Int)):=⟨_,rfl,abs_Cl hw⟩
 exact OkR.pure ⟨one_U g,g⟩
theorem w_Abs{c:Fc}{a:AV}(ha:Is (Fa c) a)(d:Nat)(m:Mem):∃r,xcv (xcu (d+2)) xz [a] m=some (r,m)/\Is (Fa c.abs) r:=by
 obtain⟨r1,e1,h1⟩:=w_F64bits ha d (⟨[],1⟩:Mem)
 obtain⟨r2,e2,h2⟩:=s_andNot (P:=Try.prog) (t:=x7) (X:=.tmp 4) (Y:=.const (.int .u64 9223372036854775808)) h1
 obtain⟨r3,e3,h3⟩:=w_F64from h2 d (⟨[],1⟩:Mem)
 refine⟨r3,xd3 (by simp[ha.oneA.st]) ?_ m,h3⟩
 rw[xaj]
 unfold x7b x5m
 simp[mem0,e1,e2,e3]
 exact RetF.st h3.oneA.st rfl
def Fc.isInf:Fc->Bool
 | .inf _=>true
 |_=>false
theorem s_gtMax{c:Fc}{a:AV}{t:TypeId}{X Y:Operand}(ha:Is (Fa c) a):sBin Try.prog .gtr t X Y a (AV.sc (.float .f64 9218868437227405311))=some (B (match c with | .inf s=>!s|_=>false)):=by
 refine sBin_1 (B:=(·=.float .f64 9218868437227405311)) ha (Is.sc rfl) rfl ?_
 rintro _ _ ⟨u,rfl,hu⟩ rfl
 rw[xok rfl]
 have hM:double.read 9218868437227405311=.number false (2 ^ 53-1) 971:=rfl
 refine OkR.pure ?_
 congr 2
 unfold Format.order
 rw[hM]
 cases c with
 |nan=>
  obtain⟨s,t,h⟩:=hu
  rw[h];rfl
 |inf s=>
  have hu:double.read u=.infinity s:=hu
  rw[hu]
  cases s<;>rfl
 |num s V=>
  obtain⟨m,e,h1,h2,h3,h4⟩:=hu
  have hm:=(xhf h1).1
  rw[h1,xoj h2 (by omega)]
  have hlt:sg s (sv m e)<sg false (sv (2 ^ 53-1) 971):=by
   have h5:sv m e<sv (2 ^ 53-1) 971:=by
    unfold sv
    have q1:m*2 ^ (e+1074).toNat<=2 ^ 53*2 ^ (900+1074):=xuh (Nat.le_of_lt hm) (Nat.pow_le_pow_right (by omega) (by omega))
    have q2:2 ^ 53*2 ^ (900+1074)<(2 ^ 53-1)*2 ^ ((971:Int)+1074).toNat:=by decide
    omega
   have:sg s (sv m e)<=(sv m e:Int):=by cases s<;>simp[sg]<;>omega
   have h6:sg false (sv (2 ^ 53-1) 971)=(sv (2 ^ 53-1) 971:Int):=rfl
   omega
  rw[Int.compare_eq_lt.mpr hlt]
  rfl
theorem w_IsInf{c:Fc}{a:AV}(ha:Is (Fa c) a)(d:Nat)(m:Mem):xcv (xcu (d+3)) x1e [a,I 0] m=some (B c.isInf,m):=by
 obtain⟨r1,e1,h1⟩:=w_Abs ha d (⟨[],1⟩:Mem)
 refine xd3 (by simp[ha.oneA.st]) ?_ m
 rw[xah]
 unfold x79 x5k x8t x3h
 simp[mem0,e1,s_gtMax h1]
 refine RetF.st rfl ?_
 cases c<;>rfl
theorem w_Trunc{c:Fc}{a:AV}(ha:Is (Fa c) a)(d:Nat)(m:Mem):∃r,xcv (xcu (d+2)) x1f [a] m=some (r,m)/\Is (Fa c.tr) r:=by
 obtain⟨r1,e1,h1⟩:=w_aTrunc ha d (⟨[],1⟩:Mem)
 refine⟨r1,xd3 (by simp[ha.oneA.st]) ?_ m,h1⟩
 rw[xai]
 unfold x7a x5l
 simp[mem0,e1]
 exact RetF.st h1.oneA.st rfl
def Fc.whole:Fc->Bool
 | .num _ V=>V % 2 ^ 1074 == 0
 |_=>false
def Fc.big:Fc->Bool
 | .num _ V=>decide (2047*2 ^ 1074<V)
 |_=>false
def pE(c d:Fc):Int:=bif c.whole&&d.whole then(bif c.big||d.big then 2 else 0)else 29
theorem sg_inj{s:Bool}{a b:Nat}:sg s a=sg s b↔a=b:=by
 unfold sg
 cases s<;>simp<;>omega
theorem neq_tr(c:Fc):cmpB .neq (c.order c.tr)=(c.isInf == false&&c.whole == false):=by
 cases c with
 |nan=>rfl
 |inf s=>cases s<;>rfl
 |num s V=>
  show(some (compare (sg s V) (sg s (V / 2 ^ 1074*2 ^ 1074))) != some .eq)=_
  show _=(true&&((V % 2 ^ 1074 == 0) == false))
  have hd:=Nat.div_add_mod V (2 ^ 1074)
  generalize (2:Nat) ^ 1074=K at *
  rw[Nat.mul_comm]at hd
  by_cases h:V % K=0
  .have:V=V / K*K:=by omega
   rw[<-this,Int.compare_eq_eq.mpr rfl,h];rfl
  .have hne:sg s V≠sg s (V / K*K):=λe=>h (by have:=sg_inj.mp e;omega)
   have h2:compare (sg s V) (sg s (V / K*K))≠.eq:=λe=>hne (Int.compare_eq_eq.mp e)
   have h3:(V % K == 0)=false:=by simpa using h
   rw[h3]
   cases hc:compare (sg s V) (sg s (V / K*K))
   .rfl
   .exact absurd hc h2
   .rfl
theorem k2047:Is (Fa (.num false (2047*2 ^ 1074))) (AV.sc (.float .f64 4656717616654581760)):=by
 refine Is.sc ⟨_,rfl,?_⟩
 refine⟨2047*2 ^ 42,-42,rfl,by omega,by omega,?_⟩
 unfold sv
 rw[show((-42:Int)+1074).toNat=1032 from rfl,Nat.mul_assoc,<-Nat.pow_add]
theorem gtr_abs{s:Bool}{V:Nat}:cmpB .gtr ((Fc.num s V).abs.order (.num false (2047*2 ^ 1074)))=(Fc.num s V).big:=by
 show(some (compare (sg false V) (sg false (2047*2 ^ 1074))) == some .gt)=decide (2047*2 ^ 1074<V)
 generalize 2047*2 ^ 1074=K
 show(some (compare (V:Int) (K:Int)) == some .gt)=_
 by_cases h:K<V
 .rw[Int.compare_eq_gt.mpr (by omega),xtq h];rfl
 .rw[xu5 h]
  rcases xu2 V K with g|g
  .rw[Int.compare_eq_lt.mpr (by omega)];rfl
  .rw[Int.compare_eq_eq.mpr (by omega)];rfl
theorem xif{c:Fc}(h:c.whole=true):∃s V,c=.num s V:=by
 cases c with
 |num s V=>exact⟨s,V,rfl⟩
 |inf=>cases h
 |nan=>cases h
theorem z_2f:x2t=[AV.sc (.float .f64 0),AV.sc (.float .f64 0)]:=by kernel_rfl
theorem build_FF{a b:AV}(ha:One a)(hb:One b):xd4 x2t [(0,1,a),(1,1,b)]=some (.agg [a,b]):=by
 unfold xd4
 rw[z_2f]
 simp[xfu,ha.cs,hb.cs,xdl]
theorem idx_0(a b:AV):sIdx Try.prog x3c (.agg [a,b]) (I 0)=some a:=by kernel_rfl
theorem idx_1(a b:AV):sIdx Try.prog x3c (.agg [a,b]) (I 1)=some b:=by kernel_rfl
theorem s_c2c(x y:Nat):∃r,sCvt Try.prog x8 x5 (.sc (.complex .f32 x y))=some r/\Is (Fz (fcs x) (fcs y)) r:=by
 refine sCvt_R (A:=(·=.complex .f32 x y)) (Is.sc rfl) (λu hu=>by rw[conc_sc.mp hu];rfl) ?_
 rintro _ rfl
 have h:nfS Try.prog (convert x8 x5 (.complex .f32 x y))=nfS Try.prog (Conv.complexToComplex .f32 x y .f64):=by kernel_rfl
 rw[<-xeh,h,xeh]
 exact(c2c x y).mono λv hv=>⟨one_Z hv,hv⟩
theorem s_f2f(x:Nat):∃r,sCvt Try.prog x6 x4 (.sc (.float .f32 x))=some r/\Is (Fa (fcs x)) r:=by
 refine sCvt_R (A:=(·=.float .f32 x)) (Is.sc rfl) (λu hu=>by rw[conc_sc.mp hu];rfl) ?_
 rintro _ rfl
 have h:nfS Try.prog (convert x6 x4 (.float .f32 x))=nfS Try.prog (Conv.floatToFloat .f32 x .f64):=by kernel_rfl
 rw[<-xeh,h,xeh]
 exact(f2f x).mono λv hv=>⟨xhg hv,hv⟩
abbrev C32(x y:Nat):AV:=.sc (.complex .f32 x y)
abbrev xen:AV:=.sc (.float .f64 4656717616654581760)
noncomputable def MemA(a b:AV):Mem:=((⟨[],1⟩:Mem).new (0,9,6) (.row x2t 0 false)).set (0,9,6) (.row [a,b] 0 false)
theorem xoo{c:Fc}{a:AV}(ha:Is (Fa c) a)(d:Nat)(m:Mem){α:Type}(A:Mem->Option α)(C:Mem->Option α) :
 ((xcv (xcu (d+3)) x1e [a,(I 0)] m).bind λp23=>
 sGv p23.1 false a p23.2 λp25=>
 sGv p23.1 false a p25.2 λp26=>
 sGp p23.1 false (xcv (xcu (d+3)) x1f [p26.1] p26.2) p26.2 λp27=>
 sGo p23.1 false (sBin Try.prog .neq x4 (.tmp 25) (.tmp 27) p25.1 p27.1) p27.2 λp28=>
 (xde p23.1 (B true) p28.1).bind λt29=>
 xcx t29 (A p28.2) (C p28.2))=bif c.whole then C m else A m:=by
 rw[w_IsInf ha d m]
 cases hi:c.isInf
 .obtain⟨r,e,hr⟩:=w_Trunc ha (d+1) m
  have hn:=xew (P:=Try.prog) (t:=x4) (x:=.tmp 25) (y:=.tmp 27) (op:=.neq) rfl ha hr
  rw[neq_tr,hi]at hn
  simp[e,hn]
  cases c.whole<;>rfl
 .have:c.whole=false:=by cases c<;>first|rfl|cases hi
  simp[this]
theorem w_big1{s:Bool}{V:Nat}{a:AV}(ha:Is (Fa (.num s V)) a)(d:Nat)(m:Mem){α:Type}(A:Mem->Option α)(C:Mem->Option α) :
 ((xcv (xcu (d+3)) xz [a] m).bind λp36=>
 (sBin Try.prog .gtr x4 (.tmp 36) (.tmp 37) p36.1 xen).bind λt38=>
 xcx t38 (A p36.2) (C p36.2))=bif(Fc.num s V).big then A m else C m:=by
 obtain⟨r,e,hr⟩:=w_Abs ha (d+1) m
 have hn:=xew (P:=Try.prog) (t:=x4) (x:=.tmp 36) (y:=.tmp 37) (op:=.gtr) rfl hr k2047
 rw[gtr_abs]at hn
 simp[e,hn]
 cases(Fc.num s V).big<;>rfl
theorem st_w0{c:Fc}{a b:AV}(ha:Is (Fa c) a)(d:Nat)(hs:FHs)(u:Nat)(rec1:xe4)(t1 t6:AV)(m:Mem)(fc:Nat) :
 xl (xcu (d+3)) hs u rec1 t1 t6 (.agg [a,b]) (I 0) m fc=bif c.whole then rec1 t1 t6 (.agg [a,b]) (I 1) m (fc+13)else some (I 29,m):=by
 unfold xl
 rw[xev,show decide ((0:Int)<2)=true from rfl]
 rw[xdd,xfj,idx_0,xdd]
 exact xoo ha d m (λm=>some (I 29,m)) (λm=>rec1 t1 t6 (.agg [a,b]) (I 1) m (fc+13))
theorem st_w1{c:Fc}{a b:AV}(hb:Is (Fa c) b)(d:Nat)(hs:FHs)(u:Nat)(rec1:xe4)(t1 t6:AV)(m:Mem)(fc:Nat) :
 xl (xcu (d+3)) hs u rec1 t1 t6 (.agg [a,b]) (I 1) m fc=bif c.whole then rec1 t1 t6 (.agg [a,b]) (I 2) m (fc+13)else some (I 29,m):=by
 unfold xl
 rw[xev,show decide ((1:Int)<2)=true from rfl]
 rw[xdd,xfj,idx_1,xdd]
 exact xoo hb d m (λm=>some (I 29,m)) (λm=>rec1 t1 t6 (.agg [a,b]) (I 2) m (fc+13))
theorem st_b0{s:Bool}{V:Nat}{a b:AV}(ha:Is (Fa (.num s V)) a)(d:Nat)(hs:FHs)(u:Nat)(rec1:xf7)(m:Mem)(fc:Nat) :
 xk (xcu (d+3)) hs u rec1 xen (.agg [a,b]) (I 0) m fc=bif(Fc.num s V).big then some (I 2,m)else rec1 xen (.agg [a,b]) (I 1) m (fc+9):=by
 unfold xk
 rw[xev,show decide ((0:Int)<2)=true from rfl]
 rw[xdd,xfj,idx_0,xdd]
 exact w_big1 ha d m (λm=>some (I 2,m)) (λm=>rec1 xen (.agg [a,b]) (I 1) m (fc+9))
theorem st_b1{s:Bool}{V:Nat}{a b:AV}(hb:Is (Fa (.num s V)) b)(d:Nat)(hs:FHs)(u:Nat)(rec1:xf7)(m:Mem)(fc:Nat) :
 xk (xcu (d+3)) hs u rec1 xen (.agg [a,b]) (I 1) m fc=bif(Fc.num s V).big then some (I 2,m)else rec1 xen (.agg [a,b]) (I 2) m (fc+9):=by
 unfold xk
 rw[xev,show decide ((1:Int)<2)=true from rfl]
 rw[xdd,xfj,idx_1,xdd]
 exact w_big1 hb d m (λm=>some (I 2,m)) (λm=>rec1 xen (.agg [a,b]) (I 2) m (fc+9))
theorem xop(d:Nat)(x y:Nat)(m:Mem):xcv (xcu (d+4)) x2a [C32 x y,xen] m=some (I (pE (fcs x) (fcs y)),m):=by
 obtain⟨z,e1,h1⟩:=s_c2c x y
 obtain⟨a,e2,ha⟩:=s_real (P:=Try.prog) (t:=x4) (ts:=#[x5]) h1
 obtain⟨b,e3,hb⟩:=s_imag (P:=Try.prog) (t:=x4) (ts:=#[x5]) h1
 refine xd3 (by simp) ?_ m
 rw[xa6]
 unfold x6y x57
 have hst:∀k:Mem->Option (AV×Mem),sSt 2 (.ptr (0,9,6) 0 0) (.agg [a,b]) ((⟨[],1⟩:Mem).new (0,9,6) (.row x2t 0 false)) k=k (MemA a b):=by
  intro k
  unfold MemA
  rw[z_2f]
  simp[ha.oneA.on,hb.oneA.on]
 have hld:sLd true 2 (.ptr (0,9,6) 0 0) (MemA a b)=some (.agg [a,b]):=by
  unfold MemA
  simp
 simp only[mem0,e1,e2,e3,build_FF ha.oneA hb.oneA,xdd,xcy]
 rw[hst]
 unfold x8r
 rw[hld]
 obtain⟨NM,hNM⟩:∃NM,NN=NM+3:=⟨NN-3,by have:=xdy;omega⟩
 rw[xdd,hNM,show x3e (xcu (d+3)) [] 0 (NM+3)=xl (xcu (d+3)) [] 0 (xl (xcu (d+3)) [] 0 (xl (xcu (d+3)) [] 0 (x3e (xcu (d+3)) [] 0 NM)))from rfl]
 rw[st_w0 ha]
 unfold pE
 cases cx:(fcs x).whole
 .exact RetF.st rfl rfl
 rw[xia,st_w1 hb]
 cases cy:(fcs y).whole
 .exact RetF.st rfl rfl
 rw[xia]
 unfold xl
 rw[xev,show decide ((2:Int)<2)=false from rfl,xdd,xlc]
 unfold x8q
 rw[hld,xdd,hNM,show x3d (xcu (d+3)) [] 0 (NM+3)=xk (xcu (d+3)) [] 0 (xk (xcu (d+3)) [] 0 (xk (xcu (d+3)) [] 0 (x3d (xcu (d+3)) [] 0 NM)))from rfl]
 obtain⟨s,V,hx⟩:=xif cx
 obtain⟨s',V',hy⟩:=xif cy
 rw[hx]at ha ⊢
 rw[hy]at hb ⊢
 rw[st_b0 ha]
 cases bx:(Fc.num s V).big
 rotate_left
 .exact RetF.st rfl rfl
 rw[xje,st_b1 hb]
 cases bY:(Fc.num s' V').big
 rotate_left
 .exact RetF.st rfl rfl
 rw[xje]
 unfold xk
 rw[xev,show decide ((2:Int)<2)=false from rfl,xdd,xlc]
 exact RetF.st rfl rfl
theorem neq_self(c:Fc):cmpB .neq (c.order c)=(match c with | .nan=>true|_=>false):=by
 cases c with
 |nan=>rfl
 |inf s=>cases s<;>rfl
 |num s V=>
  show(some (compare (sg s V) (sg s V)) != some .eq)=false
  rw[Int.compare_eq_eq.mpr rfl];rfl
def Fc.sub0:Fc->Fc
 | .num _ _=>.num false 0
 |_=>.nan
theorem binS_sub{t:TypeId}{x y:Operand}{u v:Nat}:binS .sub t x y [.float .f64 u,.float .f64 v]=Op.floatArith .sub .f64 u v:=rfl
theorem fsub_some{u v r:Nat}(h:double.sub u v=some r):Op.floatArith .sub .f64 u v=.pure (.float .f64 r):=by
 unfold Op.floatArith
 show(match double.sub u v with
  |some r=>Pure.pure (Value.float .f64 r)
  |none=>_)=_
 rw[h];rfl
theorem fsub_none{u v:Nat}(h:double.sub u v=none):Op.floatArith .sub .f64 u v=.choose (.nanBits .f64 u v) λk=>.pure (.float .f64 k):=by
 unfold Op.floatArith
 show(match double.sub u v with
  |some r=>Pure.pure (Value.float .f64 r)
  |none=>_)=_
 rw[h];rfl
theorem nan_cut(u v t:Nat):Cl .nan ((Question.nanBits .f64 u v).cut t):=xoi t _ (xuj _ (by omega))
theorem s_sub0{c:Fc}{a:AV}{t:TypeId}{X Y:Operand}(ha:Is (Fa c) a)(h:c≠.nan):∃r,sBin Try.prog .sub t X Y a a=some r/\Is (Fa c.sub0) r:=by
 refine xjj ha ha ?_
 rintro _ _ ⟨u,rfl,hu⟩ ⟨v,rfl,hv⟩
 rw[binS_sub]
 cases c with
 |nan=>exact absurd rfl h
 |inf s=>
  have hu:double.read u=.infinity s:=hu
  have hv:double.read v=.infinity s:=hv
  have e:double.sub u v=none:=by
   unfold Format.sub
   rw[hu,hv]
   cases s<;>rfl
  rw[fsub_none e]
  exact OkR.choose rfl λt=>OkR.pure ⟨xhg (c:=.nan) ⟨_,rfl,nan_cut u v t⟩,_,rfl,nan_cut u v t⟩
 |num s V=>
  obtain⟨m,i,h1,h2,h3,h4⟩:=hu
  obtain⟨n,j,g1,g2,g3,g4⟩:=hv
  have e:double.sub u v=some (double.nearest false 0 (min i j)):=by
   unfold Format.sub
   rw[h1,g1]
   show some (double.write (.number (if signed s m (i-min i j).toNat+signed (!s) n (j-min i j).toNat=0 then s&&!s else decide (signed s m (i-min i j).toNat+signed (!s) n (j-min i j).toNat<0)) (signed s m (i-min i j).toNat+signed (!s) n (j-min i j).toNat).natAbs (min i j)))=_
   have k1:=xhh s m i (min i j) (by omega) (by omega)
   have k2:=xhh (!s) n j (min i j) (by omega) (by omega)
   rw[h4]at k1
   rw[g4,sg_not]at k2
   have k3:signed s m (i-min i j).toNat+signed (!s) n (j-min i j).toNat=0:=by
    have hp:(0:Int)<((2 ^ (min i j+1074).toNat:Nat):Int):=Int.natCast_pos.mpr (Nat.two_pow_pos _)
    have:(signed s m (i-min i j).toNat+signed (!s) n (j-min i j).toNat)*((2 ^ (min i j+1074).toNat:Nat):Int)=0:=by rw[xvw,k1,k2];omega
    rcases Int.mul_eq_zero.mp this with q|q
    .exact q
    .omega
   rw[k3,xta rfl]
   cases s<;>rfl
  rw[fsub_some e]
  have g:Fa (.num false 0) (.float .f64 (double.nearest false 0 (min i j))):=⟨_,rfl,0,-1074,near_0 _ _,by omega,by omega,by unfold sv;simp⟩
  exact OkR.pure ⟨xhg g,g⟩
def T16:Nat:=10000000000000000*2 ^ 1074
theorem k0:Is (Fa (.num false 0)) (AV.sc (.float .f64 0)):=Is.sc ⟨_,rfl,0,-1074,rfl,by omega,by omega,rfl⟩
theorem kT{s:Bool}{w:Nat}(h:double.read w=.number s 5000000000000000 1):Is (Fa (.num s T16)) (AV.sc (.float .f64 w)):=by
 refine Is.sc ⟨_,rfl,_,_,h,by omega,by omega,?_⟩
 unfold sv T16
 rw[show((1:Int)+1074).toNat=1075 from rfl,show(1075:Nat)=1+1074 from rfl,Nat.pow_add,<-Nat.mul_assoc]
theorem geqT{s:Bool}{V:Nat}:cmpB .geq ((Fc.num s V).order (.num true T16))=(!s||decide (V<=T16)):=by
 show(some (compare (sg s V) (sg true T16)) == some .gt||some (compare (sg s V) (sg true T16)) == some .eq)=_
 have hT:0<T16:=xuk (by omega) (Nat.two_pow_pos _)
 generalize T16=T at *
 have e:sg true T=-(T:Int):=rfl
 rw[e]
 cases s
 .have e2:sg false V=(V:Int):=rfl
  rw[e2,Int.compare_eq_gt.mpr (by omega)];rfl
 .have e2:sg true V=-(V:Int):=rfl
  rw[e2]
  rcases Nat.lt_trichotomy V T with g|g|g
  .rw[Int.compare_eq_gt.mpr (by omega),xtq (by omega)];rfl
  .rw[Int.compare_eq_eq.mpr (by omega),xtq (by omega)];rfl
  .rw[Int.compare_eq_lt.mpr (by omega),xu5 (by omega)];rfl
theorem leqT{s:Bool}{V:Nat}:cmpB .leq ((Fc.num s V).order (.num false T16))=(s||decide (V<=T16)):=by
 show(some (compare (sg s V) (sg false T16)) == some .lt||some (compare (sg s V) (sg false T16)) == some .eq)=_
 have hT:0<T16:=xuk (by omega) (Nat.two_pow_pos _)
 generalize T16=T at *
 have e:sg false T=(T:Int):=rfl
 rw[e]
 cases s
 .have e2:sg false V=(V:Int):=rfl
  rw[e2]
  rcases Nat.lt_trichotomy V T with g|g|g
  .rw[Int.compare_eq_lt.mpr (by omega),xtq (by omega)];rfl
  .rw[Int.compare_eq_eq.mpr (by omega),xtq (by omega)];rfl
  .rw[Int.compare_eq_gt.mpr (by omega),xu5 (by omega)];rfl
 .have e2:sg true V=-(V:Int):=rfl
  rw[e2,Int.compare_eq_lt.mpr (by omega)];rfl
theorem xr1{s:Bool}{V:Nat}{a:AV}(ha:Is (Fa (.num s V)) a)(h:T16<V):V % 2 ^ 1074=0:=by
 obtain⟨v,hv⟩:=ha.1
 obtain⟨w,rfl,m,e,h1,h2,h3,h4⟩:=ha.2 v hv
 have hm:=(xhf h1).1
 have he:0<=e:=by
  rcases Int.lt_or_le e 0 with g|g
  .exfalso
   have q1:m*2 ^ (e+1074).toNat<=2 ^ 53*2 ^ 1073:=xuh (Nat.le_of_lt hm) (Nat.pow_le_pow_right (by omega) (by omega))
   have q2:2 ^ 53*2 ^ 1073<T16:=by unfold T16;decide
   unfold sv at h4
   omega
  .exact g
 rw[<-h4]
 unfold sv
 rw[show(e+1074).toNat=e.toNat+1074 by omega,Nat.pow_add,<-Nat.mul_assoc,Nat.mul_mod_left]
theorem s_f2i{s:Bool}{V:Nat}{a:AV}(ha:Is (Fa (.num s V)) a)(h:V<=T16):sCvt Try.prog x4 xd5 a=some (I (sg s (V / 2 ^ 1074))):=by
 have hb:V / 2 ^ 1074<=10000000000000000:=Nat.div_le_of_le_mul (by rw[Nat.mul_comm];exact h)
 generalize hq:V / 2 ^ 1074=q at *
 refine sCvt_1 (A:=Fa (.num s V)) ha rfl (λu hu=>by obtain⟨w,rfl,-⟩:=hu;rfl) (λu hu=>?_)
 .obtain⟨w,rfl,hw⟩:=hu
  have hn:nfS Try.prog (convert x4 xd5 (.float .f64 w))=nfS Try.prog (Conv.floatToInt .f64 w .i64):=by kernel_rfl
  rw[<-xeh,hn,xeh]
  unfold Conv.floatToInt
  simp only[xom hw,hq]
  have h1:IntKind.i64.min=-9223372036854775808:=rfl
  have h2:IntKind.i64.max=9223372036854775807:=rfl
  rw[h1,h2,xta (by cases s<;>simp[sg]<;>omega)]
  exact OkR.pure rfl
theorem s_i2f{n:Int}(h:n.natAbs<2 ^ 53\/n.natAbs<=10000000000000000):∃r,sCvt Try.prog xd5 x4 (I n)=some r/\r=.sc (.float .f64 (FloatKind.f64.nearest n)):=by
 refine⟨_,?_,rfl⟩
 have hn:xd0 Try.prog (convert xd5 x4 (.int .i64 n))=some (.float .f64 (FloatKind.f64.nearest n)):=by kernel_rfl
 unfold sCvt cvt0
 simp only[show xd7 (I n)=some (.int .i64 n)from rfl,show xfr Try.prog xd5 x4 (.int .i64 n)=none from rfl,hn]
 rfl
theorem eql_back{s:Bool}{V:Nat}:cmpB .eql ((Fc.num (decide (sg s (V / 2 ^ 1074)<0)) (V / 2 ^ 1074*2 ^ 1074)).order (.num s V))=(V % 2 ^ 1074 == 0):=by
 show(some (compare (sg (decide (sg s (V / 2 ^ 1074)<0)) (V / 2 ^ 1074*2 ^ 1074)) (sg s V)) == some .eq)=_
 have hd:=Nat.div_add_mod V (2 ^ 1074)
 have hK:0<2 ^ 1074:=Nat.two_pow_pos _
 generalize (2:Nat) ^ 1074=K at *
 rw[Nat.mul_comm]at hd
 have e:sg (decide (sg s (V / K)<0)) (V / K*K)=sg s (V / K*K):=by
  cases s
  .rw[show decide (sg false (V / K)<0)=false from xu5 (Int.not_lt.mpr (Int.natCast_nonneg _))]
  .by_cases h:V / K=0
   .rw[h,xty];rfl
   .rw[show decide (sg true (V / K)<0)=true from xtq (by show -((V / K:Nat):Int)<0;generalize V / K=q at *;omega)]
 rw[e]
 by_cases h:V % K=0
 .have:V=V / K*K:=by omega
  rw[<-this,Int.compare_eq_eq.mpr rfl,h];rfl
 .have hne:sg s (V / K*K)≠sg s V:=λe=>h (by have:=sg_inj.mp e;omega)
  have h2:compare (sg s (V / K*K)) (sg s V)≠.eq:=λe=>hne (Int.compare_eq_eq.mp e)
  have h3:(V % K == 0)=false:=by simpa using h
  rw[h3]
  cases hc:compare (sg s (V / K*K)) (sg s V)
  .rfl
  .exact absurd hc h2
  .rfl
theorem near_num(n:Int)(h:n.natAbs<=10000000000000000){s:Bool}{V:Nat}{w:Nat}(hw:Cl (.num s V) w)(hq:n=sg s (V / 2 ^ 1074)):Cl (.num (decide (n<0)) (V / 2 ^ 1074*2 ^ 1074)) (FloatKind.f64.nearest n):=by
 show Cl _ (double.nearest (decide (n<0)) n.natAbs 0)
 have:n.natAbs=V / 2 ^ 1074:=by rw[hq,xjl]
 rw[this]
 exact tr_Cl hw _
theorem xig{c:Fc}{a:AV}(ha:Is (Fa c) a)(d:Nat)(m:Mem):xcv (xcu (d+1)) x1h [a] m=some (B c.whole,m):=by
 refine xd3 (by simp[ha.oneA.st]) ?_ m
 rw[xap]
 unfold x7h x5u
 have h1:=λX Y=>xew (P:=Try.prog) (t:=x4) (x:=X) (y:=Y) (op:=.neq) rfl ha ha
 rw[neq_self]at h1
 cases c with
 |nan=>
  simp[mem0,h1]
  exact RetF.st rfl rfl
 |inf s=>
  obtain⟨r,e,hr⟩:=s_sub0 (t:=x4) (X:=.tmp 7) (Y:=.tmp 8) ha (λh=>by cases h)
  have h2:=xew (P:=Try.prog) (t:=x4) (x:=.tmp 9) (y:=.const (.float .f64 0)) (op:=.neq) rfl hr k0
  rw[show cmpB .neq ((Fc.inf s).sub0.order (.num false 0))=true from rfl]at h2
  simp[mem0,h1,e,h2]
  exact RetF.st rfl rfl
 |num s V=>
  obtain⟨r,e,hr⟩:=s_sub0 (t:=x4) (X:=.tmp 7) (Y:=.tmp 8) ha (λh=>by cases h)
  have h2:=xew (P:=Try.prog) (t:=x4) (x:=.tmp 9) (y:=.const (.float .f64 0)) (op:=.neq) rfl hr k0
  rw[show cmpB .neq ((Fc.num s V).sub0.order (.num false 0))=false from rfl]at h2
  have h3:=xew (P:=Try.prog) (t:=x4) (x:=.tmp 12) (y:=.const (.float .f64 14069741636278059008)) (op:=.geq) rfl ha (kT (s:=true) (w:=14069741636278059008) rfl)
  have h4:=xew (P:=Try.prog) (t:=x4) (x:=.tmp 15) (y:=.const (.float .f64 4846369599423283200)) (op:=.leq) rfl ha (kT (s:=false) (w:=4846369599423283200) rfl)
  rw[geqT]at h3
  rw[leqT]at h4
  by_cases hV:V<=T16
  .have h5:=s_f2i ha hV
   have hb:V / 2 ^ 1074<=10000000000000000:=Nat.div_le_of_le_mul (by rw[Nat.mul_comm];exact hV)
   have hb2:(sg s (V / 2 ^ 1074)).natAbs<=10000000000000000:=by rw[xjl];exact hb
   obtain⟨r2,e2,hr2⟩:=s_i2f (n:=sg s (V / 2 ^ 1074)) (Or.inr hb2)
   obtain⟨v,hv⟩:=ha.1
   obtain⟨w,rfl,hw⟩:=ha.2 v hv
   have hr3:Is (Fa (.num (decide (sg s (V / 2 ^ 1074)<0)) (V / 2 ^ 1074*2 ^ 1074))) r2:=by
    rw[hr2]
    exact Is.sc ⟨_,rfl,near_num _ hb2 hw rfl⟩
   have h6:=xew (P:=Try.prog) (t:=x4) (x:=.tmp 21) (y:=.tmp 22) (op:=.eql) rfl hr3 ha
   rw[eql_back]at h6
   simp[mem0,h1,e,h2,h3,h4,xtq hV,h5,e2,h6]
   exact RetF.st rfl rfl
  .have hw:(Fc.num s V).whole=true:=by
    show(V % 2 ^ 1074 == 0)=true
    rw[xr1 ha (by omega)];rfl
   rw[hw]
   rw[xu5 hV]at h3 h4
   cases s
   .simp[mem0,h1,e,h2,h3,h4]
    exact RetF.st rfl rfl
   .simp[mem0,h1,e,h2,h3,h4]
    exact RetF.st rfl rfl
theorem kM:Is (Fa (.num true (2047*2 ^ 1074))) (AV.sc (.float .f64 13880089653509357568)):=by
 refine Is.sc ⟨_,rfl,?_⟩
 refine⟨2047*2 ^ 42,-42,rfl,by omega,by omega,?_⟩
 unfold sv
 rw[show((-42:Int)+1074).toNat=1032 from rfl,Nat.mul_assoc,<-Nat.pow_add]
theorem lss_M{s:Bool}{V:Nat}:cmpB .lss ((Fc.num s V).order (.num true (2047*2 ^ 1074)))=(s&&(Fc.num s V).big):=by
 show(some (compare (sg s V) (sg true (2047*2 ^ 1074))) == some .lt)=(s&&decide (2047*2 ^ 1074<V))
 have hK:0<2047*2 ^ 1074:=xuk (by omega) (Nat.two_pow_pos _)
 generalize 2047*2 ^ 1074=K at *
 have e:sg true K=-(K:Int):=rfl
 rw[e]
 cases s
 .have e2:sg false V=(V:Int):=rfl
  rw[e2,Int.compare_eq_gt.mpr (by omega)];rfl
 .have e2:sg true V=-(V:Int):=rfl
  rw[e2]
  rcases Nat.lt_trichotomy V K with g|g|g
  .rw[Int.compare_eq_gt.mpr (by omega),xu5 (by omega)];rfl
  .rw[Int.compare_eq_eq.mpr (by omega),xu5 (by omega)];rfl
  .rw[Int.compare_eq_lt.mpr (by omega),xtq (by omega)];rfl
theorem gtr_M{s:Bool}{V:Nat}:cmpB .gtr ((Fc.num s V).order (.num false (2047*2 ^ 1074)))=(!s&&(Fc.num s V).big):=by
 show(some (compare (sg s V) (sg false (2047*2 ^ 1074))) == some .gt)=(!s&&decide (2047*2 ^ 1074<V))
 have hK:0<2047*2 ^ 1074:=xuk (by omega) (Nat.two_pow_pos _)
 generalize 2047*2 ^ 1074=K at *
 have e:sg false K=(K:Int):=rfl
 rw[e]
 cases s
 .have e2:sg false V=(V:Int):=rfl
  rw[e2]
  rcases Nat.lt_trichotomy V K with g|g|g
  .rw[Int.compare_eq_lt.mpr (by omega),xu5 (by omega)];rfl
  .rw[Int.compare_eq_eq.mpr (by omega),xu5 (by omega)];rfl
  .rw[Int.compare_eq_gt.mpr (by omega),xtq (by omega)];rfl
 .have e2:sg true V=-(V:Int):=rfl
  rw[e2,Int.compare_eq_lt.mpr (by omega)];rfl
theorem cvt2047:sCvt Try.prog xd5 x4 (I 2047)=some xen:=by
 obtain⟨r,e,h⟩:=s_i2f (n:=2047) (Or.inl (by decide))
 rw[e,h];rfl
theorem neg2047:sUn Try.prog .neg xen=some (AV.sc (.float .f64 13880089653509357568)):=by
 have h:xd0 Try.prog (Op.unary .neg (.float .f64 4656717616654581760))=some (.float .f64 13880089653509357568):=by kernel_rfl
 unfold sUn un0
 simp only[show xd7 xen=some (.float .f64 4656717616654581760)from rfl,h]
 rfl
theorem xr2{c e:Fc}{a b:AV}(ha:Is (Fa c) a)(hb:Is (Fa e) b)(d:Nat)(m:Mem):xcv (xcu (d+2)) x2e [a,b,I 2047] m=some (I (pE c e),m):=by
 refine xd3 (by simp[ha.oneA.st,hb.oneA.st]) ?_ m
 rw[xad]
 unfold x75 x5g
 unfold pE
 cases cx:c.whole
 .simp[mem0,xig ha,cx]
  exact RetF.st rfl rfl
 cases cy:e.whole
 .simp[mem0,xig ha,xig hb,cx,cy]
  exact RetF.st rfl rfl
 obtain⟨s,V,rfl⟩:=xif cx
 obtain⟨s',V',rfl⟩:=xif cy
 have l1:=λX Y=>xew (P:=Try.prog) (t:=x4) (x:=X) (y:=Y) (op:=.lss) rfl ha kM
 have l2:=λX Y=>xew (P:=Try.prog) (t:=x4) (x:=X) (y:=Y) (op:=.gtr) rfl ha k2047
 have l3:=λX Y=>xew (P:=Try.prog) (t:=x4) (x:=X) (y:=Y) (op:=.lss) rfl hb kM
 have l4:=λX Y=>xew (P:=Try.prog) (t:=x4) (x:=X) (y:=Y) (op:=.gtr) rfl hb k2047
 simp only[lss_M,gtr_M]at l1 l2 l3 l4
 simp[mem0,xig ha,xig hb,cx,cy,cvt2047,neg2047,l1]
 cases s<;>cases s'<;>cases bx:(Fc.big _)<;>cases bY:(Fc.big (.num _ V'))<;>simp[bx,bY,l2,l3,l4,neg2047]<;>exact RetF.st rfl rfl
theorem xjq(x y:Nat):xd8 Try.prog .real #[x8] x6 [C32 x y]=some (.sc (.float .f32 x)):=by
 have h:xd0 Try.prog (biS .real #[x8] x6 [.complex .f32 x y])=some (.float .f32 x):=by kernel_rfl
 unfold xd8 bi0
 simp only[show xdf [C32 x y]=some [.complex .f32 x y]from rfl,h]
 rfl
theorem imag32(x y:Nat):xd8 Try.prog .imag #[x8] x6 [C32 x y]=some (.sc (.float .f32 y)):=by
 have h:xd0 Try.prog (biS .imag #[x8] x6 [.complex .f32 x y])=some (.float .f32 y):=by kernel_rfl
 unfold xd8 bi0
 simp only[show xdf [C32 x y]=some [.complex .f32 x y]from rfl,h]
 rfl
theorem xoq(d:Nat)(x y:Nat)(m:Mem):xcv (xcu (d+3)) x27 [C32 x y,I 2047] m=some (I (pE (fcs x) (fcs y)),m):=by
 obtain⟨a,e1,ha⟩:=s_f2f x
 obtain⟨b,e2,hb⟩:=s_f2f y
 refine xd3 (by simp) ?_ m
 rw[xa2]
 unfold x6u x4z
 simp[mem0,xjq,imag32,e1,e2,xr2 ha hb]
 exact RetF.st rfl rfl
end Go.Ix
