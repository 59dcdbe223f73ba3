import Derived.Test.YtjdlceelbnaneaaWg3
import Derived.Test.YtjdlceelbnaneaaWg5
set_option linter.unusedSimpArgs false
set_option linter.unusedVariables false
set_option exponentiation.threshold 3000
namespace Go.Ix
open Go.Proofs Ieee
theorem OkR.mono{P:Program}{α:Type}{s:Sem α}{R Q:α->Prop}(h:OkR P s R)(hi:∀v,R v->Q v):OkR P s Q:=⟨h.1,λv hv=>hi v (h.2 v hv)⟩
theorem xh2{P:Program}{α:Type}:∀{s:Sem α} {v:α},x9l P s=some v->OkR P s (·=v)
 | .pure a,v,h=>by cases h;exact⟨trivial,λu e=>e.symm⟩
 | .program k,v,h=>xh2 (s:=k P) h
 | .mark _ k,v,h=>xh2 (s:=k) h
 | .choose ..,v,h=>by cases h
 | .load ..,v,h=>by cases h
 | .store ..,v,h=>by cases h
 | .new ..,v,h=>by cases h
 | .shape ..,v,h=>by cases h
 | .freeze ..,v,h=>by cases h
 | .frozen ..,v,h=>by cases h
 | .getObj ..,v,h=>by cases h
 | .setObj ..,v,h=>by cases h
 | .sys ..,v,h=>by cases h
 | .halt ..,v,h=>by cases h
theorem OkR.of{P:Program}{α:Type}{s:Sem α}{v:α}{R:α->Prop}(h:x9l P s=some v)(hr:R v):OkR P s R:=(xh2 h).mono λu hu=>hu▸hr
theorem sCvt_1{P:Program}{A:Value->Prop}{a:AV}{s d:TypeId}{v0:Value}(ha:Is A a)(hv:x9x v0=.sc v0)(hno:∀u,A u->xcy P s d u=none)(h:∀u,A u->OkR P (convert s d u) (·=v0)):sCvt P s d a=some (.sc v0):=by
 refine op_1 (l:=[a]) (s:=cvtS s d) hv ?_ (cs1 ha.1) (cs1' λu hu=>h u (ha.2 u hu))
 intro r hr
 unfold cvt0 at hr
 cases e:x9g a with
 |none=>simp[e]at hr
 |some u=>
  simp only[e,hno u (ha.2 u (xbt e)),xna]at hr
  obtain⟨z,hz,rfl⟩:=hr
  exact⟨[u],z,⟨xbt e,trivial⟩,xcb hz,rfl⟩
def nfS(P:Program){α:Type}:Sem α->Sem α
 | .program k=>nfS P (k P)
 | .mark _ k=>nfS P k
 |s=>s
theorem xcc{P:Program}{α:Type}{R:α->Prop}:∀{s:Sem α},OkR P (nfS P s) R↔OkR P s R
 | .program k=>xcc (s:=k P)
 | .mark _ k=>xcc (s:=k)
 | .choose ..=>Iff.rfl
 | .pure _=>Iff.rfl
 | .load ..=>Iff.rfl
 | .store ..=>Iff.rfl
 | .new ..=>Iff.rfl
 | .shape ..=>Iff.rfl
 | .freeze ..=>Iff.rfl
 | .frozen ..=>Iff.rfl
 | .getObj ..=>Iff.rfl
 | .setObj ..=>Iff.rfl
 | .sys ..=>Iff.rfl
 | .halt ..=>Iff.rfl
structure One (a:AV):Prop where
 st:still a=true
 s1:still1 a=true
 on:a.one=true
 cs:a.cells=[a]
 cl:clean a=true
 c1:clean1 a=true
def one2(v:Value):Prop:=one1 v/\∀f,v≠.func (.func f) #[] #[]
theorem one2A{c:Fc}{v:Value}(h:Fa c v):one2 v:=⟨one_A h,λf e=>by obtain⟨w,rfl,-⟩:=h;cases e⟩
theorem one2U{c:Fc}{v:Value}(h:Fu c v):one2 v:=⟨one_U h,λf e=>by obtain⟨w,rfl,-⟩:=h;cases e⟩
theorem one2Zi{p q:Int}{v:Value}(h:Fzi p q v):one2 v:=⟨xfc h,λf e=>by obtain⟨x,y,rfl,-⟩:=h;cases e⟩
theorem Is.one{R:Value->Prop}{a:AV}(h:Is R a)(h1:∀v,R v->one2 v):One a:=by
 obtain⟨⟨v,hv⟩,hR⟩:=h
 cases a with
 |sc v'=>
  have e:v=v':=conc_sc.mp hv
  subst e
  have g:=(h1 v (hR v hv)).1
  refine⟨rfl,rfl,g.2.1,?_,rfl,rfl⟩
  show v.cells.toList.map AV.sc=_
  rw[g.1];rfl
 |un p=>exact⟨rfl,rfl,rfl,rfl,rfl,rfl⟩
 |agg cs=>
  exfalso
  have hv':x9g (.agg cs)=some v:=hv
  simp only[x9g]at hv'
  cases e:scs cs with
  |none=>simp[e]at hv'
  |some l=>
   simp only[e,xn8]at hv'
   subst hv'
   have g:=(h1 _ (hR _ hv)).1
   exact absurd g.2.1 (by simp[Value.oneCell'])
 |clo f l=>
  cases l with
  |nil=>
   have e:Value.func (.func f) #[] #[]=v:=xoi (show x9g _=some v from hv)
   exact absurd e.symm ((h1 v (hR v hv)).2 f)
  |cons=>exact nomatch (show x9g _=some v from hv)
 |_=>exact nomatch (show x9g _=some v from hv)
theorem Is.oneA{c:Fc}{a:AV}(h:Is (Fa c) a):One a:=h.one λ_=>one2A
theorem Is.oneZi{p q:Int}{a:AV}(h:Is (Fzi p q) a):One a:=h.one λ_=>one2Zi
theorem w_ext{f:FuncId}{a:AV}{R Q:Value->Prop}(hE:∀d hs args m,x98 (d+1) hs f args m=(xbw Try.prog f args).map λv=>(v,m))(ha:Is Q a)(hq:∀v,Q v->one2 v)(h1:∀v,R v->one2 v)(h:∀u,Q u->OkR Try.prog (callFunc f #[u] >>= extK) R)(d:Nat)(m:Mem) :
 ∃r,x99 (x98 (d+1)) f [a] m=some (r,m)/\Is R r:=by
 obtain⟨r,e,hr⟩:=sExt_R (P:=Try.prog) (f:=f) ha (R:=R) (λu hu=>(h u hu).mono λv hv=>⟨(h1 v hv).1,hv⟩)
 refine⟨r,?_,hr⟩
 have o:=ha.one hq
 have o2:=hr.one h1
 exact call0 (m':=mem0) (by simp[o.st]) (by rw[hE,e];rfl) o2.st
theorem xlp:∀(d:Nat) (hs:FHs) (args:List AV) (m:Mem),x98 (d+1) hs x2r args m=(xbw Try.prog x2r args).map λv=>(v,m):=λd hs args m=>by kernel_rfl
theorem xlq:∀(d:Nat) (hs:FHs) (args:List AV) (m:Mem),x98 (d+1) hs x2s args m=(xbw Try.prog x2s args).map λv=>(v,m):=λd hs args m=>by kernel_rfl
theorem ce_aTrunc:∀(d:Nat) (hs:FHs) (args:List AV) (m:Mem),x98 (d+1) hs x2q args m=(xbw Try.prog x2q args).map λv=>(v,m):=λd hs args m=>by kernel_rfl
theorem w_F64bits{c:Fc}{a:AV}(ha:Is (Fa c) a)(d:Nat)(m:Mem):∃r,x99 (x98 (d+1)) x2r [a] m=some (r,m)/\Is (Fu c) r:=by
 refine w_ext xlp ha (λ_=>one2A) (λ_=>one2U) (λu hu=>?_) d m
 obtain⟨w,rfl,hw⟩:=hu
 have h:x9l Try.prog (callFunc x2r #[.float .f64 w] >>= extK)=some (.int .u64 w):=by kernel_rfl
 exact OkR.of h ⟨w,rfl,hw⟩
theorem w_F64from{c:Fc}{a:AV}(ha:Is (Fu c) a)(d:Nat)(m:Mem):∃r,x99 (x98 (d+1)) x2s [a] m=some (r,m)/\Is (Fa c) r:=by
 refine w_ext xlq ha (λ_=>one2U) (λ_=>one2A) (λu hu=>?_) d m
 obtain⟨w,rfl,hw⟩:=hu
 have h:x9l Try.prog (callFunc x2s #[.int .u64 (w:Nat)] >>= extK)=some (.float .f64 w):=by kernel_rfl
 exact OkR.of h ⟨w,rfl,hw⟩
theorem nf_aTrunc(w:Nat):nfS Try.prog (callFunc x2q #[.float .f64 w] >>= extK)=nfS Try.prog (Sem.bind (Sem.bind (Extern.MathFloor.toIntegral "math.archTrunc" .zero #[.float .f64 w]) λv=>.pure (.value v)) extK):=by kernel_rfl
theorem w_aTrunc{c:Fc}{a:AV}(ha:Is (Fa c) a)(d:Nat)(m:Mem):∃r,x99 (x98 (d+1)) x2q [a] m=some (r,m)/\Is (Fa c.tr) r:=by
 refine w_ext ce_aTrunc ha (λ_=>one2A) (λ_=>one2A) (λu hu=>?_) d m
 obtain⟨w,rfl,hw⟩:=hu
 rw[<-xcc,nf_aTrunc,xcc]
 exact OkR.bind (Q:=λx=>∃v,x=.value v/\Fa c.tr v) (λx hx=>by obtain⟨v,rfl,hv⟩:=hx;exact OkR.pure hv) (OkR.bind (λv hv=>OkR.pure ⟨v,rfl,hv⟩) (trunc_Cl hw))
theorem andnot_w(w:Nat):(BitVec.ofInt 64 (w:Int) &&& ~~~BitVec.ofInt 64 9223372036854775808).toNat=w % 2 ^ 63:=by
 have h1:BitVec.ofInt 64 (w:Int)=BitVec.ofNat 64 w:=by
  apply BitVec.eq_of_toNat_eq
  rw[BitVec.toNat_ofInt,BitVec.toNat_ofNat]
  omega
 have h2:(~~~BitVec.ofInt 64 9223372036854775808)=BitVec.ofNat 64 (2 ^ 63-1):=rfl
 rw[h1,h2,BitVec.toNat_and,BitVec.toNat_ofNat,BitVec.toNat_ofNat,show(2 ^ 63-1) % 2 ^ 64=2 ^ 63-1 by omega,Nat.and_two_pow_sub_one_eq_mod]
 omega
theorem s_andNot{P:Program}{c:Fc}{a:AV}{t:TypeId}{X Y:Operand}(ha:Is (Fu c) a):∃r,sBin P .andNot t X Y a (AV.sc (.int .u64 9223372036854775808))=some r/\Is (Fu c.abs) r:=by
 refine sBin_R (B:=(·=.int .u64 9223372036854775808)) ha (Is.sc rfl) ?_
 rintro _ _ ⟨w,rfl,hw⟩ rfl
 have e:binS .andNot t X Y [.int .u64 (w:Int),.int .u64 9223372036854775808]=.pure (.int .u64 (IntKind.wrap .u64 ((BitVec.ofInt 64 (w:Int) &&& ~~~BitVec.ofInt 64 9223372036854775808).toNat:Int))):=rfl
 rw[e,andnot_w]
 have e2:IntKind.wrap .u64 ((w % 2 ^ 63:Nat):Int)=((w % 2 ^ 63:Nat):Int):=by
  show((w % 2 ^ 63:Nat):Int) % 18446744073709551616=_
  omega
 rw[e2]
 have g:Fu c.abs (.int .u64 ((w % 2 ^ 63:Nat):Int)):=⟨_,rfl,abs_Cl hw⟩
 exact OkR.pure ⟨one_U g,g⟩
theorem w_Abs{c:Fc}{a:AV}(ha:Is (Fa c) a)(d:Nat)(m:Mem):∃r,x99 (x98 (d+2)) xt [a] m=some (r,m)/\Is (Fa c.abs) r:=by
 obtain⟨r1,e1,h1⟩:=w_F64bits ha d (⟨[],1⟩:Mem)
 obtain⟨r2,e2,h2⟩:=s_andNot (P:=Try.prog) (t:=x7) (X:=.tmp 4) (Y:=.const (.int .u64 9223372036854775808)) h1
 obtain⟨r3,e3,h3⟩:=w_F64from h2 d (⟨[],1⟩:Mem)
 refine⟨r3,x9k (by simp[ha.oneA.st]) ?_ m,h3⟩
 rw[x7u]
 unfold x5i x4c
 simp[mem0,e1,e2,e3]
 exact RetF.st h3.oneA.st rfl
def Fc.isInf:Fc->Bool
 | .inf _=>true
 |_=>false
theorem s_gtMax{c:Fc}{a:AV}{t:TypeId}{X Y:Operand}(ha:Is (Fa c) a):sBin Try.prog .gtr t X Y a (AV.sc (.float .f64 9218868437227405311))=some (B (match c with | .inf s=>!s|_=>false)):=by
 refine sBin_1 (B:=(·=.float .f64 9218868437227405311)) ha (Is.sc rfl) rfl ?_
 rintro _ _ ⟨u,rfl,hu⟩ rfl
 rw[xjh rfl]
 have hM:double.read 9218868437227405311=.number false (2 ^ 53-1) 971:=rfl
 refine OkR.pure ?_
 congr 2
 unfold Format.order
 rw[hM]
 cases c with
 |nan=>
  obtain⟨s,t,h⟩:=hu
  rw[h];rfl
 |inf s=>
  have hu:double.read u=.infinity s:=hu
  rw[hu]
  cases s<;>rfl
 |num s V=>
  obtain⟨m,e,h1,h2,h3,h4⟩:=hu
  have hm:=(xfa h1).1
  rw[h1,xjg h2 (by omega)]
  have hlt:sg s (sv m e)<sg false (sv (2 ^ 53-1) 971):=by
   have h5:sv m e<sv (2 ^ 53-1) 971:=by
    unfold sv
    have q1:m*2 ^ (e+1074).toNat<=2 ^ 53*2 ^ (900+1074):=xow (Nat.le_of_lt hm) (Nat.pow_le_pow_right (by omega) (by omega))
    have q2:2 ^ 53*2 ^ (900+1074)<(2 ^ 53-1)*2 ^ ((971:Int)+1074).toNat:=by decide
    omega
   have:sg s (sv m e)<=(sv m e:Int):=by cases s<;>simp[sg]<;>omega
   have h6:sg false (sv (2 ^ 53-1) 971)=(sv (2 ^ 53-1) 971:Int):=rfl
   omega
  rw[Int.compare_eq_lt.mpr hlt]
  rfl
theorem w_IsInf{c:Fc}{a:AV}(ha:Is (Fa c) a)(d:Nat)(m:Mem):x99 (x98 (d+3)) x1g [a,I 0] m=some (B c.isInf,m):=by
 obtain⟨r1,e1,h1⟩:=w_Abs ha d (⟨[],1⟩:Mem)
 refine x9k (by simp[ha.oneA.st]) ?_ m
 rw[x7s]
 unfold x5g x4a x6c x2p
 simp[mem0,e1,s_gtMax h1]
 refine RetF.st rfl ?_
 cases c<;>rfl
theorem w_Trunc{c:Fc}{a:AV}(ha:Is (Fa c) a)(d:Nat)(m:Mem):∃r,x99 (x98 (d+2)) x1h [a] m=some (r,m)/\Is (Fa c.tr) r:=by
 obtain⟨r1,e1,h1⟩:=w_aTrunc ha d (⟨[],1⟩:Mem)
 refine⟨r1,x9k (by simp[ha.oneA.st]) ?_ m,h1⟩
 rw[x7t]
 unfold x5h x4b
 simp[mem0,e1]
 exact RetF.st h1.oneA.st rfl
def Fc.whole:Fc->Bool
 | .num _ V=>V % 2 ^ 1074 == 0
 |_=>false
def Fc.big:Fc->Bool
 | .num _ V=>decide (2047*2 ^ 1074<V)
 |_=>false
def pE(c d:Fc):Int:=bif c.whole&&d.whole then(bif c.big||d.big then 2 else 0)else 29
theorem sg_inj{s:Bool}{a b:Nat}:sg s a=sg s b↔a=b:=by
 unfold sg
 cases s<;>simp<;>omega
theorem neq_tr(c:Fc):cmpB .neq (c.order c.tr)=(c.isInf == false&&c.whole == false):=by
 cases c with
 |nan=>rfl
 |inf s=>cases s<;>rfl
 |num s V=>
  show(some (compare (sg s V) (sg s (V / 2 ^ 1074*2 ^ 1074))) != some .eq)=_
  show _=(true&&((V % 2 ^ 1074 == 0) == false))
  have hd:=Nat.div_add_mod V (2 ^ 1074)
  generalize (2:Nat) ^ 1074=K at *
  rw[Nat.mul_comm]at hd
  by_cases h:V % K=0
  .have:V=V / K*K:=by omega
   rw[<-this,Int.compare_eq_eq.mpr rfl,h];rfl
  .have hne:sg s V≠sg s (V / K*K):=λe=>h (by have:=sg_inj.mp e;omega)
   have h2:compare (sg s V) (sg s (V / K*K))≠.eq:=λe=>hne (Int.compare_eq_eq.mp e)
   have h3:(V % K == 0)=false:=by simpa using h
   rw[h3]
   cases hc:compare (sg s V) (sg s (V / K*K))
   .rfl
   .exact absurd hc h2
   .rfl
theorem k2047:Is (Fa (.num false (2047*2 ^ 1074))) (AV.sc (.float .f64 4656717616654581760)):=by
 refine Is.sc ⟨_,rfl,?_⟩
 refine⟨2047*2 ^ 42,-42,rfl,by omega,by omega,?_⟩
 unfold sv
 rw[show((-42:Int)+1074).toNat=1032 from rfl,Nat.mul_assoc,<-Nat.pow_add]
theorem gtr_abs{s:Bool}{V:Nat}:cmpB .gtr ((Fc.num s V).abs.order (.num false (2047*2 ^ 1074)))=(Fc.num s V).big:=by
 show(some (compare (sg false V) (sg false (2047*2 ^ 1074))) == some .gt)=decide (2047*2 ^ 1074<V)
 generalize 2047*2 ^ 1074=K
 show(some (compare (V:Int) (K:Int)) == some .gt)=_
 by_cases h:K<V
 .rw[Int.compare_eq_gt.mpr (by omega),xny h];rfl
 .rw[xou h]
  rcases xnt V K with g|g
  .rw[Int.compare_eq_lt.mpr (by omega)];rfl
  .rw[Int.compare_eq_eq.mpr (by omega)];rfl
theorem xh3{c:Fc}(h:c.whole=true):∃s V,c=.num s V:=by
 cases c with
 |num s V=>exact⟨s,V,rfl⟩
 |inf=>cases h
 |nan=>cases h
theorem z_2f:x29=[AV.sc (.float .f64 0),AV.sc (.float .f64 0)]:=by kernel_rfl
theorem build_FF{a b:AV}(ha:One a)(hb:One b):x9u x29 [(0,1,a),(1,1,b)]=some (.agg [a,b]):=by
 unfold x9u
 rw[z_2f]
 simp[xc6,ha.cs,hb.cs,x9w]
theorem idx_0(a b:AV):sIdx Try.prog x2m (.agg [a,b]) (I 0)=some a:=by kernel_rfl
theorem idx_1(a b:AV):sIdx Try.prog x2m (.agg [a,b]) (I 1)=some b:=by kernel_rfl
theorem s_c2c(x y:Nat):∃r,sCvt Try.prog xh x8 (.sc (.complex .f32 x y))=some r/\Is (Fz (fcs x) (fcs y)) r:=by
 refine sCvt_R (A:=(·=.complex .f32 x y)) (Is.sc rfl) (λu hu=>by rw[conc_sc.mp hu];rfl) ?_
 rintro _ rfl
 have h:nfS Try.prog (convert xh x8 (.complex .f32 x y))=nfS Try.prog (Conv.complexToComplex .f32 x y .f64):=by kernel_rfl
 rw[<-xcc,h,xcc]
 exact(c2c x y).mono λv hv=>⟨one_Z hv,hv⟩
abbrev C32(x y:Nat):AV:=.sc (.complex .f32 x y)
abbrev xbl:AV:=.sc (.float .f64 4656717616654581760)
noncomputable def MemA(a b:AV):Mem:=((⟨[],1⟩:Mem).new (0,9,6) (.row x29 0 false)).set (0,9,6) (.row [a,b] 0 false)
theorem xjk{c:Fc}{a:AV}(ha:Is (Fa c) a)(d:Nat)(m:Mem){α:Type}(A:Mem->Option α)(C:Mem->Option α) :
 ((x99 (x98 (d+3)) x1g [a,(I 0)] m).bind λp23=>
 sGv p23.1 false a p23.2 λp25=>
 sGv p23.1 false a p25.2 λp26=>
 sGp p23.1 false (x99 (x98 (d+3)) x1h [p26.1] p26.2) p26.2 λp27=>
 sGo p23.1 false (sBin Try.prog .neq x6 (.tmp 25) (.tmp 27) p25.1 p27.1) p27.2 λp28=>
 (xa2 p23.1 (B true) p28.1).bind λt29=>
 x9c t29 (A p28.2) (C p28.2))=bif c.whole then C m else A m:=by
 rw[w_IsInf ha d m]
 cases hi:c.isInf
 .obtain⟨r,e,hr⟩:=w_Trunc ha (d+1) m
  have hn:=s_cmp (P:=Try.prog) (t:=x6) (x:=.tmp 25) (y:=.tmp 27) (op:=.neq) rfl ha hr
  rw[neq_tr,hi]at hn
  simp[e,hn]
  cases c.whole<;>rfl
 .have:c.whole=false:=by cases c<;>first|rfl|cases hi
  simp[this]
theorem w_big1{s:Bool}{V:Nat}{a:AV}(ha:Is (Fa (.num s V)) a)(d:Nat)(m:Mem){α:Type}(A:Mem->Option α)(C:Mem->Option α) :
 ((x99 (x98 (d+3)) xt [a] m).bind λp36=>
 (sBin Try.prog .gtr x6 (.tmp 36) (.tmp 37) p36.1 xbl).bind λt38=>
 x9c t38 (A p36.2) (C p36.2))=bif(Fc.num s V).big then A m else C m:=by
 obtain⟨r,e,hr⟩:=w_Abs ha (d+1) m
 have hn:=s_cmp (P:=Try.prog) (t:=x6) (x:=.tmp 36) (y:=.tmp 37) (op:=.gtr) rfl hr k2047
 rw[gtr_abs]at hn
 simp[e,hn]
 cases(Fc.num s V).big<;>rfl
theorem st_w0{c:Fc}{a b:AV}(ha:Is (Fa c) a)(d:Nat)(hs:FHs)(u:Nat)(rec1:xa8)(t1 t6:AV)(m:Mem)(fc:Nat) :
 xj (x98 (d+3)) hs u rec1 t1 t6 (.agg [a,b]) (I 0) m fc=bif c.whole then rec1 t1 t6 (.agg [a,b]) (I 1) m (fc+13)else some (I 29,m):=by
 unfold xj
 rw[xc8,show decide ((0:Int)<2)=true from rfl]
 rw[x9r,xd9,idx_0,x9r]
 exact xjk ha d m (λm=>some (I 29,m)) (λm=>rec1 t1 t6 (.agg [a,b]) (I 1) m (fc+13))
theorem st_w1{c:Fc}{a b:AV}(hb:Is (Fa c) b)(d:Nat)(hs:FHs)(u:Nat)(rec1:xa8)(t1 t6:AV)(m:Mem)(fc:Nat) :
 xj (x98 (d+3)) hs u rec1 t1 t6 (.agg [a,b]) (I 1) m fc=bif c.whole then rec1 t1 t6 (.agg [a,b]) (I 2) m (fc+13)else some (I 29,m):=by
 unfold xj
 rw[xc8,show decide ((1:Int)<2)=true from rfl]
 rw[x9r,xd9,idx_1,x9r]
 exact xjk hb d m (λm=>some (I 29,m)) (λm=>rec1 t1 t6 (.agg [a,b]) (I 2) m (fc+13))
theorem st_b0{s:Bool}{V:Nat}{a b:AV}(ha:Is (Fa (.num s V)) a)(d:Nat)(hs:FHs)(u:Nat)(rec1:FxKr3)(m:Mem)(fc:Nat) :
 xi (x98 (d+3)) hs u rec1 xbl (.agg [a,b]) (I 0) m fc=bif(Fc.num s V).big then some (I 2,m)else rec1 xbl (.agg [a,b]) (I 1) m (fc+9):=by
 unfold xi
 rw[xc8,show decide ((0:Int)<2)=true from rfl]
 rw[x9r,xd9,idx_0,x9r]
 exact w_big1 ha d m (λm=>some (I 2,m)) (λm=>rec1 xbl (.agg [a,b]) (I 1) m (fc+9))
theorem st_b1{s:Bool}{V:Nat}{a b:AV}(hb:Is (Fa (.num s V)) b)(d:Nat)(hs:FHs)(u:Nat)(rec1:FxKr3)(m:Mem)(fc:Nat) :
 xi (x98 (d+3)) hs u rec1 xbl (.agg [a,b]) (I 1) m fc=bif(Fc.num s V).big then some (I 2,m)else rec1 xbl (.agg [a,b]) (I 2) m (fc+9):=by
 unfold xi
 rw[xc8,show decide ((1:Int)<2)=true from rfl]
 rw[x9r,xd9,idx_1,x9r]
 exact w_big1 hb d m (λm=>some (I 2,m)) (λm=>rec1 xbl (.agg [a,b]) (I 2) m (fc+9))
theorem xjl(d:Nat)(x y:Nat)(m:Mem):x99 (x98 (d+4)) x1z [C32 x y,xbl] m=some (I (pE (fcs x) (fcs y)),m):=by
 obtain⟨z,e1,h1⟩:=s_c2c x y
 obtain⟨a,e2,ha⟩:=s_real (P:=Try.prog) (t:=x6) (ts:=#[x8]) h1
 obtain⟨b,e3,hb⟩:=s_imag (P:=Try.prog) (t:=x6) (ts:=#[x8]) h1
 refine x9k (by simp) ?_ m
 rw[x7q]
 unfold x5e x48
 have hst:∀k:Mem->Option (AV×Mem),sSt 2 (.ptr (0,9,6) 0 0) (.agg [a,b]) ((⟨[],1⟩:Mem).new (0,9,6) (.row x29 0 false)) k=k (MemA a b):=by
  intro k
  unfold MemA
  rw[z_2f]
  simp[ha.oneA.on,hb.oneA.on]
 have hld:sLd true 2 (.ptr (0,9,6) 0 0) (MemA a b)=some (.agg [a,b]):=by
  unfold MemA
  simp
 simp only[mem0,e1,e2,e3,build_FF ha.oneA hb.oneA,x9r,x9e]
 rw[hst]
 unfold x6b
 rw[hld]
 obtain⟨NM,hNM⟩:∃NM,NN=NM+3:=⟨NN-3,by have:=xay;omega⟩
 rw[x9r,hNM,show x2o (x98 (d+3)) [] 0 (NM+3)=xj (x98 (d+3)) [] 0 (xj (x98 (d+3)) [] 0 (xj (x98 (d+3)) [] 0 (x2o (x98 (d+3)) [] 0 NM)))from rfl]
 rw[st_w0 ha]
 unfold pE
 cases cx:(fcs x).whole
 .exact RetF.st rfl rfl
 rw[xe2,st_w1 hb]
 cases cy:(fcs y).whole
 .exact RetF.st rfl rfl
 rw[xe2]
 unfold xj
 rw[xc8,show decide ((2:Int)<2)=false from rfl,x9r,xgr]
 unfold x6a
 rw[hld,x9r,hNM,show x2n (x98 (d+3)) [] 0 (NM+3)=xi (x98 (d+3)) [] 0 (xi (x98 (d+3)) [] 0 (xi (x98 (d+3)) [] 0 (x2n (x98 (d+3)) [] 0 NM)))from rfl]
 obtain⟨s,V,hx⟩:=xh3 cx
 obtain⟨s',V',hy⟩:=xh3 cy
 rw[hx]at ha ⊢
 rw[hy]at hb ⊢
 rw[st_b0 ha]
 cases bx:(Fc.num s V).big
 rotate_left
 .exact RetF.st rfl rfl
 rw[xf3,st_b1 hb]
 cases bY:(Fc.num s' V').big
 rotate_left
 .exact RetF.st rfl rfl
 rw[xf3]
 unfold xi
 rw[xc8,show decide ((2:Int)<2)=false from rfl,x9r,xgr]
 exact RetF.st rfl rfl
end Go.Ix
