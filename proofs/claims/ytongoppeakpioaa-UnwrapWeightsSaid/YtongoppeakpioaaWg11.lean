import Derived.Test.YtongoppeakpioaaWg10
import Derived.Test.YtongoppeakpioaaWg7
import Derived.Test.YtongoppeakpioaaWg4
import Derived.Test.YtongoppeakpioaaWBase
import Derived.ProofKit
import Derived.Test.YtongoppeakpioaaWg6
import Derived.Test.YtongoppeakpioaaWg2
set_option linter.unusedSimpArgs false
set_option linter.unusedVariables false
namespace Go.Ix
open Go.Proofs
structure Pq where
 a:Int
 b:Int
def Pq.c(p:Pq):List AV:=[I p.a,I p.b]
theorem Pq.len(p:Pq):p.c.length=2:=rfl
theorem Pq.still(p:Pq):p.c.all still1=true:=rfl
def Pq.same(p q:Pq):Bool:=decide (p.a=q.a)&&decide (p.b=q.b)
def InB(l:List Scene):Prop:=∀s∈l,(0<=s.day/\s.day<=100000)/\(-100000<=s.bl/\s.bl<=100000)
theorem InB.get{l:List Scene}(h:InB l){k:Nat}(hk:k<l.length):(0<=l[k].day/\l[k].day<=100000)/\(-100000<=l[k].bl/\l[k].bl<=100000):=h _ (xi6 hk)
def Pq.v(p:Pq):Value:=.agg [.int .i64 p.a,.int .i64 p.b].toArray
theorem rd_5(a b c d e:AV)(cs:List AV):rd true 5 (a::b::c::d::e::cs)=some (.agg [a,b,c,d,e]):=by rw[rd_t];simp only[xh3];rw[xgw (by omega)];rfl
attribute [local simp high] rd_5
variable{a:AV}{l:List Mp}
end Go.Ix
set_option exponentiation.threshold 3000
namespace Go.Ix
open Go.Proofs Ieee
theorem OkR.mono{P:Program}{α:Type}{s:Sem α}{R Q:α->Prop}(h:OkR P s R)(hi:∀v,R v->Q v):OkR P s Q:=⟨h.1,λv hv=>hi v (h.2 v hv)⟩
theorem xbm{P:Program}{α:Type}:∀{s:Sem α} {v:α},x3w P s=some v->OkR P s (·=v)
 | .pure a,v,h=>by cases h;exact⟨trivial,λu e=>e.symm⟩
 | .program k,v,h=>xbm (s:=k P) h
 | .mark _ k,v,h=>xbm (s:=k) h
 | .choose ..,v,h=>by cases h
 | .load ..,v,h=>by cases h
 | .store ..,v,h=>by cases h
 | .new ..,v,h=>by cases h
 | .shape ..,v,h=>by cases h
 | .freeze ..,v,h=>by cases h
 | .frozen ..,v,h=>by cases h
 | .getObj ..,v,h=>by cases h
 | .setObj ..,v,h=>by cases h
 | .sys ..,v,h=>by cases h
 | .halt ..,v,h=>by cases h
theorem OkR.of{P:Program}{α:Type}{s:Sem α}{v:α}{R:α->Prop}(h:x3w P s=some v)(hr:R v):OkR P s R:=(xbm h).mono λu hu=>hu▸hr
theorem sCvt_1{P:Program}{A:Value->Prop}{a:AV}{s d:TypeId}{v0:Value}(ha:Is A a)(hv:x40 v0=.sc v0)(hno:∀u,A u->x7o P s d u=none)(h:∀u,A u->OkR P (convert s d u) (·=v0)):sCvt P s d a=some (.sc v0):=by
 refine op_1 (l:=[a]) (s:=cvtS s d) hv ?_ (cs1 ha.1) (cs1' λu hu=>h u (ha.2 u hu))
 intro r hr
 unfold cvt0 at hr
 cases e:x3s a with
 |none=>simp[e]at hr
 |some u=>
  simp only[e,hno u (ha.2 u (x7l e)),xgl]at hr
  obtain⟨z,hz,rfl⟩:=hr
  exact⟨[u],z,⟨x7l e,trivial⟩,x81 hz,rfl⟩
def nfS(P:Program){α:Type}:Sem α->Sem α
 | .program k=>nfS P (k P)
 | .mark _ k=>nfS P k
 |s=>s
theorem x5y{P:Program}{α:Type}{R:α->Prop}:∀{s:Sem α},OkR P (nfS P s) R↔OkR P s R
 | .program k=>x5y (s:=k P)
 | .mark _ k=>x5y (s:=k)
 | .choose ..=>Iff.rfl
 | .pure _=>Iff.rfl
 | .load ..=>Iff.rfl
 | .store ..=>Iff.rfl
 | .new ..=>Iff.rfl
 | .shape ..=>Iff.rfl
 | .freeze ..=>Iff.rfl
 | .frozen ..=>Iff.rfl
 | .getObj ..=>Iff.rfl
 | .setObj ..=>Iff.rfl
 | .sys ..=>Iff.rfl
 | .halt ..=>Iff.rfl
structure One (a:AV):Prop where
 st:still a=true
 s1:still1 a=true
 on:a.one=true
 cs:a.cells=[a]
 cl:clean a=true
 c1:clean1 a=true
def one2(v:Value):Prop:=one1 v/\∀f,v≠.func (.func f) #[] #[]
theorem one2A{c:Fc}{v:Value}(h:Fa c v):one2 v:=⟨one_A h,λf e=>by obtain⟨w,rfl,-⟩:=h;cases e⟩
theorem one2U{c:Fc}{v:Value}(h:Fu c v):one2 v:=⟨one_U h,λf e=>by obtain⟨w,rfl,-⟩:=h;cases e⟩
theorem Is.one{R:Value->Prop}{a:AV}(h:Is R a)(h1:∀v,R v->one2 v):One a:=by
 obtain⟨⟨v,hv⟩,hR⟩:=h
 cases a with
 |sc v'=>
  have e:v=v':=conc_sc.mp hv
  subst e
  have g:=(h1 v (hR v hv)).1
  refine⟨rfl,rfl,g.2.1,?_,rfl,rfl⟩
  show v.cells.toList.map AV.sc=_
  rw[g.1];rfl
 |un p=>exact⟨rfl,rfl,rfl,rfl,rfl,rfl⟩
 |agg cs=>
  exfalso
  have hv':x3s (.agg cs)=some v:=hv
  simp only[x3s]at hv'
  cases e:scs cs with
  |none=>simp[e]at hv'
  |some l=>
   simp only[e,xgk]at hv'
   subst hv'
   have g:=(h1 _ (hR _ hv)).1
   exact absurd g.2.1 (by simp[Value.oneCell'])
 |clo f l=>
  cases l with
  |nil=>
   have e:Value.func (.func f) #[] #[]=v:=xi2 (show x3s _=some v from hv)
   exact absurd e.symm ((h1 v (hR v hv)).2 f)
  |cons=>exact nomatch (show x3s _=some v from hv)
 |_=>exact nomatch (show x3s _=some v from hv)
theorem Is.oneA{c:Fc}{a:AV}(h:Is (Fa c) a):One a:=h.one λ_=>one2A
theorem w_ext{f:FuncId}{a:AV}{R Q:Value->Prop}(hE:∀d hs args m,x3q (d+1) hs f args m=(x6j Try.prog f args).map λv=>(v,m))(ha:Is Q a)(hq:∀v,Q v->one2 v)(h1:∀v,R v->one2 v)(h:∀u,Q u->OkR Try.prog (callFunc f #[u] >>= extK) R)(d:Nat)(m:Mem) :
 ∃r,x3u (x3q (d+1)) f [a] m=some (r,m)/\Is R r:=by
 obtain⟨r,e,hr⟩:=sExt_R (P:=Try.prog) (f:=f) ha (R:=R) (λu hu=>(h u hu).mono λv hv=>⟨(h1 v hv).1,hv⟩)
 refine⟨r,?_,hr⟩
 have o:=ha.one hq
 have o2:=hr.one h1
 exact call0 (m':=mem0) (by simp[o.st]) (by rw[hE,e];rfl) o2.st
theorem xfw:∀(d:Nat) (hs:FHs) (args:List AV) (m:Mem),x3q (d+1) hs x15 args m=(x6j Try.prog x15 args).map λv=>(v,m):=λd hs args m=>by kernel_rfl
theorem xfx:∀(d:Nat) (hs:FHs) (args:List AV) (m:Mem),x3q (d+1) hs x16 args m=(x6j Try.prog x16 args).map λv=>(v,m):=λd hs args m=>by kernel_rfl
theorem ce_aTrunc:∀(d:Nat) (hs:FHs) (args:List AV) (m:Mem),x3q (d+1) hs x13 args m=(x6j Try.prog x13 args).map λv=>(v,m):=λd hs args m=>by kernel_rfl
theorem w_F64bits{c:Fc}{a:AV}(ha:Is (Fa c) a)(d:Nat)(m:Mem):∃r,x3u (x3q (d+1)) x15 [a] m=some (r,m)/\Is (Fu c) r:=by
 refine w_ext xfw ha (λ_=>one2A) (λ_=>one2U) (λu hu=>?_) d m
 obtain⟨w,rfl,hw⟩:=hu
 have h:x3w Try.prog (callFunc x15 #[.float .f64 w] >>= extK)=some (.int .u64 w):=by kernel_rfl
 exact OkR.of h ⟨w,rfl,hw⟩
theorem w_F64from{c:Fc}{a:AV}(ha:Is (Fu c) a)(d:Nat)(m:Mem):∃r,x3u (x3q (d+1)) x16 [a] m=some (r,m)/\Is (Fa c) r:=by
 refine w_ext xfx ha (λ_=>one2U) (λ_=>one2A) (λu hu=>?_) d m
 obtain⟨w,rfl,hw⟩:=hu
 have h:x3w Try.prog (callFunc x16 #[.int .u64 (w:Nat)] >>= extK)=some (.float .f64 w):=by kernel_rfl
 exact OkR.of h ⟨w,rfl,hw⟩
theorem nf_aTrunc(w:Nat):nfS Try.prog (callFunc x13 #[.float .f64 w] >>= extK)=nfS Try.prog (Sem.bind (Sem.bind (Extern.MathFloor.toIntegral "math.archTrunc" .zero #[.float .f64 w]) λv=>.pure (.value v)) extK):=by kernel_rfl
theorem w_aTrunc{c:Fc}{a:AV}(ha:Is (Fa c) a)(d:Nat)(m:Mem):∃r,x3u (x3q (d+1)) x13 [a] m=some (r,m)/\Is (Fa c.tr) r:=by
 refine w_ext ce_aTrunc ha (λ_=>one2A) (λ_=>one2A) (λu hu=>?_) d m
 obtain⟨w,rfl,hw⟩:=hu
 rw[<-x5y,nf_aTrunc,x5y]
 exact OkR.bind (Q:=λx=>∃v,x=.value v/\Fa c.tr v) (λx hx=>by obtain⟨v,rfl,hv⟩:=hx;exact OkR.pure hv) (OkR.bind (λv hv=>OkR.pure ⟨v,rfl,hv⟩) (trunc_Cl hw))
end Go.Ix
