import Derived.Test.YtifmaegopmkaoaaGreatWg4
import Derived.Test.YtifmaegopmkaoaaGreatWg1
import Derived.Test.YtifmaegopmkaoaaGreatWg0
import Derived.ProofKit
import Derived.Test.YtifmaegopmkaoaaGreatWg3
set_option linter.unusedSimpArgs false
set_option linter.unusedVariables false
namespace Go.Ix
open Go.Proofs
theorem xg0:xd=[I 0,I 0]:=by kernel_rfl
theorem Edge.still1(e:Edge):e.c.all Go.Ix.still1=true:=rfl
abbrev Pr:=Int×Int
def Pr.c(x:Pr):List AV:=[I x.1,I x.2]
theorem Pr.len(x:Pr):(Pr.c x).length=2:=rfl
theorem Pr.still(x:Pr):(Pr.c x).all Go.Ix.still1=true:=rfl
theorem part2(w0 w1:Int):∀o∈[0,1],xev Tryz.prog (part xey #[.int .i64 w0,.int .i64 w1] o)=some (.int .i64 ([w0,w1].getD o 0)):=by
 intro o ho
 simp only[xwh,x10a,or_false]at ho
 rcases ho with rfl|rfl<;>kernel_rfl
def tm(a b c x y:Int):Int:=a+b*x+c*y
theorem tm_bd{a b c x y:Int}(ha:bd a 1000000000000000)(hb:bd b 1000000000000000)(hc:bd c 1000000000000000)(hx:bd x 63)(hy:bd y 63):bd (tm a b c x y) 127000000000000000:=
 ((ha.add (hb.mul hx)).add (hc.mul hy)).mono (by omega)
section
variable{f:Aff}{x y:Int}
theorem AffIn.ts(h:AffIn f)(hx:bd x 63)(hy:bd y 63):bd (tm f.s0 f.s1 f.s2 x y) 127000000000000000:=tm_bd h.s0 h.s1 h.s2 hx hy
end
theorem InB.get{l:List Scene}(h:InB l){k:Nat}(hk:k<l.length):(0<=l[k].day/\l[k].day<=100000)/\(-100000<=l[k].bl/\l[k].bl<=100000):=h _ (xxj hk)
def Pq.v(p:Pq):Value:=.agg [.int .i64 p.a,.int .i64 p.b].toArray
theorem xk6:Tryz.prog.underlying xh=some (.slice xk):=by kernel_rfl
theorem rd_5(a b c d e:AV)(cs:List AV):rd true 5 (a::b::c::d::e::cs)=some (.agg [a,b,c,d,e]):=by rw[rd_t];simp only[xwk];rw[xwj (by omega)];rfl
attribute [local simp high] rd_5
theorem xji(m:Mem)(n:Nat)(i:Id):(⟨m.hp,n⟩:Mem).get i=m.get i:=_root_.id rfl
abbrev Pts:=@Sl Mp Mp.c
variable{a:AV}{l:List Mp}
end Go.Ix
set_option exponentiation.threshold 3000
namespace Go.Ix
open Go.Proofs Ieee
theorem OkR.mono{P:Program}{α:Type}{s:Sem α}{R Q:α->Prop}(h:OkR P s R)(hi:∀v,R v->Q v):OkR P s Q:=⟨h.1,λv hv=>hi v (h.2 v hv)⟩
theorem xoi{P:Program}{α:Type}:∀{s:Sem α} {v:α},xev P s=some v->OkR P s (·=v)
 | .pure a,v,h=>by cases h;exact⟨trivial,λu e=>e.symm⟩
 | .program k,v,h=>xoi (s:=k P) h
 | .mark _ k,v,h=>xoi (s:=k) h
 | .choose ..,v,h=>by cases h
 | .load ..,v,h=>by cases h
 | .store ..,v,h=>by cases h
 | .new ..,v,h=>by cases h
 | .shape ..,v,h=>by cases h
 | .freeze ..,v,h=>by cases h
 | .frozen ..,v,h=>by cases h
 | .getObj ..,v,h=>by cases h
 | .setObj ..,v,h=>by cases h
 | .sys ..,v,h=>by cases h
 | .halt ..,v,h=>by cases h
theorem OkR.of{P:Program}{α:Type}{s:Sem α}{v:α}{R:α->Prop}(h:xev P s=some v)(hr:R v):OkR P s R:=(xoi h).mono λu hu=>hu▸hr
theorem sCvt_1{P:Program}{A:Value->Prop}{a:AV}{s d:TypeId}{v0:Value}(ha:Is A a)(hv:xf6 v0=.sc v0)(hno:∀u,A u->xhu P s d u=none)(h:∀u,A u->OkR P (convert s d u) (·=v0)):sCvt P s d a=some (.sc v0):=by
 refine op_1 (l:=[a]) (s:=cvtS s d) hv ?_ (cs1 ha.1) (cs1' λu hu=>h u (ha.2 u hu))
 intro r hr
 unfold cvt0 at hr
 cases e:xf1 a with
 |none=>simp[e]at hr
 |some u=>
  simp only[e,hno u (ha.2 u (xi5 e)),xwa]at hr
  obtain⟨z,hz,rfl⟩:=hr
  exact⟨[u],z,⟨xi5 e,trivial⟩,xir hz,rfl⟩
def nfS(P:Program){α:Type}:Sem α->Sem α
 | .program k=>nfS P (k P)
 | .mark _ k=>nfS P k
 |s=>s
theorem xgn{P:Program}{α:Type}{R:α->Prop}:∀{s:Sem α},OkR P (nfS P s) R↔OkR P s R
 | .program k=>xgn (s:=k P)
 | .mark _ k=>xgn (s:=k)
 | .choose ..=>Iff.rfl
 | .pure _=>Iff.rfl
 | .load ..=>Iff.rfl
 | .store ..=>Iff.rfl
 | .new ..=>Iff.rfl
 | .shape ..=>Iff.rfl
 | .freeze ..=>Iff.rfl
 | .frozen ..=>Iff.rfl
 | .getObj ..=>Iff.rfl
 | .setObj ..=>Iff.rfl
 | .sys ..=>Iff.rfl
 | .halt ..=>Iff.rfl
structure One (a:AV):Prop where
 st:still a=true
 s1:still1 a=true
 on:a.one=true
 cs:a.cells=[a]
 cl:clean a=true
 c1:clean1 a=true
def one2(v:Value):Prop:=one1 v/\∀f,v≠.func (.func f) #[] #[]
theorem one2A{c:Fc}{v:Value}(h:Fa c v):one2 v:=⟨xk3 h,λf e=>by obtain⟨w,rfl,-⟩:=h;cases e⟩
theorem one2U{c:Fc}{v:Value}(h:Fu c v):one2 v:=⟨one_U h,λf e=>by obtain⟨w,rfl,-⟩:=h;cases e⟩
theorem one2Zi{p q:Int}{v:Value}(h:Fzi p q v):one2 v:=⟨xme h,λf e=>by obtain⟨x,y,rfl,-⟩:=h;cases e⟩
theorem Is.one{R:Value->Prop}{a:AV}(h:Is R a)(h1:∀v,R v->one2 v):One a:=by
 obtain⟨⟨v,hv⟩,hR⟩:=h
 cases a with
 |sc v'=>
  have e:v=v':=conc_sc.mp hv
  subst e
  have g:=(h1 v (hR v hv)).1
  refine⟨rfl,rfl,g.2.1,?_,rfl,rfl⟩
  show v.cells.toList.map AV.sc=_
  rw[g.1];rfl
 |un p=>exact⟨rfl,rfl,rfl,rfl,rfl,rfl⟩
 |agg cs=>
  exfalso
  have hv':xf1 (.agg cs)=some v:=hv
  simp only[xf1]at hv'
  cases e:scs cs with
  |none=>simp[e]at hv'
  |some l=>
   simp only[e,xw9]at hv'
   subst hv'
   have g:=(h1 _ (hR _ hv)).1
   exact absurd g.2.1 (by simp[Value.oneCell'])
 |clo f l=>
  cases l with
  |nil=>
   have e:Value.func (.func f) #[] #[]=v:=xxo (show xf1 _=some v from hv)
   exact absurd e.symm ((h1 v (hR v hv)).2 f)
  |cons=>exact nomatch (show xf1 _=some v from hv)
 |_=>exact nomatch (show xf1 _=some v from hv)
theorem Is.oneA{c:Fc}{a:AV}(h:Is (Fa c) a):One a:=h.one λ_=>one2A
theorem Is.oneZi{p q:Int}{a:AV}(h:Is (Fzi p q) a):One a:=h.one λ_=>one2Zi
theorem w_ext{f:FuncId}{a:AV}{R Q:Value->Prop}(hE:∀d hs args m,xep (d+1) hs f args m=(xib Tryz.prog f args).map λv=>(v,m))(ha:Is Q a)(hq:∀v,Q v->one2 v)(h1:∀v,R v->one2 v)(h:∀u,Q u->OkR Tryz.prog (callFunc f #[u] >>= extK) R)(d:Nat)(m:Mem) :
 ∃r,xeq (xep (d+1)) f [a] m=some (r,m)/\Is R r:=by
 obtain⟨r,e,hr⟩:=sExt_R (P:=Tryz.prog) (f:=f) ha (R:=R) (λu hu=>(h u hu).mono λv hv=>⟨(h1 v hv).1,hv⟩)
 refine⟨r,?_,hr⟩
 have o:=ha.one hq
 have o2:=hr.one h1
 exact call0 (m':=mem0) (by simp[o.st]) (by rw[hE,e];rfl) o2.st
theorem xtz:∀(d:Nat) (hs:FHs) (args:List AV) (m:Mem),xep (d+1) hs x4s args m=(xib Tryz.prog x4s args).map λv=>(v,m):=λd hs args m=>by kernel_rfl
theorem xu0:∀(d:Nat) (hs:FHs) (args:List AV) (m:Mem),xep (d+1) hs x4t args m=(xib Tryz.prog x4t args).map λv=>(v,m):=λd hs args m=>by kernel_rfl
theorem ce_aTrunc:∀(d:Nat) (hs:FHs) (args:List AV) (m:Mem),xep (d+1) hs x4r args m=(xib Tryz.prog x4r args).map λv=>(v,m):=λd hs args m=>by kernel_rfl
theorem w_F64bits{c:Fc}{a:AV}(ha:Is (Fa c) a)(d:Nat)(m:Mem):∃r,xeq (xep (d+1)) x4s [a] m=some (r,m)/\Is (Fu c) r:=by
 refine w_ext xtz ha (λ_=>one2A) (λ_=>one2U) (λu hu=>?_) d m
 obtain⟨w,rfl,hw⟩:=hu
 have h:xev Tryz.prog (callFunc x4s #[.float .f64 w] >>= extK)=some (.int .u64 w):=by kernel_rfl
 exact OkR.of h ⟨w,rfl,hw⟩
theorem w_F64from{c:Fc}{a:AV}(ha:Is (Fu c) a)(d:Nat)(m:Mem):∃r,xeq (xep (d+1)) x4t [a] m=some (r,m)/\Is (Fa c) r:=by
 refine w_ext xu0 ha (λ_=>one2U) (λ_=>one2A) (λu hu=>?_) d m
 obtain⟨w,rfl,hw⟩:=hu
 have h:xev Tryz.prog (callFunc x4t #[.int .u64 (w:Nat)] >>= extK)=some (.float .f64 w):=by kernel_rfl
 exact OkR.of h ⟨w,rfl,hw⟩
theorem nf_aTrunc(w:Nat):nfS Tryz.prog (callFunc x4r #[.float .f64 w] >>= extK)=nfS Tryz.prog (Sem.bind (Sem.bind (Extern.MathFloor.toIntegral "math.archTrunc" .zero #[.float .f64 w]) λv=>.pure (.value v)) extK):=by kernel_rfl
theorem w_aTrunc{c:Fc}{a:AV}(ha:Is (Fa c) a)(d:Nat)(m:Mem):∃r,xeq (xep (d+1)) x4r [a] m=some (r,m)/\Is (Fa c.tr) r:=by
 refine w_ext ce_aTrunc ha (λ_=>one2A) (λ_=>one2A) (λu hu=>?_) d m
 obtain⟨w,rfl,hw⟩:=hu
 rw[<-xgn,nf_aTrunc,xgn]
 exact OkR.bind (Q:=λx=>∃v,x=.value v/\Fa c.tr v) (λx hx=>by obtain⟨v,rfl,hv⟩:=hx;exact OkR.pure hv) (OkR.bind (λv hv=>OkR.pure ⟨v,rfl,hv⟩) (trunc_Cl hw))
end Go.Ix
