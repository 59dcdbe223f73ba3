import Derived.Test.YtgediplphidhpaaGreatWg4
import Derived.Test.YtgediplphidhpaaGreatWg1
import Derived.Test.YtgediplphidhpaaGreatWg0
import Derived.ProofKit
import Derived.Test.YtgediplphidhpaaGreatWg3
set_option linter.unusedSimpArgs false
set_option linter.unusedVariables false
namespace Go.Ix
open Go.Proofs
theorem xp5:xb=[I 0,I 0]:=by kernel_rfl
theorem Edge.still1(e:Edge):e.c.all Go.Ix.still1=true:=rfl
abbrev Pr:=Int×Int
def Pr.c(x:Pr):List AV:=[I x.1,I x.2]
theorem Pr.len(x:Pr):(Pr.c x).length=2:=rfl
theorem Pr.still(x:Pr):(Pr.c x).all Go.Ix.still1=true:=rfl
theorem part2(w0 w1:Int):∀o∈[0,1],xo1 Tryz.prog (part xo4 #[.int .i64 w0,.int .i64 w1] o)=some (.int .i64 ([w0,w1].getD o 0)):=by
 intro o ho
 simp only[x19a,x1dn,or_false]at ho
 rcases ho with rfl|rfl<;>kernel_rfl
def dotW(a b c x y z:Int):Int:=aW (aW (mW a x) (mW b y)) (mW c z)
theorem e_dot3(d:Nat)(a b c x y z:Int):((xnt (d+1) [] xfh [.agg [I a,I b,I c],.agg [I x,I y,I z]] mem0).bind λp=>Go.Ix.frz p.2.get deep p.1)=some (I (dotW a b c x y z)):=by kernel_rfl
theorem e_shat(d:Nat)(f:Aff)(x y:Int):((xnt (d+2) [] xh3 [.agg f.c,I x,I y] mem0).bind λp=>Go.Ix.frz p.2.get deep p.1)=some (.agg [I (dotW f.l0 f.l1 f.l2 1 x y),I (dotW f.s0 f.s1 f.s2 1 x y)]):=by kernel_rfl
theorem e_term3(d:Nat)(a b c x y:Int):((xnt (d+1) [] xax [.agg [I a,I b,I c],I x,I y] mem0).bind λp=>Go.Ix.frz p.2.get deep p.1)=some (I (aW (aW a (mW b x)) (mW c y))):=by kernel_rfl
def tm(a b c x y:Int):Int:=a+b*x+c*y
theorem tm_bd{a b c x y:Int}(ha:bd a 1000000000000000)(hb:bd b 1000000000000000)(hc:bd c 1000000000000000)(hx:bd x 63)(hy:bd y 63):bd (tm a b c x y) 127000000000000000:=
 ((ha.add (hb.mul hx)).add (hc.mul hy)).mono (by omega)
theorem dotW_tm{a b c x y:Int}(h:bd (tm a b c x y) 127000000000000000):dotW a b c 1 x y=tm a b c x y:=by
 refine aW_of ?_ (h.mono (by omega))
 exact(cg_a (cg_a (cg_m (.refl a) (.refl 1)) (cg_m (.refl b) (.refl x))) (cg_m (.refl c) (.refl y))).trans (by unfold tm;omega)
theorem termW_tm{a b c x y:Int}(h:bd (tm a b c x y) 127000000000000000):aW (aW a (mW b x)) (mW c y)=tm a b c x y:=
 aW_of (cg_a (cg_a (.refl a) (cg_m (.refl b) (.refl x))) (cg_m (.refl c) (.refl y))) (h.mono (by omega))
section
variable{f:Aff}{x y:Int}
theorem AffIn.tl(h:AffIn f)(hx:bd x 63)(hy:bd y 63):bd (tm f.l0 f.l1 f.l2 x y) 127000000000000000:=tm_bd h.l0 h.l1 h.l2 hx hy
theorem AffIn.ts(h:AffIn f)(hx:bd x 63)(hy:bd y 63):bd (tm f.s0 f.s1 f.s2 x y) 127000000000000000:=tm_bd h.s0 h.s1 h.s2 hx hy
theorem w_shat(d:Nat)(h:AffIn f)(hx:bd x 63)(hy:bd y 63)(m:Mem):xnu (xnt (d+2)) xh3 [.agg f.c,I x,I y] m=some (.agg [I (tm f.l0 f.l1 f.l2 x y),I (tm f.s0 f.s1 f.s2 x y)],m):=by
 have e:=e_shat d f x y
 rw[dotW_tm (h.tl hx hy),dotW_tm (h.ts hx hy)]at e
 exact xo0 rfl (xpw e) m
theorem w_term3(d:Nat){a b c:Int}(h:bd (tm a b c x y) 127000000000000000)(m:Mem):xnu (xnt (d+1)) xax [.agg [I a,I b,I c],I x,I y] m=some (I (tm a b c x y),m):=by
 have e:=e_term3 d a b c x y
 rw[termW_tm h]at e
 exact xo0 rfl (xpw e) m
def shL(f:Aff)(x y:Int):Int:=(32*tm f.l0 f.l1 f.l2 x y+f.den) / (2*f.den)
def shS(f:Aff)(x y:Int):Int:=(32*tm f.s0 f.s1 f.s2 x y+f.den) / (2*f.den)
theorem z_shift3:xfq=[I 0,I 0,I 0,I 0,I 0,I 0,I 0]:=by kernel_rfl
theorem w_parts3(d:Nat)(h:AffIn f)(hx:bd x 63)(hy:bd y 63)(m:Mem):xnu (xnt (d+3)) x3w [.agg f.c,I x,I y] m=some (.agg [I (shL f x y),I (shS f x y)],m):=by
 refine xo0 rfl ?_ m
 have h1:=h.d0
 have h2:=h.d1
 have t1:=h.tl hx hy
 have t2:=h.ts hx hy
 have a1:=w_shat (d+0) h hx hy
 have b1:bd (16*tm f.l0 f.l1 f.l2 x y) 4000000000000000000:=by unfold bd at *;omega
 have b2:bd (16*tm f.s0 f.s1 f.s2 x y) 4000000000000000000:=by unfold bd at *;omega
 have n1:=xzj d h1 h2 b1
 have n2:=xzj d h1 h2 b2
 rw[xjg]
 unfold xdm xa6
 unfold bd at b1 b2
 simp only[Aff.c]at a1
 simp[mem0,Aff.c,xp5]
 simp[a1]
 simp(disch:=omega) [sIxA,asI]
 simp(disch:=omega) [n1,n2,xvn]
 refine RetF.st (by simp) ?_
 simp only[shL,shS]
 rw[show(2:Int)*(16*tm f.l0 f.l1 f.l2 x y)=32*tm f.l0 f.l1 f.l2 x y by omega,show(2:Int)*(16*tm f.s0 f.s1 f.s2 x y)=32*tm f.s0 f.s1 f.s2 x y by omega]
 rfl
theorem x15l(d:Nat)(h:AffIn f)(hx:bd x 63)(hy:bd y 63)(m:Mem):xnu (xnt (d+2)) x42 [.agg f.c,I x,I y] m=some (.agg [I (shL f x y),I (shS f x y)],m):=by
 refine xo0 rfl ?_ m
 have h1:=h.d0
 have h2:=h.d1
 have t1:=h.tl hx hy
 have t2:=h.ts hx hy
 have a1:=w_term3 d t1
 have a2:=w_term3 d t2
 have b1:=xsd d (x:=32*tm f.l0 f.l1 f.l2 x y+f.den) (y:=2*f.den) (by omega) (by unfold bd at *;omega)
 have b2:=xsd d (x:=32*tm f.s0 f.s1 f.s2 x y+f.den) (y:=2*f.den) (by omega) (by unfold bd at *;omega)
 unfold bd at t1 t2
 rw[xjo]
 unfold xdu xaw
 simp(disch:=omega) [mem0,Aff.c,xp5,a1,a2,b1,b2,xvn]
 exact RetF.st (by simp) rfl
end
theorem InB.get{l:List Scene}(h:InB l){k:Nat}(hk:k<l.length):(0<=l[k].day/\l[k].day<=100000)/\(-100000<=l[k].bl/\l[k].bl<=100000):=h _ (x19j hk)
def Pq.v(p:Pq):Value:=.agg [.int .i64 p.a,.int .i64 p.b].toArray
theorem xpb:Tryz.prog.underlying xj=some (.slice xv):=by kernel_rfl
theorem xxh:Tryz.prog.underlying x11=some (.slice xv):=by kernel_rfl
theorem z_pt:xr=[I 0,I 0,I 0,I 0,I 0]:=by kernel_rfl
theorem rd_5(a b c d e:AV)(cs:List AV):rd true 5 (a::b::c::d::e::cs)=some (.agg [a,b,c,d,e]):=by rw[rd_t];simp only[x19e];rw[x19h (by omega)];rfl
attribute [local simp high] rd_5
theorem xtm(m:Mem)(n:Nat)(i:Id):(⟨m.hp,n⟩:Mem).get i=m.get i:=_root_.id rfl
abbrev Pts:=@Sl Mp Mp.c
variable{a:AV}{l:List Mp}
end Go.Ix
set_option exponentiation.threshold 3000
namespace Go.Ix
open Go.Proofs Ieee
theorem OkR.mono{P:Program}{α:Type}{s:Sem α}{R Q:α->Prop}(h:OkR P s R)(hi:∀v,R v->Q v):OkR P s Q:=⟨h.1,λv hv=>hi v (h.2 v hv)⟩
theorem xzk{P:Program}{α:Type}:∀{s:Sem α} {v:α},xo1 P s=some v->OkR P s (·=v)
 | .pure a,v,h=>by cases h;exact⟨trivial,λu e=>e.symm⟩
 | .program k,v,h=>xzk (s:=k P) h
 | .mark _ k,v,h=>xzk (s:=k) h
 | .choose ..,v,h=>by cases h
 | .load ..,v,h=>by cases h
 | .store ..,v,h=>by cases h
 | .new ..,v,h=>by cases h
 | .shape ..,v,h=>by cases h
 | .freeze ..,v,h=>by cases h
 | .frozen ..,v,h=>by cases h
 | .getObj ..,v,h=>by cases h
 | .setObj ..,v,h=>by cases h
 | .sys ..,v,h=>by cases h
 | .halt ..,v,h=>by cases h
theorem OkR.of{P:Program}{α:Type}{s:Sem α}{v:α}{R:α->Prop}(h:xo1 P s=some v)(hr:R v):OkR P s R:=(xzk h).mono λu hu=>hu▸hr
theorem sCvt_1{P:Program}{A:Value->Prop}{a:AV}{s d:TypeId}{v0:Value}(ha:Is A a)(hv:xom v0=.sc v0)(hno:∀u,A u->xr2 P s d u=none)(h:∀u,A u->OkR P (convert s d u) (·=v0)):sCvt P s d a=some (.sc v0):=by
 refine op_1 (l:=[a]) (s:=cvtS s d) hv ?_ (cs1 ha.1) (cs1' λu hu=>h u (ha.2 u hu))
 intro r hr
 unfold cvt0 at hr
 cases e:xo9 a with
 |none=>simp[e]at hr
 |some u=>
  simp only[e,hno u (ha.2 u (xsc e)),x194]at hr
  obtain⟨z,hz,rfl⟩:=hr
  exact⟨[u],z,⟨xsc e,trivial⟩,xsw hz,rfl⟩
def nfS(P:Program){α:Type}:Sem α->Sem α
 | .program k=>nfS P (k P)
 | .mark _ k=>nfS P k
 |s=>s
theorem xqd{P:Program}{α:Type}{R:α->Prop}:∀{s:Sem α},OkR P (nfS P s) R↔OkR P s R
 | .program k=>xqd (s:=k P)
 | .mark _ k=>xqd (s:=k)
 | .choose ..=>Iff.rfl
 | .pure _=>Iff.rfl
 | .load ..=>Iff.rfl
 | .store ..=>Iff.rfl
 | .new ..=>Iff.rfl
 | .shape ..=>Iff.rfl
 | .freeze ..=>Iff.rfl
 | .frozen ..=>Iff.rfl
 | .getObj ..=>Iff.rfl
 | .setObj ..=>Iff.rfl
 | .sys ..=>Iff.rfl
 | .halt ..=>Iff.rfl
structure One (a:AV):Prop where
 st:still a=true
 s1:still1 a=true
 on:a.one=true
 cs:a.cells=[a]
 cl:clean a=true
 c1:clean1 a=true
def one2(v:Value):Prop:=one1 v/\∀f,v≠.func (.func f) #[] #[]
theorem one2A{c:Fc}{v:Value}(h:Fa c v):one2 v:=⟨xuk h,λf e=>by obtain⟨w,rfl,-⟩:=h;cases e⟩
theorem one2U{c:Fc}{v:Value}(h:Fu c v):one2 v:=⟨one_U h,λf e=>by obtain⟨w,rfl,-⟩:=h;cases e⟩
theorem one2Fi{n:Int}{v:Value}(h:Fi n v):one2 v:=⟨xxd h,λf e=>by obtain⟨w,rfl,-⟩:=h;cases e⟩
theorem one2Zi{p q:Int}{v:Value}(h:Fzi p q v):one2 v:=⟨xxe h,λf e=>by obtain⟨x,y,rfl,-⟩:=h;cases e⟩
theorem Is.one{R:Value->Prop}{a:AV}(h:Is R a)(h1:∀v,R v->one2 v):One a:=by
 obtain⟨⟨v,hv⟩,hR⟩:=h
 cases a with
 |sc v'=>
  have e:v=v':=conc_sc.mp hv
  subst e
  have g:=(h1 v (hR v hv)).1
  refine⟨rfl,rfl,g.2.1,?_,rfl,rfl⟩
  show v.cells.toList.map AV.sc=_
  rw[g.1];rfl
 |un p=>exact⟨rfl,rfl,rfl,rfl,rfl,rfl⟩
 |agg cs=>
  exfalso
  have hv':xo9 (.agg cs)=some v:=hv
  simp only[xo9]at hv'
  cases e:scs cs with
  |none=>simp[e]at hv'
  |some l=>
   simp only[e,x193]at hv'
   subst hv'
   have g:=(h1 _ (hR _ hv)).1
   exact absurd g.2.1 (by simp[Value.oneCell'])
 |clo f l=>
  cases l with
  |nil=>
   have e:Value.func (.func f) #[] #[]=v:=x1ap (show xo9 _=some v from hv)
   exact absurd e.symm ((h1 v (hR v hv)).2 f)
  |cons=>exact nomatch (show xo9 _=some v from hv)
 |_=>exact nomatch (show xo9 _=some v from hv)
theorem Is.oneA{c:Fc}{a:AV}(h:Is (Fa c) a):One a:=h.one λ_=>one2A
theorem Is.oneFi{n:Int}{a:AV}(h:Is (Fi n) a):One a:=h.one λ_=>one2Fi
theorem Is.oneZi{p q:Int}{a:AV}(h:Is (Fzi p q) a):One a:=h.one λ_=>one2Zi
theorem w_ext{f:FuncId}{a:AV}{R Q:Value->Prop}(hE:∀d hs args m,xnt (d+1) hs f args m=(xsk Tryz.prog f args).map λv=>(v,m))(ha:Is Q a)(hq:∀v,Q v->one2 v)(h1:∀v,R v->one2 v)(h:∀u,Q u->OkR Tryz.prog (callFunc f #[u] >>= extK) R)(d:Nat)(m:Mem) :
 ∃r,xnu (xnt (d+1)) f [a] m=some (r,m)/\Is R r:=by
 obtain⟨r,e,hr⟩:=sExt_R (P:=Tryz.prog) (f:=f) ha (R:=R) (λu hu=>(h u hu).mono λv hv=>⟨(h1 v hv).1,hv⟩)
 refine⟨r,?_,hr⟩
 have o:=ha.one hq
 have o2:=hr.one h1
 exact call0 (m':=mem0) (by simp[o.st]) (by rw[hE,e];rfl) o2.st
theorem x15m:∀(d:Nat) (hs:FHs) (args:List AV) (m:Mem),xnt (d+1) hs x7o args m=(xsk Tryz.prog x7o args).map λv=>(v,m):=λd hs args m=>by kernel_rfl
theorem x15n:∀(d:Nat) (hs:FHs) (args:List AV) (m:Mem),xnt (d+1) hs x7p args m=(xsk Tryz.prog x7p args).map λv=>(v,m):=λd hs args m=>by kernel_rfl
theorem ce_aTrunc:∀(d:Nat) (hs:FHs) (args:List AV) (m:Mem),xnt (d+1) hs x7n args m=(xsk Tryz.prog x7n args).map λv=>(v,m):=λd hs args m=>by kernel_rfl
theorem w_F64bits{c:Fc}{a:AV}(ha:Is (Fa c) a)(d:Nat)(m:Mem):∃r,xnu (xnt (d+1)) x7o [a] m=some (r,m)/\Is (Fu c) r:=by
 refine w_ext x15m ha (λ_=>one2A) (λ_=>one2U) (λu hu=>?_) d m
 obtain⟨w,rfl,hw⟩:=hu
 have h:xo1 Tryz.prog (callFunc x7o #[.float .f64 w] >>= extK)=some (.int .u64 w):=by kernel_rfl
 exact OkR.of h ⟨w,rfl,hw⟩
theorem w_F64from{c:Fc}{a:AV}(ha:Is (Fu c) a)(d:Nat)(m:Mem):∃r,xnu (xnt (d+1)) x7p [a] m=some (r,m)/\Is (Fa c) r:=by
 refine w_ext x15n ha (λ_=>one2U) (λ_=>one2A) (λu hu=>?_) d m
 obtain⟨w,rfl,hw⟩:=hu
 have h:xo1 Tryz.prog (callFunc x7p #[.int .u64 (w:Nat)] >>= extK)=some (.float .f64 w):=by kernel_rfl
 exact OkR.of h ⟨w,rfl,hw⟩
theorem nf_aTrunc(w:Nat):nfS Tryz.prog (callFunc x7n #[.float .f64 w] >>= extK)=nfS Tryz.prog (Sem.bind (Sem.bind (Extern.MathFloor.toIntegral "math.archTrunc" .zero #[.float .f64 w]) λv=>.pure (.value v)) extK):=by kernel_rfl
theorem w_aTrunc{c:Fc}{a:AV}(ha:Is (Fa c) a)(d:Nat)(m:Mem):∃r,xnu (xnt (d+1)) x7n [a] m=some (r,m)/\Is (Fa c.tr) r:=by
 refine w_ext ce_aTrunc ha (λ_=>one2A) (λ_=>one2A) (λu hu=>?_) d m
 obtain⟨w,rfl,hw⟩:=hu
 rw[<-xqd,nf_aTrunc,xqd]
 exact OkR.bind (Q:=λx=>∃v,x=.value v/\Fa c.tr v) (λx hx=>by obtain⟨v,rfl,hv⟩:=hx;exact OkR.pure hv) (OkR.bind (λv hv=>OkR.pure ⟨v,rfl,hv⟩) (trunc_Cl hw))
end Go.Ix
