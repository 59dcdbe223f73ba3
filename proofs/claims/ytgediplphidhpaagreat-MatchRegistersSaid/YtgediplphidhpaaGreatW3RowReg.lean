/- MatchRegisters: for every input the law returns true, and its arguments read as they did. -/
import Derived.Test.YtgediplphidhpaaGreatWg10
import Derived.Test.YtgediplphidhpaaGreatWg18
import Derived.Test.YtgediplphidhpaaGreatWg19
set_option maxRecDepth 100000
set_option linter.unusedVariables false
namespace Go.Proofs.YtgediplphidhpaaGreat
open Go.ChangeShapes Go.WideShapes Go.ChangeAt Go.RowKit Go.Ix
theorem matchRegisters_lifted(os:Os)(started:os.Started)(H:Type)(enc:TypeId×Value->H) :
 ReturnsInHanded {} Tryz.checked os 3 .any (Rows.matchRegistersSpec.pre6 enc Tryz.prog Tryz.f3 Rows.matchRegistersRow.domain false) (Rows.matchRegistersSpec.post enc Tryz.prog Tryz.f3 false true false false):=by
 refine returnsInHanded_of_change (C:=Tryz.checked) Tryz.own started (by kernel_rfl) Tryz.func3
  (ChangeSpec.witness6 (enc:=enc) (C:=Tryz.checked) false ⟨#[],#[.agg #[.int .i64 0,.int .i64 0,.slice none 0 0,.int .i64 0,.int .i64 0,.slice none 0 0],.agg #[.int .i64 0,.int .i64 0,.int .i64 0,.int .i64 0,.int .i64 0,.int .i64 0],.int .i64 0],[]⟩ 8 (by kernel_rfl) (by kernel_rfl) (by kernel_rfl) (by kernel_rfl)) ?_
 intro W base args ds gs before hval0 hW hcnd _
 have hval:∀(j:Nat) t v,Tryz.f3.params[j]?=some t->args[j]?=some v->Value.okWide Tryz.prog W .any base t v:=hval0
 have hW':=hW
 obtain⟨p,q,hA0,hV,rfl,hfz,hnd⟩:=hW
 have hA:DataW.TrodAll enc Tryz.prog W 0 (λ_=>true) true Tryz.f3.params.toList args.toList ds p:=hA0
 rw[Tryz.params3]at hA hval
 obtain⟨v0,v1,v2,d0,d1,d2,p0,p1,p2,rfl,rfl,rfl,t0,t1,t2⟩:=trodAll_three hA
 obtain⟨rfl,rfl⟩:=trodVars_none hV
 obtain⟨a0,s0,w0⟩:=arg_open (k:=5) (by kernel_rfl) (hval 0 _ v0 rfl rfl) t0
 obtain⟨a1,s1,w1⟩:=arg_open (k:=5) (by kernel_rfl) (hval 1 _ v1 rfl rfl) t1
 obtain⟨a2,s2,w2⟩:=arg_open (k:=5) (by kernel_rfl) (hval 2 _ v2 rfl rfl) t2
 obtain⟨L0,S0,b0,l0,M0,T0,c0,r0,rfl,h0,g0⟩:=two_in3 s0
 obtain⟨ta1,tb1,tc1,td1,te1,tf1,rfl⟩:=tk3_in s1
 obtain⟨n2,rfl⟩:=int_in s2
 obtain⟨m',hm⟩:=law_MatchRegisters L0 S0 h0 M0 T0 g0 ta1 tb1 tc1 td1 te1 tf1 n2
 refine(calls_of_E (vs:=#[v0,v1,v2]) (w:=W) hm rfl λi a v ha hv=>?_).mono λe W' ⟨he,hx⟩=>?_
 .match i with
  |0=>simp at ha hv;subst ha hv;exact w0
  |1=>simp at ha hv;subst ha hv;exact w1
  |2=>simp at ha hv;subst ha hv;exact w2
  |i+3=>simp at ha
 subst he
 exact⟨_,rfl,law_post (tb:=xnj) hW' hx rfl rfl rfl (by kernel_rfl) Tryz.laidOut (by
  rw[Tryz.params3]
  intro t ht
  simp only[x19a,x1dn,or_false]at ht
  rcases ht with rfl|rfl|rfl<;>exact⟨by kernel_rfl,x1b8 (by kernel_rfl)⟩)⟩
theorem matchRegisters_holds:Rows.MatchRegistersSaid:=
 OpenClaim.holds_of_wide 3 Tryz.f3 rfl rfl rfl rfl rfl rfl rfl ⟨rfl,rfl,rfl,rfl,rfl⟩ rfl rfl rfl rfl rfl (by kernel_rfl) Tryz.func3 (by kernel_rfl)
  (x1b8 (by kernel_rfl)) (by unfold Func.isWrapper;first|(rw[if_pos (by decide +kernel)];kernel_rfl)|(rw[if_neg (by decide +kernel)];exact⟨rfl,rfl⟩))
  (λos started H enc _=>matchRegisters_lifted os started H enc)
end Go.Proofs.YtgediplphidhpaaGreat
