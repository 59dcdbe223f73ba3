/- TopVelocityAnyTree: for every input the law returns true, and its arguments read as they did. -/
import Derived.Test.YtdfahbenacjgeaaWg3
import Derived.Test.YtdfahbenacjgeaaWLawVel
set_option maxRecDepth 100000
set_option linter.unusedVariables false
namespace Go.Proofs.Ytdfahbenacjgeaa
open Go.ChangeShapes Go.WideShapes Go.ChangeAt Go.RowKit Go.Ix
theorem topVelocityAnyTree_lifted(os:Os)(started:os.Started)(H:Type)(enc:TypeId×Value->H) :
 ReturnsInHanded {} Try.checked os 3 .any (Rows.topVelocityAnyTreeSpec.pre6 enc Try.prog Try.f3 Rows.topVelocityAnyTreeRow.domain false) (Rows.topVelocityAnyTreeSpec.post enc Try.prog Try.f3 false true false false):=by
 refine returnsInHanded_of_change (C:=Try.checked) Try.own started (by kernel_rfl) Try.func3
  (ChangeSpec.witness6 (enc:=enc) (C:=Try.checked) false ⟨#[],#[.agg #[.string ⟨#[]⟩,.slice none 0 0],.agg #[.slice none 0 0,.slice none 0 0],.int .i64 0],[]⟩ 8 (by kernel_rfl) (by kernel_rfl) (by kernel_rfl) (by kernel_rfl)) ?_
 intro W base args ds gs before hval0 hW hcnd _;have hval:∀(j:Nat) t v,Try.f3.params[j]?=some t->args[j]?=some v->Value.okWide Try.prog W .any base t v:=hval0;have hW':=hW;obtain⟨p,q,hA0,hV,rfl,hfz,hnd⟩:=hW;have hA:DataW.TrodAll enc Try.prog W 0 (λ_=>true) true Try.f3.params.toList args.toList ds p:=hA0;rw[Try.params3]at hA hval;obtain⟨v0,v1,v2,d0,d1,d2,p0,p1,p2,rfl,rfl,rfl,t0,t1,t2⟩:=trodAll_three hA;obtain⟨rfl,rfl⟩:=trodVars_none hV;obtain⟨a0,s0,w0⟩:=arg_open (k:=5) (by kernel_rfl) (hval 0 _ v0 rfl rfl) t0;obtain⟨a1,s1,w1⟩:=arg_open (k:=5) (by kernel_rfl) (hval 1 _ v1 rfl rfl) t1;obtain⟨a2,s2,w2⟩:=arg_open (k:=5) (by kernel_rfl) (hval 2 _ v2 rfl rfl) t2;obtain⟨s0n,s0a,l0a,rfl,h0a⟩:=series_in s0;obtain⟨s1a,s1b,l1a,l1b,rfl,h1a,h1b⟩:=nets8_in s1;obtain⟨n2,rfl⟩:=int_in s2;obtain⟨m',hm⟩:=law_TopVelocityAnyTree (s:=s0n) h0a h1a h1b n2;refine(calls_of_E (vs:=#[v0,v1,v2]) (w:=W) hm rfl λi a v ha hv=>?_).mono λe W' ⟨he,hx⟩=>?_
 .match i with
  |0=>simp at ha hv;subst ha hv;exact w0
  |1=>simp at ha hv;subst ha hv;exact w1
  |2=>simp at ha hv;subst ha hv;exact w2
  |i+3=>simp at ha
 subst he
 exact⟨_,rfl,law_post (tb:=kJ) hW' hx rfl rfl rfl (by kernel_rfl) Try.laidOut (by
  rw[Try.params3]
  intro t ht
  simp only[xce,xft,or_false]at ht
  rcases ht with rfl|rfl|rfl<;>exact⟨by kernel_rfl,xdz (by kernel_rfl)⟩)⟩
theorem topVelocityAnyTree_holds:Rows.TopVelocityAnyTreeSaid:=
 OpenClaim.holds_of_wide 3 Try.f3 rfl rfl rfl rfl rfl rfl rfl ⟨rfl,rfl,rfl,rfl,rfl⟩ rfl rfl rfl rfl rfl (by kernel_rfl) Try.func3 (by kernel_rfl)
  (xdz (by kernel_rfl)) (by unfold Func.isWrapper;first|(rw[xc2 (by decide +kernel)];kernel_rfl)|(rw[xc1 (by decide +kernel)];exact⟨rfl,rfl⟩))
  (λos started H enc _=>topVelocityAnyTree_lifted os started H enc)
end Go.Proofs.Ytdfahbenacjgeaa
