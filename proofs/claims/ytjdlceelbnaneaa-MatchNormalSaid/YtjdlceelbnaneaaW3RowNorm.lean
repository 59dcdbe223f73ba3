/- MatchNormal: for every input the law returns true, and its arguments read as they did. -/
import Derived.Test.YtjdlceelbnaneaaWg4
import Derived.Test.YtjdlceelbnaneaaW3Norm2
set_option maxRecDepth 100000
set_option linter.unusedVariables false
namespace Go.Proofs.Ytjdlceelbnaneaa
open Go.ChangeShapes Go.WideShapes Go.ChangeAt Go.RowKit Go.Ix
theorem matchNormal_lifted(os:Os)(started:os.Started)(H:Type)(enc:TypeId×Value->H) :
 ReturnsInHanded {} Try.checked os 6 .any (Rows.matchNormalSpec.pre6 enc Try.prog Try.f6 Rows.matchNormalRow.domain false) (Rows.matchNormalSpec.post enc Try.prog Try.f6 false true false false):=by
 refine returnsInHanded_of_change (C:=Try.checked) Try.own started (by kernel_rfl) Try.func6
  (ChangeSpec.witness6 (enc:=enc) (C:=Try.checked) false ⟨#[],#[.slice none 0 0],[]⟩ 8 (by kernel_rfl) (by kernel_rfl) (by kernel_rfl) (by kernel_rfl)) ?_
 intro W base args ds gs before hval0 hW hcnd _
 have hval:∀(j:Nat) t v,Try.f6.params[j]?=some t->args[j]?=some v->Value.okWide Try.prog W .any base t v:=hval0
 have hW':=hW
 obtain⟨p,q,hA0,hV,rfl,hfz,hnd⟩:=hW
 have hA:DataW.TrodAll enc Try.prog W 0 (λ_=>true) true Try.f6.params.toList args.toList ds p:=hA0
 rw[Try.params6]at hA hval
 obtain⟨v0,d0,rfl,rfl,t0⟩:=trodAll_one hA
 obtain⟨rfl,rfl⟩:=trodVars_none hV
 obtain⟨a0,s0,w0⟩:=arg_open (k:=5) (by kernel_rfl) (hval 0 _ v0 rfl rfl) t0
 obtain⟨l0,h0⟩:=points_in s0
 obtain⟨m',hm⟩:=law_MatchNormal h0
 refine(calls_of_E (vs:=#[v0]) (w:=W) hm rfl λi a v ha hv=>?_).mono λe W' ⟨he,hx⟩=>?_
 .match i with
  |0=>simp at ha hv;subst ha hv;exact w0
  |i+1=>simp at ha
 subst he
 exact⟨_,rfl,law_post (tb:=x55) hW' hx rfl rfl rfl (by kernel_rfl) Try.laidOut (by
  rw[Try.params6]
  intro t ht
  simp only[xhu,List.not_mem_nil,or_false]at ht
  rcases ht with rfl<;>exact⟨by kernel_rfl,xj3 (by kernel_rfl)⟩)⟩
theorem matchNormal_holds:Rows.MatchNormalSaid:=
 OpenClaim.holds_of_wide 6 Try.f6 rfl rfl rfl rfl rfl rfl rfl ⟨rfl,rfl,rfl,rfl,rfl⟩ rfl rfl rfl rfl rfl (by kernel_rfl) Try.func6 (by kernel_rfl)
  (xj3 (by kernel_rfl)) (by unfold Func.isWrapper;first|(rw[xhk (by decide +kernel)];kernel_rfl)|(rw[xhl (by decide +kernel)];exact⟨rfl,rfl⟩))
  (λos started H enc _=>matchNormal_lifted os started H enc)
end Go.Proofs.Ytjdlceelbnaneaa
