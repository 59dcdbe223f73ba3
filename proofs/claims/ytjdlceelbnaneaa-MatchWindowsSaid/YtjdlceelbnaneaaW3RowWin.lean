/- MatchWindows: for every input the law returns true, and its arguments read as they did. -/
import Derived.Test.YtjdlceelbnaneaaWg15
import Derived.Test.YtjdlceelbnaneaaWg18
set_option maxRecDepth 100000
set_option linter.unusedVariables false
namespace Go.Proofs.Ytjdlceelbnaneaa
open Go.ChangeShapes Go.WideShapes Go.ChangeAt Go.RowKit Go.Ix
theorem matchWindows_lifted(os:Os)(started:os.Started)(H:Type)(enc:TypeId×Value->H) :
 ReturnsInHanded {} Try.checked os 9 .any (Rows.matchWindowsSpec.pre6 enc Try.prog Try.f9 Rows.matchWindowsRow.domain false) (Rows.matchWindowsSpec.post enc Try.prog Try.f9 false true false false):=by
 refine returnsInHanded_of_change (C:=Try.checked) Try.own started (by kernel_rfl) Try.func9
  (ChangeSpec.witness6 (enc:=enc) (C:=Try.checked) false ⟨#[],#[.agg #[.int .i64 0,.int .i64 0,.slice none 0 0],.agg #[.int .i64 0,.int .i64 0,.int .i64 0,.int .i64 0]],[]⟩ 8 (by kernel_rfl) (by kernel_rfl) (by kernel_rfl) (by kernel_rfl)) ?_
 intro W base args ds gs before hval0 hW hcnd _
 have hval:∀(j:Nat) t v,Try.f9.params[j]?=some t->args[j]?=some v->Value.okWide Try.prog W .any base t v:=hval0
 have hW':=hW
 obtain⟨p,q,hA0,hV,rfl,hfz,hnd⟩:=hW
 have hA:DataW.TrodAll enc Try.prog W 0 (λ_=>true) true Try.f9.params.toList args.toList ds p:=hA0
 rw[Try.params9]at hA hval
 obtain⟨v0,v1,d0,d1,p0,p1,rfl,rfl,rfl,t0,t1⟩:=trodAll_two hA
 obtain⟨rfl,rfl⟩:=trodVars_none hV
 obtain⟨a0,s0,w0⟩:=arg_open (k:=5) (by kernel_rfl) (hval 0 _ v0 rfl rfl) t0
 obtain⟨a1,s1,w1⟩:=arg_open (k:=5) (by kernel_rfl) (hval 1 _ v1 rfl rfl) t1
 obtain⟨L0,S0,b0,l0,rfl,h0⟩:=shot_in s0
 obtain⟨x1,y1,z1,u1,rfl⟩:=win_in s1
 obtain⟨m',hm⟩:=law_MatchWindows L0 S0 h0 x1 y1 z1 u1
 refine(calls_of_E (vs:=#[v0,v1]) (w:=W) hm rfl λi a v ha hv=>?_).mono λe W' ⟨he,hx⟩=>?_
 .match i with
  |0=>simp at ha hv;subst ha hv;exact w0
  |1=>simp at ha hv;subst ha hv;exact w1
  |i+2=>simp at ha
 subst he
 exact⟨_,rfl,law_post (tb:=x6x) hW' hx rfl rfl rfl (by kernel_rfl) Try.laidOut (by
  rw[Try.params9]
  intro t ht
  simp only[xk4,List.not_mem_nil,or_false]at ht
  rcases ht with rfl|rfl<;>exact⟨by kernel_rfl,xle (by kernel_rfl)⟩)⟩
theorem matchWindows_holds:Rows.MatchWindowsSaid:=
 OpenClaim.holds_of_wide 9 Try.f9 rfl rfl rfl rfl rfl rfl rfl ⟨rfl,rfl,rfl,rfl,rfl⟩ rfl rfl rfl rfl rfl (by kernel_rfl) Try.func9 (by kernel_rfl)
  (xle (by kernel_rfl)) (by unfold Func.isWrapper;first|(rw[xjr (by decide +kernel)];kernel_rfl)|(rw[xjs (by decide +kernel)];exact⟨rfl,rfl⟩))
  (λos started H enc _=>matchWindows_lifted os started H enc)
end Go.Proofs.Ytjdlceelbnaneaa
