/- UnwrapBest: for every input the law returns true, and its arguments read as they did. -/
import Derived.Test.YtljibmnhhdiakaaWRow
import Derived.Test.YtljibmnhhdiakaaWLawBest
set_option maxRecDepth 100000
set_option linter.unusedVariables false
namespace Go.Proofs.Ytljibmnhhdiakaa
open Go.ChangeShapes Go.WideShapes Go.ChangeAt Go.RowKit Go.Ix
theorem unwrapBest_lifted (os:Os) (started:os.Started) (H:Type) (enc:TypeId×Value→H) :
 ReturnsInHanded {} Try.checked os 8 .any (Rows.unwrapBestSpec.pre6 enc Try.prog Try.f8 Rows.unwrapBestRow.domain false) (Rows.unwrapBestSpec.post enc Try.prog Try.f8 false true false false):=by
 refine returnsInHanded_of_change (C:=Try.checked) Try.own started (by kernel_rfl) Try.func8
  (ChangeSpec.witness6 (enc:=enc) (C:=Try.checked) false ⟨#[],#[.agg #[.int .i64 0,.int .i64 0,.slice none 0 0,.slice none 0 0,.slice none 0 0]],[]⟩ 8 (by kernel_rfl) (by kernel_rfl) (by kernel_rfl) (by kernel_rfl)) ?_
 intro W base args ds gs before hval0 hW hcnd _
 have hval:∀ (j:Nat) t v,Try.f8.params[j]?=some t→args[j]?=some v→Value.okWide Try.prog W .any base t v:=hval0
 have hW':=hW
 obtain ⟨p,q,hA0,hV,rfl,hfz,hnd⟩:=hW
 have hA:DataW.TrodAll enc Try.prog W 0 (fun _=>true) true Try.f8.params.toList args.toList ds p:=hA0
 rw [Try.params8] at hA hval
 obtain ⟨v0,d0,rfl,rfl,t0⟩:=trodAll_one hA
 obtain ⟨rfl,rfl⟩:=trodVars_none hV
 obtain ⟨a0,s0,w0⟩:=arg_open (k:=5) (by kernel_rfl) (hval 0 _ v0 rfl rfl) t0
 obtain ⟨r0,c0,p0,a0x,b0,ph0,ac0,dn0,rfl,hp0,ha0,hb0⟩:=task_in s0
 obtain ⟨m',hm⟩:=law_UnwrapBest (r:=r0) (c:=c0) hp0 ha0 hb0
 refine (calls_of_E (vs:=#[v0]) (w:=W) hm rfl fun i a v ha hv=>?_).mono fun e W' ⟨he,hx⟩=>?_
 ·match i with
  | 0=>simp at ha hv;subst ha hv;exact w0
  | i+1=>simp at ha
 subst he
 exact ⟨_,rfl,law_post (tb:=4) hW' hx rfl rfl rfl Try.underlying4 Try.laidOut (by
  rw [Try.params8]
  intro t ht
  simp only [List.mem_cons,List.not_mem_nil,or_false] at ht
  rcases ht with rfl<;>exact ⟨by kernel_rfl,of_decide_eq_true (by kernel_rfl)⟩)⟩
theorem unwrapBest_holds:Rows.UnwrapBestSaid:=
 OpenClaim.holds_of_wide 8 Try.f8 rfl rfl rfl rfl rfl rfl rfl ⟨rfl,rfl,rfl,rfl,rfl⟩ rfl rfl rfl rfl rfl (by kernel_rfl) Try.func8 (by kernel_rfl)
  (of_decide_eq_true (by kernel_rfl)) (by unfold Func.isWrapper;first | (rw [if_pos (by decide +kernel)];kernel_rfl) | (rw [if_neg (by decide +kernel)];exact ⟨rfl,rfl⟩))
  (fun os started H enc _=>unwrapBest_lifted os started H enc)
end Go.Proofs.Ytljibmnhhdiakaa
