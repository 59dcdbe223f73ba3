/- UnwrapAlong: for every input the law returns true, and its arguments read as they did. -/
import Derived.Test.YtljibmnhhdiakaaWRow
import Derived.Test.YtljibmnhhdiakaaWAlong
set_option maxRecDepth 100000
namespace Go.Proofs.Ytljibmnhhdiakaa
open Go.ChangeShapes Go.WideShapes Go.ChangeAt Go.RowKit Go.Ix

theorem unwrapAlong_lifted (os : Os) (started : os.Started) (H : Type) (enc : TypeId × Value → H) :
    ReturnsInHanded {} Try.checked os 11 .any (Rows.unwrapAlongSpec.pre6 enc Try.prog Try.f11 Rows.unwrapAlongRow.domain false) (Rows.unwrapAlongSpec.post enc Try.prog Try.f11 false true false false) := by
  refine returnsInHanded_of_change (C := Try.checked) Try.own started (by kernel_rfl) Try.func11
    (ChangeSpec.witness6 (enc := enc) (C := Try.checked) false ⟨#[], #[.agg #[.int .i64 0, .int .i64 0, .slice none 0 0], .slice none 0 0], []⟩ 8 (by kernel_rfl) (by kernel_rfl) (by kernel_rfl) (by kernel_rfl)) ?_
  intro W base args ds gs before hval0 hW hcnd _
  have hval : ∀ (j : Nat) t v, Try.f11.params[j]? = some t → args[j]? = some v → Value.okWide Try.prog W .any base t v := hval0
  have hW' := hW
  obtain ⟨p, q, hA0, hV, rfl, hfz, hnd⟩ := hW
  have hA : DataW.TrodAll enc Try.prog W 0 (fun _ => true) true Try.f11.params.toList args.toList ds p := hA0
  rw [Try.params11] at hA hval
  obtain ⟨v0, v1, d0, d1, p0, p1, rfl, rfl, rfl, h0, h1⟩ := trodAll_two hA
  obtain ⟨rfl, rfl⟩ := trodVars_none hV
  obtain ⟨a0, s0, w0⟩ := arg_open (k := 5) (by kernel_rfl) (hval 0 _ v0 rfl rfl) h0
  obtain ⟨a1, s1, w1⟩ := arg_open (k := 5) (by kernel_rfl) (hval 1 _ v1 rfl rfl) h1
  obtain ⟨r, c, pa, ph, rfl, hp⟩ := map_in s0
  obtain ⟨t, ht⟩ := ints_in s1
  obtain ⟨m', hm⟩ := law_UnwrapAlong (r := r) (c := c) hp ht
  refine (calls_of_E (vs := #[v0, v1]) (w := W) hm rfl fun i a v ha hv => ?_).mono fun e W' ⟨he, hx⟩ => ?_
  · match i with
    | 0 => simp at ha hv; subst ha hv; exact w0
    | 1 => simp at ha hv; subst ha hv; exact w1
    | i + 2 => simp at ha
  subst he
  exact ⟨_, rfl, law_post (tb := 4) hW' hx rfl rfl rfl Try.underlying4 Try.laidOut (by
    rw [Try.params11]
    intro t ht
    simp only [List.mem_cons, List.not_mem_nil, or_false] at ht
    rcases ht with rfl | rfl <;> exact ⟨by kernel_rfl, of_decide_eq_true (by kernel_rfl)⟩)⟩

theorem unwrapAlong_holds : Rows.UnwrapAlongSaid :=
  OpenClaim.holds_of_wide 11 Try.f11 rfl rfl rfl rfl rfl rfl rfl ⟨rfl, rfl, rfl, rfl, rfl⟩ rfl rfl rfl rfl rfl (by kernel_rfl) Try.func11 (by kernel_rfl)
    (of_decide_eq_true (by kernel_rfl)) (by unfold Func.isWrapper; first | (rw [if_pos (by decide +kernel)]; kernel_rfl) | (rw [if_neg (by decide +kernel)]; exact ⟨rfl, rfl⟩))
    (fun os started H enc _ => unwrapAlong_lifted os started H enc)

end Go.Proofs.Ytljibmnhhdiakaa
