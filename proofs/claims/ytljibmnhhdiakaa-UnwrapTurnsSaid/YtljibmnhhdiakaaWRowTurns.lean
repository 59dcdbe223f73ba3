/- UnwrapTurns: for every input the law returns true, and its arguments read as they did. -/
import Derived.Test.YtljibmnhhdiakaaRows
import Derived.Test.YtljibmnhhdiakaaFxLaw
import Derived.Test.YtljibmnhhdiakaaWLawTurns
set_option maxRecDepth 100000
namespace Go.Proofs.Ytljibmnhhdiakaa
open Go.ChangeShapes Go.WideShapes Go.ChangeAt Go.RowKit Go.Ix

theorem Try.own : ownKnob Try.prog.godebug = none := by kernel_rfl
theorem Try.laidOut : laidOutB Try.prog = true := by kernel_rfl

/-- Numbers that came in. -/
theorem int_in {a : AV} (h : ArgSh Try.prog 3 a) : ∃ n, a = I n ∧ (Lit.int .i64 n).wf = true := by
  exact h.int Try.underlying3
theorem ints_in {a : AV} (h : ArgSh Try.prog 27 a) : ∃ l, Sl intE a l := by
  rcases Sh.slice_inv Try.underlying27 (h.slice Try.underlying27) with h1 | ⟨rows, x, h1, h2, h3, h4⟩
  · exact ⟨[], Or.inl ⟨by simpa using h1, rfl⟩⟩
  · obtain ⟨l, rfl⟩ := rows_map (enc := intE) fun r hr => by
      obtain ⟨n, h5, -⟩ := Sh.int_inv Try.underlying3 (h3 r hr)
      exact ⟨n, h5⟩
    exact ⟨l, Or.inr ⟨x, by simpa [List.flatMap] using h1⟩⟩
/-- A net that came in. -/
theorem net_in {a : AV} (h : ArgSh Try.prog 24 a) : ∃ n ev l, a = .agg [I n, ev] ∧ Sl Edge.c ev l := by
  obtain ⟨q, rfl, hq⟩ := h.struct Try.underlying24
  obtain ⟨hl, hf⟩ := Sh.struct_inv Try.underlying24 hq
  have hc : Try.prog.cellsOf 24 = 2 := by kernel_rfl
  have hc3 : Try.prog.cellsOf 3 = 1 := by kernel_rfl
  have hc22 : Try.prog.cellsOf 22 = 1 := by kernel_rfl
  have hc94 : Try.prog.cellsOf 94 = 4 := by kernel_rfl
  rw [hc] at hl
  match q, hl with
  | [x, y], _ =>
    simp only [List.mem_cons, forall_eq_or_imp] at hf
    obtain ⟨f0, f1, -⟩ := hf
    simp only [hc3, hc22, List.drop_zero, List.take_succ_cons, List.take_zero, List.drop_succ_cons] at f0 f1
    obtain ⟨n, h1, -⟩ := Sh.int_inv Try.underlying3 f0
    simp at h1
    subst h1
    rcases Sh.slice_inv Try.underlying22 f1 with h1 | ⟨rows, b, h1, h2, h3, h4⟩
    · simp at h1; subst h1
      exact ⟨n, _, [], rfl, Or.inl ⟨rfl, rfl⟩⟩
    · obtain ⟨l, rfl⟩ := rows_map (enc := Edge.c) fun r hr => by
        obtain ⟨hl', hf'⟩ := Sh.struct_inv Try.underlying94 (h3 r hr)
        rw [hc94] at hl'
        match r, hl' with
        | [x0, x1, x2, x3], _ =>
          simp only [List.mem_cons, forall_eq_or_imp] at hf'
          obtain ⟨g0, g1, g2, g3, -⟩ := hf'
          simp only [hc3, List.drop_zero, List.take_succ_cons, List.take_zero, List.drop_succ_cons] at g0 g1 g2 g3
          obtain ⟨n0, e0, -⟩ := Sh.int_inv Try.underlying3 g0
          obtain ⟨n1, e1, -⟩ := Sh.int_inv Try.underlying3 g1
          obtain ⟨n2, e2, -⟩ := Sh.int_inv Try.underlying3 g2
          obtain ⟨n3, e3, -⟩ := Sh.int_inv Try.underlying3 g3
          simp at e0 e1 e2 e3
          subst e0 e1 e2 e3
          exact ⟨⟨n0, n1, n2, n3⟩, rfl⟩
      simp at h1; subst h1
      exact ⟨n, _, l, rfl, Or.inr ⟨b, by simp [List.flatMap]⟩⟩

theorem unwrapTurns_lifted (os : Os) (started : os.Started) (H : Type) (enc : TypeId × Value → H) :
    ReturnsInHanded {} Try.checked os 6 .any (Rows.unwrapTurnsSpec.pre6 enc Try.prog Try.f6 Rows.unwrapTurnsRow.domain false) (Rows.unwrapTurnsSpec.post enc Try.prog Try.f6 false true false false) := by
  refine returnsInHanded_of_change (C := Try.checked) Try.own started (by kernel_rfl) Try.func6
    (ChangeSpec.witness6 (enc := enc) (C := Try.checked) false ⟨#[], #[.agg #[.int .i64 0, .slice none 0 0], .slice none 0 0, .int .i64 0], []⟩ 8 (by kernel_rfl) (by kernel_rfl) (by kernel_rfl) (by kernel_rfl)) ?_
  intro W base args ds gs before hval0 hW hcnd _
  have hval : ∀ (j : Nat) t v, Try.f6.params[j]? = some t → args[j]? = some v → Value.okWide Try.prog W .any base t v := hval0
  have hW' := hW
  obtain ⟨p, q, hA0, hV, rfl, hfz, hnd⟩ := hW
  have hA : DataW.TrodAll enc Try.prog W 0 (fun _ => true) true Try.f6.params.toList args.toList ds p := hA0
  rw [Try.params6] at hA hval
  obtain ⟨v0, v1, v2, d0, d1, d2, p0, p1, p2, rfl, rfl, rfl, h0, h1, h2⟩ := trodAll_three hA
  obtain ⟨rfl, rfl⟩ := trodVars_none hV
  obtain ⟨a0, s0, w0⟩ := arg_open (k := 5) (by kernel_rfl) (hval 0 _ v0 rfl rfl) h0
  obtain ⟨a1, s1, w1⟩ := arg_open (k := 5) (by kernel_rfl) (hval 1 _ v1 rfl rfl) h1
  obtain ⟨a2, s2, w2⟩ := arg_open (k := 5) (by kernel_rfl) (hval 2 _ v2 rfl rfl) h2
  obtain ⟨n, ev, l, rfl, hl⟩ := net_in s0
  obtain ⟨t, ht⟩ := ints_in s1
  obtain ⟨more, rfl, -⟩ := int_in s2
  obtain ⟨m', hm⟩ := law_UnwrapTurns (n := n) (more := more) hl ht
  refine (calls_of_E (vs := #[v0, v1, v2]) (w := W) hm rfl fun i a v ha hv => ?_).mono fun e W' ⟨he, hx⟩ => ?_
  · match i with
    | 0 => simp at ha hv; subst ha hv; exact w0
    | 1 => simp at ha hv; subst ha hv; exact w1
    | 2 => simp at ha hv; subst ha hv; exact w2
    | i + 3 => simp at ha
  subst he
  exact ⟨_, rfl, law_post (tb := 4) hW' hx rfl rfl rfl Try.underlying4 Try.laidOut (by
    rw [Try.params6]
    intro t ht
    simp only [List.mem_cons, List.not_mem_nil, or_false] at ht
    rcases ht with rfl | rfl | rfl <;> exact ⟨by kernel_rfl, of_decide_eq_true (by kernel_rfl)⟩)⟩

theorem unwrapTurns_holds : Rows.UnwrapTurnsSaid :=
  OpenClaim.holds_of_wide 6 Try.f6 rfl rfl rfl rfl rfl rfl rfl ⟨rfl, rfl, rfl, rfl, rfl⟩ rfl rfl rfl rfl rfl (by kernel_rfl) Try.func6 (by kernel_rfl)
    (of_decide_eq_true (by kernel_rfl)) (by unfold Func.isWrapper; first | (rw [if_pos (by decide +kernel)]; kernel_rfl) | (rw [if_neg (by decide +kernel)]; exact ⟨rfl, rfl⟩))
    (fun os started H enc _ => unwrapTurns_lifted os started H enc)

end Go.Proofs.Ytljibmnhhdiakaa
