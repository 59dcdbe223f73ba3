import Derived.Test.YtljibmnhhdiakaaWRow
import Derived.Test.YtljibmnhhdiakaaWLawWithin
set_option maxRecDepth 100000
set_option linter.unusedVariables false
namespace Go.Proofs.Ytljibmnhhdiakaa
open Go.ChangeShapes Go.WideShapes Go.ChangeAt Go.RowKit Go.Ix

theorem array_inv {P : Program} {t e : TypeId} {n : Nat} {zs : List AV} (ht : P.underlying t = some (.array n e)) (h : Sh P t zs) : zs.length = P.cellsOf t ∧ ∀ i, i < n → Sh P e ((zs.drop (i * P.cellsOf e)).take (P.cellsOf e)) := by
  cases h with
  | array h' cs hl hf => rw [ht] at h'; cases h'; exact ⟨hl, hf⟩
  | nilS h' => rw [ht] at h'; cases h'
  | slice h' => rw [ht] at h'; cases h'
  | bool h' => rw [ht] at h'; cases h'
  | int h' => rw [ht] at h'; cases h'
  | float h' => rw [ht] at h'; cases h'
  | string h' => rw [ht] at h'; cases h'
  | struct h' => rw [ht] at h'; cases h'
theorem two_in {a : AV} (h : ArgSh Try.prog 64 a) : ∃ x y, a = .agg [I x, I y] := by
  obtain ⟨q, rfl, hq⟩ := h.array Try.underlying64
  obtain ⟨hl, hf⟩ := array_inv Try.underlying64 hq
  have hc : Try.prog.cellsOf 64 = 2 := by kernel_rfl
  have hc3 : Try.prog.cellsOf 3 = 1 := by kernel_rfl
  rw [hc] at hl
  match q, hl with
  | [x, y], _ =>
    have f0 := hf 0 (by omega)
    have f1 := hf 1 (by omega)
    simp only [hc3, Nat.zero_mul, Nat.one_mul, List.drop_zero, List.take_succ_cons, List.take_zero, List.drop_succ_cons] at f0 f1
    obtain ⟨n, h1, -⟩ := Sh.int_inv Try.underlying3 f0
    obtain ⟨k, h2, -⟩ := Sh.int_inv Try.underlying3 f1
    simp at h1 h2
    subst h1 h2
    exact ⟨n, k, rfl⟩

theorem unwrapWithin_lifted (os : Os) (started : os.Started) (H : Type) (enc : TypeId × Value → H) :
    ReturnsInHanded {} Try.checked os 7 .any (Rows.unwrapWithinSpec.pre6 enc Try.prog Try.f7 Rows.unwrapWithinRow.domain false) (Rows.unwrapWithinSpec.post enc Try.prog Try.f7 false true false false) := by
  refine returnsInHanded_of_change (C := Try.checked) Try.own started (by kernel_rfl) Try.func7
    (ChangeSpec.witness6 (enc := enc) (C := Try.checked) false ⟨#[], #[.agg #[.int .i64 0, .slice none 0 0], .slice none 0 0, .agg #[.int .i64 0, .int .i64 0]], []⟩ 8 (by kernel_rfl) (by kernel_rfl) (by kernel_rfl) (by kernel_rfl)) ?_
  intro W base args ds gs before hval0 hW hcnd _
  have hval : ∀ (j : Nat) t v, Try.f7.params[j]? = some t → args[j]? = some v → Value.okWide Try.prog W .any base t v := hval0
  have hW' := hW
  obtain ⟨p, q, hA0, hV, rfl, hfz, hnd⟩ := hW
  have hA : DataW.TrodAll enc Try.prog W 0 (fun _ => true) true Try.f7.params.toList args.toList ds p := hA0
  rw [Try.params7] at hA hval
  obtain ⟨v0, v1, v2, d0, d1, d2, p0, p1, p2, rfl, rfl, rfl, t0, t1, t2⟩ := trodAll_three hA
  obtain ⟨rfl, rfl⟩ := trodVars_none hV
  obtain ⟨a0, s0, w0⟩ := arg_open (k := 5) (by kernel_rfl) (hval 0 _ v0 rfl rfl) t0
  obtain ⟨a1, s1, w1⟩ := arg_open (k := 5) (by kernel_rfl) (hval 1 _ v1 rfl rfl) t1
  obtain ⟨a2, s2, w2⟩ := arg_open (k := 5) (by kernel_rfl) (hval 2 _ v2 rfl rfl) t2
  obtain ⟨n0, ev0, l0, rfl, h0⟩ := net_in s0
  obtain ⟨l1, h1⟩ := ints_in s1
  obtain ⟨x2, y2, rfl⟩ := two_in s2
  obtain ⟨m', hm⟩ := law_UnwrapWithin (n := n0) (x := x2) (y := y2) h0 h1
  refine (calls_of_E (vs := #[v0, v1, v2]) (w := W) hm rfl fun i a v ha hv => ?_).mono fun e W' ⟨he, hx⟩ => ?_
  · match i with
    | 0 => simp at ha hv; subst ha hv; exact w0
    | 1 => simp at ha hv; subst ha hv; exact w1
    | 2 => simp at ha hv; subst ha hv; exact w2
    | i + 3 => simp at ha
  subst he
  exact ⟨_, rfl, law_post (tb := 4) hW' hx rfl rfl rfl Try.underlying4 Try.laidOut (by
    rw [Try.params7]
    intro t ht
    simp only [List.mem_cons, List.not_mem_nil, or_false] at ht
    rcases ht with rfl | rfl | rfl <;> exact ⟨by kernel_rfl, of_decide_eq_true (by kernel_rfl)⟩)⟩

theorem unwrapWithin_holds : Rows.UnwrapWithinSaid :=
  OpenClaim.holds_of_wide 7 Try.f7 rfl rfl rfl rfl rfl rfl rfl ⟨rfl, rfl, rfl, rfl, rfl⟩ rfl rfl rfl rfl rfl (by kernel_rfl) Try.func7 (by kernel_rfl)
    (of_decide_eq_true (by kernel_rfl)) (by unfold Func.isWrapper; first | (rw [if_pos (by decide +kernel)]; kernel_rfl) | (rw [if_neg (by decide +kernel)]; exact ⟨rfl, rfl⟩))
    (fun os started H enc _ => unwrapWithin_lifted os started H enc)

end Go.Proofs.Ytljibmnhhdiakaa
