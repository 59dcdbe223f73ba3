import Derived.Test.YtljibmnhhdiakaaWgC
import Derived.Test.YtljibmnhhdiakaaWNet2
set_option linter.unusedSimpArgs false
set_option linter.unusedVariables false
namespace Go.Ix
open Go.Proofs
def unwM (n : Nat) (ph tu : List Int) : List Int := (List.range n).map fun i => if at0 ph i = void then at0 ph i else at0 ph i + at0 tu i * 4096
theorem x1if (n : Nat) (ph tu : List Int) : (unwM n ph tu).length = n := by simp [unwM]
theorem x1om {n : Nat} {ph tu : List Int} {k : Nat} (h : k < n) : (unwM n ph tu)[k]'(by rw [x1if]; exact h) = if at0 ph k = void then at0 ph k else at0 ph k + at0 tu k * 4096 := by simp [unwM]
theorem a_Clone (d : Nat) {p : AV} {ph : List Int} (hp : Ints p ph) (h0 : ph ≠ []) (hl : ph.length ≤ 100000) (u : Nat) : ∃ m', x1e6 (d + 1) [] x3b [p] ⟨[], u⟩ = some (srI (u, 5, 7) ph.length, m') ∧ m'.get (u, 5, 7) = some (.row (ph.flatMap intE) 0 false) ∧ m'.next = u + 1 := by
  have he := hp.elems x1et
  refine ⟨(⟨[], u + 1⟩ : Mem).new (u, 5, 7) (.row (ph.flatMap intE) 0 false), ?_, by simp, rfl⟩
  rw [xsa]
  show xaa (x1e6 d) [] u p ⟨[], u + 1⟩ 0 = _
  unfold xaa
  have hnil : sBin Try.prog .eql x5 (.tmp 3) (.const (.slice none 0 0)) p nilS = some (B false) := by
    rcases hp with ⟨-, h⟩ | ⟨x, rfl⟩
    · exact absurd h h0
    · unfold sBin
      have e1 : x1es (.slit (ph.flatMap intE) ph.length x) = none := _root_.id rfl
      have e2 : x1es nilS = some (.slice none 0 0) := _root_.id rfl
      simp only [e1, e2, x1ej]
  have hq : ¬ ph.length = 0 := fun h => h0 (List.length_eq_zero_iff.mp h)
  have hr : x1em (0 + ph.length) 8 := by unfold x1em; omega
  simp only [hnil, x1ea, x1gb, x1gc, x1q6, he]
  simp only [sApp]
  rw [if_pos (by simp), if_neg hq, if_pos hr]
  simp
theorem l_unwrap (d : Nat) (hs : FHs) {us N n : Nat} {ev x0 x1 t2 t7 : AV} {l : List Edge} {fl T ex ph : List Int} (hN : us < N) (hn : n ≤ 200) (hpl : ph.length = n) (hph : PhIn ph) (hT : ∀ k, -1000000 ≤ at0 T k ∧ at0 T k ≤ 1000000) :
    ∀ (s k j : Nat) (m : Mem) (fc : Nat), k + s = n → s < j → SolMem us n ev l fl T ex m → m.get (0, 29, 9) = some (.row [x0, x1, srI (N, 5, 7) n] 0 false) → m.get (N, 5, 7) = some (.row (((unwM n ph T).take k ++ ph.drop k).flatMap intE) 0 false) → 0 < us →
    ∃ m' fc', x1g (x1e6 (d + 1)) hs 0 j t2 t7 (.ptr (us, 21, 25) 0 0) (.ptr (0, 29, 9) 0 0) (srI (us, 11, 15) n) (I n) (I k) m fc = xz (x1e6 (d + 1)) hs 0 t2 t7 (.ptr (us, 21, 25) 0 0) (.ptr (0, 29, 9) 0 0) m' fc' ∧
      m'.get (N, 5, 7) = some (.row ((unwM n ph T).flatMap intE) 0 false) ∧ m'.next = m.next ∧ ∀ id : Id, id ≠ (N, 5, 7) → m'.get id = m.get id := by
  intro s
  induction s with
  | zero =>
    intro k j m fc hk hj hS h9 hm hu0
    obtain ⟨j, rfl⟩ : ∃ i, j = i + 1 := ⟨j - 1, by omega⟩
    have hkn : k = n := by omega
    subst hkn
    rw [List.take_of_length_le (by rw [x1if]; omega), List.drop_eq_nil_of_le (by omega), List.append_nil] at hm
    refine ⟨m, fc + 1, ?_, hm, rfl, fun _ _ => rfl⟩
    simp only [x1g]
    unfold x7x
    simp
  | succ s ih =>
    intro k j m fc hk hj hS h9 hm hu0
    obtain ⟨j, rfl⟩ : ∃ i, j = i + 1 := ⟨j - 1, by omega⟩
    have hkn : k < n := by omega
    have hk' : (k : Int) < (n : Int) := by omega
    have lT : k < T.length := by rw [hS.tul]; exact hkn
    have iT : sIx 1 (srI (us, 11, 15) n) (I k) = some (.ptr (us, 11, 15) 0 k) := by simpa using x1f0 (id := (us, 11, 15)) (n := n) (k := (k : Int)) (by omega) hk'
    have iP : sIx 1 (srI (N, 5, 7) n) (I k) = some (.ptr (N, 5, 7) 0 k) := by simpa using x1f0 (id := (N, 5, 7)) (n := n) (k := (k : Int)) (by omega) hk'
    obtain ⟨cur, hcur⟩ : ∃ cur, cur = (unwM n ph T).take k ++ ph.drop k := ⟨_, rfl⟩
    rw [← hcur] at hm
    have hcl : k < cur.length := by rw [hcur]; simp [x1if]; omega
    have hck : at0 cur k = at0 ph k := by rw [hcur]; exact x1o2 (by omega) (by rw [x1if]; omega)
    have b1 := hT k
    have b2 := hph k
    have h2 := x1o3 (a := unwM n ph T) (b := ph) (k := k) (by omega) (by rw [x1if]; exact hkn)
    rw [x1om hkn, ← hcur] at h2
    by_cases c : at0 ph k = void
    · rw [if_pos c] at h2
      have hnext : cur = (unwM n ph T).take (k + 1) ++ ph.drop (k + 1) := by
        rw [← h2, ← hck, x1eu hcl, List.set_getElem_self]
      obtain ⟨m', fc', h3, h4, h5, h6⟩ := ih (k + 1) j m (fc + 1 + 12 + 2) (by omega) (by omega) hS h9 (by rw [← hnext]; exact hm) hu0
      refine ⟨m', fc', ?_, h4, h5, h6⟩
      rw [← h3]
      simp only [x1g]
      unfold x7x x7w x5d
      simp (disch := omega) only [x1fl, x1ea, hk', decide_true, x1fb, iT, x1ef, hS.t, x1eh, Nat.beq_refl, x1ed, x1f7 lT, x1ey, Nat.zero_add, h9, List.drop_zero, List.drop_succ_cons, rd_f, iP, hm, x1f7 hcl, hck, x1jb, c, sNot_B, Bool.not_true, x1gb, x1fv, x1f1]
      rfl
    · rw [if_neg c] at h2
      have b3 : -2048 ≤ at0 ph k ∧ at0 ph k ≤ 2047 := by rcases b2 with h | h; exact absurd h c; exact h
      obtain ⟨M, hM⟩ : ∃ M, M = m.set (N, 5, 7) (.row ((cur.set k (at0 ph k + at0 T k * 4096)).flatMap intE) 0 false) := ⟨_, rfl⟩
      have q : ∀ id : Id, id ≠ (N, 5, 7) → M.get id = m.get id := fun id hid => by rw [hM, Mem.get_set, if_neg hid]
      obtain ⟨m', fc', h3, h4, h5, h6⟩ := ih (k + 1) j M (fc + 1 + 22 + 2) (by omega) (by omega) (hS.frame fun id hid => q id (by rintro rfl; simp only at hid; omega)) (by rw [q _ (by simp)]; exact h9) (by rw [hM, ← h2]; simp) hu0
      refine ⟨m', fc', ?_, h4, by rw [h5, hM]; rfl, fun id hid => by rw [h6 id hid, q id hid]⟩
      rw [← h3]
      simp only [x1g]
      unfold x7x x7w x5d
      simp (disch := omega) only [x1fl, x1ea, hk', decide_true, x1fb, iT, x1ef, hS.t, x1eh, Nat.beq_refl, x1ed, x1f7 lT, x1ey, Nat.zero_add, h9, List.drop_zero, List.drop_succ_cons, rd_f, iP, hm, x1f7 hcl, hck, x1jb, c, decide_false, sNot_B, Bool.not_false, x1lv, x1fv, x1f1, x1f3]
      rw [x1g6 hcl]
      simp (disch := omega) only [x1fv, x1f1, x1ea]
      rw [← hM]
      rfl
end Go.Ix
