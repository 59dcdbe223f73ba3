import Derived.Test.YtljibmnhhdiakaaWCopy
import Derived.Test.YtljibmnhhdiakaaWAwake5
set_option linter.unusedSimpArgs false
namespace Go.Ix
open Go.Proofs

theorem at0_map {t : List Int} {s : Int} {k : Nat} (h : k < t.length) : at0 (t.map (· + s)) k = at0 t k + s := by
  rw [at0_lt (by simpa using h), at0_lt h]; simp
theorem costI_shift {t : List Int} {s : Int} : ∀ {l : List Edge} {c : Int}, (∀ e ∈ l, EdgeIn t.length e) → costI (t.map (· + s)) c l = costI t c l
  | [], _, _ => rfl
  | e :: r, c, h => by
    have he := h e (List.mem_cons_self ..)
    have : exI (t.map (· + s)) e = exI t e := by
      unfold exI
      obtain ⟨f0, f1, t0, t1, -⟩ := he
      rw [at0_map (by omega), at0_map (by omega)]
      omega
    unfold costI
    rw [this, costI_shift fun x hx => h x (List.mem_cons_of_mem _ hx)]

theorem l_UnwrapTurns {n more : Int} {ev a : AV} {l : List Edge} {t : List Int} (h : Sl Edge.c ev l) (hc : (checkNet n l).2 = 0) (ha : Ints a t) (hn : (t.length : Int) = n) (ht : TurnsIn t) (h1 : -100 ≤ more ∧ more ≤ 100) :
    ∀ (suf : List Int) (k j : Nat) (mv : AV) (m : Mem) (fc : Nat), t.drop k = suf → suf.length < j → m.get (0, 0, 3) = some (.row [I n, ev] 0 false) → TurnsIn ((t.take k).map (· + more)) → Gr 1 intE 0 80 m mv ((t.take k).map (· + more)) →
    ∃ m', x45 (callE 30) [] 0 j a (I more) (.ptr (0, 0, 3) 0 0) (I (costI t 0 l)) mv (I k) m fc = some (B true, m') := by
  have hr := right_of hc
  have hn2 := hr.hi
  have hl := hr.len
  intro suf
  induction suf with
  | nil =>
    intro k j mv m fc hd hj hg hT hG
    obtain ⟨j, rfl⟩ : ∃ i, j = i + 1 := ⟨j - 1, by simp at hj; omega⟩
    have hk0 := List.drop_eq_nil_iff.mp hd
    have hk : ¬ ((k : Int) < (t.length : Int)) := by omega
    rw [List.take_of_length_le hk0] at hT hG
    obtain ⟨ev', hev, hcp⟩ := w_CopyNet 29 (n := n) h (by omega) m
    obtain ⟨a', ha', hfz⟩ := hG.frz intE_len intE_still
    obtain ⟨m0, hans⟩ := a_pCheckTurns 25 (n := n) hev ha' (by simp; omega)
    have hne : (t.map (· + more)).any (fun x => !(wi x (-1000000) 1000000)) = false := by
      rw [List.any_eq_false]
      intro x hx
      have := hT x hx
      simp [wi, this]
    have hres : checkTurns n l (t.map (· + more)) = (costI t 0 l, 0) := by
      unfold checkTurns
      simp [hn, hne]
      exact costI_shift (edgeIn_of hr hn)
    rw [hc, hres] at hans
    obtain ⟨m2, -, hcall⟩ := call0_any (m := m) (l := [.agg [I n, ev'], mv]) (l' := [.agg [I n, ev'], a']) (by
      have := frz_still (a := .agg [I n, ev']) m.get 4 (by simp [hev.still1])
      simp only [List.mapM_cons, List.mapM_nil, hfz]
      rw [show frz m.get deep (.agg [I n, ev']) = some (.agg [I n, ev']) from this]
      rfl) hans (frz_tup rfl)
    simp only [x45]
    unfold x9i
    simp [hk, ha.len u_ints, x44, hg]
    simp [hcp, hcall]
  | cons x r ih =>
    intro k j mv m fc hd hj hg hT hG
    obtain ⟨j, rfl⟩ : ∃ i, j = i + 1 := ⟨j - 1, by simp at hj; omega⟩
    obtain ⟨hk, hke, hd⟩ := drop_cons hd
    have hk' : (k : Int) < (t.length : Int) := by omega
    have ix := ha.ix intE_len hk
    have e1 : at0 t k = x := by rw [at0_lt hk, hke]
    have hx := ht x (hke ▸ List.getElem_mem hk)
    simp only [x45]
    unfold x9i
    simp (disch := omega) [hk', ix, ld_int, e1, ha.len u_ints, w_Within]
    cases c : wi (x + more) (-1000000) 1000000
    · simp
    obtain ⟨a', m', h2, h3, h4, h5⟩ := hG.app intE_len (by omega) (s0 := fc + 20) (bytes := 8) (by unfold roomy; simp; omega) (x + more)
    have hlast : (t.take k).map (· + more) ++ [x + more] = (t.take (k + 1)).map (· + more) := by
      rw [List.take_succ_eq_append_getElem hk, List.map_append, hke]; rfl
    rw [hlast] at h3
    obtain ⟨m1, h6⟩ := ih (k + 1) j a' m' (fc + 25) hd (by simp at hj; omega) (by rw [h5 _ (by decide)]; exact hg) (by
      rw [← hlast]
      intro y hy
      rcases List.mem_append.mp hy with hy | hy
      · exact hT y hy
      · have := wi_t c
        simp at hy; subst hy; exact this) h3
    have hel : elems m.get 1 (.slit [I (x + more)] 1 true) = some (intE (x + more), 1) := rfl
    simp (disch := omega) only [z_ints, mkLit_I, hel, h2, sAdd_I, w64_in, Option.bind_some]
    exact ⟨m1, h6⟩

theorem law_UnwrapTurns {n more : Int} {ev a : AV} {l : List Edge} {t : List Int} (h : Sl Edge.c ev l) (ha : Ints a t) : ∃ m', callE 31 [] xe [.agg [I n, ev], a, I more] mem0 = some (B true, m') := by
  rw [xsf]
  unfold x6l xbt
  simp [mem0, h.one, w_awake, w_Few 26 h]
  cases c1 : few n l
  · simp
  simp [ha.len u_ints]
  by_cases c2 : 210 < (t.length : Int)
  · simp [c2]
  have hl : l.length ≤ 602 := by
    unfold few at c1
    by_cases c3 : (checkNet n l).2 = 0
    · have := (right_of c3).len; omega
    · simp [c3] at c1; omega
  obtain ⟨ev', hev, hcp⟩ := w_CopyNet 29 (n := n) h (by omega) ((⟨[], 1⟩ : Mem).new (0, 0, 3) (.row [I n, ev] 0 false))
  obtain ⟨a', ha', hca⟩ := w_CopyInts 29 ha (by omega) ((⟨[], 1⟩ : Mem).new (0, 0, 3) (.row [I n, ev] 0 false))
  simp [c2, hcp, hca, w_pCheckTurns 25 hev ha' (show t.length < 1000000 by omega), w_Err 27 h]
  by_cases c3 : (checkNet n l).2 = 0
  rotate_left
  · simp [c3, x8t, x7d]
  have hr := right_of c3
  simp [c3, x8t, w_CheckTurns 27 h ha hr, x7d]
  by_cases c4 : (checkTurns n l t).2 = 0
  rotate_left
  · simp [c4]
  simp [c4, w_Within]
  cases c5 : wi more (-100) 100
  · simp
  have hn : (t.length : Int) = n := by
    unfold checkTurns at c4
    by_cases e : (t.length : Int) = n
    · exact e
    · simp [e] at c4
  have hne : t.any (fun x => !(wi x (-1000000) 1000000)) = false := by
    unfold checkTurns at c4
    cases e : t.any (fun x => !(wi x (-1000000) 1000000))
    · rfl
    · simp [hn, e] at c4
  have hcost : (checkTurns n l t).1 = costI t 0 l := by unfold checkTurns; simp [hn, hne]
  obtain ⟨m', h'⟩ := l_UnwrapTurns h c3 ha hn (turnsIn_of hne) (wi_t c5) t 0 NN nilS ((⟨[], 1⟩ : Mem).new (0, 0, 3) (.row [I n, ev] 0 false)) 53 rfl (by rw [NN_eq]; omega) (by simp) (by intro x hx; simp at hx) Gr.nil
  simp [x9j, hcost]
  exact ⟨m', h'⟩

end Go.Ix
