import Derived.Test.YtljibmnhhdiakaaWgD
import Derived.Test.YtljibmnhhdiakaaWHas
import Derived.Test.YtljibmnhhdiakaaWLawNoLess
set_option linter.unusedSimpArgs false
set_option linter.unusedVariables false
namespace Go.Ix
open Go.Proofs
theorem slice_pre (l : List Int) (x : Bool) {k : Nat} (hk : k ≤ l.length) : ∃ a', Ints a' (l.take k) ∧ x1k9 Try.prog x4 (.slit (l.flatMap intE) l.length x) none (some (I k)) = some a' := by
  obtain ⟨i, hi, hs⟩ := x1q8
  have hl := x1l2 l
  refine ⟨.slit ((l.take k).flatMap intE) (l.take k).length (x && decide ((k : Int) = (l.length : Int))), Sl.lit _ _, ?_⟩
  have e1 : x1j0 (.slit (l.flatMap intE) l.length x) = none := _root_.id rfl
  have e2 : asI (I (k : Int)) = some (k : Int) := rfl
  have e3 : asI (I 0) = some 0 := rfl
  unfold x1k9
  simp only [e1, x1ju, hi, Option.getD_some, Option.getD_none, e2, e3, hs, Nat.mul_one, Int.sub_zero, Int.toNat_natCast]
  rw [if_pos ⟨by omega, by omega, by omega, by omega⟩, List.length_take, Nat.min_eq_left hk, x1lr, x1lr, List.map_take]
  rfl
theorem first_of {P : List Int} {i : Nat} (hi : i < P.length) (h : (P.take i).any (fun y => decide (y = at0 P i)) = false) : fst0 P i = i := by
  obtain ⟨h1, h2⟩ := x1sk hi
  apply Classical.byContradiction
  intro hne
  have hlt : fst0 P i < (P.take i).length := by rw [List.length_take]; omega
  have := List.any_eq_false.mp h _ (List.getElem_mem hlt)
  rw [List.getElem_take] at this
  rw [x1j8 (by omega)] at h2
  simp only [decide_eq_true_eq] at this
  exact this h2
theorem l_Solves (d : Nat) {n : Nat} {ta : AV} {P T : List Int} (hT : Ints ta T) (hTl : T.length = n) (hP : P.length = n) (hn : n ≤ 200) (hz : ∀ i, i < n → fst0 P i = i → at0 T i = 0) :
    ∀ (r k j : Nat) (m : Mem) (fc : Nat), k + r = n → r < j → ∃ m', x2e (x1id (d + 1)) [] 0 j ta (.slit (P.flatMap intE) n false) (I k) m fc = some (B true, m') := by
  intro r
  induction r with
  | zero =>
    intro k j m fc hk hj
    obtain ⟨j, rfl⟩ : ∃ i, j = i + 1 := ⟨j - 1, by omega⟩
    have hi : ¬ ((k : Int) < (n : Int)) := by omega
    have hlen : sLen Try.prog x4 (.slit (P.flatMap intE) n false) = some (I n) := rfl
    refine ⟨m, ?_⟩
    simp only [x2e]
    unfold x9e x3k
    simp [hlen, hi]
  | succ r ih =>
    intro k j m fc hk hj
    obtain ⟨j, rfl⟩ : ∃ i, j = i + 1 := ⟨j - 1, by omega⟩
    have hi : (k : Int) < (n : Int) := by omega
    have hlen : sLen Try.prog x4 (.slit (P.flatMap intE) n false) = some (I n) := rfl
    have hPa : Ints (.slit (P.flatMap intE) n false) P := by have := Sl.lit P false (enc := intE); rwa [hP] at this
    obtain ⟨a', ha', hsl⟩ := slice_pre P false (k := k) (by omega)
    rw [hP] at hsl
    have ixP := hPa.ix x1jz (k := k) (by omega)
    have ixT := hT.ix x1jz (k := k) (by omega)
    have hh := fun m => w_Has d (x := at0 P k) ha' (by rw [List.length_take]; omega) m
    obtain ⟨m', hm'⟩ := ih (k + 1) j m (fc + 23) (by omega) (by omega)
    refine ⟨m', ?_⟩
    have lP : k < P.length := by omega
    have lT : k < T.length := by omega
    rw [← hm']
    simp only [x2e]
    unfold x9e
    cases c : (P.take k).any fun y => decide (y = at0 P k)
    · have hz' := hz k (by omega) (first_of (by omega) c)
      simp only [c] at hh
      simp (disch := omega) [hlen, hi, hsl, ixP, x1jt lP, hh, ixT, x1jt lT, hz']
    · simp only [c] at hh
      simp (disch := omega) [hlen, hi, hsl, ixP, x1jt lP, hh]
theorem law_UnwrapSolves {n : Int} {ev : AV} {l : List Edge} (h : Sl Edge.c ev l) : ∃ m', x1id 31 [] x51 [.agg [I n, ev]] mem0 = some (B true, m') := by
  rw [xu0]
  unfold x6s xe5
  simp [mem0, h.one, w_awake, w_Few 26 h]
  cases c1 : few n l
  · simp
  obtain ⟨M, hM⟩ : ∃ M : Mem, M = (⟨[], 1⟩ : Mem).new (0, 0, 1) (.row [I n, ev] 0 false) := ⟨_, rfl⟩
  have gM : M.get (0, 0, 1) = some (.row [I n, ev] 0 false) := by rw [hM]; simp
  rw [← hM]
  have hll : l.length ≤ 1000000 := by
    unfold few at c1
    by_cases e : (x1jh n l).2 = 0
    · have := (x1pf e).len; omega
    · simp [e] at c1
      omega
  obtain ⟨ev', hev, hcp⟩ := w_CopyNet 29 (n := n) h hll M
  have hE := w_Err 27 h (n := n) M
  by_cases c2 : (x1jh n l).2 = 0
  rotate_left
  · have hs0 := x1xk 22 hev c2 M
    have hln : sLen Try.prog x4 nilS = some (I 0) := x1q6 x1ju
    simp [gM, hcp, hs0, hE, c2, hln]
  obtain ⟨hS, hnn⟩ := slim_of c1 c2
  obtain ⟨k, rfl⟩ : ∃ k : Nat, n = k := ⟨n.toNat, hnn⟩
  rw [Int.toNat_natCast] at hS
  have hj0 := hS.j0
  have hj1 := hS.j1
  have hkn := hS.nn
  have hkl := hS.ll
  obtain ⟨fl, tu, ex, hSo, hsn⟩ := x1xl 22 hev c2 hS M
  have hFl : Ints (.slit (fl.flatMap intE) l.length false) fl := by
    have := Sl.lit fl false (enc := intE); rwa [hSo.f.fll] at this
  obtain ⟨hB, hC⟩ := hSo.best
  obtain ⟨fr, hBF, hLe⟩ := w_Least 26 h hS M
  have hle := least_eq hSo hBF
  obtain ⟨T, hT⟩ : ∃ T, T = x1jn k (x1iz k l) tu := ⟨_, rfl⟩
  have hTl : T.length = k := by rw [hT]; exact x1m5 _ _ _
  have hTb := hSo.turns hj0
  have hpl : (x1iz k l).length = k := (x1oo (by omega) (x1op hS.ed)).l
  have hz : ∀ i, i < k → fst0 (x1iz k l) i = i → at0 T i = 0 := fun i hi hf => by
    have e : i < (x1jn k (x1iz k l) tu).length := by rw [x1m5]; exact hi
    rw [hT, x1j8 e, x1sl hi, hf]
    omega
  rw [← hT] at hC hsn hle hTb
  have hTa : Ints (.slit (T.flatMap intE) k false) T := by have := Sl.lit T false (enc := intE); rwa [hTl] at this
  have hzl : (l.zip fl).map Prod.fst = l := by rw [List.map_fst_zip]; rw [hSo.f.fll]; exact Nat.le_refl _
  have hcost : x1k0 T 0 l = valF (l.zip fl) := by
    have := (tight hB (at0 T)).mpr hC
    rw [hzl] at this
    rw [x1sf, this]; omega
  have hfo : x1nk k l fl = (valF (l.zip fl), 0) := x1xj hS.ed hSo.f.fll hB
  have hct : x1pg k l T = (x1k0 T 0 l, 0) := by
    unfold x1pg
    have : T.any (fun x => !(wi x (-1000000) 1000000)) = false := by
      rw [List.any_eq_false]
      intro x hx
      obtain ⟨i, hi, rfl⟩ := List.mem_iff_getElem.mp hx
      have := hTb i
      rw [x1j8 hi] at this
      have hw : wi T[i] (-1000000) 1000000 = true := wi_iff.mpr ⟨by omega, by omega⟩
      simp [hw]
    simp [hTl, this]
  have hrT := x1ww 27 (n := (k : Int)) h hTa (x1pf c2) M
  have hrF := x1x3 28 (n := (k : Int)) h (x1pf c2) hFl M
  rw [hct] at hrT
  rw [hfo] at hrF
  have hPa := w_rParts 28 h (by omega) (by omega) hS.ed M
  obtain ⟨m', hm'⟩ := l_Solves 29 hTa hTl hpl (by omega) hz k 0 NN M 70 (by omega) (by rw [x1iv]; omega)
  obtain ⟨V, hV⟩ : ∃ V, V = valF (l.zip fl) := ⟨_, rfl⟩
  have hle' : valF (l.zip fr) = V := by omega
  rw [hle'] at hLe
  rw [hcost, ← hV] at hsn hrT
  rw [← hV] at hrF
  simp [gM, hcp, hsn, hE, c2, hrT, hrF, hLe, hPa]
  unfold x9f
  exact ⟨m', hm'⟩
end Go.Ix
