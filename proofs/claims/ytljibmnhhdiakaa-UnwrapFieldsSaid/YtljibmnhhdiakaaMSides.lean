/- The pairs of neighbours of a map, in two orders of telling; nets out of them. Plain laws. -/
import Derived.Test.YtljibmnhhdiakaaWNetOf
set_option linter.unusedSimpArgs false
set_option linter.unusedVariables false
namespace Go.Ix

def sideL (skip : Int → Bool) (step : Int) : Nat → Int → List (Int × Int)
  | 0, _ => []
  | n + 1, k => bif skip k then sideL skip step n (k + 1) else (k, k + step) :: sideL skip step n (k + 1)
def acrossS (c : Int) (k : Int) : Bool := decide (k % c = c - 1)
def downS (r c : Int) (k : Int) : Bool := decide (k / c = r - 1)
def sidesM (r c : Int) : List (Int × Int) := sideL (acrossS c) 1 (r * c).toNat 0 ++ sideL (downS r c) c (r * c).toNat 0
/-- A row's pairs, from k on. -/
def rowL (step base : Int) : Nat → Int → List (Int × Int)
  | 0, _ => []
  | n + 1, k => (base + k, base + k + step) :: rowL step base n (k + 1)
def rowsL (c step : Int) (w : Nat) : Nat → Int → List (Int × Int)
  | 0, _ => []
  | n + 1, q => rowL step (q * c) w 0 ++ rowsL c step w n (q + 1)
theorem sideL_add (skip : Int → Bool) (step : Int) : ∀ (a b : Nat) (k : Int), sideL skip step (a + b) k = sideL skip step a k ++ sideL skip step b (k + a)
  | 0, b, k => by simp [sideL]
  | a + 1, b, k => by
    rw [show a + 1 + b = (a + b) + 1 by omega]
    simp only [sideL]
    rw [sideL_add skip step a b (k + 1), show k + 1 + (a : Int) = k + ((a + 1 : Nat) : Int) by omega]
    cases skip k <;> rfl
theorem mul_mod {q c k : Int} (h0 : 0 ≤ k) (h1 : k < c) : (q * c + k) % c = k ∧ (q * c + k) / c = q := by
  constructor
  · rw [Int.add_comm, Int.add_mul_emod_self_right, Int.emod_eq_of_lt h0 h1]
  · rw [Int.add_comm, Int.add_mul_ediv_right _ _ (by omega), Int.ediv_eq_zero_of_lt h0 h1]; omega
theorem side_across1 {c : Int} (q : Int) : ∀ (n : Nat) (k : Int), 0 ≤ k → k + n = c → 0 < n → sideL (acrossS c) 1 n (q * c + k) = rowL 1 (q * c) (n - 1) k
  | 0, k, _, _, h => by omega
  | 1, k, h0, h1, _ => by
    have h1' : k = c - 1 := by omega
    have := (mul_mod (q := q) h0 (show k < c by omega)).1
    have h2 : acrossS c (q * c + k) = true := decide_eq_true (by omega)
    simp [sideL, rowL, h2]
  | n + 2, k, h0, h1, _ => by
    have := (mul_mod (q := q) h0 (show k < c by omega)).1
    have ih := side_across1 (c := c) q (n + 1) (k + 1) (by omega) (by omega) (by omega)
    have hk : ¬ (k = c - 1) := by omega
    rw [sideL]
    simp only [acrossS, this, hk, decide_false, cond_false]
    rw [show n + 2 - 1 = (n + 1 - 1) + 1 by omega, rowL, ← ih, Int.add_assoc]
theorem side_down1 {r c : Int} (q : Int) : ∀ (n : Nat) (k : Int), 0 ≤ k → k + n = c → sideL (downS r c) c n (q * c + k) = if q = r - 1 then [] else rowL c (q * c) n k
  | 0, k, _, _ => by simp [sideL, rowL]
  | n + 1, k, h0, h1 => by
    have := (mul_mod (q := q) h0 (show k < c by omega)).2
    have ih := side_down1 (r := r) (c := c) q n (k + 1) (by omega) (by omega)
    rw [sideL]
    simp only [downS, this]
    rw [← Int.add_assoc] at ih
    by_cases h : q = r - 1
    · rw [if_pos h] at ih ⊢
      rw [decide_eq_true h, cond_true, ← ih]
    · rw [if_neg h] at ih ⊢
      rw [decide_eq_false h, cond_false, rowL, ← ih]
theorem side_across {c : Int} (hc : 1 ≤ c) : ∀ (n : Nat) (q : Int), sideL (acrossS c) 1 (n * c.toNat) (q * c) = rowsL c 1 (c.toNat - 1) n q
  | 0, q => by simp [sideL, rowsL]
  | n + 1, q => by
    have h := side_across1 (c := c) q c.toNat 0 (by omega) (by omega) (by omega)
    rw [Int.add_zero] at h
    rw [Nat.succ_mul, Nat.add_comm, sideL_add, h, rowsL, ← side_across hc n (q + 1), Int.add_mul, Int.one_mul, show ((c.toNat : Nat) : Int) = c by omega]
theorem side_down {r c : Int} (hc : 1 ≤ c) : ∀ (n : Nat) (q : Int), q + n = r → sideL (downS r c) c (n * c.toNat) (q * c) = rowsL c c c.toNat (n - 1) q
  | 0, q, _ => by simp [sideL, rowsL]
  | 1, q, h => by
    have h := side_down1 (r := r) (c := c) q c.toNat 0 (by omega) (by omega)
    rw [Int.add_zero, if_pos (by omega)] at h
    simp [h, rowsL]
  | n + 2, q, h => by
    have h1 := side_down1 (r := r) (c := c) q c.toNat 0 (by omega) (by omega)
    rw [Int.add_zero, if_neg (by omega)] at h1
    rw [Nat.succ_mul, Nat.add_comm, sideL_add, h1, show n + 2 - 1 = (n + 1 - 1) + 1 by omega, rowsL, ← side_down (r := r) hc (n + 1) (q + 1) (by omega), Int.add_mul, Int.one_mul, show ((c.toNat : Nat) : Int) = c by omega]
theorem sides_rows {r c : Int} (hr : 1 ≤ r) (hc : 1 ≤ c) : sidesM r c = rowsL c 1 (c.toNat - 1) r.toNat 0 ++ rowsL c c c.toNat (r.toNat - 1) 0 := by
  have h : (r * c).toNat = r.toNat * c.toNat := Int.toNat_mul (by omega) (by omega)
  have h1 := side_across hc r.toNat 0
  have h2 := side_down (r := r) hc r.toNat 0 (by omega)
  rw [Int.zero_mul] at h1 h2
  unfold sidesM
  rw [h, h1, h2]
theorem rowL_len (step base : Int) : ∀ (n : Nat) (k : Int), (rowL step base n k).length = n
  | 0, _ => rfl
  | n + 1, k => by simp [rowL, rowL_len step base n]
theorem rowsL_len (c step : Int) (w : Nat) : ∀ (n : Nat) (q : Int), (rowsL c step w n q).length = n * w
  | 0, _ => by simp [rowsL]
  | n + 1, q => by simp [rowsL, rowL_len, rowsL_len c step w n, Nat.succ_mul, Nat.add_comm]
theorem sideL_mem {skip : Int → Bool} {step : Int} : ∀ {n : Nat} {k : Int} {x : Int × Int}, x ∈ sideL skip step n k → k ≤ x.1 ∧ x.1 < k + n ∧ x.2 = x.1 + step ∧ skip x.1 = false
  | 0, k, x, h => by simp [sideL] at h
  | n + 1, k, x, h => by
    simp only [sideL] at h
    cases hs : skip k
    · rw [hs] at h
      rcases List.mem_cons.mp h with rfl | h
      · exact ⟨by omega, by simp only; omega, rfl, hs⟩
      · obtain ⟨a, b, c, d⟩ := sideL_mem h; exact ⟨by omega, by omega, c, d⟩
    · rw [hs] at h
      obtain ⟨a, b, c, d⟩ := sideL_mem h; exact ⟨by omega, by omega, c, d⟩
theorem sides_in {r c : Int} (hr : 1 ≤ r) (hc : 1 ≤ c) {x : Int × Int} (h : x ∈ sidesM r c) : 0 ≤ x.1 ∧ x.1 < r * c ∧ 0 ≤ x.2 ∧ x.2 < r * c ∧ x.1 ≠ x.2 := by
  have h0 : 0 ≤ r * c := Int.mul_nonneg (by omega) (by omega)
  rcases List.mem_append.mp h with h | h
  · obtain ⟨h1, h2, h3, h4⟩ := sideL_mem h
    have h4 : ¬ (x.1 % c = c - 1) := of_decide_eq_false h4
    refine ⟨h1, by omega, by omega, ?_, by omega⟩
    -- the last of a row is no first one
    by_cases e : x.1 + 1 = r * c
    · exfalso
      apply h4
      have : x.1 = (r - 1) * c + (c - 1) := by rw [Int.sub_mul]; omega
      rw [this]
      exact (mul_mod (by omega) (by omega)).1
    · omega
  · obtain ⟨h1, h2, h3, h4⟩ := sideL_mem h
    have h4 : ¬ (x.1 / c = r - 1) := of_decide_eq_false h4
    refine ⟨h1, by omega, by omega, ?_, by omega⟩
    have h5 : x.1 / c < r := Int.ediv_lt_of_lt_mul (by omega) (by omega)
    have h6 : x.1 / c + 1 ≤ r - 1 := by omega
    have h7 := Int.emod_add_mul_ediv x.1 c
    have h8 := Int.emod_lt_of_pos x.1 (show 0 < c by omega)
    have h9 : c * (x.1 / c + 1) ≤ c * (r - 1) := Int.mul_le_mul_of_nonneg_left h6 (by omega)
    rw [Int.mul_add, Int.mul_sub] at h9
    rw [Int.mul_comm c r] at h9
    omega

/-- By how many turns a step jumps. -/
def jumpM (a b : Int) : Int := (b - a - wrapM (b - a)).tdiv 4096
def mkE (ph ws : List Int) (k : Nat) (x : Int × Int) : Edge := ⟨x.1, x.2, jumpM (at0 ph x.1.toNat) (at0 ph x.2.toNat), at0 ws k⟩
def voidE (ph : List Int) (x : Int × Int) : Bool := decide (at0 ph x.1.toNat = void) || decide (at0 ph x.2.toNat = void)
def netM (ph ws : List Int) : Nat → List (Int × Int) → List Edge
  | _, [] => []
  | k, x :: r => bif voidE ph x then netM ph ws (k + 1) r else mkE ph ws k x :: netM ph ws (k + 1) r
theorem netM_app (ph ws : List Int) : ∀ (l : List (Int × Int)) (k : Nat) (l' : List (Int × Int)), netM ph ws k (l ++ l') = netM ph ws k l ++ netM ph ws (k + l.length) l'
  | [], k, l' => by simp [netM]
  | x :: r, k, l' => by
    simp only [List.cons_append, netM, netM_app ph ws r, List.length_cons]
    rw [show k + 1 + r.length = k + (r.length + 1) by omega]
    cases voidE ph x <;> rfl
theorem netM_len (ph ws : List Int) : ∀ (l : List (Int × Int)) (k : Nat), (netM ph ws k l).length ≤ l.length
  | [], k => by simp [netM]
  | x :: r, k => by
    have := netM_len ph ws r (k + 1)
    simp only [netM, List.length_cons]
    cases voidE ph x <;> simp <;> omega
/-- The edges of the net of a task. -/
def netOfM (r c : Int) (ph ac dn : List Int) : List Edge := netM ph (ac ++ dn) 0 (sidesM r c)
theorem sides_len {r c : Int} (hr : 1 ≤ r) (hc : 1 ≤ c) : ((sidesM r c).length : Int) = r * (c - 1) + (r - 1) * c := by
  rw [sides_rows hr hc, List.length_append, rowsL_len, rowsL_len, Int.natCast_add, Int.natCast_mul, Int.natCast_mul, show ((r.toNat : Nat) : Int) = r by omega, show ((c.toNat - 1 : Nat) : Int) = c - 1 by omega, show ((r.toNat - 1 : Nat) : Int) = r - 1 by omega, show ((c.toNat : Nat) : Int) = c by omega]
theorem jumpM_in {a b : Int} (h1 : -2048 ≤ a) (h2 : a ≤ 2047) (h3 : -2048 ≤ b) (h4 : b ≤ 2047) : -1 ≤ jumpM a b ∧ jumpM a b ≤ 1 := by
  unfold jumpM
  have := wrapM_in (b - a)
  have h : (b - a - wrapM (b - a)) % 4096 = 0 := by unfold wrapM; omega
  rw [Int.tdiv_eq_ediv]
  split <;> omega

end Go.Ix
