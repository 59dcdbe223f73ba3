import Derived.Test.YtljibmnhhdiakaaWNetOf
set_option linter.unusedSimpArgs false
set_option linter.unusedVariables false
namespace Go.Ix
def x1ek (skip : Int → Bool) (step : Int) : Nat → Int → List (Int × Int)
  | 0, _ => []
  | n + 1, k => bif skip k then x1ek skip step n (k + 1) else (k, k + step) :: x1ek skip step n (k + 1)
def x1g5 (c : Int) (k : Int) : Bool := decide (k % c = c - 1)
def x1g8 (r c : Int) (k : Int) : Bool := decide (k / c = r - 1)
def x1fx (r c : Int) : List (Int × Int) := x1ek (x1g5 c) 1 (r * c).toNat 0 ++ x1ek (x1g8 r c) c (r * c).toNat 0
def rowL (step base : Int) : Nat → Int → List (Int × Int)
  | 0, _ => []
  | n + 1, k => (base + k, base + k + step) :: rowL step base n (k + 1)
def x1gx (c step : Int) (w : Nat) : Nat → Int → List (Int × Int)
  | 0, _ => []
  | n + 1, q => rowL step (q * c) w 0 ++ x1gx c step w n (q + 1)
theorem x1og (skip : Int → Bool) (step : Int) : ∀ (a b : Nat) (k : Int), x1ek skip step (a + b) k = x1ek skip step a k ++ x1ek skip step b (k + a)
  | 0, b, k => by simp [x1ek]
  | a + 1, b, k => by
    rw [show a + 1 + b = (a + b) + 1 by omega]
    simp only [x1ek]
    rw [x1og skip step a b (k + 1), show k + 1 + (a : Int) = k + ((a + 1 : Nat) : Int) by omega]
    cases skip k <;> rfl
theorem x1mc {q c k : Int} (h0 : 0 ≤ k) (h1 : k < c) : (q * c + k) % c = k ∧ (q * c + k) / c = q := by
  constructor
  · rw [Int.add_comm, Int.add_mul_emod_self_right, Int.emod_eq_of_lt h0 h1]
  · rw [Int.add_comm, Int.add_mul_ediv_right _ _ (by omega), Int.ediv_eq_zero_of_lt h0 h1]; omega
theorem x1r3 {c : Int} (q : Int) : ∀ (n : Nat) (k : Int), 0 ≤ k → k + n = c → 0 < n → x1ek (x1g5 c) 1 n (q * c + k) = rowL 1 (q * c) (n - 1) k
  | 0, k, _, _, h => by omega
  | 1, k, h0, h1, _ => by
    have h1' : k = c - 1 := by omega
    have := (x1mc (q := q) h0 (show k < c by omega)).1
    have h2 : x1g5 c (q * c + k) = true := decide_eq_true (by omega)
    simp [x1ek, rowL, h2]
  | n + 2, k, h0, h1, _ => by
    have := (x1mc (q := q) h0 (show k < c by omega)).1
    have ih := x1r3 (c := c) q (n + 1) (k + 1) (by omega) (by omega) (by omega)
    have hk : ¬ (k = c - 1) := by omega
    rw [x1ek]
    simp only [x1g5, this, hk, decide_false, cond_false]
    rw [show n + 2 - 1 = (n + 1 - 1) + 1 by omega, rowL, ← ih, Int.add_assoc]
theorem x1oh {r c : Int} (q : Int) : ∀ (n : Nat) (k : Int), 0 ≤ k → k + n = c → x1ek (x1g8 r c) c n (q * c + k) = if q = r - 1 then [] else rowL c (q * c) n k
  | 0, k, _, _ => by simp [x1ek, rowL]
  | n + 1, k, h0, h1 => by
    have := (x1mc (q := q) h0 (show k < c by omega)).2
    have ih := x1oh (r := r) (c := c) q n (k + 1) (by omega) (by omega)
    rw [x1ek]
    simp only [x1g8, this]
    rw [← Int.add_assoc] at ih
    by_cases h : q = r - 1
    · rw [if_pos h] at ih ⊢
      rw [decide_eq_true h, cond_true, ← ih]
    · rw [if_neg h] at ih ⊢
      rw [decide_eq_false h, cond_false, rowL, ← ih]
theorem x1r4 {c : Int} (hc : 1 ≤ c) : ∀ (n : Nat) (q : Int), x1ek (x1g5 c) 1 (n * c.toNat) (q * c) = x1gx c 1 (c.toNat - 1) n q
  | 0, q => by simp [x1ek, x1gx]
  | n + 1, q => by
    have h := x1r3 (c := c) q c.toNat 0 (by omega) (by omega) (by omega)
    rw [Int.add_zero] at h
    rw [Nat.succ_mul, Nat.add_comm, x1og, h, x1gx, ← x1r4 hc n (q + 1), Int.add_mul, Int.one_mul, show ((c.toNat : Nat) : Int) = c by omega]
theorem x1r5 {r c : Int} (hc : 1 ≤ c) : ∀ (n : Nat) (q : Int), q + n = r → x1ek (x1g8 r c) c (n * c.toNat) (q * c) = x1gx c c c.toNat (n - 1) q
  | 0, q, _ => by simp [x1ek, x1gx]
  | 1, q, h => by
    have h := x1oh (r := r) (c := c) q c.toNat 0 (by omega) (by omega)
    rw [Int.add_zero, if_pos (by omega)] at h
    simp [h, x1gx]
  | n + 2, q, h => by
    have h1 := x1oh (r := r) (c := c) q c.toNat 0 (by omega) (by omega)
    rw [Int.add_zero, if_neg (by omega)] at h1
    rw [Nat.succ_mul, Nat.add_comm, x1og, h1, show n + 2 - 1 = (n + 1 - 1) + 1 by omega, x1gx, ← x1r5 (r := r) hc (n + 1) (q + 1) (by omega), Int.add_mul, Int.one_mul, show ((c.toNat : Nat) : Int) = c by omega]
theorem x1t9 {r c : Int} (hr : 1 ≤ r) (hc : 1 ≤ c) : x1fx r c = x1gx c 1 (c.toNat - 1) r.toNat 0 ++ x1gx c c c.toNat (r.toNat - 1) 0 := by
  have h : (r * c).toNat = r.toNat * c.toNat := Int.toNat_mul (by omega) (by omega)
  have h1 := x1r4 hc r.toNat 0
  have h2 := x1r5 (r := r) hc r.toNat 0 (by omega)
  rw [Int.zero_mul] at h1 h2
  unfold x1fx
  rw [h, h1, h2]
theorem x1r6 (step base : Int) : ∀ (n : Nat) (k : Int), (rowL step base n k).length = n
  | 0, _ => rfl
  | n + 1, k => by simp [rowL, x1r6 step base n]
theorem x1oi (c step : Int) (w : Nat) : ∀ (n : Nat) (q : Int), (x1gx c step w n q).length = n * w
  | 0, _ => by simp [x1gx]
  | n + 1, q => by simp [x1gx, x1r6, x1oi c step w n, Nat.succ_mul, Nat.add_comm]
theorem x1md {skip : Int → Bool} {step : Int} : ∀ {n : Nat} {k : Int} {x : Int × Int}, x ∈ x1ek skip step n k → k ≤ x.1 ∧ x.1 < k + n ∧ x.2 = x.1 + step ∧ skip x.1 = false
  | 0, k, x, h => by simp [x1ek] at h
  | n + 1, k, x, h => by
    simp only [x1ek] at h
    cases hs : skip k
    · rw [hs] at h
      rcases List.mem_cons.mp h with rfl | h
      · exact ⟨by omega, by simp only; omega, rfl, hs⟩
      · obtain ⟨a, b, c, d⟩ := x1md h; exact ⟨by omega, by omega, c, d⟩
    · rw [hs] at h
      obtain ⟨a, b, c, d⟩ := x1md h; exact ⟨by omega, by omega, c, d⟩
theorem x1oj {r c : Int} (hr : 1 ≤ r) (hc : 1 ≤ c) {x : Int × Int} (h : x ∈ x1fx r c) : 0 ≤ x.1 ∧ x.1 < r * c ∧ 0 ≤ x.2 ∧ x.2 < r * c ∧ x.1 ≠ x.2 := by
  have h0 : 0 ≤ r * c := Int.mul_nonneg (by omega) (by omega)
  rcases List.mem_append.mp h with h | h
  · obtain ⟨h1, h2, h3, h4⟩ := x1md h
    have h4 : ¬ (x.1 % c = c - 1) := of_decide_eq_false h4
    refine ⟨h1, by omega, by omega, ?_, by omega⟩
    by_cases e : x.1 + 1 = r * c
    · exfalso
      apply h4
      have : x.1 = (r - 1) * c + (c - 1) := by rw [Int.sub_mul]; omega
      rw [this]
      exact (x1mc (by omega) (by omega)).1
    · omega
  · obtain ⟨h1, h2, h3, h4⟩ := x1md h
    have h4 : ¬ (x.1 / c = r - 1) := of_decide_eq_false h4
    refine ⟨h1, by omega, by omega, ?_, by omega⟩
    have h5 : x.1 / c < r := Int.ediv_lt_of_lt_mul (by omega) (by omega)
    have h6 : x.1 / c + 1 ≤ r - 1 := by omega
    have h7 := Int.emod_add_mul_ediv x.1 c
    have h8 := Int.emod_lt_of_pos x.1 (show 0 < c by omega)
    have h9 : c * (x.1 / c + 1) ≤ c * (r - 1) := Int.mul_le_mul_of_nonneg_left h6 (by omega)
    rw [Int.mul_add, Int.mul_sub] at h9
    rw [Int.mul_comm c r] at h9
    omega
def x1hi (a b : Int) : Int := (b - a - x1fu (b - a)).tdiv 4096
def mkE (ph ws : List Int) (k : Nat) (x : Int × Int) : Edge := ⟨x.1, x.2, x1hi (at0 ph x.1.toNat) (at0 ph x.2.toNat), at0 ws k⟩
def x1fy (ph : List Int) (x : Int × Int) : Bool := decide (at0 ph x.1.toNat = void) || decide (at0 ph x.2.toNat = void)
def netM (ph ws : List Int) : Nat → List (Int × Int) → List Edge
  | _, [] => []
  | k, x :: r => bif x1fy ph x then netM ph ws (k + 1) r else mkE ph ws k x :: netM ph ws (k + 1) r
theorem x1r7 (ph ws : List Int) : ∀ (l : List (Int × Int)) (k : Nat) (l' : List (Int × Int)), netM ph ws k (l ++ l') = netM ph ws k l ++ netM ph ws (k + l.length) l'
  | [], k, l' => by simp [netM]
  | x :: r, k, l' => by
    simp only [List.cons_append, netM, x1r7 ph ws r, List.length_cons]
    rw [show k + 1 + r.length = k + (r.length + 1) by omega]
    cases x1fy ph x <;> rfl
theorem x1me (ph ws : List Int) : ∀ (l : List (Int × Int)) (k : Nat), (netM ph ws k l).length ≤ l.length
  | [], k => by simp [netM]
  | x :: r, k => by
    have := x1me ph ws r (k + 1)
    simp only [netM, List.length_cons]
    cases x1fy ph x <;> simp <;> omega
def x1g9 (r c : Int) (ph ac dn : List Int) : List Edge := netM ph (ac ++ dn) 0 (x1fx r c)
theorem x1lb {r c : Int} (hr : 1 ≤ r) (hc : 1 ≤ c) : ((x1fx r c).length : Int) = r * (c - 1) + (r - 1) * c := by
  rw [x1t9 hr hc, List.length_append, x1oi, x1oi, Int.natCast_add, Int.natCast_mul, Int.natCast_mul, show ((r.toNat : Nat) : Int) = r by omega, show ((c.toNat - 1 : Nat) : Int) = c - 1 by omega, show ((r.toNat - 1 : Nat) : Int) = r - 1 by omega, show ((c.toNat : Nat) : Int) = c by omega]
theorem x1ok {a b : Int} (h1 : -2048 ≤ a) (h2 : a ≤ 2047) (h3 : -2048 ≤ b) (h4 : b ≤ 2047) : -1 ≤ x1hi a b ∧ x1hi a b ≤ 1 := by
  unfold x1hi
  have := x1iu (b - a)
  have h : (b - a - x1fu (b - a)) % 4096 = 0 := by unfold x1fu; omega
  rw [Int.tdiv_eq_ediv]
  split <;> omega
end Go.Ix
