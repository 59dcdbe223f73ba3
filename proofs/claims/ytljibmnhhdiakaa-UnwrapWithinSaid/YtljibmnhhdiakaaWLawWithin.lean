import Derived.Test.YtljibmnhhdiakaaWgC
import Derived.Test.YtljibmnhhdiakaaWLawNoLess
set_option linter.unusedSimpArgs false
set_option linter.unusedVariables false
namespace Go.Ix
open Go.Proofs

theorem most_le {J : Int} {n : Nat} {l : List Edge} {fl tu ex : List Int} (h : Solved J n l fl tu ex) (hJ : 0 ≤ J ∧ J ≤ 5) {a b : Nat} (ha : a < n) (hb : b < n) (hL : LenB ((200 : Nat) * GB) (waysF n l fl (normT n (partsI n l) tu) a).len) (hp : at0 (partsI n l) a = at0 (partsI n l) b) {q : Nat → Int} (hq : CS q (l.zip fl)) :
    q b - q a ≤ at0 (mostL n (waysF n l fl (normT n (partsI n l) tu) a).len (normT n (partsI n l) tu) a) b := by
  obtain ⟨T, hT⟩ : ∃ T, T = normT n (partsI n l) tu := ⟨_, rfl⟩
  have hf := h.flow
  have ht := h.turns hJ.1
  rw [← hT] at hL hf ht ⊢
  obtain ⟨rk, W⟩ := ways_ok hf.red ha hf.nn
  have hfin := same_fin hf h.best.1 ha W hL (fun k => by have := ht k; omega) hb hp
  have hw := way_of hf W _ b hb (Nat.lt_succ_self _) hfin
  have := Way.le hq hw
  rw [at0_lt (by rw [mostL_len]; exact hb), mostL_get hb, if_pos hfin]
  omega

theorem law_UnwrapWithin {n x y : Int} {ev a : AV} {l : List Edge} {t : List Int} (h : Sl Edge.c ev l) (ha : Ints a t) : ∃ m', callE 31 [] x5t [.agg [I n, ev], a, .agg [I x, I y]] mem0 = some (B true, m') := by
  rw [xsg]
  unfold x6m xbu
  simp [mem0, h.one, w_awake, w_right 25 h]
  cases c1 : few n l
  · simp
  by_cases c2 : (checkNet n l).2 = 0
  rotate_left
  · simp [c2]
  simp [c2, ha.len u_ints]
  by_cases c3 : 20 < (t.length : Int)
  · simp [c3]
  have hr := right_of c2
  have h0 := hr.lo
  have h1 := hr.hi
  have ia0 : ∀ id, sIxA 2 1 (.ptr id 0 0) (I 0) = some (.ptr id 0 0) := fun _ => by simp [sIxA, asI]
  have ia1 : ∀ id, sIxA 2 1 (.ptr id 0 0) (I 1) = some (.ptr id 0 1) := fun _ => by simp [sIxA, asI]
  cases c4 : wi x 0 (n - 1)
  · simp (disch := omega) [c3, ia0, ia1, w_Within, c4]
  cases c5 : wi y 0 (n - 1)
  · simp (disch := omega) [c3, ia0, ia1, w_Within, c4, c5]
  have x4 := wi_t c4
  have x5 := wi_t c5
  obtain ⟨hS, hnn⟩ := slim_of c1 c2
  obtain ⟨k, rfl⟩ : ∃ k : Nat, n = k := ⟨n.toNat, hnn⟩
  rw [Int.toNat_natCast] at hS
  obtain ⟨a0, rfl⟩ : ∃ a0 : Nat, x = a0 := ⟨x.toNat, by omega⟩
  obtain ⟨b0, rfl⟩ : ∃ b0 : Nat, y = b0 := ⟨y.toNat, by omega⟩
  have ha0 : a0 < k := by omega
  have hb0 : b0 < k := by omega
  obtain ⟨M, hM⟩ : ∃ M : Mem, M = ((⟨[], 1⟩ : Mem).new (0, 0, 3) (.row [I (k : Int), ev] 0 false)).new (0, 1, 5) (.row [I (a0 : Int), I (b0 : Int)] 0 false) := ⟨_, rfl⟩
  have hll := hS.ll
  have hj0 := hS.j0
  have hj1 := hS.j1
  obtain ⟨ev', hev, hcp⟩ := w_CopyNet 29 (n := (k : Int)) h (by omega) M
  obtain ⟨a', ha', hca⟩ := w_CopyInts 29 ha (by omega) M
  obtain ⟨fl, tu, ex, hSo, hsn⟩ := w_SolveNet 22 hev c2 hS M
  have gM : M.get (0, 0, 3) = some (.row [I (k : Int), ev] 0 false) := by rw [hM]; simp
  have gM5 : M.get (0, 1, 5) = some (.row [I (a0 : Int), I (b0 : Int)] 0 false) := by rw [hM]; simp
  rw [← hM]
  simp (disch := omega) [c3, ia0, ia1, w_Within, c4, c5, gM, gM5, hcp, hsn, hca, w_pCheckTurns 25 hev ha' (show t.length < 1000000 by omega), c2]
  simp only [List.getElem?_cons_zero, bind_s]
  have hMn : M.next = 1 := by rw [hM]; rfl
  have k1 : cAp (some 1) (tR (.ptr (0, 1, 5) 0 0)) 2 = true := by simp [cAp, tR, Nat.blt]
  have k2 : cAp (some 1) (tR (.ptr (0, 1, 5) 0 1)) 2 = true := by simp [cAp, tR, Nat.blt]
  have k3 : cAp (some 1) (some [], some [(0, 63, 13)]) 2 = true := by simp [cAp, tR, Nat.blt]
  have k4 : apartIds (tR (.ptr (0, 0, 3) 0 0)) (some [], some [(0, 63, 13)]) = true := by simp [apartIds, disj, tR]
  have k5 : apartIds (tR (.ptr (0, 1, 5) 0 0)) (some [], some [(0, 63, 13)]) = true := by simp [apartIds, disj, tR]
  have k6 : apartIds (tR (.ptr (0, 1, 5) 0 1)) (some [], some [(0, 63, 13)]) = true := by simp [apartIds, disj, tR]
  obtain ⟨T, hT⟩ : ∃ T, T = normT k (partsI k l) tu := ⟨_, rfl⟩
  have hC := hSo.best.2
  have hB := hSo.best.1
  rw [← hT] at hC ⊢
  have hTl : T.length = k := by rw [hT]; exact normT_len _ _ _
  have hTb := hSo.turns hj0
  rw [← hT] at hTb
  have hlen : sLen Try.prog x6 (.slit (T.flatMap intE) k false) = some (I k) := rfl
  have iT : ∀ v : Nat, v < k → sIx 1 (.slit (T.flatMap intE) k false) (I v) = some (.plit ((T.drop v).flatMap intE)) := fun v hv => by
    have := (Sl.lit T false (enc := intE)).ixI intE_len (k := (v : Int)) (by omega) (by omega)
    rw [hTl] at this; simpa using this
  have hzl : (l.zip fl).map Prod.fst = l := by rw [List.map_fst_zip]; rw [hSo.f.fll]; exact Nat.le_refl _
  rcases w_NetBetween 22 hev c2 hS ha0 hb0 M with ⟨hp, hnb⟩ | ⟨hp, fl', tu', ex', hSo', hL1, hL2, hnb⟩
  · simp (disch := omega) [hnb, z_range, h.clean1, hev.clean1, hMn, k1, k2, k3, k4, k5, k6, Mem.get_new, Mem.get_set, gM, gM5, hlen]
    simp only [List.getElem?_cons_zero, bind_s]
    simp
  · obtain ⟨x1, hx1⟩ : ∃ x1, x1 = at0 (mostL k (waysF k l fl' (normT k (partsI k l) tu') b0).len (normT k (partsI k l) tu') b0) a0 := ⟨_, rfl⟩
    obtain ⟨x2, hx2⟩ : ∃ x2, x2 = at0 (mostL k (waysF k l fl' (normT k (partsI k l) tu') a0).len (normT k (partsI k l) tu') a0) b0 := ⟨_, rfl⟩
    rw [← hx1, ← hx2] at hnb
    have hB' := hSo'.best.1
    have hC' := hSo'.best.2
    have hzl' : (l.zip fl').map Prod.fst = l := by rw [List.map_fst_zip]; rw [hSo'.f.fll]; exact Nat.le_refl _
    have bnd : ∀ q : Nat → Int, CS q (l.zip fl') → -x1 ≤ q b0 - q a0 ∧ q b0 - q a0 ≤ x2 := fun q hq => by
      have e1 := most_le hSo' ⟨hj0, hj1⟩ ha0 hb0 hL1 hp hq
      have e2 := most_le hSo' ⟨hj0, hj1⟩ hb0 ha0 hL2 hp.symm hq
      rw [← hx2] at e1
      rw [← hx1] at e2
      omega
    have hTC : CS (at0 T) (l.zip fl') := cs_any hB hB' (by rw [hzl, hzl']) hC hC'
    obtain ⟨u1, u2⟩ := bnd _ hTC
    have t1 := hTb a0
    have t2 := hTb b0
    have hw1 : wi (at0 T b0 - at0 T a0) (-x1) x2 = true := wi_iff.mpr ⟨u1, u2⟩
    have la : a0 < T.length := by omega
    have lb : b0 < T.length := by omega
    simp (disch := omega) [hnb, z_range, h.clean1, hev.clean1, hMn, k1, k2, k3, k4, k5, k6, Mem.get_new, Mem.get_set, gM, gM5, hlen, iT a0 ha0, iT b0 hb0, ld_int la, ld_int lb, w_Within, hw1]
    simp only [List.getElem?_cons_zero, bind_s]
    by_cases g0 : (checkTurns k l t).2 = 0
    rotate_left
    · simp (disch := omega) [g0, w_Within, hw1]
    by_cases g1 : (checkTurns k l t).1 = costI T 0 l
    rotate_left
    · simp (disch := omega) [g0, g1, w_Within, hw1]
    have htk : (t.length : Int) = (k : Int) := by
      unfold checkTurns at g0
      by_cases e : (t.length : Int) = (k : Int)
      · exact e
      · simp [e] at g0
    have hany : t.any (fun x => !(wi x (-1000000) 1000000)) = false := by
      unfold checkTurns at g0
      cases e : t.any (fun x => !(wi x (-1000000) 1000000))
      · rfl
      · simp [htk, e] at g0
    have hco : (checkTurns k l t).1 = costI t 0 l := by unfold checkTurns; simp [htk, hany]
    have htt := turnsIn_of hany
    have hqC : CS (at0 t) (l.zip fl') := by
      rw [← tight hB' (at0 t), hzl']
      have e1 := (tight hB' (at0 T)).mpr hTC
      rw [hzl'] at e1
      rw [hco, costI_eq, costI_eq] at g1
      omega
    obtain ⟨v1, v2⟩ := bnd _ hqC
    have hw2 : wi (at0 t b0 - at0 t a0) (-x1) x2 = true := wi_iff.mpr ⟨v1, v2⟩
    have ta := htt.get a0
    have tb := htt.get b0
    have lta : a0 < t.length := by omega
    have ltb : b0 < t.length := by omega
    have jA := ha.ixI intE_len (k := (a0 : Int)) (by omega) (by omega)
    have jB := ha.ixI intE_len (k := (b0 : Int)) (by omega) (by omega)
    rw [Int.toNat_natCast] at jA jB
    simp (disch := omega) [g0, g1, hw1, gM5, Mem.get_new, Mem.get_set, jA, jB, ld_int lta, ld_int ltb, w_Within, hw2]

end Go.Ix
