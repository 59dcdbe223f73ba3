import Derived.Test.YtljibmnhhdiakaaWgC
import Derived.Test.YtljibmnhhdiakaaWLawFlows
set_option linter.unusedSimpArgs false
set_option linter.unusedVariables false
namespace Go.Ix
open Go.Proofs

theorem w_right (d : Nat) {n : Int} {ev : AV} {l : List Edge} (h : Sl Edge.c ev l) (m : Mem) : sCall0 (callE (d + 5)) x3z [.agg [I n, ev]] m = some (B (few n l && decide ((checkNet n l).2 = 0)), m) := by
  refine Ans.call0 ?_ (by simp [h.still1]) rfl
  unfold Ans
  rw [xsp]
  unfold x6w xc5
  have hE : ∀ m, sCall0 (callE (d + 4)) x2h [.agg [I n, ev]] m = some (I (checkNet n l).2, m) := fun m => w_Err (d + 1) h m
  simp [mem0, h.one, w_Few _ h, hE]
  cases c1 : few n l
  · simp
  · by_cases c2 : (checkNet n l).2 = 0
    · simp [c2, hE]
    · simp [c2, hE]
theorem fewE_all : ∀ {l : List Edge}, fewE l = true → ∀ e ∈ l, e.wt ≤ 20 ∧ -5 ≤ e.jump ∧ e.jump ≤ 5
  | [], _, e, he => by cases he
  | x :: r, h, e, he => by
    unfold fewE at h
    by_cases c : 20 < x.wt
    · simp [c] at h
    · by_cases c2 : (5 : Int) < (x.jump.natAbs : Int)
      · simp [c, c2] at h
      · simp [c, c2] at h
        rcases List.mem_cons.mp he with rfl | he
        · omega
        · exact fewE_all h e he
theorem slim_of {n : Int} {l : List Edge} (h1 : few n l = true) (h2 : (checkNet n l).2 = 0) : Slim 5 n.toNat l ∧ n = (n.toNat : Int) := by
  have hr := right_of h2
  have hlo := hr.lo
  unfold few at h1
  by_cases c1 : 10 < n
  · simp [h2, c1] at h1
  · by_cases c2 : (16 : Int) < (l.length : Int)
    · simp [h2, c1, c2] at h1
    · simp [h2, c1, c2] at h1
      have hf := fewE_all h1
      exact ⟨⟨by omega, by omega, by omega, by omega, inEdge hr, fun e he => by have := hf e he; omega⟩, by omega⟩

theorem law_UnwrapNoLess {n : Int} {ev a b : AV} {l : List Edge} {t f : List Int} (h : Sl Edge.c ev l) (ha : Ints a t) (hb : Ints b f) : ∃ m', callE 31 [] x5u [.agg [I n, ev], a, b] mem0 = some (B true, m') := by
  rw [xsi]
  unfold x6o xbw
  simp [mem0, h.one, w_awake, w_right 25 h]
  cases c1 : few n l
  · simp
  by_cases c2 : (checkNet n l).2 = 0
  rotate_left
  · simp [c2]
  simp [c2, ha.len u_ints]
  by_cases c3 : 20 < (t.length : Int)
  · simp [c3]
  simp [c3, hb.len u_ints]
  by_cases c4 : 20 < (f.length : Int)
  · simp [c4]
  obtain ⟨hS, hnn⟩ := slim_of c1 c2
  obtain ⟨k, rfl⟩ : ∃ k : Nat, n = k := ⟨n.toNat, hnn⟩
  rw [Int.toNat_natCast] at hS
  obtain ⟨M, hM⟩ : ∃ M : Mem, M = (⟨[], 1⟩ : Mem).new (0, 0, 3) (.row [I (k : Int), ev] 0 false) := ⟨_, rfl⟩
  have hll := hS.ll
  obtain ⟨ev', hev, hcp⟩ := w_CopyNet 29 (n := (k : Int)) h (by omega) M
  obtain ⟨a', ha', hca⟩ := w_CopyInts 29 ha (by omega) M
  obtain ⟨b', hb', hcb⟩ := w_CopyInts 29 hb (by omega) M
  obtain ⟨fl, tu, ex, hSo, hsn⟩ := w_SolveNet 22 hev c2 hS M
  have hFl : Ints (.slit (fl.flatMap intE) l.length false) fl := by
    have := Sl.lit fl false (enc := intE); rwa [hSo.f.fll] at this
  obtain ⟨f', hf', hcf⟩ := w_CopyInts 29 hFl (by rw [hSo.f.fll]; omega) M
  obtain ⟨hB, hC⟩ := hSo.best
  obtain ⟨T, hT⟩ : ∃ T, T = normT k (partsI k l) tu := ⟨_, rfl⟩
  rw [← hT] at hC hsn
  have hzl : (l.zip fl).map Prod.fst = l := by rw [List.map_fst_zip]; rw [hSo.f.fll]; exact Nat.le_refl _
  have hcost : costI T 0 l = valF (l.zip fl) := by
    have := (tight hB (at0 T)).mpr hC
    rw [hzl] at this
    rw [costI_eq, this]; omega
  have hfo : flowOf k l fl = (valF (l.zip fl), 0) := by
    unfold flowOf
    rw [c2]
    exact checkFlow_ok hS.ed hSo.f.fll hB
  have F2 : (checkTurns k l t).2 = 0 → (checkTurns k l t).1 = costF (at0 t) l := by
    intro hg
    unfold checkTurns at hg ⊢
    by_cases e : (t.length : Int) = (k : Int)
    · cases e2 : t.any (fun x => !(wi x (-1000000) 1000000))
      · simp [e, costI_eq]
      · simp [e, e2] at hg
    · simp [e] at hg
  have F3 : (flowOf k l f).2 = 0 → Feas k (l.zip f) ∧ (l.zip f).map Prod.fst = l ∧ (flowOf k l f).1 = valF (l.zip f) := by
    intro hg
    unfold flowOf at hg ⊢
    rw [c2] at hg ⊢
    obtain ⟨x, y, z⟩ := checkFlow_feas hS.ed (show (checkFlow k l f).2 = 0 from hg)
    exact ⟨y, by rw [List.map_fst_zip]; rw [x]; exact Nat.le_refl _, z⟩
  have G2 : (checkTurns k l t).2 = 0 → valF (l.zip fl) ≤ (checkTurns k l t).1 := fun hg => by
    have := weak hB (at0 t)
    rw [hzl] at this
    rw [F2 hg]; exact this
  have G3 : (flowOf k l f).2 = 0 → (flowOf k l f).1 ≤ valF (l.zip fl) := fun hg => by
    obtain ⟨x, y, z⟩ := F3 hg
    have h1 := weak x (at0 T)
    have h2 := (tight hB (at0 T)).mpr hC
    rw [y] at h1
    rw [hzl] at h2
    omega
  have G4 : (checkTurns k l t).2 = 0 → (flowOf k l f).2 = 0 → (flowOf k l f).1 ≤ (checkTurns k l t).1 := fun hg hh => by
    have := G2 hg
    have := G3 hh
    omega
  rw [← hM]
  have gM : M.get (0, 0, 3) = some (.row [I (k : Int), ev] 0 false) := by rw [hM]; simp
  simp [c4, gM, hcp, hsn, hca, hcb, hcf, w_pCheckTurns 25 hev ha' (show t.length < 1000000 by omega), w_pCheckFlowOf 25 hev hb', w_pCheckFlowOf 25 hev hf', c2, hfo, hcost]
  by_cases g0 : (checkTurns k l t).2 = 0
  · have g2 := G2 g0
    by_cases h0 : (flowOf k l f).2 = 0
    · have g3 := G3 h0
      have g4 := G4 g0 h0
      simp [g0, h0, g2, g3, g4]
    · simp [g0, h0, g2]
  · by_cases h0 : (flowOf k l f).2 = 0
    · have g3 := G3 h0
      simp [g0, h0, g3]
    · simp [g0, h0]

end Go.Ix
