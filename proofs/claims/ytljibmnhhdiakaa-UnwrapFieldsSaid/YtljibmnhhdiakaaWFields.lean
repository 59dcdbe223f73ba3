/- Fields of tasks: their turns, cost and cuts. -/
import Derived.Test.YtljibmnhhdiakaaWLawTasks
set_option linter.unusedSimpArgs false
set_option linter.unusedVariables false
namespace Go.Ix
open Go.Proofs

def isP (x : Int) : Bool := wi x (-100000000) 100000000
theorem w_isPhase (d : Nat) (x : Int) (m : Mem) : sCall0 (callE (d + 2)) x6h [I x] m = some (B (isP x), m) := by
  refine Ans.call0 ?_ rfl rfl
  unfold Ans
  rw [x134]
  unfold x9o xhk
  simp [mem0, w_within, isP]
theorem w_rIsPhase (d : Nat) (x : Int) (m : Mem) : sCall0 (callE (d + 2)) x6e [I x] m = some (B (isP x), m) := by
  refine Ans.call0 ?_ rfl rfl
  unfold Ans
  rw [x12u]
  unfold x9f xgt
  simp [mem0, w_Within, isP]
theorem neq_bool (x y : Operand) (a b : Bool) : sBin Try.prog .neq xcz x y (B a) (B b) = some (B (a != b)) := by
  cases a <;> cases b <;> kernel_rfl

/-- The turns of phases: those so far, and what comes. -/
def turnsM : List Int → List Int → List Int → List Int × Int
  | out, p :: ps, u :: us =>
    bif decide (p = void) != decide (u = void) then ([], 31)
    else bif decide (u = void) then turnsM (out ++ [0]) ps us
    else bif !(isP u) then ([], 2)
    else bif !decide ((u - p) % 4096 = 0) then ([], 27)
    else turnsM (out ++ [(u - p).tdiv 4096]) ps us
  | out, _, _ => (out, 0)
/-- The turns of a field, or the error. -/
def fieldM (r c : Int) (ph : List Int) (r' c' : Int) (us : List Int) : List Int × Int :=
  bif !decide (r' = r) || !decide (c' = c) || !decide ((us.length : Int) = ph.length) then ([], 10) else turnsM [] ph us

theorem tmod_zero {x : Int} : decide (x.tmod 4096 = 0) = decide (x % 4096 = 0) := by
  rw [decide_eq_decide, Int.tmod_eq_emod]
  split <;> omega

theorem set_mid (out : List Int) (n : Nat) (v : Int) : (out ++ List.replicate (n + 1) 0).set out.length v = (out ++ [v]) ++ List.replicate n 0 := by
  rw [List.set_append_right _ _ (Nat.le_refl _), Nat.sub_self, List.replicate_succ]
  simp

/-- The program: the turns are written where the numbers 0 were. -/
theorem l_turnsOf (d : Nat) (hs : FHs) {r c : Int} {p u : AV} {ph us : List Int} (hp : Ints p ph) (hu : Ints u us) (hph : PhIn ph) (he : us.length = ph.length) (hl : us.length ≤ 100000) :
    ∀ (su sp : List Int) (k j : Nat) (out : List Int) (m : Mem) (fc : Nat), us.drop k = su → ph.drop k = sp → su.length < j → out.length = k → k ≤ us.length →
      m.get (0, 6, 6) = some (.row [I r, I c, p] 0 false) → 1 ≤ m.next → OwnI m (0, 32, 36) (out ++ List.replicate su.length 0) →
    ∃ a m', x5y (callE (d + 2)) hs 0 j (.ptr (0, 6, 6) 0 0) (srI (0, 32, 36) us.length) u (I us.length) (I k) m fc = some (.tup [a, I (turnsM out sp su).2], m') ∧ ∃ a', Ints a' (turnsM out sp su).1 ∧ frz m'.get 5 a = some a' := by
  intro su
  induction su with
  | nil =>
    intro sp k j out m fc hd hdp hj ho hku hg hn hO
    obtain ⟨j, rfl⟩ : ∃ i, j = i + 1 := ⟨j - 1, by simp at hj; omega⟩
    have hk0 := List.drop_eq_nil_iff.mp hd
    have hk : ¬ ((k : Int) < (us.length : Int)) := by omega
    have hol : us.length = out.length := by omega
    have e : turnsM out sp [] = (out, 0) := by cases sp <;> rfl
    rw [e]
    simp only [x5y]
    unfold xe9
    simp [hk, x35]
    simp only [List.length_nil, List.replicate_zero, List.append_nil] at hO
    refine ⟨_, _, ⟨rfl, rfl⟩, _, Sl.lit out false, ?_⟩
    have hfl := intE_flat_len out
    have := frz_sref (objs := m.get) (id := (0, 32, 36)) (cs := out.flatMap intE) (ver := 0) (off := 0) (n := out.length) (z := 1) (k := 3) (f := false) (x := true) hO (by omega) (by
      rw [List.drop_zero, List.take_of_length_le (by omega)]; exact flat_still intE_still out)
    rw [List.drop_zero, List.take_of_length_le (by omega)] at this
    rw [hol]
    exact this
  | cons x rr ih =>
    intro sp k j out m fc hd hdp hj ho hku hg hn hO
    obtain ⟨j, rfl⟩ : ∃ i, j = i + 1 := ⟨j - 1, by simp at hj; omega⟩
    obtain ⟨hk, hke, hd⟩ := drop_cons hd
    have hk' : (k : Int) < (us.length : Int) := by omega
    have hkp : k < ph.length := by omega
    have ix := hu.ix intE_len hk
    have ix2 := hp.ix intE_len hkp
    have e1 : at0 us k = x := by rw [at0_lt hk, hke]
    obtain ⟨y, hy⟩ : ∃ y, y = at0 ph k := ⟨_, rfl⟩
    have hsp : sp = y :: ph.drop (k + 1) := by rw [← hdp, drop_get hkp, hy, at0_lt hkp]
    have hyw := hph k
    rw [← hy] at hyw
    subst hsp
    have hnb : Nat.ble 1 m.next = true := Nat.ble_eq_true_of_le hn
    have hrl : us.length = k + (rr.length + 1) := by
      have := congrArg List.length hd
      simp at this
      omega
    simp only [x5y]
    unfold xe9 xe8
    by_cases cx : x = void
    · by_cases cy : y = void
      · have hO2 : OwnI m (0, 32, 36) ((out ++ [0]) ++ List.replicate rr.length 0) := by
          unfold OwnI at hO ⊢
          rw [hO]
          simp [List.replicate_succ]
        have h6 := fun fc => ih (ph.drop (k + 1)) (k + 1) j (out ++ [0]) m fc hd rfl (by simp at hj; omega) (by simp; omega) (by omega) hg hn hO2
        simp (disch := omega) [hk', ix, ix2, ld_int, e1, ← hy, hg, w_isVoid, neq_bool, cAp, tR, cx, cy, turnsM, hnb, Nat.blt, xai]
        exact h6 _
      · simp (disch := omega) [hk', ix, ix2, ld_int, e1, ← hy, hg, w_isVoid, neq_bool, cAp, tR, cx, cy, turnsM, hnb, Nat.blt]
        exact ⟨_, _, ⟨rfl, rfl⟩, nilS, Or.inl ⟨rfl, rfl⟩, rfl⟩
    · by_cases cy : y = void
      · simp (disch := omega) [hk', ix, ix2, ld_int, e1, ← hy, hg, w_isVoid, neq_bool, cAp, tR, cx, cy, turnsM, hnb, Nat.blt]
        exact ⟨_, _, ⟨rfl, rfl⟩, nilS, Or.inl ⟨rfl, rfl⟩, rfl⟩
      · cases cp : isP x
        · simp (disch := omega) [hk', ix, ix2, ld_int, e1, ← hy, hg, w_isVoid, neq_bool, cAp, tR, cx, cy, turnsM, hnb, Nat.blt, w_isPhase, cp]
          exact ⟨_, _, ⟨rfl, rfl⟩, nilS, Or.inl ⟨rfl, rfl⟩, rfl⟩
        have hxp := wi_t cp
        have ht := tmod_zero (x := x - y)
        by_cases cm : (x - y) % 4096 = 0
        · have ht1 : (x - y).tmod 4096 = 0 := by rw [decide_eq_decide] at ht; exact ht.mpr cm
          have hq : -1000000 ≤ (x - y).tdiv 4096 ∧ (x - y).tdiv 4096 ≤ 1000000 := by
            rw [Int.tdiv_eq_ediv]; split <;> omega
          have iw := ix_own (id := (0, 32, 36)) (n := us.length) (k := (k : Int)) (by omega) hk'
          have hO' := hO
          unfold OwnI at hO'
          have hO2 : OwnI (m.set (0, 32, 36) (.row (((out ++ [(x - y).tdiv 4096]) ++ List.replicate rr.length 0).flatMap intE) 0 false)) (0, 32, 36) ((out ++ [(x - y).tdiv 4096]) ++ List.replicate rr.length 0) := by unfold OwnI; simp
          have h6 := fun fc => ih (ph.drop (k + 1)) (k + 1) j (out ++ [(x - y).tdiv 4096]) _ fc hd rfl (by simp at hj; omega) (by simp; omega) (by omega) (by rw [Mem.get_set, if_neg (by simp)]; exact hg) (by simpa using hn) hO2
          have hst : stRow 1 0 k (I ((x - y).tdiv 4096)) (some (.row ((out ++ List.replicate (rr.length + 1) 0).flatMap intE) 0 false)) = some (.row (((out ++ [(x - y).tdiv 4096]) ++ List.replicate rr.length 0).flatMap intE) 0 false) := by
            rw [stRow_int (by simp; omega), ← ho, set_mid]
          simp only [List.length_cons] at hO'
          simp (disch := omega) [hk', ix, ix2, ld_int, e1, ← hy, hg, w_isVoid, neq_bool, cAp, tR, cx, cy, turnsM, hnb, Nat.blt, w_isPhase, cp, sRem_I, sQuo_I, ht1, cm]
          simp (disch := omega) only [iw, bind_s, sSt_ptr, Int.toNat_natCast, hO', hst, xai, sAdd_I, w64_in]
          exact h6 _
        · have ht1 : ¬ ((x - y).tmod 4096 = 0) := by rw [decide_eq_decide] at ht; exact fun h => cm (ht.mp h)
          simp (disch := omega) [hk', ix, ix2, ld_int, e1, ← hy, hg, w_isVoid, neq_bool, cAp, tR, cx, cy, turnsM, hnb, Nat.blt, w_isPhase, cp, sRem_I, ht1, cm]
          exact ⟨_, _, ⟨rfl, rfl⟩, nilS, Or.inl ⟨rfl, rfl⟩, rfl⟩

theorem l_rTurnsOf (d : Nat) (hs : FHs) {r c r' c' : Int} {p a0 b0 u : AV} {ph us : List Int} (hp : Ints p ph) (hu : Ints u us) (hph : PhIn ph) (he : us.length = ph.length) (hl : us.length ≤ 100000) :
    ∀ (su sp : List Int) (k j : Nat) (out : List Int) (o : AV) (m : Mem) (fc : Nat), us.drop k = su → ph.drop k = sp → su.length < j → out.length = k →
      m.get (0, 0, 2) = some (.row [I r, I c, p, a0, b0] 0 false) → m.get (0, 1, 3) = some (.row [I r', I c', u] 0 false) → Gq 1 intE 0 [61, 76] m o out →
    ∃ a m', x5i (callE (d + 2)) hs 0 j (.ptr (0, 0, 2) 0 0) (.ptr (0, 1, 3) 0 0) o (I k) m fc = some (.tup [a, I (turnsM out sp su).2], m') ∧ ∃ a', Ints a' (turnsM out sp su).1 ∧ frz m'.get 5 a = some a' := by
  intro su
  induction su with
  | nil =>
    intro sp k j out o m fc hd hdp hj ho hg hg3 hO
    obtain ⟨j, rfl⟩ : ∃ i, j = i + 1 := ⟨j - 1, by simp at hj; omega⟩
    have hk0 := List.drop_eq_nil_iff.mp hd
    have hk : ¬ ((k : Int) < (us.length : Int)) := by omega
    have e : turnsM out sp [] = (out, 0) := by cases sp <;> rfl
    rw [e]
    simp only [x5i]
    unfold xd0
    simp [hk, hg3, hu.len u_ints, x30]
    obtain ⟨a', h1, h2⟩ := hO.frz1 (k := 3) intE_len intE_still
    exact ⟨_, _, ⟨rfl, rfl⟩, a', h1, h2⟩
  | cons x rr ih =>
    intro sp k j out o m fc hd hdp hj ho hg hg3 hO
    obtain ⟨j, rfl⟩ : ∃ i, j = i + 1 := ⟨j - 1, by simp at hj; omega⟩
    obtain ⟨hk, hke, hd⟩ := drop_cons hd
    have hk' : (k : Int) < (us.length : Int) := by omega
    have hkp : k < ph.length := by omega
    have ix := hu.ix intE_len hk
    have ix2 := hp.ix intE_len hkp
    have e1 : at0 us k = x := by rw [at0_lt hk, hke]
    obtain ⟨y, hy⟩ : ∃ y, y = at0 ph k := ⟨_, rfl⟩
    have hsp : sp = y :: ph.drop (k + 1) := by rw [← hdp, drop_get hkp, hy, at0_lt hkp]
    have hyw := hph k
    rw [← hy] at hyw
    subst hsp
    have hel : ∀ v : Int, elems m.get 1 (.slit [I v] 1 true) = some (intE v, 1) := fun _ => rfl
    have hro : roomy (out.length + 1) 8 := by unfold roomy; omega
    simp only [x5i]
    unfold xd0 xcy
    by_cases cx : x = void
    · by_cases cy : y = void
      · obtain ⟨a', m', h2, h3, h4, h5⟩ := hO.app intE_len (by omega) (t0 := 61) (s0 := fc + 5 + 22) (bytes := 8) (by simp) hro 0
        have h6 := fun fc => ih (ph.drop (k + 1)) (k + 1) j (out ++ [0]) a' m' fc hd rfl (by simp at hj; omega) (by simp; omega) (by rw [h5 _ (by decide)]; exact hg) (by rw [h5 _ (by decide)]; exact hg3) h3
        simp (disch := omega) [hk', hg3, hu.len u_ints, ix, ix2, ld_int, e1, ← hy, hg, neq_bool, cx, cy, turnsM, z_ints, hel, h2, x9x]
        exact h6 _
      · simp (disch := omega) [hk', hg3, hu.len u_ints, ix, ix2, ld_int, e1, ← hy, hg, neq_bool, cx, cy, turnsM]
        exact ⟨_, _, ⟨rfl, rfl⟩, nilS, Or.inl ⟨rfl, rfl⟩, rfl⟩
    · by_cases cy : y = void
      · simp (disch := omega) [hk', hg3, hu.len u_ints, ix, ix2, ld_int, e1, ← hy, hg, neq_bool, cx, cy, turnsM]
        exact ⟨_, _, ⟨rfl, rfl⟩, nilS, Or.inl ⟨rfl, rfl⟩, rfl⟩
      · cases cp : isP x
        · simp (disch := omega) [hk', hg3, hu.len u_ints, ix, ix2, ld_int, e1, ← hy, hg, neq_bool, cx, cy, turnsM, w_rIsPhase, cp]
          exact ⟨_, _, ⟨rfl, rfl⟩, nilS, Or.inl ⟨rfl, rfl⟩, rfl⟩
        have hxp := wi_t cp
        have wM := fun m => w_Mod (d + 1) (x := x - y) (show (0 : Int) < 4096 by omega) (by omega) m
        by_cases cm : (x - y) % 4096 = 0
        · have hq : -1000000 ≤ (x - y).tdiv 4096 ∧ (x - y).tdiv 4096 ≤ 1000000 := by
            rw [Int.tdiv_eq_ediv]; split <;> omega
          obtain ⟨a', m', h2, h3, h4, h5⟩ := hO.app intE_len (by omega) (t0 := 76) (s0 := fc + 5 + 34) (bytes := 8) (by simp) hro ((x - y).tdiv 4096)
          have h6 := fun fc => ih (ph.drop (k + 1)) (k + 1) j (out ++ [(x - y).tdiv 4096]) a' m' fc hd rfl (by simp at hj; omega) (by simp; omega) (by rw [h5 _ (by decide)]; exact hg) (by rw [h5 _ (by decide)]; exact hg3) h3
          simp (disch := omega) [hk', hg3, hu.len u_ints, ix, ix2, ld_int, e1, ← hy, hg, neq_bool, cx, cy, turnsM, w_rIsPhase, cp, wM, cm, sQuo_I, z_ints, hel, h2, x9x]
          exact h6 _
        · simp (disch := omega) [hk', hg3, hu.len u_ints, ix, ix2, ld_int, e1, ← hy, hg, neq_bool, cx, cy, turnsM, w_rIsPhase, cp, wM, cm]
          exact ⟨_, _, ⟨rfl, rfl⟩, nilS, Or.inl ⟨rfl, rfl⟩, rfl⟩

end Go.Ix
