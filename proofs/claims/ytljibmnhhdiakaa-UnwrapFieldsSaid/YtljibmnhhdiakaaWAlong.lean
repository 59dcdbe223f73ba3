/- The phases along a path. -/
import Derived.Test.YtljibmnhhdiakaaWMap
import Derived.Test.YtljibmnhhdiakaaWAwake5
set_option linter.unusedSimpArgs false
namespace Go.Ix
open Go.Proofs

/-- Whether two pixels are neighbours. -/
def nbM (c a b : Int) : Bool := (decide (((a - b).natAbs : Int) = c) && decide (a % c = b % c)) || (decide (((a - b).natAbs : Int) = 1) && decide (a / c = b / c))
theorem natAbs_mul_pos {c q : Int} (h : 0 < c) : (((c * q).natAbs : Int) = c) ↔ q.natAbs = 1 := by
  rw [Int.natAbs_mul]
  constructor
  · intro e
    have h1 : (c.natAbs : Int) = c := by omega
    have h2 : ((c.natAbs * q.natAbs : Nat) : Int) = c * (q.natAbs : Int) := by rw [Int.natCast_mul, h1]
    rw [h2] at e
    have h3 : c * (q.natAbs : Int) = c * 1 := by omega
    have := Int.eq_of_mul_eq_mul_left (by omega) h3
    omega
  · intro e
    rw [e]; omega
theorem nb_eq {c a b : Int} (hc : 0 < c) : decide (((a / c - b / c).natAbs : Int) + ((a % c - b % c).natAbs : Int) = 1) = nbM c a b := by
  have ha := Int.emod_add_mul_ediv a c
  have hb := Int.emod_add_mul_ediv b c
  unfold nbM
  by_cases h1 : a % c = b % c
  · have e : a - b = c * (a / c - b / c) := by rw [Int.mul_sub]; omega
    have e2 := natAbs_mul_pos (q := a / c - b / c) hc
    rw [← e] at e2
    by_cases h2 : a / c = b / c
    · have : a = b := by rw [h1, h2] at ha; omega
      subst this
      simp
      omega
    · simp [h1, h2]
      constructor
      · intro h; exact e2.mpr (by omega)
      · intro h; have := e2.mp h; omega
  · by_cases h2 : a / c = b / c
    · have e : a - b = a % c - b % c := by rw [h2] at ha; omega
      simp [h1, h2, e]
    · simp [h1, h2]
      omega
/-- The step from a pixel to a neighbour. -/
def stepM (l : List Int) (a b : Int) : Int := if b < a then -(wrapM (at0 l a.toNat - at0 l b.toNat)) else wrapM (at0 l b.toNat - at0 l a.toNat)
/-- The phases along a path: those so far, the last pixel, and what comes. -/
def alongM (l : List Int) (c : Int) : List Int → Int → List Int → List Int × Int
  | out, _, [] => (out, 0)
  | out, pv, at' :: r =>
    bif !(wi at' 0 ((l.length : Int) - 1)) then ([], 6)
    else bif decide (at0 l at'.toNat = void) then ([], 31)
    else bif out.isEmpty then alongM l c [at0 l at'.toNat] at' r
    else bif !(nbM c pv at') then ([], 14)
    else alongM l c (out ++ [at0 out (out.length - 1) + stepM l pv at']) at' r

theorem w_isNeighbour (d : Nat) {c a b : Int} (hc : 1 ≤ c) (hc2 : c ≤ 64) (a0 : 0 ≤ a) (a1 : a ≤ 5000) (b0 : 0 ≤ b) (b1 : b ≤ 5000) (m : Mem) : sCall0 (callE (d + 2)) x6c [I c, I a, I b] m = some (B (nbM c a b), m) := by
  refine Ans.call0 ?_ rfl rfl
  unfold Ans
  rw [x12o]
  unfold x9b xgn
  have q1 : a.tdiv c = a / c := Int.tdiv_eq_ediv_of_nonneg a0
  have q2 : b.tdiv c = b / c := Int.tdiv_eq_ediv_of_nonneg b0
  have r1 : a.tmod c = a % c := Int.tmod_eq_emod_of_nonneg a0
  have r2 : b.tmod c = b % c := Int.tmod_eq_emod_of_nonneg b0
  have p1 : 0 ≤ a / c := Int.ediv_nonneg a0 (by omega)
  have p2 : a / c ≤ a := Int.ediv_le_self _ a0
  have p3 : 0 ≤ b / c := Int.ediv_nonneg b0 (by omega)
  have p4 : b / c ≤ b := Int.ediv_le_self _ b0
  unfold nbM
  have hs := fun m => w_size d (a - b) m (by omega) (by omega)
  have hw : w64 (a - b) = a - b := w64_in (by omega) (by omega)
  generalize ((a - b).natAbs : Int) = x at hs ⊢
  simp [mem0, hw, hs]
  by_cases c1 : x = c
  · subst c1
    by_cases c2 : a % x = b % x
    · simp (disch := omega) [sRem_I, r1, r2, c2]
    · by_cases c3 : x = 1
      · subst c3
        omega
      · simp (disch := omega) [sRem_I, r1, r2, c2, c3, hs, hw]
  · by_cases c3 : x = 1
    · subst c3
      simp (disch := omega) [c1, sQuo_I, q1, q2, hs, hw]
    · simp (disch := omega) [c1, c3, hs, hw]
theorem w_neighbours (d : Nat) {c a b r : Int} {p : AV} {l : List Int} (hp : Ints p l) (hc : 1 ≤ c) (hc2 : c ≤ 64) (a0 : 0 ≤ a) (a1 : a ≤ 5000) (b0 : 0 ≤ b) (b1 : b ≤ 5000) (m : Mem) : sCall0 (callE (d + 2)) x6d [.agg [I r, I c, p], I a, I b] m = some (B (nbM c a b), m) := by
  refine Ans.call0 ?_ (by simp [hp.still1]) rfl
  unfold Ans
  rw [x12q]
  unfold x9c xgp
  have q1 : a.tdiv c = a / c := Int.tdiv_eq_ediv_of_nonneg a0
  have q2 : b.tdiv c = b / c := Int.tdiv_eq_ediv_of_nonneg b0
  have r1 : a.tmod c = a % c := Int.tmod_eq_emod_of_nonneg a0
  have r2 : b.tmod c = b % c := Int.tmod_eq_emod_of_nonneg b0
  have p1 : 0 ≤ a / c := Int.ediv_nonneg a0 (by omega)
  have p2 : a / c ≤ a := Int.ediv_le_self _ a0
  have p3 : 0 ≤ b / c := Int.ediv_nonneg b0 (by omega)
  have p4 : b / c ≤ b := Int.ediv_le_self _ b0
  have p5 := Int.emod_nonneg a (show c ≠ 0 by omega)
  have p6 := Int.emod_lt_of_pos a (show 0 < c by omega)
  have p7 := Int.emod_nonneg b (show c ≠ 0 by omega)
  have p8 := Int.emod_lt_of_pos b (show 0 < c by omega)
  rw [← nb_eq (show 0 < c by omega)]
  simp (disch := omega) [mem0, hp.one, sRem_I, sQuo_I, q1, q2, r1, r2, w_Size, cAp, tR]
  simp [Nat.blt]

/-- Phases that are wrapped, or void. -/
def PhIn (l : List Int) : Prop := ∀ k, at0 l k = void ∨ (-2048 ≤ at0 l k ∧ at0 l k ≤ 2047)
theorem phIn_of {l : List Int} (h : phasesM isW l = 0) : PhIn l := by
  intro k
  unfold phasesM at h
  cases e : l.any (badP isW)
  · rw [List.any_eq_false] at e
    by_cases hk : k < l.length
    · have := e l[k] (List.getElem_mem hk)
      rw [at0_lt hk]
      unfold badP at this
      by_cases c : l[k] = void
      · exact Or.inl c
      · right
        simp [c] at this
        exact wi_t this
    · right
      unfold at0
      rw [List.getD_eq_getElem?_getD, List.getElem?_eq_none (by omega)]
      simp
  · rw [e] at h; cases h
theorem w_Step1 (d : Nat) {c a b r : Int} {p : AV} {l : List Int} (hp : Ints p l) (hl : PhIn l) (a0 : 0 ≤ a) (a1 : a < l.length) (b0 : 0 ≤ b) (b1 : b < l.length) (va : at0 l a.toNat ≠ void) (vb : at0 l b.toNat ≠ void) (hab : ¬ b < a) (m : Mem) :
    sCall0 (callE (d + 3)) x4c [.agg [I r, I c, p], I a, I b] m = some (I (stepM l a b), m) := by
  refine Ans.call0 ?_ (by simp [hp.still1]) rfl
  unfold Ans
  rw [xqg]
  unfold x7i xdt
  have i1 := hp.ixI intE_len a0 a1
  have i2 := hp.ixI intE_len b0 b1
  have h1 := hl a.toNat
  have h2 := hl b.toNat
  have l1 : a.toNat < l.length := by omega
  have l2 : b.toNat < l.length := by omega
  simp (disch := omega) [mem0, hp.one, hab, i1, i2, ld_int, w_Wrapped d, stepM]
theorem w_Step (d : Nat) {c a b r : Int} {p : AV} {l : List Int} (hp : Ints p l) (hl : PhIn l) (a0 : 0 ≤ a) (a1 : a < l.length) (b0 : 0 ≤ b) (b1 : b < l.length) (va : at0 l a.toNat ≠ void) (vb : at0 l b.toNat ≠ void) (m : Mem) :
    sCall0 (callE (d + 4)) x4c [.agg [I r, I c, p], I a, I b] m = some (I (stepM l a b), m) := by
  by_cases hab : b < a
  · refine Ans.call0 ?_ (by simp [hp.still1]) rfl
    unfold Ans
    rw [xqg]
    unfold x7i xdt
    have h3 := w_Step1 d (r := r) (c := c) hp hl b0 b1 a0 a1 vb va (by omega)
    have h4 := wrapM_in (at0 l a.toNat - at0 l b.toNat)
    have h5 : stepM l b a = wrapM (at0 l a.toNat - at0 l b.toNat) := by unfold stepM; rw [if_neg (by omega)]
    simp (disch := omega) [mem0, hp.one, hab, h3, h5]
    rw [show stepM l a b = -(wrapM (at0 l a.toNat - at0 l b.toNat)) by unfold stepM; rw [if_pos hab]]
  · exact w_Step1 (d + 1) hp hl a0 a1 b0 b1 va vb hab m

theorem at0_app {l : List Int} {x : Int} {k : Nat} : at0 (l ++ [x]) k = if k < l.length then at0 l k else if k = l.length then x else 0 := by
  unfold at0
  simp only [List.getD_eq_getElem?_getD]
  by_cases h : k < l.length
  · rw [if_pos h, List.getElem?_append_left h]
  · rw [if_neg h, List.getElem?_append_right (by omega)]
    by_cases h2 : k = l.length
    · rw [if_pos h2, h2]; simp
    · rw [if_neg h2, List.getElem?_eq_none (by simp; omega)]; rfl
theorem stepM_in (l : List Int) (a b : Int) : -2048 ≤ stepM l a b ∧ stepM l a b ≤ 2048 := by
  unfold stepM
  have h1 := wrapM_in (at0 l a.toNat - at0 l b.toNat)
  have h2 := wrapM_in (at0 l b.toNat - at0 l a.toNat)
  split <;> omega
def OutIn (k : Int) (out : List Int) : Prop := ∀ i, -(2048 * k) ≤ at0 out i ∧ at0 out i ≤ 2048 * k
theorem OutIn.app {k : Nat} {out : List Int} (h : OutIn k out) {x : Int} (h1 : -(2048 * ((k + 1 : Nat) : Int)) ≤ x) (h2 : x ≤ 2048 * ((k + 1 : Nat) : Int)) : OutIn ((k + 1 : Nat) : Int) (out ++ [x]) := by
  intro i
  rw [at0_app]
  have := h i
  split
  · omega
  · split <;> omega

theorem l_Along (d : Nat) (hs : FHs) {r c : Int} {p pa : AV} {ph path : List Int} (hp : Ints p ph) (hpa : Ints pa path) (hc : 1 ≤ c) (hc2 : c ≤ 64) (hl : ph.length ≤ 5000) (hw : PhIn ph) (hn : path.length ≤ 200) :
    ∀ (suf : List Int) (k j : Nat) (out : List Int) (o : AV) (m : Mem) (fc : Nat), path.drop k = suf → suf.length < j → out.length = k → OutIn k out → (0 < k → 0 ≤ at0 path (k - 1) ∧ at0 path (k - 1) < ph.length ∧ at0 ph (at0 path (k - 1)).toNat ≠ void) →
      m.get (0, 0, 2) = some (.row [I r, I c, p] 0 false) → Gq 1 intE 0 [53, 98] m o out →
    ∃ a m', x5g (callE (d + 3)) hs 0 j pa (.ptr (0, 0, 2) 0 0) o pa (I path.length) (I k) m fc = some (.tup [a, I (alongM ph c out (at0 path (k - 1)) suf).2], m') ∧ ∃ a', Ints a' (alongM ph c out (at0 path (k - 1)) suf).1 ∧ frz m'.get 5 a = some a' := by
  intro suf
  induction suf with
  | nil =>
    intro k j out o m fc hd hj ho hin hpv hg hG
    obtain ⟨j, rfl⟩ : ∃ i, j = i + 1 := ⟨j - 1, by simp at hj; omega⟩
    have hk0 := List.drop_eq_nil_iff.mp hd
    have hk : ¬ ((k : Int) < (path.length : Int)) := by omega
    simp only [x5g]
    unfold xcs
    simp [hk, x25, alongM]
    obtain ⟨a', h1, h2⟩ := hG.frz1 (k := 3) intE_len intE_still
    exact ⟨_, _, ⟨rfl, rfl⟩, a', h1, h2⟩
  | cons x rr ih =>
    intro k j out o m fc hd hj ho hin hpv hg hG
    obtain ⟨j, rfl⟩ : ∃ i, j = i + 1 := ⟨j - 1, by simp at hj; omega⟩
    obtain ⟨hk, hke, hd⟩ := drop_cons hd
    have hk' : (k : Int) < (path.length : Int) := by omega
    have ix := hpa.ix intE_len hk
    have e1 : at0 path k = x := by rw [at0_lt hk, hke]
    have err : ∀ e : Int, ∃ a', Ints a' ([] : List Int) ∧ frz m.get 5 nilS = some a' := fun e => ⟨nilS, Or.inl ⟨rfl, rfl⟩, rfl⟩
    simp only [x5g]
    unfold xcs xbo
    simp (disch := omega) [hk', ix, ld_int, e1, hg, hp.len u_ints, w_within, alongM]
    cases c1 : wi x 0 ((ph.length : Int) - 1)
    · simp
      exact ⟨_, _, ⟨rfl, rfl⟩, nilS, Or.inl ⟨rfl, rfl⟩, rfl⟩
    have hx := wi_t c1
    have ix2 := hp.ixI intE_len hx.1 (show x < ph.length by omega)
    have lx : x.toNat < ph.length := by omega
    simp (disch := omega) [hg, ix2, ld_int, w_isVoid]
    by_cases c2 : at0 ph x.toNat = void
    · simp [c2]
      exact ⟨_, _, ⟨rfl, rfl⟩, nilS, Or.inl ⟨rfl, rfl⟩, rfl⟩
    have hwx := hw x.toNat
    simp (disch := omega) [c2]
    by_cases c3 : k = 0
    · subst c3
      have ho2 : out = [] := List.length_eq_zero_iff.mp ho
      subst ho2
      obtain ⟨a', m', h2, h3, h4, h5⟩ := hG.app intE_len (by omega) (t0 := 53) (s0 := fc + 1 + 30) (bytes := 8) (by simp) (by unfold roomy; simp) (at0 ph x.toNat)
      have hel : elems m.get 1 (.slit [I (at0 ph x.toNat)] 1 true) = some (intE (at0 ph x.toNat), 1) := rfl
      have h6 := fun fc => ih 1 j [at0 ph x.toNat] a' m' fc hd (by simp at hj; omega) rfl (OutIn.app (k := 0) hin (by omega) (by omega)) (fun _ => by simp only [Nat.sub_self]; rw [e1]; exact ⟨hx.1, by omega, c2⟩) (by rw [h5 _ (by decide)]; exact hg) h3
      simp only [Nat.sub_self, e1] at h6
      simp (disch := omega) [hg, ix2, ld_int, z_ints, hel, h2, x2k]
      exact h6 _
    · have hpv' := hpv (by omega)
      have ix3 := hpa.ix (k := k - 1) intE_len (by omega)
      rw [show ((k - 1 : Nat) : Int) = (k : Int) - 1 by omega] at ix3
      have hne : out.isEmpty = false := by cases out with | nil => simp at ho; omega | cons => rfl
      simp (disch := omega) [c3, hg, ix3, ld_int, hne, w_isNeighbour]
      cases c4 : nbM c (at0 path (k - 1)) x
      · simp
        exact ⟨_, _, ⟨rfl, rfl⟩, nilS, Or.inl ⟨rfl, rfl⟩, rfl⟩
      simp (disch := omega) [ix3, ld_int]
      unfold xcr xbn
      obtain ⟨q, hq1, hq2⟩ := hG.atI (k := (k : Int) - 1) (by omega) (by omega)
      rw [show ((k : Int) - 1).toNat = k - 1 by omega] at hq2
      have hst := stepM_in ph (at0 path (k - 1)) x
      have hin1 := hin (k - 1)
      obtain ⟨a', m', h2', h3, h4, h5⟩ := hG.app1 (bytes := 8) intE_len (by omega) (by unfold roomy; omega) (by intro e; rw [e] at ho; simp at ho; omega) (at0 out (k - 1) + stepM ph (at0 path (k - 1)) x)
      have hel : ∀ v : Int, elems m.get 1 (.slit [I v] 1 true) = some (intE v, 1) := fun _ => rfl
      have h6 := fun fc => ih (k + 1) j _ a' m' fc hd (by simp at hj; omega) (by simp [ho]) (OutIn.app hin (by omega) (by omega)) (fun _ => by simp only [Nat.add_sub_cancel]; rw [e1]; exact ⟨hx.1, by omega, c2⟩) (by rw [h5 _ (by decide)]; exact hg) h3
      simp only [Nat.add_sub_cancel, e1] at h6
      rw [ho]
      have ix4 := hp.ixI intE_len hpv'.1 hpv'.2.1
      have hw2 := hw (at0 path (k - 1)).toNat
      have lx2 : (at0 path (k - 1)).toNat < ph.length := by omega
      have hw3 := wrapM_in (at0 ph (at0 path (k - 1)).toNat - at0 ph x.toNat)
      have hw4 := wrapM_in (at0 ph x.toNat - at0 ph (at0 path (k - 1)).toNat)
      by_cases c5 : x < at0 path (k - 1)
      · have e5 : stepM ph (at0 path (k - 1)) x = -wrapM (at0 ph (at0 path (k - 1)).toNat - at0 ph x.toNat) := by unfold stepM; rw [if_pos c5]
        rw [e5] at h2' h6 hst ⊢
        simp (disch := omega) [c5, hq1, hq2, hg, ix2, ix4, ld_int, w_wrapped, z_ints, hel, h2', x2k]
        exact h6 _
      · have e5 : stepM ph (at0 path (k - 1)) x = wrapM (at0 ph x.toNat - at0 ph (at0 path (k - 1)).toNat) := by unfold stepM; rw [if_neg c5]
        rw [e5] at h2' h6 hst ⊢
        simp (disch := omega) [c5, hq1, hq2, hg, ix2, ix4, ld_int, w_wrapped, z_ints, hel, h2', x2k]
        exact h6 _

theorem l_rAlong (d : Nat) (hs : FHs) {r c : Int} {p pa : AV} {ph path : List Int} (hp : Ints p ph) (hpa : Ints pa path) (hc : 1 ≤ c) (hc2 : c ≤ 64) (hl : ph.length ≤ 5000) (hw : PhIn ph) (hn : path.length ≤ 200) :
    ∀ (suf : List Int) (k j : Nat) (out : List Int) (o : AV) (m : Mem) (fc : Nat), path.drop k = suf → suf.length < j → out.length = k → OutIn k out → (0 < k → 0 ≤ at0 path (k - 1) ∧ at0 path (k - 1) < ph.length ∧ at0 ph (at0 path (k - 1)).toNat ≠ void) →
      m.get (0, 0, 2) = some (.row [I r, I c, p] 0 false) → Gq 1 intE 0 [43, 75] m o out →
    ∃ a m', x5h (callE (d + 4)) hs 0 j pa (.ptr (0, 0, 2) 0 0) o (I k) m fc = some (.tup [a, I (alongM ph c out (at0 path (k - 1)) suf).2], m') ∧ ∃ a', Ints a' (alongM ph c out (at0 path (k - 1)) suf).1 ∧ frz m'.get 5 a = some a' := by
  intro suf
  induction suf with
  | nil =>
    intro k j out o m fc hd hj ho hin hpv hg hG
    obtain ⟨j, rfl⟩ : ∃ i, j = i + 1 := ⟨j - 1, by simp at hj; omega⟩
    have hk0 := List.drop_eq_nil_iff.mp hd
    have hk : ¬ ((k : Int) < (path.length : Int)) := by omega
    simp only [x5h]
    unfold xcv
    simp [hk, hpa.len u_ints, x2z, alongM]
    obtain ⟨a', h1, h2⟩ := hG.frz1 (k := 3) intE_len intE_still
    exact ⟨_, _, ⟨rfl, rfl⟩, a', h1, h2⟩
  | cons x rr ih =>
    intro k j out o m fc hd hj ho hin hpv hg hG
    obtain ⟨j, rfl⟩ : ∃ i, j = i + 1 := ⟨j - 1, by simp at hj; omega⟩
    obtain ⟨hk, hke, hd⟩ := drop_cons hd
    have hk' : (k : Int) < (path.length : Int) := by omega
    have ix := hpa.ix intE_len hk
    have e1 : at0 path k = x := by rw [at0_lt hk, hke]
    simp only [x5h]
    unfold xcv xcu
    simp (disch := omega) [hk', hpa.len u_ints, ix, ld_int, e1, hg, hp.len u_ints, w_Within, alongM]
    cases c1 : wi x 0 ((ph.length : Int) - 1)
    · simp
      exact ⟨_, _, ⟨rfl, rfl⟩, nilS, Or.inl ⟨rfl, rfl⟩, rfl⟩
    have hx := wi_t c1
    have ix2 := hp.ixI intE_len hx.1 (show x < ph.length by omega)
    have lx : x.toNat < ph.length := by omega
    simp (disch := omega) [hg, ix2, ld_int, ix, e1]
    by_cases c2 : at0 ph x.toNat = void
    · simp [c2]
      exact ⟨_, _, ⟨rfl, rfl⟩, nilS, Or.inl ⟨rfl, rfl⟩, rfl⟩
    have hwx := hw x.toNat
    simp (disch := omega) [c2]
    by_cases c3 : k = 0
    · subst c3
      have ho2 : out = [] := List.length_eq_zero_iff.mp ho
      subst ho2
      obtain ⟨a', m', h2, h3, h4, h5⟩ := hG.app intE_len (by omega) (t0 := 43) (s0 := fc + 4 + 26) (bytes := 8) (by simp) (by unfold roomy; simp) (at0 ph x.toNat)
      have hel : elems m.get 1 (.slit [I (at0 ph x.toNat)] 1 true) = some (intE (at0 ph x.toNat), 1) := rfl
      have h6 := fun fc => ih 1 j [at0 ph x.toNat] a' m' fc hd (by simp at hj; omega) rfl (OutIn.app (k := 0) hin (by omega) (by omega)) (fun _ => by simp only [Nat.sub_self]; rw [e1]; exact ⟨hx.1, by omega, c2⟩) (by rw [h5 _ (by decide)]; exact hg) h3
      simp only [Nat.sub_self, e1] at h6
      simp (disch := omega) [hg, ix2, ld_int, z_ints, hel, h2, x9w]
      exact h6 _
    · have hpv' := hpv (by omega)
      have ix3 := hpa.ix (k := k - 1) intE_len (by omega)
      rw [show ((k - 1 : Nat) : Int) = (k : Int) - 1 by omega] at ix3
      have hne : out.isEmpty = false := by cases out with | nil => simp at ho; omega | cons => rfl
      simp (disch := omega) [c3, hg, ix3, ix, e1, ld_int, hne, w_neighbours _ hp]
      cases c4 : nbM c (at0 path (k - 1)) x
      · simp
        exact ⟨_, _, ⟨rfl, rfl⟩, nilS, Or.inl ⟨rfl, rfl⟩, rfl⟩
      obtain ⟨q, hq1, hq2⟩ := hG.atI (k := (k : Int) - 1) (by omega) (by omega)
      rw [show ((k : Int) - 1).toNat = k - 1 by omega] at hq2
      have hst := stepM_in ph (at0 path (k - 1)) x
      have hin1 := hin (k - 1)
      have wst := w_Step d (r := r) (c := c) hp hw hpv'.1 hpv'.2.1 hx.1 (show x < ph.length by omega) hpv'.2.2 c2
      obtain ⟨a', m', h2', h3, h4, h5⟩ := hG.app1 (bytes := 8) intE_len (by omega) (by unfold roomy; omega) (by intro e; rw [e] at ho; simp at ho; omega) (at0 out (k - 1) + stepM ph (at0 path (k - 1)) x)
      have hel : ∀ v : Int, elems m.get 1 (.slit [I v] 1 true) = some (intE v, 1) := fun _ => rfl
      have h6 := fun fc => ih (k + 1) j _ a' m' fc hd (by simp at hj; omega) (by simp [ho]) (OutIn.app hin (by omega) (by omega)) (fun _ => by simp only [Nat.add_sub_cancel]; rw [e1]; exact ⟨hx.1, by omega, c2⟩) (by rw [h5 _ (by decide)]; exact hg) h3
      simp only [Nat.add_sub_cancel, e1] at h6
      rw [ho]
      simp (disch := omega) [hq1, hq2, hg, ix, ix3, e1, ld_int, wst, z_ints, hel, h2', x9w, hp.clean1]
      exact h6 _

/-- The phases along a path, or the error. -/
def alongR (l : List Int) (c : Int) (path : List Int) : List Int × Int := bif decide (200 < (path.length : Int)) then ([], 8) else alongM l c [] 0 path
def alongP (r c : Int) (l : List Int) (path : List Int) : List Int × Int := bif decide (mapM1 isW r c l = 0) then alongR l c path else ([], mapM1 isW r c l)
theorem map_right {r c : Int} {l : List Int} {p : Int → Bool} (h : mapM1 p r c l = 0) : 1 ≤ r ∧ r ≤ 64 ∧ 1 ≤ c ∧ c ≤ 64 ∧ (l.length : Int) = r * c ∧ phasesM p l = 0 := by
  unfold mapM1 sizeM at h
  cases c1 : wi r 1 64
  · simp [c1] at h
  cases c2 : wi c 1 64
  · simp [c1, c2] at h
  by_cases c3 : (l.length : Int) = r * c
  · simp [c1, c2, c3] at h
    have a := wi_t c1
    have b := wi_t c2
    exact ⟨a.1, a.2, b.1, b.2, c3, h⟩
  · simp [c1, c2, c3] at h
theorem alongM_pv (l : List Int) (c v w : Int) : ∀ path, alongM l c [] v path = alongM l c [] w path
  | [] => rfl
  | x :: r => by simp [alongM]

theorem w_rAlong (d : Nat) {r c : Int} {p pa : AV} {ph path : List Int} (hp : Ints p ph) (hpa : Ints pa path) (hr : mapM1 isW r c ph = 0) (m : Mem) :
    ∃ a', Ints a' (alongR ph c path).1 ∧ sCall0 (callE (d + 5)) xx [.agg [I r, I c, p], pa] m = some (.tup [a', I (alongR ph c path).2], m) := by
  obtain ⟨r0, r1, c0, c1, hlen, hph⟩ := map_right hr
  have hl := mul64 (wi_iff.mpr ⟨r0, r1⟩) (wi_iff.mpr ⟨c0, c1⟩)
  by_cases h : 200 < (path.length : Int)
  · refine ⟨nilS, Or.inl ⟨rfl, by simp [alongR, h]⟩, ?_⟩
    refine Ans.call0_tup ?_ (by simp [hp.still1, hpa.still]) rfl
    unfold Ans
    rw [xqd]
    unfold x7d xcx
    simp [mem0, hp.one, hpa.len u_ints, h, alongR]
  · obtain ⟨a, m', h1, a', h2, h3⟩ := l_rAlong d [] (r := r) hp hpa c0 c1 (by omega) (phIn_of hph) (by omega) path 0 NN [] nilS ((⟨[], 1⟩ : Mem).new (0, 0, 2) (.row [I r, I c, p] 0 false)) 8 rfl (by rw [NN_eq]; omega) rfl (by intro i; simp [at0]) (by intro h; omega) (by simp) Gq.nil
    have e : alongR ph c path = alongM ph c [] (at0 path (0 - 1)) path := by
      unfold alongR
      simp [h]
      exact alongM_pv ..
    rw [e]
    refine ⟨a', h2, call0_frz (by simp [hp.still1, hpa.still]) (m' := m') (r := .tup [a, I (alongM ph c [] (at0 path (0 - 1)) path).2]) ?_ ?_⟩
    · rw [xqd]
      unfold x7d xcx xcw
      simp [mem0, hp.one, hpa.len u_ints, h]
      exact h1
    · show ([a, I (alongM ph c [] (at0 path (0 - 1)) path).2].mapM (frz m'.get 5)).map AV.tup = _
      simp only [List.mapM_cons, List.mapM_nil, h3]
      rfl
theorem w_pAlong (d : Nat) {r c : Int} {p pa : AV} {ph path : List Int} (hp : Ints p ph) (hpa : Ints pa path) (hl0 : ph.length < 1000000) (m : Mem) :
    ∃ a', Ints a' (alongP r c ph path).1 ∧ sCall0 (callE (d + 10)) xd [.agg [I r, I c, p], pa] m = some (.tup [a', I (alongP r c ph path).2], m) := by
  have wm := w_mapErr (d + 3) (r := r) (c := c) (tell_isWrapped (d + 2)) rfl rfl rfl hp hl0
  by_cases hr : mapM1 isW r c ph = 0
  rotate_left
  · refine ⟨nilS, Or.inl ⟨rfl, by simp [alongP, hr]⟩, ?_⟩
    refine Ans.call0_tup ?_ (by simp [hp.still1, hpa.still]) rfl
    unfold Ans
    rw [xf8]
    unfold x67 xbp
    simp [mem0, hp.one, hpa.len u_ints, hr, alongP, wm]
  obtain ⟨r0, r1, c0, c1, hlen, hph⟩ := map_right hr
  have hl := mul64 (wi_iff.mpr ⟨r0, r1⟩) (wi_iff.mpr ⟨c0, c1⟩)
  have e0 : alongP r c ph path = alongR ph c path := by simp [alongP, hr]
  rw [e0]
  by_cases h : 200 < (path.length : Int)
  · refine ⟨nilS, Or.inl ⟨rfl, by simp [alongR, h]⟩, ?_⟩
    refine Ans.call0_tup ?_ (by simp [hp.still1, hpa.still]) rfl
    unfold Ans
    rw [xf8]
    unfold x67 xbp
    simp [mem0, hp.one, hpa.len u_ints, h, hr, alongR, wm]
  · obtain ⟨a, m', h1, a', h2, h3⟩ := l_Along (d + 6) [] (r := r) hp hpa c0 c1 (by omega) (phIn_of hph) (by omega) path 0 NN [] nilS ((⟨[], 1⟩ : Mem).new (0, 0, 2) (.row [I r, I c, p] 0 false)) 15 rfl (by rw [NN_eq]; omega) rfl (by intro i; simp [at0]) (by intro h; omega) (by simp) Gq.nil
    have e : alongR ph c path = alongM ph c [] (at0 path (0 - 1)) path := by
      unfold alongR
      simp [h]
      exact alongM_pv ..
    rw [e]
    refine ⟨a', h2, call0_frz (by simp [hp.still1, hpa.still]) (m' := m') (r := .tup [a, I (alongM ph c [] (at0 path (0 - 1)) path).2]) ?_ ?_⟩
    · rw [xf8]
      unfold x67 xbp xct
      simp [mem0, hp.one, hpa.len u_ints, h, hr, wm]
      exact h1
    · show ([a, I (alongM ph c [] (at0 path (0 - 1)) path).2].mapM (frz m'.get 5)).map AV.tup = _
      simp only [List.mapM_cons, List.mapM_nil, h3]
      rfl

/-- Whether two lists are equal. -/
theorem l_Ints (d : Nat) (hs : FHs) {a b : AV} {l k : List Int} (ha : Ints a l) (hb : Ints b k) (he : l.length = k.length) (hl : l.length ≤ 1000000) : ∀ (suf suk : List Int) (i j : Nat) (m : Mem) (fc : Nat), l.drop i = suf → k.drop i = suk → suf.length < j →
    ∃ m', x5f (callE d) hs 0 j a b (I i) m fc = some (B (decide (suf = suk)), m') := by
  intro suf
  induction suf with
  | nil =>
    intro suk i j m fc hd hk hj
    obtain ⟨j, rfl⟩ : ∃ i, j = i + 1 := ⟨j - 1, by simp at hj; omega⟩
    have hd0 := List.drop_eq_nil_iff.mp hd
    have hsk : suk = [] := by rw [← hk]; exact List.drop_eq_nil_iff.mpr (by omega)
    have hi : ¬ ((i : Int) < (l.length : Int)) := by omega
    simp only [x5f]
    unfold xcn
    simp [ha.len u_ints, hi, x5e, hsk]
  | cons x r ih =>
    intro suk i j m fc hd hk hj
    obtain ⟨j, rfl⟩ : ∃ i, j = i + 1 := ⟨j - 1, by simp at hj; omega⟩
    obtain ⟨hi, hie, hd⟩ := drop_cons hd
    have hi2 : i < k.length := by omega
    have hk2 : suk = at0 k i :: k.drop (i + 1) := by rw [← hk, drop_get hi2, at0_lt hi2]
    have hi' : (i : Int) < (l.length : Int) := by omega
    have ix := ha.ix intE_len hi
    have ix2 := hb.ix intE_len hi2
    have e1 : at0 l i = x := by rw [at0_lt hi, hie]
    simp only [x5f]
    unfold xcn
    simp (disch := omega) [ha.len u_ints, hi', ix, ix2, ld_int, e1, hk2]
    by_cases c : x = at0 k i
    · obtain ⟨m', h'⟩ := ih _ (i + 1) j m (fc + 16) hd rfl (by simp at hj; omega)
      simp (disch := omega) [c]
      exact ⟨m', h'⟩
    · simp [c]
theorem w_Ints (d : Nat) {a b : AV} {l k : List Int} (ha : Ints a l) (hb : Ints b k) (hl : l.length ≤ 1000000) (m : Mem) : sCall0 (callE (d + 1)) x1h [a, b] m = some (B (decide (l = k)), m) := by
  refine Ans.call0 ?_ (by simp [ha.still, hb.still]) rfl
  unfold Ans
  rw [x11x]
  unfold x8m xfk xco
  by_cases he : l.length = k.length
  · obtain ⟨m', h'⟩ := l_Ints d [] ha hb he hl l k 0 NN ⟨[], 1⟩ 7 rfl rfl (by rw [NN_eq]; omega)
    simp [mem0, ha.len u_ints, hb.len u_ints, he]
    exact ⟨m', h'⟩
  · have : ¬ (l = k) := fun e => he (by rw [e])
    have he2 : ¬ ((l.length : Int) = (k.length : Int)) := by omega
    simp [mem0, ha.len u_ints, hb.len u_ints, he2, this]

theorem alongM_len (l : List Int) (c : Int) : ∀ (path out : List Int) (pv : Int), (alongM l c out pv path).1.length ≤ out.length + path.length
  | [], out, pv => by simp [alongM]
  | x :: r, out, pv => by
    unfold alongM
    cases wi x 0 ((l.length : Int) - 1) <;> simp only [Bool.not_false, Bool.not_true, cond_true, cond_false, List.length_nil, List.length_cons]
    · omega
    cases decide (at0 l x.toNat = void) <;> simp only [cond_true, cond_false, List.length_nil]
    · cases e : out.isEmpty <;> simp only [cond_true, cond_false]
      · cases nbM c pv x <;> simp only [Bool.not_false, Bool.not_true, cond_true, cond_false, List.length_nil]
        · omega
        · have := alongM_len l c r (out ++ [at0 out (out.length - 1) + stepM l pv x]) x
          simp at this
          omega
      · have := alongM_len l c r [at0 l x.toNat] x
        simp at this
        omega
    · omega

theorem law_UnwrapAlong {r c : Int} {p pa : AV} {ph path : List Int} (hp : Ints p ph) (hpa : Ints pa path) : ∃ m', callE 31 [] x18 [.agg [I r, I c, p], pa] mem0 = some (B true, m') := by
  rw [x11n]
  unfold x8c xfa
  simp [mem0, hp.one, w_awake, hp.len u_ints, hpa.len u_ints]
  by_cases c1 : 70 < (ph.length : Int)
  · simp [c1]
  simp [c1, hpa.len u_ints]
  by_cases c2 : (30 < (path.length : Int) ∧ (path.length : Int) ≤ 200) ∨ 202 < (path.length : Int)
  · rcases c2 with ⟨h1, h2⟩ | h2
    · simp [h1, h2, hpa.len u_ints]
    · have h1 : 30 < (path.length : Int) := by omega
      have h3 : ¬ ((path.length : Int) ≤ 200) := by omega
      simp [h1, h2, h3, hpa.len u_ints]
  have hle : (path.length : Int) ≤ 202 := by omega
  obtain ⟨p', hp', hcm⟩ := w_CopyMap 28 (r := r) (c := c) hp (by omega) ((⟨[], 1⟩ : Mem).new (0, 0, 2) (.row [I r, I c, p] 0 false))
  obtain ⟨pa', hpa', hci⟩ := w_CopyInts 29 hpa (by omega) ((⟨[], 1⟩ : Mem).new (0, 0, 2) (.row [I r, I c, p] 0 false))
  obtain ⟨x', hx', hal⟩ := w_pAlong 20 (r := r) (c := c) hp' hpa' (by omega) ((⟨[], 1⟩ : Mem).new (0, 0, 2) (.row [I r, I c, p] 0 false))
  have hwe := w_WrappedErr 26 (r := r) (c := c) hp (by omega)
  have main : ∃ m', xbf (callE 30) [] 0 pa (.ptr (0, 0, 2) 0 0) x' (I (alongP r c ph path).2) (I (mapM1 isW r c ph)) nilS ((⟨[], 1⟩ : Mem).new (0, 0, 2) (.row [I r, I c, p] 0 false)) 37 = some (B true, m') := by
    unfold xbf
    by_cases hr : mapM1 isW r c ph = 0
    · obtain ⟨y', hy', hra⟩ := w_rAlong 25 hp hpa hr ((⟨[], 1⟩ : Mem).new (0, 0, 2) (.row [I r, I c, p] 0 false))
      have e0 : alongP r c ph path = alongR ph c path := by simp [alongP, hr]
      rw [e0] at hx' ⊢
      have hxl : (alongR ph c path).1.length ≤ 1000000 := by
        have := alongM_len ph c path [] 0
        unfold alongR
        cases decide (200 < (path.length : Int)) <;> simp at this ⊢
        omega
      simp [hr, hra, x9p, w_Ints 29 hx' hy' hxl]
    · have e0 : alongP r c ph path = ([], mapM1 isW r c ph) := by simp [alongP, hr]
      rw [e0] at hx' ⊢
      have hn : Ints nilS ([] : List Int) := Or.inl ⟨rfl, rfl⟩
      simp [hr, x9p, w_Ints 29 hx' hn (by simp)]
  by_cases h1 : 30 < (path.length : Int)
  · have h3 : ¬ ((path.length : Int) ≤ 200) := by omega
    have h2 : ¬ (202 < (path.length : Int)) := by omega
    simp [h1, h2, h3, hpa.len u_ints, hcm, hci, hal, hwe]
    exact main
  · have h2 : ¬ (202 < (path.length : Int)) := by omega
    simp [h1, h2, hpa.len u_ints, hcm, hci, hal, hwe]
    exact main

end Go.Ix
