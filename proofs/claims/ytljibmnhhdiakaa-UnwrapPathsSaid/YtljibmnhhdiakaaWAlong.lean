import Derived.Test.YtljibmnhhdiakaaWMap
import Derived.Test.YtljibmnhhdiakaaWAwake5
set_option linter.unusedSimpArgs false
namespace Go.Ix
open Go.Proofs
def nbM (c a b : Int) : Bool := (decide (((a - b).natAbs : Int) = c) && decide (a % c = b % c)) || (decide (((a - b).natAbs : Int) = 1) && decide (a / c = b / c))
def x1fn (l : List Int) (a b : Int) : Int := if b < a then -(x1fu (at0 l a.toNat - at0 l b.toNat)) else x1fu (at0 l b.toNat - at0 l a.toNat)
def x1fd (l : List Int) (c : Int) : List Int → Int → List Int → List Int × Int
  | out, _, [] => (out, 0)
  | out, pv, at' :: r =>
    bif !(wi at' 0 ((l.length : Int) - 1)) then ([], 6)
    else bif decide (at0 l at'.toNat = void) then ([], 31)
    else bif out.isEmpty then x1fd l c [at0 l at'.toNat] at' r
    else bif !(nbM c pv at') then ([], 14)
    else x1fd l c (out ++ [at0 out (out.length - 1) + x1fn l pv at']) at' r
theorem x1t3 (d : Nat) {c a b : Int} (hc : 1 ≤ c) (hc2 : c ≤ 64) (a0 : 0 ≤ a) (a1 : a ≤ 5000) (b0 : 0 ≤ b) (b1 : b ≤ 5000) (m : Mem) : x1e8 (x1e6 (d + 2)) x46 [I c, I a, I b] m = some (B (nbM c a b), m) := by
  refine Ans.call0 ?_ rfl rfl
  unfold Ans
  rw [xsd]
  unfold x7e xen
  have q1 : a.tdiv c = a / c := Int.tdiv_eq_ediv_of_nonneg a0
  have q2 : b.tdiv c = b / c := Int.tdiv_eq_ediv_of_nonneg b0
  have r1 : a.tmod c = a % c := Int.tmod_eq_emod_of_nonneg a0
  have r2 : b.tmod c = b % c := Int.tmod_eq_emod_of_nonneg b0
  have p1 : 0 ≤ a / c := Int.ediv_nonneg a0 (by omega)
  have p2 : a / c ≤ a := Int.ediv_le_self _ a0
  have p3 : 0 ≤ b / c := Int.ediv_nonneg b0 (by omega)
  have p4 : b / c ≤ b := Int.ediv_le_self _ b0
  unfold nbM
  have hs := fun m => w_size d (a - b) m (by omega) (by omega)
  have hw : w64 (a - b) = a - b := x1f1 (by omega) (by omega)
  generalize ((a - b).natAbs : Int) = x at hs ⊢
  simp [mem0, hw, hs]
  by_cases c1 : x = c
  · subst c1
    by_cases c2 : a % x = b % x
    · simp (disch := omega) [x1l0, r1, r2, c2]
    · by_cases c3 : x = 1
      · subst c3
        omega
      · simp (disch := omega) [x1l0, r1, r2, c2, c3, hs, hw]
  · by_cases c3 : x = 1
    · subst c3
      simp (disch := omega) [c1, x1lw, q1, q2, hs, hw]
    · simp (disch := omega) [c1, c3, hs, hw]
def PhIn (l : List Int) : Prop := ∀ k, at0 l k = void ∨ (-2048 ≤ at0 l k ∧ at0 l k ≤ 2047)
theorem x1kc {l : List Int} (h : x1fr isW l = 0) : PhIn l := by
  intro k
  unfold x1fr at h
  cases e : l.any (badP isW)
  · rw [List.any_eq_false] at e
    by_cases hk : k < l.length
    · have := e l[k] (List.getElem_mem hk)
      rw [x1eu hk]
      unfold badP at this
      by_cases c : l[k] = void
      · exact Or.inl c
      · right
        simp [c] at this
        exact wi_t this
    · right
      unfold at0
      rw [List.getD_eq_getElem?_getD, List.getElem?_eq_none (by omega)]
      simp
  · rw [e] at h; cases h
theorem at0_app {l : List Int} {x : Int} {k : Nat} : at0 (l ++ [x]) k = if k < l.length then at0 l k else if k = l.length then x else 0 := by
  unfold at0
  simp only [List.getD_eq_getElem?_getD]
  by_cases h : k < l.length
  · rw [if_pos h, List.getElem?_append_left h]
  · rw [if_neg h, List.getElem?_append_right (by omega)]
    by_cases h2 : k = l.length
    · rw [if_pos h2, h2]; simp
    · rw [if_neg h2, List.getElem?_eq_none (by simp; omega)]; rfl
theorem stepM_in (l : List Int) (a b : Int) : -2048 ≤ x1fn l a b ∧ x1fn l a b ≤ 2048 := by
  unfold x1fn
  have h1 := x1iu (at0 l a.toNat - at0 l b.toNat)
  have h2 := x1iu (at0 l b.toNat - at0 l a.toNat)
  split <;> omega
def OutIn (k : Int) (out : List Int) : Prop := ∀ i, -(2048 * k) ≤ at0 out i ∧ at0 out i ≤ 2048 * k
theorem OutIn.app {k : Nat} {out : List Int} (h : OutIn k out) {x : Int} (h1 : -(2048 * ((k + 1 : Nat) : Int)) ≤ x) (h2 : x ≤ 2048 * ((k + 1 : Nat) : Int)) : OutIn ((k + 1 : Nat) : Int) (out ++ [x]) := by
  intro i
  rw [at0_app]
  have := h i
  split
  · omega
  · split <;> omega
theorem l_Along (d : Nat) (hs : FHs) {r c : Int} {p pa : AV} {ph path : List Int} (hp : Ints p ph) (hpa : Ints pa path) (hc : 1 ≤ c) (hc2 : c ≤ 64) (hl : ph.length ≤ 5000) (hw : PhIn ph) (hn : path.length ≤ 200) :
    ∀ (suf : List Int) (k j : Nat) (out : List Int) (o : AV) (m : Mem) (fc : Nat), path.drop k = suf → suf.length < j → out.length = k → OutIn k out → (0 < k → 0 ≤ at0 path (k - 1) ∧ at0 path (k - 1) < ph.length ∧ at0 ph (at0 path (k - 1)).toNat ≠ void) →
      m.get (0, 0, 2) = some (.row [I r, I c, p] 0 false) → Gq 1 intE 0 [53, 98] m o out →
    ∃ a m', x2k (x1e6 (d + 3)) hs 0 j pa (.ptr (0, 0, 2) 0 0) o pa (I path.length) (I k) m fc = some (.tup [a, I (x1fd ph c out (at0 path (k - 1)) suf).2], m') ∧ ∃ a', Ints a' (x1fd ph c out (at0 path (k - 1)) suf).1 ∧ frz m'.get 5 a = some a' := by
  intro suf
  induction suf with
  | nil =>
    intro k j out o m fc hd hj ho hin hpv hg hG
    obtain ⟨j, rfl⟩ : ∃ i, j = i + 1 := ⟨j - 1, by simp at hj; omega⟩
    have hk0 := List.drop_eq_nil_iff.mp hd
    have hk : ¬ ((k : Int) < (path.length : Int)) := by omega
    simp only [x2k]
    unfold x9n
    simp [hk, xm, x1fd]
    obtain ⟨a', h1, h2⟩ := hG.frz1 (k := 3) x1et x1j6
    exact ⟨_, _, ⟨rfl, rfl⟩, a', h1, h2⟩
  | cons x rr ih =>
    intro k j out o m fc hd hj ho hin hpv hg hG
    obtain ⟨j, rfl⟩ : ∃ i, j = i + 1 := ⟨j - 1, by simp at hj; omega⟩
    obtain ⟨hk, hke, hd⟩ := x1fp hd
    have hk' : (k : Int) < (path.length : Int) := by omega
    have ix := hpa.ix x1et hk
    have e1 : at0 path k = x := by rw [x1eu hk, hke]
    have err : ∀ e : Int, ∃ a', Ints a' ([] : List Int) ∧ frz m.get 5 nilS = some a' := fun e => ⟨nilS, Or.inl ⟨rfl, rfl⟩, rfl⟩
    simp only [x2k]
    unfold x9n x7z
    simp (disch := omega) [hk', ix, x1f5, e1, hg, hp.len x1ej, x1lz, x1fd]
    cases c1 : wi x 0 ((ph.length : Int) - 1)
    · simp
      exact ⟨_, _, ⟨rfl, rfl⟩, nilS, Or.inl ⟨rfl, rfl⟩, rfl⟩
    have hx := wi_t c1
    have ix2 := hp.ixI x1et hx.1 (show x < ph.length by omega)
    have lx : x.toNat < ph.length := by omega
    simp (disch := omega) [hg, ix2, x1f5, x1jb]
    by_cases c2 : at0 ph x.toNat = void
    · simp [c2]
      exact ⟨_, _, ⟨rfl, rfl⟩, nilS, Or.inl ⟨rfl, rfl⟩, rfl⟩
    have hwx := hw x.toNat
    simp (disch := omega) [c2]
    by_cases c3 : k = 0
    · subst c3
      have ho2 : out = [] := List.length_eq_zero_iff.mp ho
      subst ho2
      obtain ⟨a', m', h2, h3, h4, h5⟩ := hG.app x1et (by omega) (t0 := 53) (s0 := fc + 1 + 30) (bytes := 8) (by simp) (by unfold x1em; simp) (at0 ph x.toNat)
      have hel : elems m.get 1 (.slit [I (at0 ph x.toNat)] 1 true) = some (intE (at0 ph x.toNat), 1) := rfl
      have h6 := fun fc => ih 1 j [at0 ph x.toNat] a' m' fc hd (by simp at hj; omega) rfl (OutIn.app (k := 0) hin (by omega) (by omega)) (fun _ => by simp only [Nat.sub_self]; rw [e1]; exact ⟨hx.1, by omega, c2⟩) (by rw [h5 _ (by decide)]; exact hg) h3
      simp only [Nat.sub_self, e1] at h6
      simp (disch := omega) [hg, ix2, x1f5, x1gc, hel, h2, xu]
      exact h6 _
    · have hpv' := hpv (by omega)
      have ix3 := hpa.ix (k := k - 1) x1et (by omega)
      rw [show ((k - 1 : Nat) : Int) = (k : Int) - 1 by omega] at ix3
      have hne : out.isEmpty = false := by cases out with | nil => simp at ho; omega | cons => rfl
      simp (disch := omega) [c3, hg, ix3, x1f5, hne, x1t3]
      cases c4 : nbM c (at0 path (k - 1)) x
      · simp
        exact ⟨_, _, ⟨rfl, rfl⟩, nilS, Or.inl ⟨rfl, rfl⟩, rfl⟩
      simp (disch := omega) [ix3, x1f5]
      unfold x9m x7y
      obtain ⟨q, hq1, hq2⟩ := hG.atI (k := (k : Int) - 1) (by omega) (by omega)
      rw [show ((k : Int) - 1).toNat = k - 1 by omega] at hq2
      have hst := stepM_in ph (at0 path (k - 1)) x
      have hin1 := hin (k - 1)
      obtain ⟨a', m', h2', h3, h4, h5⟩ := hG.app1 (bytes := 8) x1et (by omega) (by unfold x1em; omega) (by intro e; rw [e] at ho; simp at ho; omega) (at0 out (k - 1) + x1fn ph (at0 path (k - 1)) x)
      have hel : ∀ v : Int, elems m.get 1 (.slit [I v] 1 true) = some (intE v, 1) := fun _ => rfl
      have h6 := fun fc => ih (k + 1) j _ a' m' fc hd (by simp at hj; omega) (by simp [ho]) (OutIn.app hin (by omega) (by omega)) (fun _ => by simp only [Nat.add_sub_cancel]; rw [e1]; exact ⟨hx.1, by omega, c2⟩) (by rw [h5 _ (by decide)]; exact hg) h3
      simp only [Nat.add_sub_cancel, e1] at h6
      rw [ho]
      have ix4 := hp.ixI x1et hpv'.1 hpv'.2.1
      have hw2 := hw (at0 path (k - 1)).toNat
      have lx2 : (at0 path (k - 1)).toNat < ph.length := by omega
      have hw3 := x1iu (at0 ph (at0 path (k - 1)).toNat - at0 ph x.toNat)
      have hw4 := x1iu (at0 ph x.toNat - at0 ph (at0 path (k - 1)).toNat)
      by_cases c5 : x < at0 path (k - 1)
      · have e5 : x1fn ph (at0 path (k - 1)) x = -x1fu (at0 ph (at0 path (k - 1)).toNat - at0 ph x.toNat) := by unfold x1fn; rw [if_pos c5]
        rw [e5] at h2' h6 hst ⊢
        simp (disch := omega) [c5, hq1, hq2, hg, ix2, ix4, x1f5, x1ma, x1gc, hel, h2', xu]
        exact h6 _
      · have e5 : x1fn ph (at0 path (k - 1)) x = x1fu (at0 ph x.toNat - at0 ph (at0 path (k - 1)).toNat) := by unfold x1fn; rw [if_neg c5]
        rw [e5] at h2' h6 hst ⊢
        simp (disch := omega) [c5, hq1, hq2, hg, ix2, ix4, x1f5, x1ma, x1gc, hel, h2', xu]
        exact h6 _
def x1jc (l : List Int) (c : Int) (path : List Int) : List Int × Int := bif decide (200 < (path.length : Int)) then ([], 8) else x1fd l c [] 0 path
def x1hx (r c : Int) (l : List Int) (path : List Int) : List Int × Int := bif decide (x1gd isW r c l = 0) then x1jc l c path else ([], x1gd isW r c l)
theorem x1mb {r c : Int} {l : List Int} {p : Int → Bool} (h : x1gd p r c l = 0) : 1 ≤ r ∧ r ≤ 64 ∧ 1 ≤ c ∧ c ≤ 64 ∧ (l.length : Int) = r * c ∧ x1fr p l = 0 := by
  unfold x1gd x1g4 at h
  cases c1 : wi r 1 64
  · simp [c1] at h
  cases c2 : wi c 1 64
  · simp [c1, c2] at h
  by_cases c3 : (l.length : Int) = r * c
  · simp [c1, c2, c3] at h
    have a := wi_t c1
    have b := wi_t c2
    exact ⟨a.1, a.2, b.1, b.2, c3, h⟩
  · simp [c1, c2, c3] at h
theorem alongM_pv (l : List Int) (c v w : Int) : ∀ path, x1fd l c [] v path = x1fd l c [] w path
  | [] => rfl
  | x :: r => by simp [x1fd]
theorem w_pAlong (d : Nat) {r c : Int} {p pa : AV} {ph path : List Int} (hp : Ints p ph) (hpa : Ints pa path) (hl0 : ph.length < 1000000) (m : Mem) :
    ∃ a', Ints a' (x1hx r c ph path).1 ∧ x1e8 (x1e6 (d + 10)) x32 [.agg [I r, I c, p], pa] m = some (.tup [a', I (x1hx r c ph path).2], m) := by
  have wm := w_mapErr (d + 3) (r := r) (c := c) (x1qz (d + 2)) rfl rfl rfl hp hl0
  by_cases hr : x1gd isW r c ph = 0
  rotate_left
  · refine ⟨nilS, Or.inl ⟨rfl, by simp [x1hx, hr]⟩, ?_⟩
    refine Ans.call0_tup ?_ (by simp [hp.still1, hpa.still]) rfl
    unfold Ans
    rw [xda]
    unfold x42 x80
    simp [mem0, hp.one, hpa.len x1ej, hr, x1hx, wm]
  obtain ⟨r0, r1, c0, c1, hlen, hph⟩ := x1mb hr
  have hl := x1ja (wi_iff.mpr ⟨r0, r1⟩) (wi_iff.mpr ⟨c0, c1⟩)
  have e0 : x1hx r c ph path = x1jc ph c path := by simp [x1hx, hr]
  rw [e0]
  by_cases h : 200 < (path.length : Int)
  · refine ⟨nilS, Or.inl ⟨rfl, by simp [x1jc, h]⟩, ?_⟩
    refine Ans.call0_tup ?_ (by simp [hp.still1, hpa.still]) rfl
    unfold Ans
    rw [xda]
    unfold x42 x80
    simp [mem0, hp.one, hpa.len x1ej, h, hr, x1jc, wm]
  · obtain ⟨a, m', h1, a', h2, h3⟩ := l_Along (d + 6) [] (r := r) hp hpa c0 c1 (by omega) (x1kc hph) (by omega) path 0 NN [] nilS ((⟨[], 1⟩ : Mem).new (0, 0, 2) (.row [I r, I c, p] 0 false)) 15 rfl (by rw [x1f2]; omega) rfl (by intro i; simp [at0]) (by intro h; omega) (by simp) Gq.nil
    have e : x1jc ph c path = x1fd ph c [] (at0 path (0 - 1)) path := by
      unfold x1jc
      simp [h]
      exact alongM_pv ..
    rw [e]
    refine ⟨a', h2, x1j5 (by simp [hp.still1, hpa.still]) (m' := m') (r := .tup [a, I (x1fd ph c [] (at0 path (0 - 1)) path).2]) ?_ ?_⟩
    · rw [xda]
      unfold x42 x80 x9o
      simp [mem0, hp.one, hpa.len x1ej, h, hr, wm]
      exact h1
    · show ([a, I (x1fd ph c [] (at0 path (0 - 1)) path).2].mapM (frz m'.get 5)).map AV.tup = _
      simp only [List.mapM_cons, List.mapM_nil, h3]
      rfl
end Go.Ix
