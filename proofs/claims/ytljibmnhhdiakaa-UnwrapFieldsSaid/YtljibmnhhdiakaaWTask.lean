/- Tasks: their errors and their nets. -/
import Derived.Test.YtljibmnhhdiakaaWConcat
import Derived.Test.YtljibmnhhdiakaaWAlong
set_option linter.unusedSimpArgs false
set_option linter.unusedVariables false
namespace Go.Ix
open Go.Proofs

def wErrM (l : List Int) : Int := bif l.any (fun x => !(wi x 0 1000)) then 2 else 0
/-- The error of a task. -/
def taskM (r c : Int) (ph ac dn : List Int) : Int :=
  bif !decide (sizeM r c ph.length = 0) then sizeM r c ph.length
  else bif decide (144 < (ph.length : Int)) then 8
  else bif !decide (phasesM isW ph = 0) then phasesM isW ph
  else bif !decide ((ac.length : Int) = r * (c - 1)) || !decide ((dn.length : Int) = (r - 1) * c) then 10
  else wErrM (ac ++ dn)
theorem wErrM_cons (x : Int) (r : List Int) : wErrM (x :: r) = bif !(wi x 0 1000) then 2 else wErrM r := by
  unfold wErrM
  rw [List.any_cons]
  cases wi x 0 1000 <;> rfl
theorem wErrM_app (k l : List Int) : wErrM (k ++ l) = bif !decide (wErrM k = 0) then wErrM k else wErrM l := by
  unfold wErrM
  rw [List.any_append]
  cases k.any (fun x => !(wi x 0 1000)) <;> simp

theorem l_pCheckTask (d : Nat) (hs : FHs) {a : AV} {l : List Int} (h : Ints a l) (hb : l.length ≤ 1000000) : ∀ (suf : List Int) (k j : Nat) (m : Mem) (fc : Nat), l.drop k = suf → suf.length < j →
    ∃ m', x5b (callE (d + 2)) hs 0 j a (I l.length) (I k) m fc = some (I (wErrM suf), m') := by
  intro suf
  induction suf with
  | nil =>
    intro k j m fc hd hj
    obtain ⟨j, rfl⟩ : ∃ i, j = i + 1 := ⟨j - 1, by simp at hj; omega⟩
    have hk : ¬ ((k : Int) < (l.length : Int)) := by have := List.drop_eq_nil_iff.mp hd; omega
    simp only [x5b]
    unfold xcg
    simp [hk, x5a, wErrM]
  | cons x r ih =>
    intro k j m fc hd hj
    obtain ⟨j, rfl⟩ : ∃ i, j = i + 1 := ⟨j - 1, by simp at hj; omega⟩
    obtain ⟨hk, hke, hd⟩ := drop_cons hd
    have hk' : (k : Int) < (l.length : Int) := by omega
    have ix := h.ix intE_len hk
    have e1 : at0 l k = x := by rw [at0_lt hk, hke]
    have ih' := fun m fc => ih (k + 1) j m fc hd (by simp at hj; omega)
    simp only [x5b, wErrM_cons]
    unfold xcg
    simp (disch := omega) [hk', ix, ld_int, e1, w_isWeight]
    cases c : wi x 0 1000
    · simp
    · simp (disch := omega)
      exact ih' _ _

theorem w_pCheckTask (d : Nat) {r c : Int} {p a b : AV} {ph ac dn : List Int} (hp : Ints p ph) (ha : Ints a ac) (hb : Ints b dn) (hl : ph.length ≤ 300000) (h1 : ac.length ≤ 300000) (h2 : dn.length ≤ 300000) (m : Mem) :
    sCall0 (callE (d + 9)) xk [.agg [I r, I c, p, a, b]] m = some (I (taskM r c ph ac dn), m) := by
  refine Ans.call0 ?_ (by simp [hp.still1, ha.still1, hb.still1]) rfl
  unfold Ans
  rw [x11v]
  unfold x8k xfi
  have wm := w_phasesErr (d + 3) (r := r) (c := c) (tell_isWrapped (d + 2)) rfl rfl rfl hp (show ph.length < 1000000 by omega)
  simp [mem0, hp.one, ha.one, hb.one, hp.len u_ints, w_sizeErr, z_map]
  by_cases c1 : sizeM r c ph.length = 0
  rotate_left
  · simp [taskM, c1]
  have hsz : mapM1 (fun _ => true) r c ph = 0 := by
    unfold mapM1 phasesM
    simp [c1]
    cases e : ph.any (badP fun _ => true)
    · rfl
    · exfalso
      rw [List.any_eq_true] at e
      obtain ⟨x, -, hx⟩ := e
      simp [badP] at hx
  obtain ⟨r0, r1, c0, c2, hlen, -⟩ := map_right hsz
  have hrc := mul64 (wi_iff.mpr ⟨r0, r1⟩) (wi_iff.mpr ⟨c0, c2⟩)
  simp [c1]
  by_cases c3 : 144 < (ph.length : Int)
  · simp [taskM, c1, c3]
  simp [c3, wm]
  by_cases c4 : phasesM isW ph = 0
  rotate_left
  · simp [taskM, c1, c3, c4]
  have e1 : r * (c - 1) = r * c - r := by rw [Int.mul_sub]; omega
  have e2 : (r - 1) * c = r * c - c := by rw [Int.sub_mul]; omega
  simp (disch := omega) [c4, ha.len u_ints, hb.len u_ints]
  by_cases c5 : (ac.length : Int) = r * (c - 1)
  rotate_left
  · simp [taskM, c1, c3, c4, c5]
  simp (disch := omega) [c5, ha.len u_ints, hb.len u_ints, taskM, c1, c3, c4]
  by_cases c6 : (dn.length : Int) = (r - 1) * c
  rotate_left
  · simp [c6]
  simp [c6]
  unfold xch
  obtain ⟨cc, hcc, hC⟩ := w_Concat (d + 6) ha hb h1 h2 (((((⟨[], 1⟩ : Mem).new (0, 0, 1) (.row [I r, I c, p, a, b] 0 false)).new (0, 4, 3) (.row [I 0, I 0, nilS] 0 false)).set (0, 4, 3) (.row [I r, I c, p] 0 false)))
  obtain ⟨m', hm'⟩ := l_pCheckTask (d + 6) [] hcc (by simp; omega) (ac ++ dn) 0 NN (((((⟨[], 1⟩ : Mem).new (0, 0, 1) (.row [I r, I c, p, a, b] 0 false)).new (0, 4, 3) (.row [I 0, I 0, nilS] 0 false)).set (0, 4, 3) (.row [I r, I c, p] 0 false))) 56 rfl (by rw [NN_eq]; simp; omega)
  have hml : ∀ (id : Id) (m : Mem) (k : AV → Mem → Option (AV × Mem)), sMkLit x2y [(0, 1, a), (1, 1, b)] 2 1 id m k = k (.slit [a, b] 2 true) m := by
    intro id m k
    simp [sMkLit, sFill, zeros, z_slint, ha.cells, hb.cells, ha.one, hb.one, ha.clean1, hb.clean1, List.range_succ, splice]
  simp [hml, hC, hcc.len u_ints]
  refine ⟨m', ?_⟩
  simpa using hm'

theorem l_rCheckTask0 (d : Nat) (hs : FHs) {r c : Int} {p a b : AV} {l : List Int} (h : Ints b l) (hb : l.length ≤ 1000000) : ∀ (suf : List Int) (k j : Nat) (m : Mem) (fc : Nat), l.drop k = suf → suf.length < j → m.get (0, 0, 1) = some (.row [I r, I c, p, a, b] 0 false) →
    ∃ m', x58 (callE (d + 1)) hs 0 j (.ptr (0, 0, 1) 0 0) (I k) m fc = some (I (wErrM suf), m') := by
  intro suf
  induction suf with
  | nil =>
    intro k j m fc hd hj hg
    obtain ⟨j, rfl⟩ : ∃ i, j = i + 1 := ⟨j - 1, by simp at hj; omega⟩
    have hk : ¬ ((k : Int) < (l.length : Int)) := by have := List.drop_eq_nil_iff.mp hd; omega
    simp only [x58]
    unfold xcd
    simp [hg, h.len u_ints, hk, x57, wErrM]
  | cons x r ih =>
    intro k j m fc hd hj hg
    obtain ⟨j, rfl⟩ : ∃ i, j = i + 1 := ⟨j - 1, by simp at hj; omega⟩
    obtain ⟨hk, hke, hd⟩ := drop_cons hd
    have hk' : (k : Int) < (l.length : Int) := by omega
    have ix := h.ix intE_len hk
    have e1 : at0 l k = x := by rw [at0_lt hk, hke]
    have ih' := fun fc => ih (k + 1) j m fc hd (by simp at hj; omega) hg
    simp only [x58, wErrM_cons]
    unfold xcd
    simp (disch := omega) [hg, h.len u_ints, hk', ix, ld_int, e1, w_Within]
    cases c : wi x 0 1000
    · simp
    · simp (disch := omega)
      exact ih' _
theorem l_rCheckTask1 (d : Nat) (hs : FHs) {r c : Int} {p a b : AV} {l k0 : List Int} (h : Ints a l) (h2 : Ints b k0) (hb : l.length ≤ 1000000) (hb2 : k0.length ≤ 1000000) : ∀ (suf : List Int) (k j : Nat) (m : Mem) (fc : Nat), l.drop k = suf → suf.length < j → m.get (0, 0, 1) = some (.row [I r, I c, p, a, b] 0 false) →
    ∃ m', x59 (callE (d + 1)) hs 0 j (.ptr (0, 0, 1) 0 0) (I k) m fc = some (I (wErrM (suf ++ k0)), m') := by
  intro suf
  induction suf with
  | nil =>
    intro k j m fc hd hj hg
    obtain ⟨j, rfl⟩ : ∃ i, j = i + 1 := ⟨j - 1, by simp at hj; omega⟩
    have hk : ¬ ((k : Int) < (l.length : Int)) := by have := List.drop_eq_nil_iff.mp hd; omega
    obtain ⟨m', h'⟩ := l_rCheckTask0 d hs h2 hb2 k0 0 NN m (fc + 5 + 1) rfl (by rw [NN_eq]; omega) hg
    simp only [x59]
    unfold xce
    simp [hg, h.len u_ints, hk, x4f]
    exact ⟨m', h'⟩
  | cons x r ih =>
    intro k j m fc hd hj hg
    obtain ⟨j, rfl⟩ : ∃ i, j = i + 1 := ⟨j - 1, by simp at hj; omega⟩
    obtain ⟨hk, hke, hd⟩ := drop_cons hd
    have hk' : (k : Int) < (l.length : Int) := by omega
    have ix := h.ix intE_len hk
    have e1 : at0 l k = x := by rw [at0_lt hk, hke]
    have ih' := fun fc => ih (k + 1) j m fc hd (by simp at hj; omega) hg
    simp only [x59, List.cons_append, wErrM_cons]
    unfold xce
    simp (disch := omega) [hg, h.len u_ints, hk', ix, ld_int, e1, w_Within]
    cases c : wi x 0 1000
    · simp
    · simp (disch := omega)
      exact ih' _
theorem w_rCheckTask (d : Nat) {r c : Int} {p a b : AV} {ph ac dn : List Int} (hp : Ints p ph) (ha : Ints a ac) (hb : Ints b dn) (hl : ph.length ≤ 300000) (h1 : ac.length ≤ 300000) (h2 : dn.length ≤ 300000) (m : Mem) :
    sCall0 (callE (d + 4)) xh [.agg [I r, I c, p, a, b]] m = some (I (taskM r c ph ac dn), m) := by
  refine Ans.call0 ?_ (by simp [hp.still1, ha.still1, hb.still1]) rfl
  unfold Ans
  rw [x11u]
  unfold x8j xfh
  have wm := w_wrappedErr d hp (show ph.length ≤ 1000000 by omega)
  simp [mem0, hp.one, ha.one, hb.one, hp.len u_ints, w_rSizeErr, z_map]
  by_cases c1 : sizeM r c ph.length = 0
  rotate_left
  · simp [taskM, c1]
  have hsz : mapM1 (fun _ => true) r c ph = 0 := by
    unfold mapM1 phasesM
    simp [c1]
    cases e : ph.any (badP fun _ => true)
    · rfl
    · exfalso
      rw [List.any_eq_true] at e
      obtain ⟨x, -, hx⟩ := e
      simp [badP] at hx
  obtain ⟨r0, r1, c0, c2, hlen, -⟩ := map_right hsz
  have hrc := mul64 (wi_iff.mpr ⟨r0, r1⟩) (wi_iff.mpr ⟨c0, c2⟩)
  have c1' : sizeM r c (r * c) = 0 := hlen ▸ c1
  simp (disch := omega) [c1]
  by_cases c3 : 144 < r * c
  · simp [taskM, c1, c3, hlen, c1']
  simp [c3, wm]
  by_cases c4 : phasesM isW ph = 0
  rotate_left
  · simp [taskM, c1, c3, c4, hlen, c1']
  have e1 : r * (c - 1) = r * c - r := by rw [Int.mul_sub]; omega
  have e2 : (r - 1) * c = r * c - c := by rw [Int.sub_mul]; omega
  simp (disch := omega) [c4, ha.len u_ints, hb.len u_ints]
  by_cases c5 : (ac.length : Int) = r * (c - 1)
  rotate_left
  · simp [taskM, c1, c3, c4, c5, hlen, c1']
  simp (disch := omega) [c5, ha.len u_ints, hb.len u_ints, taskM, c1, c3, c4, hlen, c1']
  by_cases c6 : (dn.length : Int) = (r - 1) * c
  rotate_left
  · simp [c6]
  simp [c6]
  unfold xcf
  obtain ⟨m', hm'⟩ := l_rCheckTask1 (d + 2) [] (r := r) (c := c) (p := p) ha hb (by omega) (by omega) ac 0 NN (((((⟨[], 1⟩ : Mem).new (0, 0, 1) (.row [I r, I c, p, a, b] 0 false)).new (0, 4, 3) (.row [I 0, I 0, nilS] 0 false)).set (0, 4, 3) (.row [I r, I c, p] 0 false))) 52 rfl (by rw [NN_eq]; omega) (by simp)
  exact ⟨m', hm'⟩

end Go.Ix
