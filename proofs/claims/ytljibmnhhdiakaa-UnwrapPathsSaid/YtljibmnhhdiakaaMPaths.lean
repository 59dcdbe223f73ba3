import Derived.Test.YtljibmnhhdiakaaWUnwrap2
import Derived.Test.YtljibmnhhdiakaaWHas
set_option linter.unusedSimpArgs false
set_option linter.unusedVariables false
namespace Go.Ix
structure StepOK (l : List Int) (c a b : Int) : Prop where
  a0 : 0 ≤ a ∧ a < l.length
  b0 : 0 ≤ b ∧ b < l.length
  va : at0 l a.toNat ≠ void
  vb : at0 l b.toNat ≠ void
  nb : nbM c a b = true
theorem x1ra {l : List Int} {c : Int} : ∀ (path out : List Int) (pv : Int), out ≠ [] → (0 ≤ pv ∧ pv < l.length) → at0 l pv.toNat ≠ void → (x1fd l c out pv path).2 = 0 →
    (x1fd l c out pv path).1.length = out.length + path.length ∧ (∀ i, i < out.length → at0 (x1fd l c out pv path).1 i = at0 out i) ∧
    ∀ i, i < path.length → StepOK l c (at0 (pv :: path) i) (at0 path i) ∧ at0 (x1fd l c out pv path).1 (out.length + i) - at0 (x1fd l c out pv path).1 (out.length + i - 1) = x1fn l (at0 (pv :: path) i) (at0 path i)
  | [], out, pv, _, _, _, _ => ⟨rfl, fun _ _ => rfl, fun i hi => by simp at hi⟩
  | x :: r, out, pv, hne, hp, hv, h => by
    simp only [x1fd] at h ⊢
    have hie : out.isEmpty = false := by cases out with
      | nil => exact absurd rfl hne
      | cons a b => rfl
    cases c1 : wi x 0 ((l.length : Int) - 1)
    · simp [c1] at h
    by_cases c2 : at0 l x.toNat = void
    · simp [c1, c2] at h
    cases c3 : nbM c pv x
    · simp [c1, c2, c3, hie] at h
    simp only [c1, c2, c3, hie, Bool.not_true, cond_false, decide_false] at h ⊢
    have hx := wi_t c1
    obtain ⟨r1, r2, r3⟩ := x1ra r (out ++ [at0 out (out.length - 1) + x1fn l pv x]) x (by simp) ⟨hx.1, by omega⟩ c2 h
    have hol : 0 < out.length := by cases out with
      | nil => exact absurd rfl hne
      | cons a b => simp
    simp only [List.length_append, List.length_singleton] at r1 r2 r3
    refine ⟨by rw [r1, List.length_cons]; omega, fun i hi => by rw [r2 i (by omega), x1nu hi], fun i hi => ?_⟩
    cases i with
    | zero =>
      refine ⟨⟨hp, ⟨hx.1, by show x < _; omega⟩, hv, c2, c3⟩, ?_⟩
      have e1 := r2 out.length (by omega)
      have e2 := r2 (out.length - 1) (by omega)
      have e3 : at0 (out ++ [at0 out (out.length - 1) + x1fn l pv x]) out.length = at0 out (out.length - 1) + x1fn l pv x := by
        have := at0_right (l := out) (k := [at0 out (out.length - 1) + x1fn l pv x]) (i := 0)
        rw [Nat.add_zero] at this
        rw [this]; rfl
      have e4 := x1nu (l := out) (k := [at0 out (out.length - 1) + x1fn l pv x]) (i := out.length - 1) (by omega)
      rw [Nat.add_zero, e1, e2, e3, e4]
      show _ = x1fn l pv x
      omega
    | succ i =>
      have := r3 i (by simpa using hi)
      rw [show out.length + 1 + i = out.length + (i + 1) by omega] at this
      exact this
theorem alongM_ok {l : List Int} {c : Int} {path : List Int} {pv : Int} (h : (x1fd l c [] pv path).2 = 0) :
    (x1fd l c [] pv path).1.length = path.length ∧ ∀ i, i + 1 < path.length → StepOK l c (at0 path i) (at0 path (i + 1)) ∧ at0 (x1fd l c [] pv path).1 (i + 1) - at0 (x1fd l c [] pv path).1 i = x1fn l (at0 path i) (at0 path (i + 1)) := by
  cases path with
  | nil => exact ⟨rfl, fun i hi => by simp at hi⟩
  | cons x r =>
    simp only [x1fd] at h ⊢
    cases c1 : wi x 0 ((l.length : Int) - 1)
    · simp [c1] at h
    by_cases c2 : at0 l x.toNat = void
    · simp [c1, c2] at h
    simp only [c1, c2, List.isEmpty_nil, Bool.not_true, cond_false, cond_true, decide_false] at h ⊢
    have hx := wi_t c1
    obtain ⟨r1, r2, r3⟩ := x1ra r [at0 l x.toNat] x (by simp) ⟨hx.1, by omega⟩ c2 h
    simp only [List.length_singleton] at r1 r2 r3
    refine ⟨by rw [r1, List.length_cons]; omega, fun i hi => ?_⟩
    have := r3 i (by simpa using hi)
    rw [show 1 + i = i + 1 by omega] at this
    exact this
theorem nbM_comm (c a b : Int) : nbM c a b = nbM c b a := by
  unfold nbM
  rw [show ((a - b).natAbs : Int) = ((b - a).natAbs : Int) by omega, decide_eq_decide.mpr (eq_comm (a := a % c) (b := b % c)), decide_eq_decide.mpr (eq_comm (a := a / c) (b := b / c))]
theorem x1on {skip : Int → Bool} {step : Int} : ∀ {n : Nat} {k a : Int}, k ≤ a → a < k + n → skip a = false → (a, a + step) ∈ x1ek skip step n k
  | 0, k, a, h1, h2, _ => by omega
  | n + 1, k, a, h1, h2, hs => by
    simp only [x1ek]
    by_cases e : a = k
    · subst e
      rw [hs]
      exact List.mem_cons_self ..
    · have ih := x1on (skip := skip) (step := step) (n := n) (k := k + 1) (a := a) (by omega) (by omega) hs
      cases skip k
      · exact List.mem_cons_of_mem _ ih
      · exact ih
theorem nb_side {r c a b : Int} (hc : 1 ≤ c) (ha : 0 ≤ a) (hb : b < r * c) (h : a < b) (hn : nbM c a b = true) : (a, b) ∈ x1fx r c := by
  have hrc : ((r * c).toNat : Int) = r * c := by omega
  unfold nbM at hn
  unfold x1fx
  have h1 := Int.emod_add_mul_ediv a c
  have h2 := Int.emod_add_mul_ediv b c
  have h3 := Int.emod_lt_of_pos b (show 0 < c by omega)
  have h4 := Int.emod_nonneg a (show c ≠ 0 by omega)
  simp only [Bool.or_eq_true, Bool.and_eq_true, decide_eq_true_eq] at hn
  rcases hn with ⟨d, e⟩ | ⟨d, e⟩
  · obtain rfl : b = a + c := by omega
    refine List.mem_append_right _ (x1on (by omega) (by omega) (decide_eq_false fun hq => ?_))
    rw [hq, Int.mul_sub, Int.mul_comm c r] at h1
    omega
  · obtain rfl : b = a + 1 := by omega
    refine List.mem_append_left _ (x1on (by omega) (by omega) (decide_eq_false fun hq => ?_))
    rw [← e] at h2
    omega
theorem netM_in {ph ws : List Int} {p : Int × Int} (hv : x1fy ph p = false) : ∀ {l : List (Int × Int)} {i k : Nat}, l[i]? = some p → mkE ph ws (k + i) p ∈ netM ph ws k l
  | [], i, k, h => by simp at h
  | q :: r, 0, k, h => by
    simp only [List.getElem?_cons_zero, Option.some.injEq] at h
    subst h
    simp only [netM, hv, Nat.add_zero]
    exact List.mem_cons_self ..
  | q :: r, i + 1, k, h => by
    have ih := netM_in (ws := ws) hv (k := k + 1) (i := i) (l := r) (by simpa using h)
    rw [show k + 1 + i = k + (i + 1) by omega] at ih
    simp only [netM]
    cases x1fy ph q
    · exact List.mem_cons_of_mem _ ih
    · exact ih
theorem x1rb {p : Nat → Int} : ∀ {l : List Edge}, (∀ e ∈ l, 1 ≤ e.wt) → x1hv p l = 0 → ∀ e ∈ l, exF p e = 0
  | [], _, _, e, he => by simp at he
  | x :: r, hw, h, e, he => by
    have nn : ∀ {l : List Edge}, (∀ e ∈ l, 1 ≤ e.wt) → 0 ≤ x1hv p l := fun {l} => by
      induction l with
      | nil => intro _; exact Int.le_refl _
      | cons y s ih =>
        intro hw
        have := ih fun e he => hw e (List.mem_cons_of_mem _ he)
        have h2 : 0 ≤ y.wt * ((exF p y).natAbs : Int) := Int.mul_nonneg (by have := hw y (List.mem_cons_self ..); omega) (by omega)
        unfold x1hv
        omega
    have h1 := nn fun e he => hw e (List.mem_cons_of_mem x he)
    have hx := hw x (List.mem_cons_self ..)
    have h2 : 0 ≤ (x.wt - 1) * ((exF p x).natAbs : Int) := Int.mul_nonneg (by omega) (by omega)
    rw [Int.sub_mul] at h2
    unfold x1hv at h
    rcases List.mem_cons.mp he with rfl | he
    · omega
    · exact x1rb (fun e he => hw e (List.mem_cons_of_mem _ he)) (by omega) e he
theorem jump_mul (a b : Int) : x1hi a b * 4096 = b - a - x1fu (b - a) := by
  unfold x1hi
  exact Int.tdiv_mul_cancel ⟨(b - a + 2048) / 4096, by unfold x1fu; omega⟩
theorem unw_step {r c : Int} {ph ac dn T : List Int} (h : x1fo r c ph ac dn = 0) (hz : ∀ x ∈ ac ++ dn, x ≠ 0) (hc : x1hv (at0 T) (x1g9 r c ph ac dn) = 0) {a b : Int} (hs : StepOK ph c a b) :
    at0 (unwM ph.length ph T) b.toNat - at0 (unwM ph.length ph T) a.toNat = x1fn ph a b := by
  obtain ⟨r0, r1, c0, c1, hlen, hph, hac, hdn, h144, hw⟩ := x1kd h
  have hR := x1r9 h
  have hsl := x1lb r0 c0
  have hall : ∀ e ∈ x1g9 r c ph ac dn, exF (at0 T) e = 0 := by
    refine x1rb (fun e he => ?_) hc
    have hwe := (hR.ed e he).2.2.2.2.1
    obtain ⟨i, p, h3, h4, rfl⟩ := x1lc he
    obtain ⟨hi, hie⟩ := List.getElem?_eq_some_iff.mp h3
    have hi2 : 0 + i < (ac ++ dn).length := by rw [List.length_append]; omega
    simp only [mkE] at hwe ⊢
    have := hz _ (List.getElem_mem hi2)
    rw [x1eu hi2] at hwe ⊢
    omega
  have key : ∀ {a b : Int}, StepOK ph c a b → a < b → at0 (unwM ph.length ph T) b.toNat - at0 (unwM ph.length ph T) a.toNat = x1fu (at0 ph b.toNat - at0 ph a.toNat) := fun {a b} hs hab => by
    have hm := nb_side (r := r) c0 hs.a0.1 (by have := hs.b0.2; omega) hab hs.nb
    obtain ⟨i, hi, hie⟩ := List.mem_iff_getElem.mp hm
    have hin := netM_in (ph := ph) (ws := ac ++ dn) (p := (a, b)) (by simp [x1fy, hs.va, hs.vb]) (l := x1fx r c) (i := i) (k := 0) (by rw [List.getElem?_eq_getElem hi, hie])
    have he := hall _ hin
    have hj := jump_mul (at0 ph a.toNat) (at0 ph b.toNat)
    simp only [exF, mkE] at he
    have ha0 := hs.a0
    have hb0 := hs.b0
    have la : a.toNat < (unwM ph.length ph T).length := by rw [x1if]; omega
    have lb : b.toNat < (unwM ph.length ph T).length := by rw [x1if]; omega
    rw [x1eu la, x1eu lb, x1om (by omega), x1om (by omega), if_neg hs.va, if_neg hs.vb]
    omega
  have hne : a ≠ b := by
    rintro rfl
    have := hs.nb
    unfold nbM at this
    simp at this
    omega
  unfold x1fn
  by_cases hab : a < b
  · rw [if_neg (by omega)]; exact key hs hab
  · rw [if_pos (by omega)]
    have := key (a := b) (b := a) ⟨hs.b0, hs.a0, hs.vb, hs.va, by rw [nbM_comm]; exact hs.nb⟩ (by omega)
    omega
end Go.Ix
