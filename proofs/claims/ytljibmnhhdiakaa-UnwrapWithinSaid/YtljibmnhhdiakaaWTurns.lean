import Derived.Test.YtljibmnhhdiakaaWNet
set_option linter.unusedSimpArgs false
namespace Go.Ix
open Go.Proofs

abbrev Ints (a : AV) (l : List Int) : Prop := Sl intE a l
def exI (t : List Int) (e : Edge) : Int := at0 t e.to.toNat - at0 t e.fr.toNat + e.jump
def costI (t : List Int) : Int → List Edge → Int
  | s, [] => s
  | s, e :: r => costI t (s + e.wt * ((exI t e).natAbs : Int)) r
def TurnsIn (t : List Int) : Prop := ∀ x ∈ t, -1000000 ≤ x ∧ x ≤ 1000000
theorem TurnsIn.get {t : List Int} (h : TurnsIn t) (k : Nat) : -1000000 ≤ at0 t k ∧ at0 t k ≤ 1000000 := by
  unfold at0
  rw [List.getD_eq_getElem?_getD]
  cases hk : t[k]? with
  | none => simp
  | some x => simpa using h x (List.mem_of_getElem? hk)

structure EdgeIn (n : Nat) (e : Edge) : Prop where
  f0 : 0 ≤ e.fr
  f1 : e.fr < n
  t0 : 0 ≤ e.to
  t1 : e.to < n
  j0 : -1000 ≤ e.jump
  j1 : e.jump ≤ 1000
  w0 : 0 ≤ e.wt
  w1 : e.wt ≤ 1000

theorem w_excess (d : Nat) {e : Edge} {a : AV} {t : List Int} (ha : Ints a t) (he : EdgeIn t.length e) (ht : TurnsIn t) (m : Mem) : sCall0 (callE (d + 1)) x4z [.agg e.c, a] m = some (I (exI t e), m) := by
  have h1 := ht.get e.to.toNat
  have h2 := ht.get e.fr.toNat
  obtain ⟨f0, f1, t0, t1, j0, j1, w0, w1⟩ := he
  refine Ans.call0 ?_ (by simp [ha.still, Edge.c]) rfl
  unfold Ans
  rw [xt3]
  unfold x6i xcv
  have i1 := ha.ixI intE_len t0 t1
  have i2 := ha.ixI intE_len f0 f1
  have l1 : e.to.toNat < t.length := by omega
  have l2 : e.fr.toNat < t.length := by omega
  simp (disch := omega) [Edge.c, i1, i2, mem0, ld_int, exI]

theorem w_Excess (d : Nat) {e : Edge} {a : AV} {t : List Int} (ha : Ints a t) (he : EdgeIn t.length e) (ht : TurnsIn t) (m : Mem) : sCall0 (callE (d + 1)) x54 [.agg e.c, a] m = some (I (exI t e), m) := by
  have h1 := ht.get e.to.toNat
  have h2 := ht.get e.fr.toNat
  obtain ⟨f0, f1, t0, t1, j0, j1, w0, w1⟩ := he
  refine Ans.call0 ?_ (by simp [ha.still, Edge.c]) rfl
  unfold Ans
  rw [xt4]
  unfold x76 xcw
  have i1 := ha.ixI intE_len t0 t1
  have i2 := ha.ixI intE_len f0 f1
  have l1 : e.to.toNat < t.length := by omega
  have l2 : e.fr.toNat < t.length := by omega
  simp (disch := omega) [Edge.c, i1, i2, mem0, ld_int, exI]

theorem exI_in {t : List Int} {n : Nat} {e : Edge} (he : EdgeIn n e) (ht : TurnsIn t) : -2001000 ≤ exI t e ∧ exI t e ≤ 2001000 := by
  have h1 := ht.get e.to.toNat
  have h2 := ht.get e.fr.toNat
  obtain ⟨f0, f1, t0, t1, j0, j1, w0, w1⟩ := he
  unfold exI
  omega
theorem term_in {t : List Int} {n : Nat} {e : Edge} (he : EdgeIn n e) (ht : TurnsIn t) : 0 ≤ e.wt * ((exI t e).natAbs : Int) ∧ e.wt * ((exI t e).natAbs : Int) ≤ 2001000000 := by
  have h1 := exI_in he ht
  have h2 : ((exI t e).natAbs : Int) ≤ 2001000 := by omega
  refine ⟨Int.mul_nonneg he.w0 (by omega), ?_⟩
  have := Int.mul_le_mul he.w1 h2 (by omega) (by omega)
  omega

theorem l_cost (d : Nat) (hs : FHs) {ev a : AV} {l : List Edge} {t : List Int} (h : Sl Edge.c ev l) (hl : l.length ≤ 600) (ha : Ints a t) (he : ∀ e ∈ l, EdgeIn t.length e) (ht : TurnsIn t) : ∀ (suf : List Edge) (k j : Nat) (s : Int) (m : Mem) (fc : Nat), l.drop k = suf → suf.length < j →
    0 ≤ s → s ≤ k * 2001000000 → ∃ m', x4g (callE (d + 1)) hs 0 j a (I s) ev (I l.length) (I k) m fc = some (I (costI t s suf), m') := by
  intro suf
  induction suf with
  | nil =>
    intro k j s m fc hd hj s0 s1
    obtain ⟨j, rfl⟩ : ∃ i, j = i + 1 := ⟨j - 1, by simp at hj; omega⟩
    have hk : ¬ ((k : Int) < (l.length : Int)) := by have := List.drop_eq_nil_iff.mp hd; omega
    simp only [x4g]
    unfold xa2
    simp [hk, x4f, costI]
  | cons e r ih =>
    intro k j s m fc hd hj s0 s1
    obtain ⟨j, rfl⟩ : ∃ i, j = i + 1 := ⟨j - 1, by simp at hj; omega⟩
    obtain ⟨hk, hke, hd⟩ := drop_cons hd
    have hk' : (k : Int) < (l.length : Int) := by omega
    have ix := h.ix Edge.len hk
    have ld := ld_flat (m := m) Edge.len (by omega) hk
    rw [hke] at ld
    have hee := he e (hke ▸ List.getElem_mem hk)
    have hx := exI_in hee ht
    have htm := term_in hee ht
    have we := w_excess d ha hee ht
    simp only [Edge.c] at we
    obtain ⟨m', h'⟩ := ih (k + 1) j (s + e.wt * ((exI t e).natAbs : Int)) ((m.new (0, fc + 3, 7) (.row [I 0, I 0, I 0, I 0] 0 false)).set (0, fc + 3, 7) (.row e.c 0 false)) (fc + 17) hd (by simp at hj; omega) (by omega) (by omega)
    simp only [x4g]
    unfold xa2
    simp (disch := omega) [hk', ix, ld, z_edge, Edge.c, we, w_size, ha.clean, costI]
    exact ⟨m', h'⟩

theorem l_Cost (d : Nat) (hs : FHs) {n : Int} {ev a : AV} {l : List Edge} {t : List Int} (h : Sl Edge.c ev l) (hl : l.length ≤ 600) (ha : Ints a t) (he : ∀ e ∈ l, EdgeIn t.length e) (ht : TurnsIn t) : ∀ (suf : List Edge) (k j : Nat) (s : Int) (m : Mem) (fc : Nat), l.drop k = suf → suf.length < j →
    0 ≤ s → s ≤ k * 2001000000 → m.get (0, 0, 2) = some (.row [I n, ev] 0 false) → ∃ m', x4e (callE (d + 1)) hs 0 j a (.ptr (0, 0, 2) 0 0) (I s) (I k) m fc = some (I (costI t s suf), m') := by
  intro suf
  induction suf with
  | nil =>
    intro k j s m fc hd hj s0 s1 hg
    obtain ⟨j, rfl⟩ : ∃ i, j = i + 1 := ⟨j - 1, by simp at hj; omega⟩
    have hk : ¬ ((k : Int) < (l.length : Int)) := by have := List.drop_eq_nil_iff.mp hd; omega
    simp only [x4e]
    unfold x9v
    simp [hg, h.len u_edges, hk, x4d, costI]
  | cons e r ih =>
    intro k j s m fc hd hj s0 s1 hg
    obtain ⟨j, rfl⟩ : ∃ i, j = i + 1 := ⟨j - 1, by simp at hj; omega⟩
    obtain ⟨hk, hke, hd⟩ := drop_cons hd
    have hk' : (k : Int) < (l.length : Int) := by omega
    have ix := h.ix Edge.len hk
    have ld := ld_flat (m := m) Edge.len (by omega) hk
    rw [drop_get hk, hke, List.flatMap_cons] at ix ld
    have hee := he e (hke ▸ List.getElem_mem hk)
    have hx := exI_in hee ht
    have htm := term_in hee ht
    have we := w_Excess d ha hee ht
    simp only [Edge.c, List.cons_append] at we ix ld
    obtain ⟨m', h'⟩ := ih (k + 1) j (s + e.wt * ((exI t e).natAbs : Int)) m (fc + 26) hd (by simp at hj; omega) (by omega) (by omega) hg
    simp only [x4e]
    unfold x9v
    simp (disch := omega) [hg, h.len u_edges, hk', ix, ld, we, w_Size, ha.clean, costI]
    exact ⟨m', h'⟩

theorem w_cost (d : Nat) {n : Int} {ev a : AV} {l : List Edge} {t : List Int} (h : Sl Edge.c ev l) (hl : l.length ≤ 600) (ha : Ints a t) (he : ∀ e ∈ l, EdgeIn t.length e) (ht : TurnsIn t) (m : Mem) : sCall3 (callE (d + 2)) xz [.agg [I n, ev], a] m = some (I (costI t 0 l), m) := by
  obtain ⟨m', h'⟩ := l_cost d [] h hl ha he ht l 0 NN 0 ((⟨[], 1⟩ : Mem).new (0, 0, 2) (.row [I n, ev] 0 false)) 8 rfl (by rw [NN_eq]; omega) (by omega) (by omega)
  refine call3 (m' := m') (by simp [h.still1, ha.still]) ?_ rfl
  rw [xk3]
  unfold x5y xa3 x8y
  simp [mem0, h.one, h.len u_edges]
  exact h'

theorem w_Cost (d : Nat) {n : Int} {ev a : AV} {l : List Edge} {t : List Int} (h : Sl Edge.c ev l) (hl : l.length ≤ 600) (ha : Ints a t) (he : ∀ e ∈ l, EdgeIn t.length e) (ht : TurnsIn t) (m : Mem) : sCall0 (callE (d + 2)) x1i [.agg [I n, ev], a] m = some (I (costI t 0 l), m) := by
  obtain ⟨m', h'⟩ := l_Cost d [] (n := n) h hl ha he ht l 0 NN 0 ((⟨[], 1⟩ : Mem).new (0, 0, 2) (.row [I n, ev] 0 false)) 4 rfl (by rw [NN_eq]; omega) (by omega) (by omega) (by simp)
  refine call0 (m' := m') (by simp [h.still1, ha.still]) ?_ rfl
  rw [xsr]
  unfold x6y xc9 x9w
  simp [mem0, h.one]
  exact h'

def Tells (call : FCall) (f : AV) (p : Int → Bool) : Prop := ∀ (hs : FHs) (x : Int) (m : Mem), ∃ n, fxInv call hs 2 f [I x] m = some (B (p x), ⟨m.hp, n⟩)
def firstI (p : Int → Bool) : Int → List Int → Int
  | _, [] => -1
  | k, x :: r => bif p x then k else firstI p (k + 1) r
theorem firstI_any {p : Int → Bool} : ∀ {l : List Int} {k : Int}, 0 ≤ k → (decide (0 ≤ firstI p k l)) = l.any p
  | [], k, _ => rfl
  | x :: r, k, h => by
    unfold firstI
    cases c : p x
    · simp only [cond_false, List.any_cons, c, Bool.false_or]; exact firstI_any (by omega)
    · simp [c, h]

theorem l_IndexFunc (d : Nat) (hs : FHs) {a f : AV} {l : List Int} {p : Int → Bool} (h : Ints a l) (hl : l.length < 1000000) (hf : Tells (callE d) f p) (u : Nat) : ∀ (suf : List Int) (k j : Nat) (m : Mem) (fc : Nat), l.drop k = suf → suf.length < j →
    ∃ n, x1s (callE d) hs u j a f (I l.length) (I k) m fc = some (I (firstI p k suf), ⟨m.hp, n⟩) := by
  intro suf
  induction suf with
  | nil =>
    intro k j m fc hd hj
    obtain ⟨j, rfl⟩ : ∃ i, j = i + 1 := ⟨j - 1, by simp at hj; omega⟩
    have hk : ¬ ((k : Int) < (l.length : Int)) := by have := List.drop_eq_nil_iff.mp hd; omega
    simp only [x1s]
    unfold x4n
    simp [hk, x32, firstI]
    exact ⟨m.next, rfl⟩
  | cons x r ih =>
    intro k j m fc hd hj
    obtain ⟨j, rfl⟩ : ∃ i, j = i + 1 := ⟨j - 1, by simp at hj; omega⟩
    obtain ⟨hk, hke, hd⟩ := drop_cons hd
    have hk' : (k : Int) < (l.length : Int) := by omega
    have ix := h.ix intE_len hk
    have e1 : at0 l k = x := by rw [at0_lt hk, hke]
    obtain ⟨n1, h1⟩ := hf hs x m
    obtain ⟨n2, h2⟩ := ih (k + 1) j ⟨m.hp, n1⟩ (fc + 11) hd (by simp at hj; omega)
    simp only [x1s]
    unfold x4n
    simp (disch := omega) [hk', ix, ld_int, e1, h1, firstI]
    cases c : p x
    · simp (disch := omega)
      exact ⟨n2, h2⟩
    · simp

theorem w_IndexFunc (d : Nat) (hs : FHs) {a f : AV} {l : List Int} {p : Int → Bool} (h : Ints a l) (hl : l.length < 1000000) (hf : Tells (callE d) f p) (m : Mem) : ∃ n, callE (d + 1) hs x19 [a, f] m = some (I (firstI p 0 l), ⟨m.hp, n⟩) := by
  obtain ⟨n, h'⟩ := l_IndexFunc d hs h hl hf m.next l 0 NN ⟨m.hp, m.next + 1⟩ 4 rfl (by rw [NN_eq]; omega)
  refine ⟨n, ?_⟩
  rw [xbs]
  unfold x51 x97 x7o
  simp [h.len u_ints]
  exact h'

theorem w_ContainsFunc2 (d : Nat) (hs : FHs) {a f : AV} {l : List Int} {p : Int → Bool} (h : Ints a l) (hl : l.length < 1000000) (hf : Tells (callE d) f p) (m : Mem) : ∃ n, callE (d + 2) hs x2j [a, f] m = some (B (l.any p), ⟨m.hp, n⟩) := by
  obtain ⟨n, h'⟩ := w_IndexFunc d hs h hl hf ⟨m.hp, m.next + 1⟩
  refine ⟨n, ?_⟩
  rw [xk4]
  unfold x62 xae
  simp only [h', Option.bind_some, sGe_I, firstI_any (Int.le_refl 0)]
theorem w_ContainsFunc (d : Nat) {a f : AV} {l : List Int} {p : Int → Bool} (h : Ints a l) (hl : l.length < 1000000) (hf : Tells (callE d) f p) (hs : still f = true) (m : Mem) : sCall0 (callE (d + 2)) x2j [a, f] m = some (B (l.any p), m) := by
  obtain ⟨n, h'⟩ := w_ContainsFunc2 d [] h hl hf mem0
  exact call0 (by simp [h.still, hs]) h' rfl

theorem tells_CheckTurns (d : Nat) : Tells (callE (d + 2)) (.clo x42 []) (fun x => !(wi x (-1000000) 1000000)) := by
  intro hs x m
  refine ⟨m.next + 1, ?_⟩
  show callE (d + 2) hs x42 [I x] m = _
  rw [xt1]
  unfold x74 xcq
  simp [w_within]

def checkTurns (n : Int) (l : List Edge) (t : List Int) : Int × Int :=
  bif !decide ((t.length : Int) = n) then (0, 10) else bif t.any (fun x => !(wi x (-1000000) 1000000)) then (0, 2) else (costI t 0 l, 0)

theorem turnsIn_of {t : List Int} (h : t.any (fun x => !(wi x (-1000000) 1000000)) = false) : TurnsIn t := by
  intro x hx
  rw [List.any_eq_false] at h
  exact wi_t (by simpa using h x hx)
theorem edgeIn_of {n : Int} {l : List Edge} (h : Right n l) {t : List Int} (ht : (t.length : Int) = n) : ∀ e ∈ l, EdgeIn t.length e := by
  intro e he
  obtain ⟨⟨a, b⟩, ⟨c, d⟩, _, ⟨f, g⟩, ⟨i, j⟩⟩ := h.ed e he
  exact ⟨a, by omega, c, by omega, f, g, i, j⟩

theorem a_pCheckTurns (d : Nat) {n : Int} {ev a : AV} {l : List Edge} {t : List Int} (h : Sl Edge.c ev l) (ha : Ints a t) (hl : t.length < 1000000) :
    Ans (callE (d + 5)) x2i [.agg [I n, ev], a] (.tup (bif decide ((checkNet n l).2 = 0) then [I (checkTurns n l t).1, I (checkTurns n l t).2] else [I 0, I (checkNet n l).2])) := by
  unfold Ans
  rw [xso]
  unfold x6v xc4
  simp [mem0, h.one, w_open _ h, z_pnet]
  by_cases c1 : (checkNet n l).2 = 0
  rotate_left
  · simp [c1]
  have hr := right_of c1
  simp [c1, ha.len u_ints, checkTurns]
  by_cases c2 : (t.length : Int) = n
  rotate_left
  · simp [c2]
  simp [c2, w_ContainsFunc (d + 2) ha hl (tells_CheckTurns d) rfl]
  cases c3 : t.any (fun x => !(wi x (-1000000) 1000000))
  rotate_left
  · simp
  simp [w_cost (d + 2) h hr.len ha (edgeIn_of hr c2) (turnsIn_of c3)]
theorem w_pCheckTurns (d : Nat) {n : Int} {ev a : AV} {l : List Edge} {t : List Int} (h : Sl Edge.c ev l) (ha : Ints a t) (hl : t.length < 1000000) (m : Mem) :
    sCall0 (callE (d + 5)) x2i [.agg [I n, ev], a] m = some (.tup (bif decide ((checkNet n l).2 = 0) then [I (checkTurns n l t).1, I (checkTurns n l t).2] else [I 0, I (checkNet n l).2]), m) :=
  (a_pCheckTurns d h ha hl).call0_tup (by simp [h.still1, ha.still]) (by cases decide ((checkNet n l).2 = 0) <;> rfl)

theorem l_CheckTurns (d : Nat) (hs : FHs) {n : Int} {ev a : AV} {l : List Edge} {t : List Int} (h : Sl Edge.c ev l) (hr : Right n l) (ha : Ints a t) (hn : (t.length : Int) = n) : ∀ (suf : List Int) (k j : Nat) (m : Mem) (fc : Nat), t.drop k = suf → suf.length < j → ((t.take k).any (fun x => !(wi x (-1000000) 1000000)) = false) →
    m.get (0, 0, 2) = some (.row [I n, ev] 0 false) →
    ∃ m', x49 (callE (d + 2)) hs 0 j a (.ptr (0, 0, 2) 0 0) (I k) m fc = some (.tup (bif t.any (fun x => !(wi x (-1000000) 1000000)) then [I 0, I 2] else [I (costI t 0 l), I 0]), m') := by
  intro suf
  have hn2 := hr.hi
  induction suf with
  | nil =>
    intro k j m fc hd hj hp hg
    obtain ⟨j, rfl⟩ : ∃ i, j = i + 1 := ⟨j - 1, by simp at hj; omega⟩
    have hk0 := List.drop_eq_nil_iff.mp hd
    have hk : ¬ ((k : Int) < (t.length : Int)) := by omega
    rw [List.take_of_length_le hk0] at hp
    simp only [x49]
    unfold x9o
    simp [hk, ha.len u_ints, x48, hg, w_Cost d h hr.len ha (edgeIn_of hr hn) (turnsIn_of hp), hp]
  | cons x r ih =>
    intro k j m fc hd hj hp hg
    obtain ⟨j, rfl⟩ : ∃ i, j = i + 1 := ⟨j - 1, by simp at hj; omega⟩
    obtain ⟨hk, hke, hd⟩ := drop_cons hd
    have hk' : (k : Int) < (t.length : Int) := by omega
    have ix := ha.ix intE_len hk
    have e1 : at0 t k = x := by rw [at0_lt hk, hke]
    simp only [x49]
    unfold x9o
    simp (disch := omega) [hk', ix, ld_int, e1, ha.len u_ints, w_Within]
    cases c : wi x (-1000000) 1000000
    · have : t.any (fun x => !(wi x (-1000000) 1000000)) = true := by
        rw [List.any_eq_true]
        exact ⟨x, hke ▸ List.getElem_mem hk, by simp [c]⟩
      simp [this]
    · simp (disch := omega)
      refine ih (k + 1) j m _ hd (by simp at hj; omega) ?_ hg
      rw [List.take_succ_eq_append_getElem hk, List.any_append, hp, hke]
      simp [c]

theorem w_CheckTurns (d : Nat) {n : Int} {ev a : AV} {l : List Edge} {t : List Int} (h : Sl Edge.c ev l) (ha : Ints a t) (hr : Right n l) (m : Mem) :
    sCall0 (callE (d + 3)) x1g [.agg [I n, ev], a] m = some (.tup [I (checkTurns n l t).1, I (checkTurns n l t).2], m) := by
  refine Ans.call0_tup ?_ (by simp [h.still1, ha.still]) rfl
  unfold Ans
  rw [xsl]
  unfold x6s xbz
  simp [mem0, h.one, ha.len u_ints, checkTurns]
  by_cases c2 : (t.length : Int) = n
  rotate_left
  · simp [c2]
  have hn2 := hr.hi
  obtain ⟨m', h'⟩ := l_CheckTurns d [] h hr ha c2 t 0 NN ((⟨[], 1⟩ : Mem).new (0, 0, 2) (.row [I n, ev] 0 false)) 9 rfl (by rw [NN_eq]; omega) rfl (by simp)
  simp [c2, x9p]
  refine ⟨m', h'.trans ?_⟩
  cases t.any (fun x => !(wi x (-1000000) 1000000)) <;> rfl

end Go.Ix
