import Derived.Test.YtljibmnhhdiakaaWCopy
import Derived.Test.YtljibmnhhdiakaaWMut
set_option linter.unusedSimpArgs false
namespace Go.Ix
open Go.Proofs
theorem mul_in {a b : Int} {x y : Nat} (h1 : a.natAbs ≤ x) (h2 : b.natAbs ≤ y) : -((x * y : Nat) : Int) ≤ a * b ∧ a * b ≤ ((x * y : Nat) : Int) := by
  have := Nat.mul_le_mul h1 h2
  rw [← Int.natAbs_mul] at this
  omega
def x1m2 (p : List Int) (e : Edge) (f : Int) : List Int := (p.set e.to.toNat (at0 p e.to.toNat + f)).set e.fr.toNat (at0 p e.fr.toNat - f)
def x1m3 (p : List Int) (v : Int) : List Edge → List Int → Int × Int
  | e :: es, f :: fs => bif wi f (-e.wt) e.wt then x1m3 (x1m2 p e f) (v + f * e.jump) es fs else (0, 2)
  | _, _ => bif p.any (fun x => !decide (x = 0)) then (0, 25) else (v, 0)
def x1nk (n : Int) (l : List Edge) (f : List Int) : Int × Int :=
  bif !decide ((f.length : Int) = (l.length : Int)) then (0, 10) else x1m3 (List.replicate n.toNat 0) 0 l f
theorem x1uj (p : List Int) (e : Edge) (f : Int) : (x1m2 p e f).length = p.length := by simp [x1m2]
def NodeIn (p : List Int) (b : Int) : Prop := ∀ k, -b ≤ at0 p k ∧ at0 p k ≤ b
theorem NodeIn.up {p : List Int} {b : Int} (h : NodeIn p b) {e : Edge} (he : EdgeIn p.length e) {f : Int} (h1 : -1000 ≤ f) (h2 : f ≤ 1000) : NodeIn (x1m2 p e f) (b + 1000) := by
  obtain ⟨f0, f1, t0, t1, -⟩ := he
  intro k
  have a := h k
  have b1 := h e.to.toNat
  have b2 := h e.fr.toNat
  unfold x1m2
  rw [x1j5 (by simp; omega), x1j5 (by omega)]
  split
  · omega
  · split <;> omega
theorem inEdge {n : Int} {l : List Edge} (hr : Right n l) : ∀ e ∈ l, EdgeIn n.toNat e ∧ e.fr ≠ e.to := by
  intro e he
  have := hr.lo
  obtain ⟨⟨a, b⟩, ⟨c, d⟩, hne, ⟨j0, j1⟩, w0, w1⟩ := hr.ed e he
  exact ⟨⟨a, by omega, c, by omega, j0, j1, w0, w1⟩, hne⟩
theorem rep_in (n : Nat) : NodeIn (List.replicate n 0) ((0 : Nat) * 1000) := by
  intro k
  rw [x1ok]
  omega
theorem l_flowOf0 (d : Nat) (hs : FHs) {n : Nat} {ev : AV} {p : List Int} (hn : n ≤ 200) (hp : p.length = n) (v : Int) : ∀ (suf : List Int) (k j : Nat) (m : Mem) (fc : Nat), p.drop k = suf → suf.length < j →
    m.get (0, 0, 2) = some (.row [I n, ev] 0 false) → OwnI m (0, 11, 19) p →
    x2h (x1id d) hs 0 j (.ptr (0, 0, 2) 0 0) (srI (0, 11, 19) n) (I v) (I k) m fc = some (.tup (bif suf.any (fun x => !decide (x = 0)) then [I 0, I 25] else [I v, I 0]), m) := by
  intro suf
  induction suf with
  | nil =>
    intro k j m fc hd hj hg ho
    obtain ⟨j, rfl⟩ : ∃ i, j = i + 1 := ⟨j - 1, by simp at hj; omega⟩
    have hk0 := List.drop_eq_nil_iff.mp hd
    have hk : ¬ ((k : Int) < (n : Int)) := by omega
    simp only [x2h]
    unfold x9o
    simp [hg, hk, x3o]
  | cons x r ih =>
    intro k j m fc hd hj hg ho
    obtain ⟨j, rfl⟩ : ∃ i, j = i + 1 := ⟨j - 1, by simp at hj; omega⟩
    obtain ⟨hk, hke, hd⟩ := x1k2 hd
    have hk' : (k : Int) < (n : Int) := by omega
    have i1 := x1is (id := (0, 11, 19)) (n := n) (k := (k : Int)) (by omega) hk'
    have e1 : at0 p k = x := by rw [x1j8 hk, hke]
    unfold OwnI at ho
    simp only [x2h]
    unfold x9o
    simp (disch := omega) [hg, hk', i1, ho, e1]
    by_cases c : x = 0
    rotate_left
    · simp [c]
    have h' := ih (k + 1) j m (fc + 12) hd (by simp at hj; omega) hg ho
    simp [c]
    exact h'
theorem l_flowOf1 (d : Nat) (hs : FHs) {ev fa : AV} {l : List Edge} {fl : List Int} {n : Nat} (h : Sl Edge.c ev l) (hl : l.length ≤ 600) (hf : Ints fa fl) (hfl : fl.length = l.length) (hn : n ≤ 200) (he : ∀ e ∈ l, EdgeIn n e ∧ e.fr ≠ e.to) :
    ∀ (suf : List Edge) (sf : List Int) (k j : Nat) (p : List Int) (v : Int) (m : Mem) (fc : Nat), l.drop k = suf → fl.drop k = sf → suf.length < j → p.length = n → NodeIn p (k * 1000) → -(k * 1000000) ≤ v → v ≤ k * 1000000 →
    m.get (0, 0, 2) = some (.row [I n, ev] 0 false) → OwnI m (0, 11, 19) p →
    ∃ m', x2j (x1id (d + 1)) hs 0 j fa (.ptr (0, 0, 2) 0 0) (srI (0, 11, 19) n) (I v) (I k) m fc = some (.tup [I (x1m3 p v suf sf).1, I (x1m3 p v suf sf).2], m') := by
  intro suf
  induction suf with
  | nil =>
    intro sf k j p v m fc hd hdf hj hp hN v0 v1 hg ho
    obtain ⟨j, rfl⟩ : ∃ i, j = i + 1 := ⟨j - 1, by simp at hj; omega⟩
    have hk0 := List.drop_eq_nil_iff.mp hd
    have hk : ¬ ((k : Int) < (l.length : Int)) := by omega
    have e : x1m3 p v [] sf = bif p.any (fun x => !decide (x = 0)) then (0, 25) else (v, 0) := by
      cases sf <;> rfl
    have h' := l_flowOf0 (d + 1) hs hn hp v p 0 NN m (fc + 4 + 1) rfl (by rw [x1iv]; omega) hg ho
    rw [e]
    simp only [x2j]
    unfold x9p
    simp [hk, hfl, hf.len x1ju, x2i]
    refine ⟨m, ?_⟩
    refine Eq.trans h' ?_
    cases p.any (fun x => !decide (x = 0)) <;> rfl
  | cons e r ih =>
    intro sf k j p v m fc hd hdf hj hp hN v0 v1 hg ho
    obtain ⟨j, rfl⟩ : ∃ i, j = i + 1 := ⟨j - 1, by simp at hj; omega⟩
    obtain ⟨hk, hke, hd⟩ := x1k2 hd
    have hk' : (k : Int) < (l.length : Int) := by omega
    have hkf : k < fl.length := by omega
    subst hdf
    have ix := h.ix Edge.len hk
    have ld := x1m1 (m := m) Edge.len (by omega) hk
    rw [hke] at ld
    simp only [Edge.c] at ld
    obtain ⟨hee, hne⟩ := he e (hke ▸ List.getElem_mem hk)
    have hee' := hee
    obtain ⟨f0, f1, t0, t1, j0, j1, w0, w1⟩ := hee'
    have ixf := hf.ix x1jz hkf
    have e1 : at0 fl k = fl[k] := x1j8 hkf
    have i1 := x1is (id := (0, 11, 19)) t0 t1
    have i2 := x1is (id := (0, 11, 19)) f0 f1
    have b1 := hN e.to.toNat
    have b2 := hN e.fr.toNat
    have htf : e.to.toNat ≠ e.fr.toNat := by omega
    have l1 : e.to.toNat < p.length := by omega
    have l2 : e.fr.toNat < p.length := by omega
    unfold OwnI at ho
    have hfm : x1m3 p v (e :: r) (fl.drop k) = bif wi fl[k] (-e.wt) e.wt then x1m3 (x1m2 p e fl[k]) (v + fl[k] * e.jump) r (fl.drop (k + 1)) else (0, 2) := by rw [x1k8 hkf]; rfl
    rw [hfm]
    simp only [x2j]
    unfold x9p
    simp only [hf.len x1ju, hfl, x1ii, x1k7, hk', decide_true, x1jx, x1j7, Nat.zero_add, x1in, hg, x1io, Nat.beq_refl, x1im, List.drop_succ_cons, List.drop_zero, rd_f, ix, ld]
    simp only [x1lp]
    simp only [x1j4]
    simp only [x1l0, Mem.get_new, if_true, x1q7, List.all_cons, List.all_nil, one_I, Bool.and_self, x1im, x1ii]
    cases c : wi fl[k] (-e.wt) e.wt
    · simp (disch := omega) [hg, hfl, hf.len x1ju, hk', ix, ld, x1l0, Edge.c, ixf, x1jt, e1, x1mr, c]
    have hw := wi_t c
    have hmul : -1000000 ≤ fl[k] * e.jump ∧ fl[k] * e.jump ≤ 1000000 := by
      have := mul_in (a := fl[k]) (b := e.jump) (x := 1000) (y := 1000) (by omega) (by omega)
      omega
    obtain ⟨m', h'⟩ := ih (fl.drop (k + 1)) (k + 1) j (x1m2 p e fl[k]) (v + fl[k] * e.jump)
      ((((m.new (0, fc + 9, 9) (.row [I 0, I 0, I 0, I 0] 0 false)).set (0, fc + 9, 9) (.row e.c 0 false)).set (0, 11, 19) (.row ((p.set e.to.toNat (at0 p e.to.toNat + fl[k])).flatMap intE) 0 false)).set (0, 11, 19) (.row ((x1m2 p e fl[k]).flatMap intE) 0 false)) (fc + 65) hd rfl (by simp at hj; omega) (by rw [x1uj]; exact hp)
      (by have := hN.up (hp ▸ hee) (f := fl[k]) (by omega) (by omega); rwa [show (k : Int) * 1000 + 1000 = ((k + 1 : Nat) : Int) * 1000 by omega] at this) (by omega) (by omega) (by simp [hg]) (by unfold OwnI; simp)
    have l3 : e.fr.toNat < (p.set e.to.toNat (at0 p e.to.toNat + fl[k])).length := by simpa using l2
    simp (disch := omega) [x1mr, i1, i2, ho, ixf, x1jt, e1, c, -x1j4]
    simp only [x1j4]
    simp (disch := omega) [i2, ho, -x1j4]
    simp (disch := omega) [apart_RS]
    exact ⟨m', h'⟩
theorem x1x3 (d : Nat) {n : Int} {ev fa : AV} {l : List Edge} {fl : List Int} (h : Sl Edge.c ev l) (hr : Right n l) (hf : Ints fa fl) (m : Mem) :
    x1if (x1id (d + 2)) x38 [.agg [I n, ev], fa] m = some (.tup [I (x1nk n l fl).1, I (x1nk n l fl).2], m) := by
  refine Ans.call0_tup ?_ (by simp [h.still1, hf.still]) rfl
  unfold Ans
  rw [xu4]
  unfold x6x xee
  have hn0 := hr.lo
  have hn1 := hr.hi
  have hl := hr.len
  simp [mem0, h.one, hf.len x1ju, h.len x1jl]
  by_cases c1 : (fl.length : Int) = (l.length : Int)
  rotate_left
  · simp [x1nk, c1]
  have hnn : ((n.toNat : Nat) : Int) = n := by omega
  obtain ⟨m', h'⟩ := l_flowOf1 d [] h hl hf (by omega) (n := n.toNat) (by omega) (inEdge hr) l fl 0 NN (List.replicate n.toNat 0) 0 (((⟨[], 1⟩ : Mem).new (0, 0, 2) (.row [I n, ev] 0 false)).new (0, 11, 19) (.row ((List.replicate n.toNat (0 : Int)).flatMap intE) 0 false)) 15 rfl rfl (by rw [x1iv]; omega) (by simp) (rep_in _) (by omega) (by omega) (by simp [hnn]) (by unfold OwnI; simp)
  simp [x1nk, c1, x1kh, x1ms hn0 (show n ≤ 1000000 by omega), x9q]
  exact ⟨m', h'⟩
end Go.Ix
