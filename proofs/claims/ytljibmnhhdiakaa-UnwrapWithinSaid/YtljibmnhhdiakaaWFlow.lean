import Derived.Test.YtljibmnhhdiakaaWCopy
import Derived.Test.YtljibmnhhdiakaaWMut
set_option linter.unusedSimpArgs false
namespace Go.Ix
open Go.Proofs

theorem mul_in {a b : Int} {x y : Nat} (h1 : a.natAbs ≤ x) (h2 : b.natAbs ≤ y) : -((x * y : Nat) : Int) ≤ a * b ∧ a * b ≤ ((x * y : Nat) : Int) := by
  have := Nat.mul_le_mul h1 h2
  rw [← Int.natAbs_mul] at this
  omega
def flowUp (p : List Int) (e : Edge) (f : Int) : List Int := (p.set e.to.toNat (at0 p e.to.toNat + f)).set e.fr.toNat (at0 p e.fr.toNat - f)
def flowM (p : List Int) (v : Int) : List Edge → List Int → Int × Int
  | e :: es, f :: fs => bif wi f (-e.wt) e.wt then flowM (flowUp p e f) (v + f * e.jump) es fs else (0, 2)
  | _, _ => bif p.any (fun x => !decide (x = 0)) then (0, 25) else (v, 0)
def checkFlow (n : Int) (l : List Edge) (f : List Int) : Int × Int :=
  bif !decide ((f.length : Int) = (l.length : Int)) then (0, 10) else flowM (List.replicate n.toNat 0) 0 l f

theorem flowUp_len (p : List Int) (e : Edge) (f : Int) : (flowUp p e f).length = p.length := by simp [flowUp]
theorem flowUp_alt {p : List Int} {e : Edge} {f : Int} (h1 : e.to.toNat ≠ e.fr.toNat) : ((p.set e.fr.toNat (at0 p e.fr.toNat - f)).set e.to.toNat (at0 p e.to.toNat + f)) = flowUp p e f := by
  unfold flowUp
  rw [List.set_comm _ _ h1]
def NodeIn (p : List Int) (b : Int) : Prop := ∀ k, -b ≤ at0 p k ∧ at0 p k ≤ b
theorem NodeIn.up {p : List Int} {b : Int} (h : NodeIn p b) {e : Edge} (he : EdgeIn p.length e) {f : Int} (h1 : -1000 ≤ f) (h2 : f ≤ 1000) : NodeIn (flowUp p e f) (b + 1000) := by
  obtain ⟨f0, f1, t0, t1, -⟩ := he
  intro k
  have a := h k
  have b1 := h e.to.toNat
  have b2 := h e.fr.toNat
  unfold flowUp
  rw [at0_set (by simp; omega), at0_set (by omega)]
  split
  · omega
  · split <;> omega

theorem l_value (d : Nat) (hs : FHs) {ev fa : AV} {l : List Edge} {fl : List Int} {n : Nat} (h : Sl Edge.c ev l) (hl : l.length ≤ 600) (hf : Ints fa fl) (hfl : fl.length = l.length) (hn : n ≤ 200) (he : ∀ e ∈ l, EdgeIn n e ∧ e.fr ≠ e.to) :
    ∀ (suf : List Edge) (sf : List Int) (k j : Nat) (p : List Int) (v : Int) (m : Mem) (fc : Nat), l.drop k = suf → fl.drop k = sf → suf.length < j → p.length = n → NodeIn p (k * 1000) → -(k * 1000000) ≤ v → v ≤ k * 1000000 → OwnI m (0, 13, 20) p →
    ∃ m', x4k (callE (d + 3)) hs 0 j fa (srI (0, 13, 20) n) (I v) ev (I l.length) (I k) m fc = some (.tup [I (flowM p v suf sf).1, I (flowM p v suf sf).2], m') := by
  intro suf
  induction suf with
  | nil =>
    intro sf k j p v m fc hd hdf hj hp hN v0 v1 ho
    obtain ⟨j, rfl⟩ : ∃ i, j = i + 1 := ⟨j - 1, by simp at hj; omega⟩
    have hk0 := List.drop_eq_nil_iff.mp hd
    have hk : ¬ ((k : Int) < (l.length : Int)) := by omega
    simp only [x4k]
    unfold xaf
    subst hp
    have ha : Ints (.slit (p.flatMap intE) p.length false) p := Sl.lit p false
    have ht : Tells (callE (d + 1)) (.clo x2u []) (fun x => !decide (x = 0)) := by
      intro hs x m
      refine ⟨m.next + 1, ?_⟩
      show callE (d + 1) hs x2u [I x] m = _
      rw [xtd]
      unfold x7b xd5
      simp
    obtain ⟨n1, hans⟩ := w_ContainsFunc2 (d + 1) [] ha (by omega) ht mem0
    obtain ⟨m2, -, hcall⟩ := call0_any (m := m) (l := [srI (0, 13, 20) p.length, .clo x2u []]) (l' := [.slit (p.flatMap intE) p.length false, .clo x2u []]) (by
      simp only [List.mapM_cons, List.mapM_nil, frz_own ho]
      rfl) hans (frz_still _ 4 rfl)
    have e : flowM p v [] sf = bif p.any (fun x => !decide (x = 0)) then (0, 25) else (v, 0) := by
      cases sf <;> rfl
    rw [e]
    simp [hk, x4j, hcall]
    cases p.any (fun x => !decide (x = 0)) <;> simp
  | cons e r ih =>
    intro sf k j p v m fc hd hdf hj hp hN v0 v1 ho
    obtain ⟨j, rfl⟩ : ∃ i, j = i + 1 := ⟨j - 1, by simp at hj; omega⟩
    obtain ⟨hk, hke, hd⟩ := drop_cons hd
    have hk' : (k : Int) < (l.length : Int) := by omega
    have hkf : k < fl.length := by omega
    subst hdf
    have ix := h.ix Edge.len hk
    have ld := ld_flat (m := m) Edge.len (by omega) hk
    rw [hke] at ld
    simp only [Edge.c] at ld
    obtain ⟨hee, hne⟩ := he e (hke ▸ List.getElem_mem hk)
    have hee' := hee
    obtain ⟨f0, f1, t0, t1, j0, j1, w0, w1⟩ := hee'
    have ixf := hf.ix intE_len hkf
    have e1 : at0 fl k = fl[k] := at0_lt hkf
    have i1 := ix_own (id := (0, 13, 20)) t0 t1
    have i2 := ix_own (id := (0, 13, 20)) f0 f1
    have b1 := hN e.to.toNat
    have b2 := hN e.fr.toNat
    have htf : e.to.toNat ≠ e.fr.toNat := by omega
    have l1 : e.to.toNat < p.length := by omega
    have l2 : e.fr.toNat < p.length := by omega
    unfold OwnI at ho
    have hfm : flowM p v (e :: r) (fl.drop k) = bif wi fl[k] (-e.wt) e.wt then flowM (flowUp p e fl[k]) (v + fl[k] * e.jump) r (fl.drop (k + 1)) else (0, 2) := by rw [drop_get hkf]; rfl
    rw [hfm]
    simp only [x4k]
    unfold xaf
    cases c : wi fl[k] (-e.wt) e.wt
    · simp (disch := omega) [hk', ix, ld, z_edge, Edge.c, ixf, ld_int, e1, w_within, c]
    have hw := wi_t c
    have hmul : -1000000 ≤ fl[k] * e.jump ∧ fl[k] * e.jump ≤ 1000000 := by
      have := mul_in (a := fl[k]) (b := e.jump) (x := 1000) (y := 1000) (by omega) (by omega)
      omega
    obtain ⟨m', h'⟩ := ih (fl.drop (k + 1)) (k + 1) j (flowUp p e fl[k]) (v + fl[k] * e.jump)
      ((((m.new (0, fc + 4, 9) (.row [I 0, I 0, I 0, I 0] 0 false)).set (0, fc + 4, 9) (.row e.c 0 false)).set (0, 13, 20) (.row ((p.set e.fr.toNat (at0 p e.fr.toNat - fl[k])).flatMap intE) 0 false)).set (0, 13, 20) (.row ((flowUp p e fl[k]).flatMap intE) 0 false)) (fc + 54) hd rfl (by simp at hj; omega) (by rw [flowUp_len]; exact hp)
      (by have := hN.up (hp ▸ hee) (f := fl[k]) (by omega) (by omega); rwa [show (k : Int) * 1000 + 1000 = ((k + 1 : Nat) : Int) * 1000 by omega] at this) (by omega) (by omega) (by unfold OwnI; simp)
    have l3 : e.to.toNat < (p.set e.fr.toNat (at0 p e.fr.toNat - fl[k])).length := by simpa using l1
    have e2 : at0 (p.set e.fr.toNat (at0 p e.fr.toNat - fl[k])) e.to.toNat = at0 p e.to.toNat := by rw [at0_set l2, if_neg htf]
    simp (disch := omega) [hk', ix, ld, z_edge, Edge.c, w_within, i1, i2, ho, ixf, ld_int, e1, e2, c, flowUp_alt htf]
    exact ⟨m', h'⟩

theorem inEdge {n : Int} {l : List Edge} (hr : Right n l) : ∀ e ∈ l, EdgeIn n.toNat e ∧ e.fr ≠ e.to := by
  intro e he
  have := hr.lo
  obtain ⟨⟨a, b⟩, ⟨c, d⟩, hne, ⟨j0, j1⟩, w0, w1⟩ := hr.ed e he
  exact ⟨⟨a, by omega, c, by omega, j0, j1, w0, w1⟩, hne⟩
theorem rep_in (n : Nat) : NodeIn (List.replicate n 0) ((0 : Nat) * 1000) := by
  intro k
  rw [at0_rep]
  omega

theorem w_value (d : Nat) {n : Int} {ev fa : AV} {l : List Edge} {fl : List Int} (h : Sl Edge.c ev l) (hr : Right n l) (hf : Ints fa fl) (m : Mem) :
    sCall0 (callE (d + 4)) x16 [.agg [I n, ev], fa] m = some (.tup [I (checkFlow n l fl).1, I (checkFlow n l fl).2], m) := by
  refine Ans.call0_tup ?_ (by simp [h.still1, hf.still]) rfl
  unfold Ans
  rw [xt2]
  unfold x75 xcr
  have hn0 := hr.lo
  have hn1 := hr.hi
  have hl := hr.len
  simp [mem0, h.one, hf.len u_ints, h.len u_edges]
  by_cases c1 : (fl.length : Int) = (l.length : Int)
  rotate_left
  · simp [checkFlow, c1]
  obtain ⟨m', h'⟩ := l_value d [] h hl hf (by omega) (n := n.toNat) (by omega) (inEdge hr) l fl 0 NN (List.replicate n.toNat 0) 0 (((⟨[], 1⟩ : Mem).new (0, 0, 2) (.row [I n, ev] 0 false)).new (0, 13, 20) (.row ((List.replicate n.toNat (0 : Int)).flatMap intE) 0 false)) 21 rfl rfl (by rw [NN_eq]; omega) (by simp) (rep_in _) (by omega) (by omega) (by unfold OwnI; simp)
  simp [checkFlow, c1, z_ints, mkSl_int hn0 (show n ≤ 1000000 by omega), xag, h.len u_edges]
  exact ⟨m', h'⟩

def flowOf (n : Int) (l : List Edge) (f : List Int) : Int × Int := bif decide ((checkNet n l).2 = 0) then checkFlow n l f else (0, (checkNet n l).2)

theorem w_pCheckFlowOf (d : Nat) {n : Int} {ev fa : AV} {l : List Edge} {fl : List Int} (h : Sl Edge.c ev l) (hf : Ints fa fl) (m : Mem) :
    sCall0 (callE (d + 5)) x3p [.agg [I n, ev], fa] m = some (.tup [I (flowOf n l fl).1, I (flowOf n l fl).2], m) := by
  refine Ans.call0_tup ?_ (by simp [h.still1, hf.still]) rfl
  unfold Ans
  rw [xsq]
  unfold x6x xc8
  simp [mem0, h.one, w_open _ h, z_pnet]
  by_cases c1 : (checkNet n l).2 = 0
  rotate_left
  · simp [flowOf, c1]
  simp [flowOf, c1, w_value d h (right_of c1) hf]

theorem l_flowOf0 (d : Nat) (hs : FHs) {n : Nat} {ev : AV} {p : List Int} (hn : n ≤ 200) (hp : p.length = n) (v : Int) : ∀ (suf : List Int) (k j : Nat) (m : Mem) (fc : Nat), p.drop k = suf → suf.length < j →
    m.get (0, 0, 2) = some (.row [I n, ev] 0 false) → OwnI m (0, 11, 19) p →
    x4b (callE d) hs 0 j (.ptr (0, 0, 2) 0 0) (srI (0, 11, 19) n) (I v) (I k) m fc = some (.tup (bif suf.any (fun x => !decide (x = 0)) then [I 0, I 25] else [I v, I 0]), m) := by
  intro suf
  induction suf with
  | nil =>
    intro k j m fc hd hj hg ho
    obtain ⟨j, rfl⟩ : ∃ i, j = i + 1 := ⟨j - 1, by simp at hj; omega⟩
    have hk0 := List.drop_eq_nil_iff.mp hd
    have hk : ¬ ((k : Int) < (n : Int)) := by omega
    simp only [x4b]
    unfold x9q
    simp [hg, hk, x4a]
  | cons x r ih =>
    intro k j m fc hd hj hg ho
    obtain ⟨j, rfl⟩ : ∃ i, j = i + 1 := ⟨j - 1, by simp at hj; omega⟩
    obtain ⟨hk, hke, hd⟩ := drop_cons hd
    have hk' : (k : Int) < (n : Int) := by omega
    have i1 := ix_own (id := (0, 11, 19)) (n := n) (k := (k : Int)) (by omega) hk'
    have e1 : at0 p k = x := by rw [at0_lt hk, hke]
    unfold OwnI at ho
    simp only [x4b]
    unfold x9q
    simp (disch := omega) [hg, hk', i1, ho, e1]
    by_cases c : x = 0
    rotate_left
    · simp [c]
    have h' := ih (k + 1) j m (fc + 12) hd (by simp at hj; omega) hg ho
    simp [c]
    exact h'

theorem l_flowOf1 (d : Nat) (hs : FHs) {ev fa : AV} {l : List Edge} {fl : List Int} {n : Nat} (h : Sl Edge.c ev l) (hl : l.length ≤ 600) (hf : Ints fa fl) (hfl : fl.length = l.length) (hn : n ≤ 200) (he : ∀ e ∈ l, EdgeIn n e ∧ e.fr ≠ e.to) :
    ∀ (suf : List Edge) (sf : List Int) (k j : Nat) (p : List Int) (v : Int) (m : Mem) (fc : Nat), l.drop k = suf → fl.drop k = sf → suf.length < j → p.length = n → NodeIn p (k * 1000) → -(k * 1000000) ≤ v → v ≤ k * 1000000 →
    m.get (0, 0, 2) = some (.row [I n, ev] 0 false) → OwnI m (0, 11, 19) p →
    ∃ m', x4c (callE (d + 1)) hs 0 j fa (.ptr (0, 0, 2) 0 0) (srI (0, 11, 19) n) (I v) (I k) m fc = some (.tup [I (flowM p v suf sf).1, I (flowM p v suf sf).2], m') := by
  intro suf
  induction suf with
  | nil =>
    intro sf k j p v m fc hd hdf hj hp hN v0 v1 hg ho
    obtain ⟨j, rfl⟩ : ∃ i, j = i + 1 := ⟨j - 1, by simp at hj; omega⟩
    have hk0 := List.drop_eq_nil_iff.mp hd
    have hk : ¬ ((k : Int) < (l.length : Int)) := by omega
    have e : flowM p v [] sf = bif p.any (fun x => !decide (x = 0)) then (0, 25) else (v, 0) := by
      cases sf <;> rfl
    have h' := l_flowOf0 (d + 1) hs hn hp v p 0 NN m (fc + 4 + 1) rfl (by rw [NN_eq]; omega) hg ho
    rw [e]
    simp only [x4c]
    unfold x9r
    simp [hk, hfl, hf.len u_ints, x3r]
    refine ⟨m, ?_⟩
    refine Eq.trans h' ?_
    cases p.any (fun x => !decide (x = 0)) <;> rfl
  | cons e r ih =>
    intro sf k j p v m fc hd hdf hj hp hN v0 v1 hg ho
    obtain ⟨j, rfl⟩ : ∃ i, j = i + 1 := ⟨j - 1, by simp at hj; omega⟩
    obtain ⟨hk, hke, hd⟩ := drop_cons hd
    have hk' : (k : Int) < (l.length : Int) := by omega
    have hkf : k < fl.length := by omega
    subst hdf
    have ix := h.ix Edge.len hk
    have ld := ld_flat (m := m) Edge.len (by omega) hk
    rw [hke] at ld
    simp only [Edge.c] at ld
    obtain ⟨hee, hne⟩ := he e (hke ▸ List.getElem_mem hk)
    have hee' := hee
    obtain ⟨f0, f1, t0, t1, j0, j1, w0, w1⟩ := hee'
    have ixf := hf.ix intE_len hkf
    have e1 : at0 fl k = fl[k] := at0_lt hkf
    have i1 := ix_own (id := (0, 11, 19)) t0 t1
    have i2 := ix_own (id := (0, 11, 19)) f0 f1
    have b1 := hN e.to.toNat
    have b2 := hN e.fr.toNat
    have htf : e.to.toNat ≠ e.fr.toNat := by omega
    have l1 : e.to.toNat < p.length := by omega
    have l2 : e.fr.toNat < p.length := by omega
    unfold OwnI at ho
    have hfm : flowM p v (e :: r) (fl.drop k) = bif wi fl[k] (-e.wt) e.wt then flowM (flowUp p e fl[k]) (v + fl[k] * e.jump) r (fl.drop (k + 1)) else (0, 2) := by rw [drop_get hkf]; rfl
    rw [hfm]
    simp only [x4c]
    unfold x9r
    simp only [hf.len u_ints, hfl, bind_s, sLt_I, hk', decide_true, sCond_t, sFA_ptr, Nat.zero_add, sLd_ptr, hg, ldRow_row, Nat.beq_refl, cond_t, List.drop_succ_cons, List.drop_zero, rd_f, ix, ld]
    simp only [sAlloc_eq]
    simp only [sSt_ptr]
    simp only [z_edge, Mem.get_new, if_true, stRow_4, List.all_cons, List.all_nil, one_I, Bool.and_self, cond_t, bind_s]
    cases c : wi fl[k] (-e.wt) e.wt
    · simp (disch := omega) [hg, hfl, hf.len u_ints, hk', ix, ld, z_edge, Edge.c, ixf, ld_int, e1, w_Within, c]
    have hw := wi_t c
    have hmul : -1000000 ≤ fl[k] * e.jump ∧ fl[k] * e.jump ≤ 1000000 := by
      have := mul_in (a := fl[k]) (b := e.jump) (x := 1000) (y := 1000) (by omega) (by omega)
      omega
    obtain ⟨m', h'⟩ := ih (fl.drop (k + 1)) (k + 1) j (flowUp p e fl[k]) (v + fl[k] * e.jump)
      ((((m.new (0, fc + 9, 9) (.row [I 0, I 0, I 0, I 0] 0 false)).set (0, fc + 9, 9) (.row e.c 0 false)).set (0, 11, 19) (.row ((p.set e.to.toNat (at0 p e.to.toNat + fl[k])).flatMap intE) 0 false)).set (0, 11, 19) (.row ((flowUp p e fl[k]).flatMap intE) 0 false)) (fc + 65) hd rfl (by simp at hj; omega) (by rw [flowUp_len]; exact hp)
      (by have := hN.up (hp ▸ hee) (f := fl[k]) (by omega) (by omega); rwa [show (k : Int) * 1000 + 1000 = ((k + 1 : Nat) : Int) * 1000 by omega] at this) (by omega) (by omega) (by simp [hg]) (by unfold OwnI; simp)
    have l3 : e.fr.toNat < (p.set e.to.toNat (at0 p e.to.toNat + fl[k])).length := by simpa using l2
    simp (disch := omega) [w_Within, i1, i2, ho, ixf, ld_int, e1, c, -sSt_ptr]
    simp only [sSt_ptr]
    simp (disch := omega) [i2, ho, -sSt_ptr]
    simp (disch := omega) [apart_RS]
    exact ⟨m', h'⟩

theorem w_CheckFlowOf (d : Nat) {n : Int} {ev fa : AV} {l : List Edge} {fl : List Int} (h : Sl Edge.c ev l) (hr : Right n l) (hf : Ints fa fl) (m : Mem) :
    sCall0 (callE (d + 2)) xl [.agg [I n, ev], fa] m = some (.tup [I (checkFlow n l fl).1, I (checkFlow n l fl).2], m) := by
  refine Ans.call0_tup ?_ (by simp [h.still1, hf.still]) rfl
  unfold Ans
  rw [xsm]
  unfold x6t xc0
  have hn0 := hr.lo
  have hn1 := hr.hi
  have hl := hr.len
  simp [mem0, h.one, hf.len u_ints, h.len u_edges]
  by_cases c1 : (fl.length : Int) = (l.length : Int)
  rotate_left
  · simp [checkFlow, c1]
  have hnn : ((n.toNat : Nat) : Int) = n := by omega
  obtain ⟨m', h'⟩ := l_flowOf1 d [] h hl hf (by omega) (n := n.toNat) (by omega) (inEdge hr) l fl 0 NN (List.replicate n.toNat 0) 0 (((⟨[], 1⟩ : Mem).new (0, 0, 2) (.row [I n, ev] 0 false)).new (0, 11, 19) (.row ((List.replicate n.toNat (0 : Int)).flatMap intE) 0 false)) 15 rfl rfl (by rw [NN_eq]; omega) (by simp) (rep_in _) (by omega) (by omega) (by simp [hnn]) (by unfold OwnI; simp)
  simp [checkFlow, c1, z_ints, mkSl_int hn0 (show n ≤ 1000000 by omega), x9s]
  exact ⟨m', h'⟩

end Go.Ix
