import Derived.Test.YtljibmnhhdiakaaWSides
set_option linter.unusedSimpArgs false
set_option linter.unusedVariables false
namespace Go.Ix
open Go.Proofs
theorem Edge.still1 (e : Edge) : e.c.all Go.Ix.still1 = true := rfl
theorem mkLit_4 {id : Id} {a b c d : Int} {m : Mem} {R : Type} (k : AV → Mem → Option R) : x1eo x6 [(0, 4, .agg [I a, I b, I c, I d])] 1 4 id m k = k (.slit [I a, I b, I c, I d] 1 true) m := by
  simp [x1eo, x1fs, x1eq, x1j7, List.range_succ, x1er]
theorem x1ta (a b c d : Int) : x1el x6 [(0, 1, I a), (1, 1, I b), (2, 1, I c), (3, 1, I d)] = some (.agg [I a, I b, I c, I d]) := by
  simp [x1el, x1fs, x1j7]
theorem jumpM_w {a b : Int} (h1 : -2048 ≤ a) (h2 : a ≤ 2047) (h3 : -2048 ≤ b) (h4 : b ≤ 2047) : w64 ((b - a - x1fu (b - a)).tdiv 4096) = x1hi a b := by
  have := x1ok h1 h2 h3 h4
  exact x1f1 (by unfold x1hi at this; omega) (by unfold x1hi at this; omega)
def okE (id : Id) : Prop := id.2.2 = 68 ∨ id.2.2 = 116
structure NetInv (r c n : Int) (p ws : AV) (ph wl : List Int) (idm idn idw : Id) (m : Mem) (l : List Edge) : Prop where
  map : m.get idm = some (.row [I r, I c, p] 0 false)
  net : ∃ ev, m.get idn = some (.row [I n, ev] 0 false) ∧ Gk 4 Edge.c okE m ev l
  wts : m.get idw = some (.row [ws] 0 false)
  nxt : 1 ≤ m.next
theorem netM_snoc (ph ws : List Int) (l : List (Int × Int)) (x : Int × Int) : netM ph ws 0 (l ++ [x]) = if x1fy ph x = true then netM ph ws 0 l else netM ph ws 0 l ++ [mkE ph ws l.length x] := by
  rw [x1r7, Nat.zero_add]
  simp only [netM]
  cases x1fy ph x <;> simp
theorem x1tb (d : Nat) {hs : FHs} {r c n : Int} {p ws : AV} {ph wl : List Int} (hp : Ints p ph) (hw : Ints ws wl) (hph : PhIn ph) {m : Mem} {l : List Edge} (hl : l.length ≤ 10000) (hI : NetInv r c n p ws ph wl (0, 4, 3) (0, 10, 4) (0, 18, 5) m l)
    (h2 : ∀ id o, id = (0, 1, 2) → m.get id = some o → True) {k : Nat} {x : Int × Int} (hk : k < wl.length) (hx : 0 ≤ x.1 ∧ x.1 < ph.length ∧ 0 ≤ x.2 ∧ x.2 < ph.length) :
    ∃ m', x5i (x1e6 (d + 1)) hs m.next (.ptr (0, 4, 3) 0 0) (.ptr (0, 10, 4) 0 0) (.ptr (0, 18, 5) 0 0) (I k) (.agg [I x.1, I x.2]) ⟨m.hp, m.next + 1⟩ 0 = some m' ∧
      NetInv r c n p ws ph wl (0, 4, 3) (0, 10, 4) (0, 18, 5) m' (if x1fy ph x = true then l else l ++ [mkE ph wl k x]) ∧ m'.get (0, 1, 2) = m.get (0, 1, 2) := by
  obtain ⟨h1, ⟨ev, h3, hG⟩, h4, h5⟩ := hI
  obtain ⟨x0, x1, x2, x3⟩ := hx
  have i1 := hp.ixI x1et x0 x1
  have i2 := hp.ixI x1et x2 x3
  have iw := hw.ix x1et hk
  have l1 : x.1.toNat < ph.length := by omega
  have l2 : x.2.toNat < ph.length := by omega
  have b1 := hph x.1.toNat
  have b2 := hph x.2.toNat
  have g1 : (⟨m.hp, m.next + 1⟩ : Mem).get (0, 4, 3) = some (.row [I r, I c, p] 0 false) := h1
  have g3 : (⟨m.hp, m.next + 1⟩ : Mem).get (0, 10, 4) = some (.row [I n, ev] 0 false) := h3
  have g4 : (⟨m.hp, m.next + 1⟩ : Mem).get (0, 18, 5) = some (.row [ws] 0 false) := h4
  have hnb : Nat.blt 0 (m.next + 1) = true := by simp [Nat.blt]
  have ia0 : ∀ id, sIxA 2 1 (.ptr id 0 0) (I 0) = some (.ptr id 0 0) := fun _ => by simp [sIxA, asI]
  have ia1 : ∀ id, sIxA 2 1 (.ptr id 0 0) (I 1) = some (.ptr id 0 1) := fun _ => by simp [sIxA, asI]
  obtain ⟨M, hM⟩ : ∃ M, M = (((⟨m.hp, m.next + 1⟩ : Mem).new (m.next, 1, 7) (.row [I 0, I 0] 0 false)).set (m.next, 1, 7) (.row [I x.1, I x.2] 0 false)) := ⟨_, rfl⟩
  have hMg : ∀ j : Id, j ≠ (m.next, 1, 7) → M.get j = m.get j := fun j hj => by
    rw [hM, Mem.get_set, if_neg hj, Mem.get_new, if_neg hj]; rfl
  have hM7 : M.get (m.next, 1, 7) = some (.row [I x.1, I x.2] 0 false) := by rw [hM]; simp
  have hMn : M.next = m.next + 1 := by rw [hM]; rfl
  have e1 : M.get (0, 4, 3) = some (.row [I r, I c, p] 0 false) := by rw [hMg _ (by simp)]; exact h1
  have e3 : M.get (0, 10, 4) = some (.row [I n, ev] 0 false) := by rw [hMg _ (by simp)]; exact h3
  have e4 : M.get (0, 18, 5) = some (.row [ws] 0 false) := by rw [hMg _ (by simp)]; exact h4
  have hGM : Gk 4 Edge.c okE M ev l := hG.frame fun id hid => hMg id (by rintro rfl; rcases hid with h | h <;> simp at h)
  have start : ∀ K : Option Mem, x4j (x1e6 (d + 1)) hs m.next (.ptr (0, 4, 3) 0 0) (.ptr (0, 10, 4) 0 0) (.ptr (0, 18, 5) 0 0) (I k) (.ptr (m.next, 1, 7) 0 0) M 3 = K →
      x5i (x1e6 (d + 1)) hs m.next (.ptr (0, 4, 3) 0 0) (.ptr (0, 10, 4) 0 0) (.ptr (0, 18, 5) 0 0) (I k) (.agg [I x.1, I x.2]) ⟨m.hp, m.next + 1⟩ 0 = K := by
    intro K hK
    unfold x5i
    rw [← hK, hM]
    simp [z_2int]
  by_cases v1 : at0 ph x.1.toNat = void
  · have hv : x1fy ph x = true := by simp [x1fy, v1]
    refine ⟨M, start _ ?_, ⟨e1, ⟨ev, e3, by rw [if_pos hv]; exact hGM⟩, e4, by omega⟩, hMg _ (by simp)⟩
    unfold x4j
    simp (disch := omega) [e1, hM7, ia0, ia1, i1, i2, x1f5, x1jb, v1]
  by_cases v2 : at0 ph x.2.toNat = void
  · have hv : x1fy ph x = true := by simp [x1fy, v2]
    refine ⟨M, start _ ?_, ⟨e1, ⟨ev, e3, by rw [if_pos hv]; exact hGM⟩, e4, by omega⟩, hMg _ (by simp)⟩
    unfold x4j
    simp (disch := omega) [e1, hM7, ia0, ia1, i1, i2, x1f5, x1jb, v1, v2]
  have hv : x1fy ph x = false := by simp [x1fy, v1, v2]
  have hj := jumpM_w (a := at0 ph x.1.toNat) (b := at0 ph x.2.toNat) (by omega) (by omega) (by omega) (by omega)
  have hwr := x1iu (at0 ph x.2.toNat - at0 ph x.1.toNat)
  obtain ⟨a', m2, A, hG2, c1, c2, n2, f2⟩ := hGM.app Edge.len (by omega) (bytes := 32) (id0 := (m.next, 3 + 41, 68)) (Or.inl rfl) (by unfold x1em; omega) (mkE ph wl k x)
  have e3' : m2.get (0, 10, 4) = some (.row [I n, ev] 0 false) := by rw [f2 _ (by unfold okE; simp)]; exact e3
  refine ⟨m2.set (0, 10, 4) (.row [I n, a'] 0 false), start _ ?_, ⟨?_, ⟨a', by simp, ?_⟩, ?_, ?_⟩, ?_⟩
  · unfold x4j
    have hel : ∀ M : Mem, elems M.get 4 (.slit [I x.1, I x.2, I (x1hi (at0 ph x.1.toNat) (at0 ph x.2.toNat)), I (at0 wl k)] 1 true) = some ((mkE ph wl k x).c, 1) := fun _ => rfl
    have hq : sQuo (I (at0 ph x.2.toNat - at0 ph x.1.toNat - x1fu (at0 ph x.2.toNat - at0 ph x.1.toNat))) (I 4096) = some (I (x1hi (at0 ph x.1.toNat) (at0 ph x.2.toNat))) := by rw [x1lw (by omega), hj]
    have hc : ∀ z : AV, cAp (some M.next) (tR (.ptr (0, 18, 5) 0 0)) 2 = true := fun _ => by rw [hMn]; simp [cAp, tR, Nat.blt]
    have hc2 : ∀ l : List AV, cAp (some M.next) (tR (.plit l)) 2 = true := fun _ => rfl
    simp (disch := omega) [e1, hM7, ia0, ia1, i1, i2, iw, x1f5, x1jb, v1, v2, e3, e4, x1ma, hq, x1ta, mkLit_4, hel, A, e3', c1, c2, hc U, hc2, x1e9, disj, tR]
    simp [hc U, hc2, cAp, tR, hMn, Nat.blt, Nat.ble_eq_true_of_le (show 1 ≤ m.next + 1 by omega)]
  · rw [Mem.get_set, if_neg (by simp), f2 _ (by unfold okE; simp)]; exact e1
  · rw [hv]
    simp only [Bool.false_eq_true, if_false]
    exact hG2.frame fun id hid => by rw [Mem.get_set, if_neg (by rintro rfl; rcases hid with h | h <;> simp at h)]
  · rw [Mem.get_set, if_neg (by simp), f2 _ (by unfold okE; simp)]; exact e4
  · simp only [Mem.next_set]; omega
  · rw [Mem.get_set, if_neg (by simp), f2 _ (by unfold okE; simp), hMg _ (by simp)]
theorem x1kd {r c : Int} {ph ac dn : List Int} (h : x1fo r c ph ac dn = 0) : 1 ≤ r ∧ r ≤ 64 ∧ 1 ≤ c ∧ c ≤ 64 ∧ (ph.length : Int) = r * c ∧ x1fr isW ph = 0 ∧ (ac.length : Int) = r * (c - 1) ∧ (dn.length : Int) = (r - 1) * c ∧ (ph.length : Int) ≤ 144 ∧ x1hh (ac ++ dn) = 0 := by
  unfold x1fo at h
  by_cases c1 : x1g4 r c ph.length = 0
  rotate_left
  · simp [c1] at h
  have hsz : x1gd (fun _ => true) r c ph = 0 := by
    unfold x1gd x1fr
    simp [c1]
    cases e : ph.any (badP fun _ => true)
    · rfl
    · exfalso
      rw [List.any_eq_true] at e
      obtain ⟨x, -, hx⟩ := e
      simp [badP] at hx
  obtain ⟨r0, r1, c0, c2, hlen, -⟩ := x1mb hsz
  by_cases c3 : 144 < (ph.length : Int)
  · simp [c1, c3] at h
  by_cases c4 : x1fr isW ph = 0
  rotate_left
  · simp [c1, c3, c4] at h
  by_cases c5 : (ac.length : Int) = r * (c - 1)
  rotate_left
  · simp [c1, c3, c4, c5] at h
  by_cases c6 : (dn.length : Int) = (r - 1) * c
  rotate_left
  · simp [c1, c3, c4, c5, c6] at h
  simp [c1, c3, c4, c5, c6] at h
  exact ⟨r0, r1, c0, c2, hlen, c4, c5, c6, by omega, h⟩
theorem w_netOf (d : Nat) {r c : Int} {p a b : AV} {ph ac dn : List Int} (hp : Ints p ph) (ha : Ints a ac) (hb : Ints b dn) (hr : x1fo r c ph ac dn = 0) (m : Mem) :
    ∃ ev, Sl Edge.c ev (x1g9 r c ph ac dn) ∧ x1e8 (x1e6 (d + 4)) x1d [.agg [I r, I c, p, a, b]] m = some (.agg [I ph.length, ev], m) := by
  obtain ⟨r0, r1, c0, c1, hlen, hph, hac, hdn, -, -⟩ := x1kd hr
  have hrc := x1ja (wi_iff.mpr ⟨r0, r1⟩) (wi_iff.mpr ⟨c0, c1⟩)
  have e1 : r * (c - 1) = r * c - r := by rw [Int.mul_sub]; omega
  have e2 : (r - 1) * c = r * c - c := by rw [Int.sub_mul]; omega
  have hsl := x1lb r0 c0
  have hin := x1kc hph
  obtain ⟨m4, hm4⟩ : ∃ m4 : Mem, m4 = ((((((⟨[], 1⟩ : Mem).new (0, 0, 1) (.row [I r, I c, p, a, b] 0 false)).new (0, 1, 2) (.row [I 0, nilS] 0 false)).new (0, 4, 3) (.row [I 0, I 0, nilS] 0 false)).set (0, 4, 3) (.row [I r, I c, p] 0 false)).new (0, 10, 4) (.row [I 0, nilS] 0 false)).set (0, 10, 4) (.row [I ph.length, nilS] 0 false) := ⟨_, rfl⟩
  obtain ⟨ws, hws, hC⟩ := x1qc (d + 1) ha hb (by omega) (by omega) m4
  obtain ⟨m5, hm5⟩ : ∃ m5 : Mem, m5 = (m4.new (0, 18, 5) (.row [nilS] 0 false)).set (0, 18, 5) (.row [ws] 0 false) := ⟨_, rfl⟩
  have hsd : x1e8 (x1e6 (d + 3)) x47 [I r, I c] m5 = some (.clo x2b [.plit [I c], .plit [I r]], m5) := by
    refine x1j5 (m' := ((⟨[], 1⟩ : Mem).new (0, 0, 2) (.row [I r] 0 false)).new (0, 1, 3) (.row [I c] 0 false)) (r := .clo x2b [.ptr (0, 1, 3) 0 0, .ptr (0, 0, 2) 0 0]) rfl ?_ ?_
    · rw [xsk]
      unfold x7n xey
      simp [mem0]
    · rfl
  have h0 : NetInv r c ph.length p ws ph (ac ++ dn) (0, 4, 3) (0, 10, 4) (0, 18, 5) ⟨m5.hp, m5.next + 1⟩ [] ∧ (⟨m5.hp, m5.next + 1⟩ : Mem).get (0, 1, 2) = some (.row [I 0, nilS] 0 false) := by
    have g : ∀ id, (⟨m5.hp, m5.next + 1⟩ : Mem).get id = m5.get id := fun _ => rfl
    refine ⟨⟨?_, ⟨nilS, ?_, .nil⟩, ?_, by simp⟩, ?_⟩ <;> rw [g, hm5, hm4] <;> simp
  obtain ⟨m', hcall, hI, hres⟩ := w_sides1 (d + 2) (0, 25, 0) (fun args m => bif Nat.beq args.length 2 && true then x5i (x1e6 (d + 3)) [] m.next (.ptr (0, 4, 3) 0 0) (.ptr (0, 10, 4) 0 0) (.ptr (0, 18, 5) 0 0) (args.getD 0 U) (args.getD 1 U) ⟨m.hp, m.next + 1⟩ 0 else none) [] r0 r1 c0 c1
    (fun k m => NetInv r c ph.length p ws ph (ac ++ dn) (0, 4, 3) (0, 10, 4) (0, 18, 5) m (netM ph (ac ++ dn) 0 ((x1fx r c).take k)) ∧ m.get (0, 1, 2) = some (.row [I 0, nilS] 0 false)) m5 h0 (by
      intro k x m hx ⟨hI, hg⟩
      obtain ⟨hk, hxe⟩ := List.getElem?_eq_some_iff.mp hx
      have hb := x1oj r0 c0 (hxe ▸ List.getElem_mem hk)
      have hl := x1me ph (ac ++ dn) ((x1fx r c).take k) 0
      obtain ⟨m', h1, h2, h3⟩ := x1tb (d + 2) (hs := []) hp hws hin (by simp at hl; omega) hI (fun _ _ _ _ => trivial) (k := k) (x := x) (by simp; omega) (by omega)
      refine ⟨m', ?_, ?_, by rw [h3]; exact hg⟩
      · simpa using h1
      · rw [List.take_succ_eq_append_getElem hk, hxe, netM_snoc, List.length_take, Nat.min_eq_left (by omega)]
        exact h2)
  rw [List.take_length] at hI
  obtain ⟨-, ⟨ev, hgn, hG⟩, -, -⟩ := hI
  have hG2 : Gk 4 Edge.c okE (m'.set (0, 1, 2) (.row [I ph.length, ev] 0 false)) ev (x1g9 r c ph ac dn) := hG.frame fun id hid => by rw [Mem.get_set, if_neg (by rintro rfl; rcases hid with h | h <;> simp at h)]
  obtain ⟨ev', hev, hfz⟩ := hG2.frz (k := 3) Edge.len Edge.still1
  refine ⟨ev', hev, x1j5 (by simp [hp.still1, ha.still1, hb.still1]) (m' := m'.set (0, 1, 2) (.row [I ph.length, ev] 0 false)) (r := .agg [I ph.length, ev]) ?_ ?_⟩
  · rw [xrz]
    unfold x71 xe5
    have hml : ∀ (id : Id) (m : Mem) (k : AV → Mem → Option (AV × Mem)), x1eo [nilS] [(0, 1, a), (1, 1, b)] 2 1 id m k = k (.slit [a, b] 2 true) m := by
      intro id m k
      simp [x1eo, x1fs, x1eq, ha.cells, hb.cells, ha.one, hb.one, ha.clean1, hb.clean1, List.range_succ, x1er]
    have hbn : x1el [I 0, nilS] [(0, 1, I ph.length)] = some (.agg [I ph.length, nilS]) := by simp [x1el, x1fs]
    rw [hm4] at hC
    simp [mem0, hp.one, ha.one, hb.one, x1kb, z_net, hp.len x1ej, hml, hbn, hC, x1k9, hws.cells, hws.one]
    rw [← hm4, ← hm5]
    unfold x9z
    have g3 : m5.get (0, 4, 3) = some (.row [I r, I c, p] 0 false) := by rw [hm5, hm4]; simp
    simp only [x1ey, x1ea, Nat.zero_add, x1ef, g3, x1eh, Nat.beq_refl, x1ed, List.drop_zero, List.drop_succ_cons, rd_f, hsd]
    unfold x9y
    simp only [sRng]
    rw [show (20 + 5 : Nat) = 25 from rfl]
    rw [hcall]
    unfold x4i
    simp [hgn, hres, hG.one.1, hG.one.2, sLdP]
  · show ([I (ph.length : Int), ev].mapM (frz (m'.set (0, 1, 2) (.row [I ph.length, ev] 0 false)).get 5)).map AV.agg = _
    simp only [List.mapM_cons, List.mapM_nil, hfz]
    rfl
end Go.Ix
