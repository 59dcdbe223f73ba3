/- The net of a task: what the program and the reference make. -/
import Derived.Test.YtljibmnhhdiakaaWSides
set_option linter.unusedSimpArgs false
set_option linter.unusedVariables false
namespace Go.Ix
open Go.Proofs

theorem Edge.still1 (e : Edge) : e.c.all Go.Ix.still1 = true := rfl
theorem mkLit_4 {id : Id} {a b c d : Int} {m : Mem} {R : Type} (k : AV → Mem → Option R) : sMkLit x11 [(0, 4, .agg [I a, I b, I c, I d])] 1 4 id m k = k (.slit [I a, I b, I c, I d] 1 true) m := by
  simp [sMkLit, sFill, zeros, z_edge, List.range_succ, splice]
theorem build_edge (a b c d : Int) : sBuild x11 [(0, 1, I a), (1, 1, I b), (2, 1, I c), (3, 1, I d)] = some (.agg [I a, I b, I c, I d]) := by
  simp [sBuild, sFill, z_edge]
theorem jumpM_w {a b : Int} (h1 : -2048 ≤ a) (h2 : a ≤ 2047) (h3 : -2048 ≤ b) (h4 : b ≤ 2047) : w64 ((b - a - wrapM (b - a)).tdiv 4096) = jumpM a b := by
  have := jumpM_in h1 h2 h3 h4
  exact w64_in (by unfold jumpM at this; omega) (by unfold jumpM at this; omega)

/-- Where the edges of a net under way lie. -/
def okE (id : Id) : Prop := id.2.2 = 68 ∨ id.2.2 = 116
structure NetInv (r c n : Int) (p ws : AV) (ph wl : List Int) (idm idn idw : Id) (m : Mem) (l : List Edge) : Prop where
  map : m.get idm = some (.row [I r, I c, p] 0 false)
  net : ∃ ev, m.get idn = some (.row [I n, ev] 0 false) ∧ Gk 4 Edge.c okE m ev l
  wts : m.get idw = some (.row [ws] 0 false)
  nxt : 1 ≤ m.next

theorem netM_snoc (ph ws : List Int) (l : List (Int × Int)) (x : Int × Int) : netM ph ws 0 (l ++ [x]) = if voidE ph x = true then netM ph ws 0 l else netM ph ws 0 l ++ [mkE ph ws l.length x] := by
  rw [netM_app, Nat.zero_add]
  simp only [netM]
  cases voidE ph x <;> simp

theorem netOf_step (d : Nat) {hs : FHs} {r c n : Int} {p ws : AV} {ph wl : List Int} (hp : Ints p ph) (hw : Ints ws wl) (hph : PhIn ph) {m : Mem} {l : List Edge} (hl : l.length ≤ 10000) (hI : NetInv r c n p ws ph wl (0, 4, 3) (0, 10, 4) (0, 18, 5) m l)
    (h2 : ∀ id o, id = (0, 1, 2) → m.get id = some o → True) {k : Nat} {x : Int × Int} (hk : k < wl.length) (hx : 0 ≤ x.1 ∧ x.1 < ph.length ∧ 0 ≤ x.2 ∧ x.2 < ph.length) :
    ∃ m', x7v (callE (d + 1)) hs m.next (.ptr (0, 4, 3) 0 0) (.ptr (0, 10, 4) 0 0) (.ptr (0, 18, 5) 0 0) (I k) (.agg [I x.1, I x.2]) ⟨m.hp, m.next + 1⟩ 0 = some m' ∧
      NetInv r c n p ws ph wl (0, 4, 3) (0, 10, 4) (0, 18, 5) m' (if voidE ph x = true then l else l ++ [mkE ph wl k x]) ∧ m'.get (0, 1, 2) = m.get (0, 1, 2) := by
  obtain ⟨h1, ⟨ev, h3, hG⟩, h4, h5⟩ := hI
  obtain ⟨x0, x1, x2, x3⟩ := hx
  have i1 := hp.ixI intE_len x0 x1
  have i2 := hp.ixI intE_len x2 x3
  have iw := hw.ix intE_len hk
  have l1 : x.1.toNat < ph.length := by omega
  have l2 : x.2.toNat < ph.length := by omega
  have b1 := hph x.1.toNat
  have b2 := hph x.2.toNat
  have g1 : (⟨m.hp, m.next + 1⟩ : Mem).get (0, 4, 3) = some (.row [I r, I c, p] 0 false) := h1
  have g3 : (⟨m.hp, m.next + 1⟩ : Mem).get (0, 10, 4) = some (.row [I n, ev] 0 false) := h3
  have g4 : (⟨m.hp, m.next + 1⟩ : Mem).get (0, 18, 5) = some (.row [ws] 0 false) := h4
  have hnb : Nat.blt 0 (m.next + 1) = true := by simp [Nat.blt]
  have ia0 : ∀ id, sIxA 2 1 (.ptr id 0 0) (I 0) = some (.ptr id 0 0) := fun _ => by simp [sIxA, asI]
  have ia1 : ∀ id, sIxA 2 1 (.ptr id 0 0) (I 1) = some (.ptr id 0 1) := fun _ => by simp [sIxA, asI]
  obtain ⟨M, hM⟩ : ∃ M, M = (((⟨m.hp, m.next + 1⟩ : Mem).new (m.next, 1, 7) (.row [I 0, I 0] 0 false)).set (m.next, 1, 7) (.row [I x.1, I x.2] 0 false)) := ⟨_, rfl⟩
  have hMg : ∀ j : Id, j ≠ (m.next, 1, 7) → M.get j = m.get j := fun j hj => by
    rw [hM, Mem.get_set, if_neg hj, Mem.get_new, if_neg hj]; rfl
  have hM7 : M.get (m.next, 1, 7) = some (.row [I x.1, I x.2] 0 false) := by rw [hM]; simp
  have hMn : M.next = m.next + 1 := by rw [hM]; rfl
  have e1 : M.get (0, 4, 3) = some (.row [I r, I c, p] 0 false) := by rw [hMg _ (by simp)]; exact h1
  have e3 : M.get (0, 10, 4) = some (.row [I n, ev] 0 false) := by rw [hMg _ (by simp)]; exact h3
  have e4 : M.get (0, 18, 5) = some (.row [ws] 0 false) := by rw [hMg _ (by simp)]; exact h4
  have hGM : Gk 4 Edge.c okE M ev l := hG.frame fun id hid => hMg id (by rintro rfl; rcases hid with h | h <;> simp at h)
  have start : ∀ K : Option Mem, x7u (callE (d + 1)) hs m.next (.ptr (0, 4, 3) 0 0) (.ptr (0, 10, 4) 0 0) (.ptr (0, 18, 5) 0 0) (I k) (.ptr (m.next, 1, 7) 0 0) M 3 = K →
      x7v (callE (d + 1)) hs m.next (.ptr (0, 4, 3) 0 0) (.ptr (0, 10, 4) 0 0) (.ptr (0, 18, 5) 0 0) (I k) (.agg [I x.1, I x.2]) ⟨m.hp, m.next + 1⟩ 0 = K := by
    intro K hK
    unfold x7v
    rw [← hK, hM]
    simp [z_2int]
  by_cases v1 : at0 ph x.1.toNat = void
  · have hv : voidE ph x = true := by simp [voidE, v1]
    refine ⟨M, start _ ?_, ⟨e1, ⟨ev, e3, by rw [if_pos hv]; exact hGM⟩, e4, by omega⟩, hMg _ (by simp)⟩
    unfold x7u
    simp (disch := omega) [e1, hM7, ia0, ia1, i1, i2, ld_int, w_isVoid, v1]
  by_cases v2 : at0 ph x.2.toNat = void
  · have hv : voidE ph x = true := by simp [voidE, v2]
    refine ⟨M, start _ ?_, ⟨e1, ⟨ev, e3, by rw [if_pos hv]; exact hGM⟩, e4, by omega⟩, hMg _ (by simp)⟩
    unfold x7u
    simp (disch := omega) [e1, hM7, ia0, ia1, i1, i2, ld_int, w_isVoid, v1, v2]
  have hv : voidE ph x = false := by simp [voidE, v1, v2]
  have hj := jumpM_w (a := at0 ph x.1.toNat) (b := at0 ph x.2.toNat) (by omega) (by omega) (by omega) (by omega)
  have hwr := wrapM_in (at0 ph x.2.toNat - at0 ph x.1.toNat)
  obtain ⟨a', m2, A, hG2, c1, c2, n2, f2⟩ := hGM.app Edge.len (by omega) (bytes := 32) (id0 := (m.next, 3 + 41, 68)) (Or.inl rfl) (by unfold roomy; omega) (mkE ph wl k x)
  have e3' : m2.get (0, 10, 4) = some (.row [I n, ev] 0 false) := by rw [f2 _ (by unfold okE; simp)]; exact e3
  refine ⟨m2.set (0, 10, 4) (.row [I n, a'] 0 false), start _ ?_, ⟨?_, ⟨a', by simp, ?_⟩, ?_, ?_⟩, ?_⟩
  · unfold x7u
    have hel : ∀ M : Mem, elems M.get 4 (.slit [I x.1, I x.2, I (jumpM (at0 ph x.1.toNat) (at0 ph x.2.toNat)), I (at0 wl k)] 1 true) = some ((mkE ph wl k x).c, 1) := fun _ => rfl
    have hq : sQuo (I (at0 ph x.2.toNat - at0 ph x.1.toNat - wrapM (at0 ph x.2.toNat - at0 ph x.1.toNat))) (I 4096) = some (I (jumpM (at0 ph x.1.toNat) (at0 ph x.2.toNat))) := by rw [sQuo_I (by omega), hj]
    have hc : ∀ z : AV, cAp (some M.next) (tR (.ptr (0, 18, 5) 0 0)) 2 = true := fun _ => by rw [hMn]; simp [cAp, tR, Nat.blt]
    have hc2 : ∀ l : List AV, cAp (some M.next) (tR (.plit l)) 2 = true := fun _ => rfl
    simp (disch := omega) [e1, hM7, ia0, ia1, i1, i2, iw, ld_int, w_isVoid, v1, v2, e3, e4, w_wrapped, hq, build_edge, mkLit_4, hel, A, e3', c1, c2, hc U, hc2, apartIds, disj, tR]
    simp [hc U, hc2, cAp, tR, hMn, Nat.blt, Nat.ble_eq_true_of_le (show 1 ≤ m.next + 1 by omega)]
  · rw [Mem.get_set, if_neg (by simp), f2 _ (by unfold okE; simp)]; exact e1
  · rw [hv]
    simp only [Bool.false_eq_true, if_false]
    exact hG2.frame fun id hid => by rw [Mem.get_set, if_neg (by rintro rfl; rcases hid with h | h <;> simp at h)]
  · rw [Mem.get_set, if_neg (by simp), f2 _ (by unfold okE; simp)]; exact e4
  · simp only [Mem.next_set]; omega
  · rw [Mem.get_set, if_neg (by simp), f2 _ (by unfold okE; simp), hMg _ (by simp)]

/-- What of a task that is right. -/
theorem task_right {r c : Int} {ph ac dn : List Int} (h : taskM r c ph ac dn = 0) : 1 ≤ r ∧ r ≤ 64 ∧ 1 ≤ c ∧ c ≤ 64 ∧ (ph.length : Int) = r * c ∧ phasesM isW ph = 0 ∧ (ac.length : Int) = r * (c - 1) ∧ (dn.length : Int) = (r - 1) * c ∧ (ph.length : Int) ≤ 144 ∧ wErrM (ac ++ dn) = 0 := by
  unfold taskM at h
  by_cases c1 : sizeM r c ph.length = 0
  rotate_left
  · simp [c1] at h
  have hsz : mapM1 (fun _ => true) r c ph = 0 := by
    unfold mapM1 phasesM
    simp [c1]
    cases e : ph.any (badP fun _ => true)
    · rfl
    · exfalso
      rw [List.any_eq_true] at e
      obtain ⟨x, -, hx⟩ := e
      simp [badP] at hx
  obtain ⟨r0, r1, c0, c2, hlen, -⟩ := map_right hsz
  by_cases c3 : 144 < (ph.length : Int)
  · simp [c1, c3] at h
  by_cases c4 : phasesM isW ph = 0
  rotate_left
  · simp [c1, c3, c4] at h
  by_cases c5 : (ac.length : Int) = r * (c - 1)
  rotate_left
  · simp [c1, c3, c4, c5] at h
  by_cases c6 : (dn.length : Int) = (r - 1) * c
  rotate_left
  · simp [c1, c3, c4, c5, c6] at h
  simp [c1, c3, c4, c5, c6] at h
  exact ⟨r0, r1, c0, c2, hlen, c4, c5, c6, by omega, h⟩

theorem w_netOf (d : Nat) {r c : Int} {p a b : AV} {ph ac dn : List Int} (hp : Ints p ph) (ha : Ints a ac) (hb : Ints b dn) (hr : taskM r c ph ac dn = 0) (m : Mem) :
    ∃ ev, Sl Edge.c ev (netOfM r c ph ac dn) ∧ sCall0 (callE (d + 4)) xr [.agg [I r, I c, p, a, b]] m = some (.agg [I ph.length, ev], m) := by
  obtain ⟨r0, r1, c0, c1, hlen, hph, hac, hdn, -, -⟩ := task_right hr
  have hrc := mul64 (wi_iff.mpr ⟨r0, r1⟩) (wi_iff.mpr ⟨c0, c1⟩)
  have e1 : r * (c - 1) = r * c - r := by rw [Int.mul_sub]; omega
  have e2 : (r - 1) * c = r * c - c := by rw [Int.sub_mul]; omega
  have hsl := sides_len r0 c0
  have hin := phIn_of hph
  obtain ⟨m4, hm4⟩ : ∃ m4 : Mem, m4 = ((((((⟨[], 1⟩ : Mem).new (0, 0, 1) (.row [I r, I c, p, a, b] 0 false)).new (0, 1, 2) (.row [I 0, nilS] 0 false)).new (0, 4, 3) (.row [I 0, I 0, nilS] 0 false)).set (0, 4, 3) (.row [I r, I c, p] 0 false)).new (0, 10, 4) (.row [I 0, nilS] 0 false)).set (0, 10, 4) (.row [I ph.length, nilS] 0 false) := ⟨_, rfl⟩
  obtain ⟨ws, hws, hC⟩ := w_Concat (d + 1) ha hb (by omega) (by omega) m4
  obtain ⟨m5, hm5⟩ : ∃ m5 : Mem, m5 = (m4.new (0, 18, 5) (.row [nilS] 0 false)).set (0, 18, 5) (.row [ws] 0 false) := ⟨_, rfl⟩
  have hsd : sCall0 (callE (d + 3)) x6f [I r, I c] m5 = some (.clo xg [.plit [I c], .plit [I r]], m5) := by
    refine call0_frz (m' := ((⟨[], 1⟩ : Mem).new (0, 0, 2) (.row [I r] 0 false)).new (0, 1, 3) (.row [I c] 0 false)) (r := .clo xg [.ptr (0, 1, 3) 0 0, .ptr (0, 0, 2) 0 0]) rfl ?_ ?_
    · rw [x12z]
      unfold x9j xh3
      simp [mem0]
    · rfl
  have h0 : NetInv r c ph.length p ws ph (ac ++ dn) (0, 4, 3) (0, 10, 4) (0, 18, 5) ⟨m5.hp, m5.next + 1⟩ [] ∧ (⟨m5.hp, m5.next + 1⟩ : Mem).get (0, 1, 2) = some (.row [I 0, nilS] 0 false) := by
    have g : ∀ id, (⟨m5.hp, m5.next + 1⟩ : Mem).get id = m5.get id := fun _ => rfl
    refine ⟨⟨?_, ⟨nilS, ?_, .nil⟩, ?_, by simp⟩, ?_⟩ <;> rw [g, hm5, hm4] <;> simp
  obtain ⟨m', hcall, hI, hres⟩ := w_sides1 (d + 2) (0, 25, 0) (fun args m => bif Nat.beq args.length 2 && true then x7v (callE (d + 3)) [] m.next (.ptr (0, 4, 3) 0 0) (.ptr (0, 10, 4) 0 0) (.ptr (0, 18, 5) 0 0) (args.getD 0 U) (args.getD 1 U) ⟨m.hp, m.next + 1⟩ 0 else none) [] r0 r1 c0 c1
    (fun k m => NetInv r c ph.length p ws ph (ac ++ dn) (0, 4, 3) (0, 10, 4) (0, 18, 5) m (netM ph (ac ++ dn) 0 ((sidesM r c).take k)) ∧ m.get (0, 1, 2) = some (.row [I 0, nilS] 0 false)) m5 h0 (by
      intro k x m hx ⟨hI, hg⟩
      obtain ⟨hk, hxe⟩ := List.getElem?_eq_some_iff.mp hx
      have hb := sides_in r0 c0 (hxe ▸ List.getElem_mem hk)
      have hl := netM_len ph (ac ++ dn) ((sidesM r c).take k) 0
      obtain ⟨m', h1, h2, h3⟩ := netOf_step (d + 2) (hs := []) hp hws hin (by simp at hl; omega) hI (fun _ _ _ _ => trivial) (k := k) (x := x) (by simp; omega) (by omega)
      refine ⟨m', ?_, ?_, by rw [h3]; exact hg⟩
      · simpa using h1
      · rw [List.take_succ_eq_append_getElem hk, hxe, netM_snoc, List.length_take, Nat.min_eq_left (by omega)]
        exact h2)
  rw [List.take_length] at hI
  obtain ⟨-, ⟨ev, hgn, hG⟩, -, -⟩ := hI
  have hG2 : Gk 4 Edge.c okE (m'.set (0, 1, 2) (.row [I ph.length, ev] 0 false)) ev (netOfM r c ph ac dn) := hG.frame fun id hid => by rw [Mem.get_set, if_neg (by rintro rfl; rcases hid with h | h <;> simp at h)]
  obtain ⟨ev', hev, hfz⟩ := hG2.frz (k := 3) Edge.len Edge.still1
  refine ⟨ev', hev, call0_frz (by simp [hp.still1, ha.still1, hb.still1]) (m' := m'.set (0, 1, 2) (.row [I ph.length, ev] 0 false)) (r := .agg [I ph.length, ev]) ?_ ?_⟩
  · rw [x12b]
    unfold x90 xg4
    have hml : ∀ (id : Id) (m : Mem) (k : AV → Mem → Option (AV × Mem)), sMkLit [nilS] [(0, 1, a), (1, 1, b)] 2 1 id m k = k (.slit [a, b] 2 true) m := by
      intro id m k
      simp [sMkLit, sFill, zeros, ha.cells, hb.cells, ha.one, hb.one, ha.clean1, hb.clean1, List.range_succ, splice]
    have hbn : sBuild [I 0, nilS] [(0, 1, I ph.length)] = some (.agg [I ph.length, nilS]) := by simp [sBuild, sFill]
    rw [hm4] at hC
    simp [mem0, hp.one, ha.one, hb.one, z_map, z_net, hp.len u_ints, hml, hbn, hC, z_slint, hws.cells, hws.one]
    rw [← hm4, ← hm5]
    unfold xdi
    have g3 : m5.get (0, 4, 3) = some (.row [I r, I c, p] 0 false) := by rw [hm5, hm4]; simp
    simp only [sFA_ptr, bind_s, Nat.zero_add, sLd_ptr, g3, ldRow_row, Nat.beq_refl, cond_t, List.drop_zero, List.drop_succ_cons, rd_f, hsd]
    unfold xdh
    simp only [sRng]
    rw [show (20 + 5 : Nat) = 25 from rfl]
    rw [hcall]
    unfold x7t
    simp [hgn, hres, hG.one.1, hG.one.2, sLdP]
  · show ([I (ph.length : Int), ev].mapM (frz (m'.set (0, 1, 2) (.row [I ph.length, ev] 0 false)).get 5)).map AV.agg = _
    simp only [List.mapM_cons, List.mapM_nil, hfz]
    rfl

/-! ### The reference -/
theorem w_edge (d : Nat) {r c w : Int} {p : AV} {ph : List Int} (hp : Ints p ph) (hph : PhIn ph) {x : Int × Int} (hx : 0 ≤ x.1 ∧ x.1 < ph.length ∧ 0 ≤ x.2 ∧ x.2 < ph.length) (m : Mem) :
    sCall0 (callE (d + 3)) x4u [.agg [I r, I c, p], I x.1, I x.2, I w] m = some (.tup (bif voidE ph x then [.agg [I 0, I 0, I 0, I 0], B false] else [.agg [I x.1, I x.2, I (jumpM (at0 ph x.1.toNat) (at0 ph x.2.toNat)), I w], B true]), m) := by
  obtain ⟨x0, x1, x2, x3⟩ := hx
  have i1 := hp.ixI intE_len x0 x1
  have i2 := hp.ixI intE_len x2 x3
  have l1 : x.1.toNat < ph.length := by omega
  have l2 : x.2.toNat < ph.length := by omega
  have b1 := hph x.1.toNat
  have b2 := hph x.2.toNat
  refine Ans.call0_tup ?_ (by simp [hp.still1]) (by cases voidE ph x <;> rfl)
  unfold Ans
  rw [x12j]
  unfold x98 xgd
  have hb0 : sBuild [I 0, I 0, I 0, I 0] [] = some (.agg [I 0, I 0, I 0, I 0]) := rfl
  by_cases v1 : at0 ph x.1.toNat = void
  · simp [mem0, hp.one, z_edge, i1, i2, l1, l2, ld_int, v1, hb0, sLdP, voidE]
  by_cases v2 : at0 ph x.2.toNat = void
  · simp [mem0, hp.one, z_edge, i1, i2, l1, l2, ld_int, v1, v2, hb0, sLdP, voidE]
  have hwr := wrapM_in (at0 ph x.2.toNat - at0 ph x.1.toNat)
  have hj := jumpM_w (a := at0 ph x.1.toNat) (b := at0 ph x.2.toNat) (by omega) (by omega) (by omega) (by omega)
  have hq : sQuo (I (at0 ph x.2.toNat - at0 ph x.1.toNat - wrapM (at0 ph x.2.toNat - at0 ph x.1.toNat))) (I 4096) = some (I (jumpM (at0 ph x.1.toNat) (at0 ph x.2.toNat))) := by rw [sQuo_I (by omega), hj]
  have hb : ∀ a b c d : Int, sBuild [I 0, I 0, I 0, I 0] [(0, 1, I a), (1, 1, I b), (2, 1, I c), (3, 1, I d)] = some (.agg [I a, I b, I c, I d]) := fun a b c d => by simp [sBuild, sFill]
  simp (disch := omega) [mem0, hp.one, z_edge, i1, i2, l1, l2, ld_int, v1, v2, w_Wrapped, hq, hb, sLdP, voidE]

end Go.Ix
