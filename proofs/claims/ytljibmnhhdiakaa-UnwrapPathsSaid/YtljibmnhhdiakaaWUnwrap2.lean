import Derived.Test.YtljibmnhhdiakaaMTask
import Derived.Test.YtljibmnhhdiakaaWgC
set_option linter.unusedSimpArgs false
set_option linter.unusedVariables false
namespace Go.Ix
open Go.Proofs
theorem w_Unwrap (d : Nat) {r c : Int} {p a b : AV} {ph ac dn : List Int} (hp : Ints p ph) (ha : Ints a ac) (hb : Ints b dn) (hl : ph.length ≤ 300000) (h1 : ac.length ≤ 300000) (h2 : dn.length ≤ 300000) (hc : x1fo r c ph ac dn = 0) (hsm : x1gn r c ph ac dn = true) (m : Mem) :
    ∃ fl tu ex, Solved 1 ph.length (x1g9 r c ph ac dn) fl tu ex ∧ x1e8 (x1e6 (d + 10)) x31 [.agg [I r, I c, p, a, b]] m =
      some (.tup [.agg [I r, I c, .slit ((unwM ph.length ph (x1ft ph.length (x1g3 ph.length (x1g9 r c ph ac dn)) tu)).flatMap intE) ph.length false], .slit (fl.flatMap intE) (x1g9 r c ph ac dn).length false, I (x1gw (x1ft ph.length (x1g3 ph.length (x1g9 r c ph ac dn)) tu) 0 (x1g9 r c ph ac dn)), I 0], m) := by
  obtain ⟨r0, r1, c0, c1, hlen, hph, hac, hdn, h144, hw⟩ := x1kd hc
  have hS := x1tc hc hsm
  obtain ⟨l, hle⟩ : ∃ l, l = x1g9 r c ph ac dn := ⟨_, rfl⟩
  obtain ⟨n, hn⟩ : ∃ n, n = ph.length := ⟨_, rfl⟩
  rw [← hle, ← hn] at hS ⊢
  have hnn := hS.nn
  have hll := hS.ll
  have hne : ph ≠ [] := by
    rintro rfl
    simp at hlen
    have : 0 < r * c := Int.mul_pos (by omega) (by omega)
    omega
  obtain ⟨m1, hm1⟩ : ∃ m1, m1 = ((⟨[], 1⟩ : Mem).new (0, 0, 1) (.row [I r, I c, p, a, b] 0 false)).new (0, 1, 2) (.row [I 0, I 0, nilS] 0 false) := ⟨_, rfl⟩
  obtain ⟨ev, hev, hnet⟩ := w_netOf (d + 5) hp ha hb hc m1
  rw [← hle] at hev
  rw [← hn] at hnet
  obtain ⟨m3, hm3⟩ : ∃ m3, m3 = (m1.new (0, 13, 7) (.row [I 0, nilS] 0 false)).set (0, 13, 7) (.row [I n, ev] 0 false) := ⟨_, rfl⟩
  have hn3 : m3.next = 1 := by rw [hm3, hm1]; rfl
  have g31 : m3.get (0, 0, 1) = some (.row [I r, I c, p, a, b] 0 false) := by rw [hm3, hm1]; simp [Mem.get_set, Mem.get_new]
  have g32 : m3.get (0, 1, 2) = some (.row [I 0, I 0, nilS] 0 false) := by rw [hm3, hm1]; simp [Mem.get_set, Mem.get_new]
  have g37 : m3.get (0, 13, 7) = some (.row [I n, ev] 0 false) := by rw [hm3]; simp
  obtain ⟨mS, fl, tu, ex, a1, a2, a3, a4⟩ := w_solve (d + 3) hev hS 1
  obtain ⟨m4, b1, b2, b3⟩ := x1j8 (call := x1e6 (d + 9)) (f := x1c) (l := [.agg [I n, ev]]) (m := m3) (m' := mS) (r := .ptr (1 + 1, 21, 25) 0 0) (by simp [clean, hev.clean1]) (by rw [hn3]; exact a1)
  refine ⟨fl, tu, ex, a3, ?_⟩
  obtain ⟨T, hT⟩ : ∃ T, T = x1ft n (x1g3 n l) tu := ⟨_, rfl⟩
  rw [← hT] at a2 ⊢
  have low4 : ∀ s t : Nat, m4.get (0, s, t) = m3.get (0, s, t) := fun s t => by rw [b3, if_neg (by simp [hn3])]
  have hM4 : SolMem (1 + 1) n ev l fl T ex m4 := a2.frame fun id hid => by rw [b3, if_pos (by omega)]
  obtain ⟨mC, e1, e2, e3⟩ := a_Clone (d + 8) hp hne (by omega) m4.next
  rw [← hn] at e1
  obtain ⟨m5, f1, f2, f3⟩ := x1j8 (call := x1e6 (d + 9)) (f := x3b) (l := [p]) (m := m4) (m' := mC) (r := srI (m4.next, 5, 7) n) (by simp [hp.clean]) e1
  obtain ⟨N, hN⟩ : ∃ N, N = m4.next := ⟨_, rfl⟩
  rw [← hN] at f1 f3 e2 e3
  have hN2 : 1 + 1 < N := by rw [hN, b2]; exact a4
  obtain ⟨m6, hm6⟩ : ∃ m6, m6 = (m5.new (0, 29, 9) (.row [I 0, I 0, nilS] 0 false)).set (0, 29, 9) (.row [I r, I c, srI (N, 5, 7) n] 0 false) := ⟨_, rfl⟩
  have q6 : ∀ id : Id, id ≠ (0, 29, 9) → m6.get id = m5.get id := fun id h => by rw [hm6, Mem.get_set, if_neg h, Mem.get_new, if_neg h]
  have low5 : ∀ id : Id, id.1 < N → m5.get id = m4.get id := fun id h => by rw [f3, if_neg (by omega)]
  have hM6 : SolMem (1 + 1) n ev l fl T ex m6 := hM4.frame fun id hid => by rw [q6 id (by rintro rfl; simp at hid), low5 id (by omega)]
  have g69 : m6.get (0, 29, 9) = some (.row [I r, I c, srI (N, 5, 7) n] 0 false) := by rw [hm6]; simp
  have g6P : m6.get (N, 5, 7) = some (.row (ph.flatMap intE) 0 false) := by rw [q6 _ (by simp), f3, if_pos (Nat.le_refl _)]; exact e2
  have hTb := a3.turns (by omega)
  rw [← hT] at hTb
  obtain ⟨m7, fc7, k1, k2, k3, k4⟩ := l_unwrap (d + 8) [] (us := 1 + 1) (N := N) (n := n) (ev := ev) (x0 := I r) (x1 := I c) (t2 := .ptr (0, 1, 2) 0 0) (t7 := .ptr (0, 13, 7) 0 0) (l := l) (fl := fl) (T := T) (ex := ex) hN2 (by omega) hn.symm (x1kc hph) (fun k => by have := hTb k; omega) n 0 NN m6 37 (by omega) (by rw [x1f2]; omega) hM6 g69 (by rw [List.take_zero, List.drop_zero, List.nil_append]; exact g6P) (by omega)
  have hM7 : SolMem (1 + 1) n ev l fl T ex m7 := hM6.frame fun id hid => k4 id (by rintro rfl; simp only at hid; omega)
  have g79 : m7.get (0, 29, 9) = some (.row [I r, I c, srI (N, 5, 7) n] 0 false) := by rw [k4 _ (by simp)]; exact g69
  have g77 : m7.get (0, 13, 7) = some (.row [I n, ev] 0 false) := by rw [k4 _ (by simp), q6 _ (by simp), low5 _ (by show 0 < N; omega), low4]; exact g37
  have g72 : m7.get (0, 1, 2) = some (.row [I 0, I 0, nilS] 0 false) := by rw [k4 _ (by simp), q6 _ (by simp), low5 _ (by show 0 < N; omega), low4]; exact g32
  have hTl : T.length = n := by rw [hT]; exact x1it _ _ _
  have hTI : TurnsIn T := fun x hx => by
    obtain ⟨k, hk, rfl⟩ := List.mem_iff_getElem.mp hx
    have := hTb k
    rw [x1eu hk] at this
    omega
  have y1 := x1oe hM7.t 4
  rw [hTl] at y1
  obtain ⟨mc, hcost⟩ := a_cost (d + 7) (n := n) hev (by omega) (a := .slit (T.flatMap intE) n false) (t := T) (by have := Sl.lit T false (enc := intE); rwa [hTl] at this) (fun e he => by rw [hTl]; exact (hS.ed e he).1) hTI
  have h3 : x1io (x1e6 (d + 9)) x1r [.agg [I n, ev], srI (1 + 1, 11, 15) n] m7 = some (I (x1gw T 0 l), m7) := by
    refine call3_any ?_ hcost rfl
    have z1 : Go.Ix.frz m7.get deep (.agg [I n, ev]) = some (.agg [I n, ev]) := x1lx _ 4 (by simp [still, hev.still1])
    simp only [List.mapM_cons, List.mapM_nil, z1]
    rw [show Go.Ix.frz m7.get deep (srI (1 + 1, 11, 15) n) = some (.slit (T.flatMap intE) n false) from y1]
    rfl
  obtain ⟨m8, hm8⟩ : ∃ m8, m8 = m7.set (0, 1, 2) (.row [I r, I c, srI (N, 5, 7) n] 0 false) := ⟨_, rfl⟩
  have q8 : ∀ id : Id, id ≠ (0, 1, 2) → m8.get id = m7.get id := fun id h => by rw [hm8, Mem.get_set, if_neg h]
  have hM8 : SolMem (1 + 1) n ev l fl T ex m8 := hM7.frame fun id hid => q8 id (by rintro rfl; simp at hid)
  have g8P : m8.get (N, 5, 7) = some (.row ((unwM n ph T).flatMap intE) 0 false) := by rw [q8 _ (by simp)]; exact k2
  have z2 := x1oe g8P 2
  rw [x1if] at z2
  have z3 := x1oe hM8.f 3
  rw [hM8.fll] at z3
  refine x1j5 (m' := m8) (r := .tup [.agg [I r, I c, srI (N, 5, 7) n], srI (1 + 1, 7, 11) l.length, I (x1gw T 0 l), I 0]) (by simp [hp.still1, ha.still1, hb.still1]) ?_ ?_
  · rw [xru]
    show x9l (x1e6 (d + 9)) [] 0 (.agg [I r, I c, p, a, b]) ⟨[], 1⟩ 0 = _
    unfold x9l
    simp [hp.one, ha.one, hb.one, x1t5 d hp ha hb hl h1 h2, x1kb, hc, z_pnet]
    rw [← hm1]
    have hbn : x1el [I 0, nilS] [(0, 2, .agg [I (n : Int), ev])] = some (.agg [I (n : Int), ev]) := by simp [x1el, x1fs, hev.cells]
    have hbm : x1el [I 0, I 0, nilS] [(0, 1, I r), (1, 1, I c), (2, 1, srI (N, 5, 7) n)] = some (.agg [I r, I c, srI (N, 5, 7) n]) := by simp [x1el, x1fs]
    have g41 : m4.get (0, 0, 1) = some (.row [I r, I c, p, a, b] 0 false) := by rw [low4]; exact g31
    simp [hnet, hbn, hev.one, hp.clean]
    rw [← hm3, b1]
    simp [g41, hp.clean, f1, hbm]
    have k1' : cAp (some m4.next) (some [], some [(0, 29, 9)]) 2 = true := by
      have : (0 : Nat).blt m4.next = true := by simp [Nat.blt]; omega
      simp [cAp, this]
    rw [k1']
    simp [x1e9, disj, tR]
    rw [← hm6]
    unfold x9k
    have hlen : sLen Try.prog x5 (srI (2, 11, 15) n) = some (I n) := rfl
    simp only [sNil, x1ea, x1ey, Nat.zero_add, x1ef, hM6.s, x1eh, Nat.beq_refl, x1ed, List.drop_zero, List.drop_succ_cons, rd_f, hlen]
    rw [show ((0 : Nat) : Int) = 0 from rfl] at k1
    show x1g (x1e6 (d + 9)) [] 0 NN (.ptr (0, 1, 2) 0 0) (.ptr (0, 13, 7) 0 0) (.ptr (1 + 1, 21, 25) 0 0) (.ptr (0, 29, 9) 0 0) (srI (1 + 1, 11, 15) n) (I n) (I 0) m6 37 = _
    rw [k1]
    unfold xz
    have hst : x1fc 3 0 0 (.agg [I r, I c, srI (N, 5, 7) n]) (some (.row [I 0, I 0, nilS] 0 false)) = some (.row [I r, I c, srI (N, 5, 7) n] 0 false) := by
      rw [x1h4, decide_eq_true ⟨rfl, rfl, Nat.le_refl _, rfl⟩]; rfl
    simp only [sNil, x1ea, x1ey, Nat.zero_add, x1ef, hM7.s, g79, g77, x1eh, Nat.beq_refl, x1ed, List.drop_zero, List.drop_succ_cons, rd_f, rd_3, rd_2, h3, x1f3, g72, hst]
    rw [← hm8]
    have g82 : m8.get (0, 1, 2) = some (.row [I r, I c, srI (N, 5, 7) n] 0 false) := by rw [hm8]; simp
    rw [show mkM 3 [.agg [I (n : Int), ev], srI (1 + 1, 11, 15) n] = 1 from rfl, cAp_R1, cAp_R1]
    simp [x1e9, disj, tR, tS, sLdP, g82]
  · show ([.agg [I r, I c, srI (N, 5, 7) n], srI (1 + 1, 7, 11) l.length, I (x1gw T 0 l), I 0].mapM (Go.Ix.frz m8.get 5)).map AV.tup = _
    have z4 : Go.Ix.frz m8.get 5 (.agg [I r, I c, srI (N, 5, 7) n]) = some (.agg [I r, I c, .slit ((unwM n ph T).flatMap intE) n false]) := by
      show ([I r, I c, srI (N, 5, 7) n].mapM (Go.Ix.frz m8.get 4)).map AV.agg = _
      simp only [List.mapM_cons, List.mapM_nil]
      rw [z2]
      rfl
    simp only [List.mapM_cons, List.mapM_nil]
    rw [z4, z3]
    rfl
end Go.Ix
