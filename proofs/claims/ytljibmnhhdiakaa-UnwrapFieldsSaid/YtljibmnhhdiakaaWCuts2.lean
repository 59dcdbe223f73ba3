/- Cuts, by the program and by the reference; whether lists of pairs are equal; the law UnwrapFields. -/
import Derived.Test.YtljibmnhhdiakaaWCuts
set_option linter.unusedSimpArgs false
set_option linter.unusedVariables false
namespace Go.Ix
open Go.Proofs

theorem w_pairs (d : Nat) (hs : FHs) {n : Int} {ev f : AV} {l : List Edge} {q : Edge → Bool} {P : Mem → Prop} (h : Sl Edge.c ev l) (hl : l.length ≤ 100000) (m : Mem) (hf : TellsE (callE d) f m.next P q l)
    (hP : ∀ m1 m2 : Mem, P m1 → (∀ id : Id, id.1 < m.next → m2.get id = m1.get id) → P m2) (h0 : P m) :
    ∃ a m', callE (d + 1) hs xt [.agg [I n, ev], f] m = some (a, m') ∧ Gk 2 Pr.c (fun id => id.1 = m.next ∧ id.2.2 = 26) m' a (pairsM q l) := by
  obtain ⟨M, hM⟩ : ∃ M, M = (⟨m.hp, m.next + 1⟩ : Mem).new (m.next, 0, 2) (.row [I n, ev] 0 false) := ⟨_, rfl⟩
  have hMg : ∀ i : Id, i.1 < m.next → M.get i = m.get i := fun i hi => by
    rw [hM, Mem.get_new, if_neg (by rintro rfl; simp at hi)]; rfl
  obtain ⟨a, m', h1, h2⟩ := l_pairs d hs m.next h hl hf hP l 0 NN nilS M 8 rfl (by rw [NN_eq]; omega) (by rw [hM]; simp) (hP m M h0 hMg) (by rw [List.take_zero]; exact Gk.nil)
  refine ⟨a, m', ?_, h2⟩
  rw [x12r]
  unfold x9d xgq xdx
  have h1' := h.one
  simp only [sBox_eq, cells_agg, List.all_cons, List.all_nil, one_I, h1', Bool.and_self, cond_t]
  rw [← hM]
  have g : M.get (m.next, 0, 2) = some (.row [I n, ev] 0 false) := by rw [hM]; simp
  simp [g, h.len u_edges]
  exact h1

theorem tells_Cuts (d : Nat) {t : AV} {l : List Edge} {ts : List Int} {id : Id} {u : Nat} (hiu : id.1 ≤ u) (ht : Ints t ts) (hT : TurnsIn ts) (he : ∀ e ∈ l, EdgeIn ts.length e) :
    TellsE (callE (d + 2)) (.clo x4d [.ptr id 0 0]) u (fun m => m.get id = some (.row [t] 0 false)) (fun e => !decide (exI ts e = 0)) l := by
  intro hs e m hel hu hg
  obtain ⟨M, hM⟩ : ∃ M, M = (⟨m.hp, m.next + 1⟩ : Mem).new (m.next, 0, 2) (.row e.c 0 false) := ⟨_, rfl⟩
  refine ⟨M, ?_, by rw [hM]; simp, fun i hi => by rw [hM, Mem.get_new, if_neg (by rintro rfl; simp at hi)]; rfl⟩
  show callE (d + 2) hs x4d [.agg e.c, .ptr id 0 0] m = _
  rw [x12s]
  unfold x9e xgr
  have hx := w_excess d ht (he e hel) hT
  have hid : id ≠ (m.next, 0, 2) := by rintro rfl; simp at hiu; omega
  have g1 : M.get id = some (.row [t] 0 false) := by rw [hM, Mem.get_new, if_neg hid]; exact hg
  have g2 : M.get (m.next, 0, 2) = some (.row e.c 0 false) := by rw [hM]; simp
  have hal : e.c.all AV.one = true := rfl
  simp only [sBox_eq, cells_agg, hal, cond_t]
  rw [← hM]
  simp only [sLd_ptr, g1, g2, ldRow_row, Nat.beq_refl, cond_t, List.drop_zero]
  rw [show rd true 4 e.c = some (.agg e.c) from rfl]
  simp only [bind_s, rd_f, hx, sNe_I]

theorem w_Cuts (d : Nat) {r c r' c' : Int} {p a b u : AV} {ph ac dn us : List Int} (hp : Ints p ph) (ha : Ints a ac) (hb : Ints b dn) (hu : Ints u us) (hl : ph.length ≤ 100000) (h1 : ac.length ≤ 100000) (h2 : dn.length ≤ 100000) (m : Mem) :
    ∃ x, Prs x (bif decide (fieldE r c ph ac dn r' c' us = 0) then pairsM (fun e => !decide (exI (fieldM r c ph r' c' us).1 e = 0)) (netOfM r c ph ac dn) else []) ∧
      sCall0 (callE (d + 11)) x4p [.agg [I r, I c, p, a, b], .agg [I r', I c', u]] m = some (.tup [x, I (fieldE r c ph ac dn r' c' us)], m) := by
  obtain ⟨m2, hm2⟩ : ∃ m2 : Mem, m2 = ((⟨[], 1⟩ : Mem).new (0, 0, 2) (.row [I r, I c, p, a, b] 0 false)).new (0, 1, 3) (.row [I r', I c', u] 0 false) := ⟨_, rfl⟩
  obtain ⟨n, ev, t, hev, ht, hF⟩ := w_field d (r := r) (c := c) (r' := r') (c' := c') hp ha hb hu hl h1 h2 m2
  have g2 : m2.get (0, 0, 2) = some (.row [I r, I c, p, a, b] 0 false) := by rw [hm2]; simp
  have g3 : m2.get (0, 1, 3) = some (.row [I r', I c', u] 0 false) := by rw [hm2]; simp
  obtain ⟨m6, hm6⟩ : ∃ m6 : Mem, m6 = (((m2.new (0, 11, 6) (.row [I 0, nilS] 0 false)).new (0, 12, 7) (.row [nilS] 0 false)).set (0, 11, 6) (.row [I n, ev] 0 false)).set (0, 12, 7) (.row [t] 0 false) := ⟨_, rfl⟩
  have g6 : m6.get (0, 11, 6) = some (.row [I n, ev] 0 false) := by rw [hm6]; simp
  have g7 : m6.get (0, 12, 7) = some (.row [t] 0 false) := by rw [hm6]; simp
  have hev1 := hev.one
  have ht1 := ht.one
  have htc := ht.cells
  have start : ∀ K : Option (AV × Mem), (sCond (B (!decide (fieldE r c ph ac dn r' c' us = 0))) (some (.tup [nilS, I (fieldE r c ph ac dn r' c' us)], m6))
      ((sLd true 2 (.ptr (0, 11, 6) 0 0) m6).bind fun t19 => (callE (d + 10) [] xt [t19, (AV.clo x4d [.ptr (0, 12, 7) 0 0])] m6).bind fun p21 => some (AV.tup [p21.1, (I 0)], p21.2))) = K →
      callE (d + 11) [] x4p [.agg [I r, I c, p, a, b], .agg [I r', I c', u]] mem0 = K := by
    intro K hK
    rw [← hK, x123]
    unfold x8s xfs
    simp [mem0, hp.one, ha.one, hb.one, hu.one]
    rw [← hm2]
    rw [hF]
    simp only [bind_s, sExt_tup, List.getElem?_cons_zero, List.getElem?_cons_succ]
    simp [z_pnet, z_slint]
    rw [hev1, htc]
    simp [ht1]
    rw [← hm6]
    simp [g6]
  by_cases e : fieldE r c ph ac dn r' c' us = 0
  rotate_left
  · refine ⟨nilS, by simp [e]; exact Or.inl ⟨rfl, rfl⟩, Ans.call0_tup ⟨m6, start _ ?_⟩ (by simp [hp.still1, ha.still1, hb.still1, hu.still1]) rfl⟩
    simp [e]
  have hr : taskM r c ph ac dn = 0 := by
    unfold fieldE at e
    by_cases h : taskM r c ph ac dn = 0
    · exact h
    · simp [h] at e
  have hfm : (fieldM r c ph r' c' us).2 = 0 := by simpa [fieldE, hr] using e
  obtain ⟨-, -, -, -, -, hph, -⟩ := task_right hr
  obtain ⟨hT, hTl⟩ := fieldM_in (phIn_of hph) hfm
  simp [hr] at hev ht
  have hR := netOf_right hr
  obtain ⟨x, m', h3, h4⟩ := w_pairs (d + 9) [] (n := n) hev (by have := hR.len; omega) m6 (tells_Cuts (d + 7) (id := (0, 12, 7)) (Nat.zero_le _) ht hT (edgeIn_of hR (by rw [hTl])))
    (fun m1 m2 hg hm => by rw [hm _ (by rw [hm6, hm2]; simp)]; exact hg) g7
  obtain ⟨x', hx', hfz⟩ := h4.frz (k := 3) Pr.len Pr.still
  refine ⟨x', by simpa [e] using hx', call0_frz (by simp [hp.still1, ha.still1, hb.still1, hu.still1]) (start _ ?_) (r := .tup [x, I 0]) (m' := m') ?_⟩
  · simp [e, g6, h3]
  · rw [e]
    show ([x, I 0].mapM (frz m'.get 5)).map AV.tup = _
    simp only [List.mapM_cons, List.mapM_nil, hfz]
    rfl

/-! ### The reference -/
theorem l_rCuts (d : Nat) (hs : FHs) {n : Int} {ev t : AV} {l : List Edge} {ts : List Int} (h : Sl Edge.c ev l) (hl : l.length ≤ 100000) (ht : Ints t ts) (hT : TurnsIn ts) (he : ∀ e ∈ l, EdgeIn ts.length e) :
    ∀ (suf : List Edge) (k j : Nat) (o : AV) (m : Mem) (fc : Nat), l.drop k = suf → suf.length < j → m.get (0, 0, 2) = some (.row [I n, ev] 0 false) → Gk 2 Pr.c (fun id => id.2.2 = 37) m o (pairsM (fun e => !decide (exI ts e = 0)) (l.take k)) →
    ∃ a m', x5o (callE (d + 1)) hs 0 j t (.ptr (0, 0, 2) 0 0) o (I k) m fc = some (a, m') ∧ Gk 2 Pr.c (fun id => id.2.2 = 37) m' a (pairsM (fun e => !decide (exI ts e = 0)) l) := by
  intro suf
  induction suf with
  | nil =>
    intro k j o m fc hd hj hg hG
    obtain ⟨j, rfl⟩ : ∃ i, j = i + 1 := ⟨j - 1, by simp at hj; omega⟩
    have hk0 := List.drop_eq_nil_iff.mp hd
    have hk : ¬ ((k : Int) < (l.length : Int)) := by omega
    rw [List.take_of_length_le hk0] at hG
    refine ⟨o, m, ?_, hG⟩
    simp only [x5o]
    unfold xd8
    simp [hg, h.len u_edges, hk, x31]
  | cons e r ih =>
    intro k j o m fc hd hj hg hG
    obtain ⟨j, rfl⟩ : ∃ i, j = i + 1 := ⟨j - 1, by simp at hj; omega⟩
    obtain ⟨hk, hke, hd⟩ := drop_cons hd
    have hk' : (k : Int) < (l.length : Int) := by omega
    have ix := h.ix Edge.len hk
    have ld := ld_flat (m := m) Edge.len (by omega) hk
    rw [hke] at ld
    rw [drop_get hk, hke, List.flatMap_cons] at ix ld
    have hx := w_Excess d ht (he e (hke ▸ List.getElem_mem hk)) hT
    have htk : l.take (k + 1) = l.take k ++ [e] := by rw [List.take_succ_eq_append_getElem hk, hke]
    simp only [Edge.c, List.cons_append] at hx ix ld
    have hel : ∀ M : Mem, elems M.get 2 (.slit [I e.fr, I e.to] 1 true) = some (Pr.c (e.fr, e.to), 1) := fun _ => rfl
    simp only [x5o]
    unfold xd8 xd7
    by_cases hq : exI ts e = 0
    · obtain ⟨a, m', h5, h6⟩ := ih (k + 1) j o m (fc + 5 + 8 + 3) hd (by simp at hj; omega) hg (by rw [htk, pairsM_snoc]; simp [hq]; exact hG)
      refine ⟨a, m', ?_, h6⟩
      simp (disch := omega) [hg, h.len u_edges, hk', ix, ld, hx, hq, x9y]
      exact h5
    · obtain ⟨a', m3, A, hG3, u1, u2, n3, f3⟩ := Gk.app (ok := fun id => id.2.2 = 37) Pr.len (by omega) (bytes := 16) (id0 := (0, fc + 5 + 23, 37)) (show (37 : Nat) = 37 from rfl) (by unfold roomy pairsM; have := List.length_filter_le (fun e => !decide (exI ts e = 0)) (l.take k); simp at this ⊢; omega) hG (e.fr, e.to)
      obtain ⟨a, m', h5, h6⟩ := ih (k + 1) j a' m3 (fc + 5 + 25 + 3) hd (by simp at hj; omega) (by rw [f3 _ (by simp)]; exact hg) (by rw [htk, pairsM_snoc]; simp [hq]; exact hG3)
      refine ⟨a, m', ?_, h6⟩
      simp (disch := omega) [hg, h.len u_edges, hk', ix, ld, hx, hq, z_2int, mkLit_2, sBuild, sFill, hel, A, x9y]
      exact h5
theorem w_rCuts (d : Nat) {n : Int} {ev t : AV} {l : List Edge} {ts : List Int} (h : Sl Edge.c ev l) (hl : l.length ≤ 100000) (ht : Ints t ts) (hT : TurnsIn ts) (he : ∀ e ∈ l, EdgeIn ts.length e) (m : Mem) :
    ∃ x, Prs x (pairsM (fun e => !decide (exI ts e = 0)) l) ∧ sCall0 (callE (d + 2)) x15 [.agg [I n, ev], t] m = some (x, m) := by
  obtain ⟨a, m', h1, h2⟩ := l_rCuts d [] (n := n) h hl ht hT he l 0 NN nilS ((⟨[], 1⟩ : Mem).new (0, 0, 2) (.row [I n, ev] 0 false)) 4 rfl (by rw [NN_eq]; omega) (by simp) Gk.nil
  obtain ⟨x', hx', hfz⟩ := h2.frz (k := 4) Pr.len Pr.still
  refine ⟨x', hx', call0_frz (by simp [h.still1, ht.still]) (m' := m') (r := a) ?_ hfz⟩
  rw [x126]
  unfold x8v xfv xd9
  simp [mem0, h.one]
  exact h1

theorem part2 (w0 w1 : Int) : ∀ o ∈ [0, 1], pureRun Try.prog (part y_int #[.int .i64 w0, .int .i64 w1] o) = some (.int .i64 ([w0, w1].getD o 0)) := by
  intro o ho
  simp only [List.mem_cons, List.not_mem_nil, or_false] at ho
  rcases ho with rfl | rfl <;> kernel_rfl
theorem eq_pair (x y : Operand) (a b : Pr) : sBin Try.prog .neq x5m x y (.agg (Pr.c a)) (.agg (Pr.c b)) = some (B (!decide (a = b))) := by
  obtain ⟨a1, a2⟩ := a
  obtain ⟨b1, b2⟩ := b
  refine sBin_neq_agg (xs := [.int .i64 a1, .int .i64 a2]) (ys := [.int .i64 b1, .int .i64 b2]) (by kernel_rfl) ?_ ⟨Pr.c (a1, a2), rfl⟩ _ _ rfl rfl
  have hu : Try.prog.underlying x5m = some (.array 2 y_int) := by kernel_rfl
  have hz : pureRun Try.prog (sizeOf y_int) = some 1 := by kernel_rfl
  have pa := part2 a1 a2
  have pb := part2 b1 b2
  have pa0 := pa 0 (by simp)
  have pa1 := pa 1 (by simp)
  have pb0 := pb 0 (by simp)
  have pb1 := pb 1 (by simp)
  simp only [List.getD_cons_zero, List.getD_cons_succ] at pa0 pa1 pb0 pb1
  rw [show (10000 : Nat) = 9998 + 1 + 1 from rfl, Op.equalIn]
  simp only [pr_bind, pr_underlying hu, bind_s, hz]
  simp only [Std.Legacy.Range.forIn_eq_forIn_range', Std.Legacy.Range.size, Nat.sub_zero, Nat.add_sub_cancel, Nat.div_one, List.range'_succ, List.range'_zero, List.forIn_cons, List.forIn_nil, pr_bind, Nat.zero_mul, Nat.zero_add, Nat.one_mul, Nat.mul_one]
  simp only [pa0, pa1, pb0, pb1, bind_s, pr_equalIn_int _ _ _ _ _ _ und_int]
  have e : decide ((a1, a2) = (b1, b2)) = (decide (a1 = b1) && decide (a2 = b2)) := by
    rw [← Bool.decide_and, decide_eq_decide, Prod.mk.injEq]
  rw [e]
  by_cases h0 : a1 = b1
  · subst h0
    by_cases h1 : a2 = b2
    · subst h1; simp [pr_pure, pr_bind, pa1, pr_equalIn_int _ _ _ _ _ _ und_int]
    · simp [pr_pure, pr_bind, pa1, pb1, h1, pr_equalIn_int _ _ _ _ _ _ und_int]
  · simp [pr_pure, pr_bind, h0]

theorem l_same (d : Nat) (hs : FHs) {a b : AV} {l k : List Pr} (ha : Prs a l) (hb : Prs b k) (he : l.length = k.length) (hl : l.length ≤ 1000000) : ∀ (suf suk : List Pr) (i j : Nat) (m : Mem) (fc : Nat), l.drop i = suf → k.drop i = suk → suf.length < j →
    ∃ m', x5n (callE d) hs 0 j a b (I i) m fc = some (B (decide (suf = suk)), m') := by
  intro suf
  induction suf with
  | nil =>
    intro suk i j m fc hd hk hj
    obtain ⟨j, rfl⟩ : ∃ i, j = i + 1 := ⟨j - 1, by simp at hj; omega⟩
    have hd0 := List.drop_eq_nil_iff.mp hd
    have hsk : suk = [] := by rw [← hk]; exact List.drop_eq_nil_iff.mpr (by omega)
    have hi : ¬ ((i : Int) < (l.length : Int)) := by omega
    simp only [x5n]
    unfold xd5
    simp [ha.len u_pairs, hi, x5l, hsk]
  | cons x r ih =>
    intro suk i j m fc hd hk hj
    obtain ⟨j, rfl⟩ : ∃ i, j = i + 1 := ⟨j - 1, by simp at hj; omega⟩
    obtain ⟨hi, hie, hd⟩ := drop_cons hd
    have hi2 : i < k.length := by omega
    have hk2 : suk = k[i] :: k.drop (i + 1) := by rw [← hk, drop_get hi2]
    have hi' : (i : Int) < (l.length : Int) := by omega
    have ix := ha.ix Pr.len hi
    have ix2 := hb.ix Pr.len hi2
    have ld := ld_flat (m := m) Pr.len (by omega) hi
    have ld2 := ld_flat (m := m) Pr.len (by omega) hi2
    rw [hie] at ld
    simp only [x5n]
    unfold xd5
    have hq := fun X Y => eq_pair X Y x k[i]
    by_cases c : x = k[i]
    · obtain ⟨m', h'⟩ := ih _ (i + 1) j m (fc + 16) hd rfl (by simp at hj; omega)
      have e : decide (x :: r = suk) = decide (r = k.drop (i + 1)) := by rw [hk2, ← c, decide_eq_decide, List.cons_inj_right]
      rw [e]
      rw [decide_eq_true c] at hq
      simp (disch := omega) [ha.len u_pairs, hi', ix, ix2, ld, ld2, hq]
      exact ⟨m', h'⟩
    · have e : decide (x :: r = suk) = false := by rw [hk2]; exact decide_eq_false fun h => c (List.cons.inj h).1
      rw [e]
      have hq' : ∀ X Y, sBin Try.prog .neq x5m X Y (.agg (Pr.c x)) (.agg (Pr.c k[i])) = some (B true) := fun X Y => by rw [hq, decide_eq_false c]; rfl
      simp (disch := omega) only [ha.len u_pairs, hi', ix, ix2, ld, ld2, hq', bind_s, sLt_I, decide_true, sCond_t]
      exact ⟨m, rfl⟩
theorem w_same (d : Nat) {a b : AV} {l k : List Pr} (ha : Prs a l) (hb : Prs b k) (hl : l.length ≤ 1000000) (m : Mem) : sCall0 (callE (d + 1)) x1s [a, b] m = some (B (decide (l = k)), m) := by
  refine Ans.call0 ?_ (by simp [ha.still, hb.still]) rfl
  unfold Ans
  rw [x125]
  unfold x8u xfu xd6
  by_cases he : l.length = k.length
  · obtain ⟨m', h'⟩ := l_same d [] ha hb he hl l k 0 NN ⟨[], 1⟩ 7 rfl rfl (by rw [NN_eq]; omega)
    simp [mem0, ha.len u_pairs, hb.len u_pairs, he]
    exact ⟨m', h'⟩
  · have : ¬ (l = k) := fun e => he (by rw [e])
    have he2 : ¬ ((l.length : Int) = (k.length : Int)) := by omega
    simp [mem0, ha.len u_pairs, hb.len u_pairs, he2, this]

theorem law_UnwrapFields {r c r1 c1 : Int} {p a b u : AV} {ph ac dn us : List Int} (hp : Ints p ph) (ha : Ints a ac) (hb : Ints b dn) (hu : Ints u us) : ∃ m', callE 31 [] x12 [.agg [I r, I c, p, a, b], .agg [I r1, I c1, u]] mem0 = some (B true, m') := by
  rw [x11o]
  unfold x8d xfb
  simp [mem0, hp.one, ha.one, hb.one, hu.one, w_awake, w_small 25 hp ha hb]
  cases c1' : smallM r c ph ac dn
  · simp
  simp [hu.len u_ints]
  by_cases c2 : 20 < (us.length : Int)
  · simp [c2]
  simp [c2]
  obtain ⟨l1, l2, l3⟩ := small_len c1'
  obtain ⟨m0, hm0⟩ : ∃ m0 : Mem, m0 = ((⟨[], 1⟩ : Mem).new (0, 0, 2) (.row [I r, I c, p, a, b] 0 false)).new (0, 1, 3) (.row [I r1, I c1, u] 0 false) := ⟨_, rfl⟩
  have g2 : m0.get (0, 0, 2) = some (.row [I r, I c, p, a, b] 0 false) := by rw [hm0]; simp
  have g3 : m0.get (0, 1, 3) = some (.row [I r1, I c1, u] 0 false) := by rw [hm0]; simp
  have hn0 : Nat.ble 1 m0.next = true := by rw [hm0]; rfl
  obtain ⟨p', a', b', hp', ha', hb', hcp⟩ := w_CopyTask 27 (r := r) (c := c) hp ha hb (by omega) (by omega) (by omega) m0
  obtain ⟨u', hu', hcu⟩ := w_CopyMap 28 (r := r1) (c := c1) hu (by omega) m0
  have hcf := w_CheckField 19 (r := r) (c := c) (r' := r1) (c' := c1) hp' ha' hb' hu' (by omega) (by omega) (by omega) m0
  obtain ⟨x, hx, hcut⟩ := w_Cuts 19 (r := r) (c := c) (r' := r1) (c' := c1) hp' ha' hb' hu' (by omega) (by omega) (by omega) m0
  have hck := w_rCheckTask 26 (r := r) (c := c) hp ha hb (by omega) (by omega) (by omega) m0
  rw [← hm0]
  rw [hcp]
  simp only [bind_s]
  simp [g3]
  rw [hcu]
  simp only [bind_s]
  rw [hcf]
  simp [g2, g3, hp.clean1, ha.clean1, hb.clean1, cAp, tR, Nat.blt, hn0]
  rw [hcp]
  simp only [bind_s]
  simp [g3]
  rw [hcu]
  simp only [bind_s]
  rw [hcut]
  simp [g2, g3, hck]
  unfold xc2
  by_cases hr : taskM r c ph ac dn = 0
  rotate_left
  · have hE : fieldE r c ph ac dn r1 c1 us = taskM r c ph ac dn := by simp [fieldE, hr]
    rw [hE] at hx ⊢
    simp [hr] at hx
    simp [hr, x7p, hx.len u_pairs]
  obtain ⟨-, -, -, -, -, hph, -⟩ := task_right hr
  obtain ⟨t, ht, hT⟩ := w_rTurnsOf 27 (r := r) (c := c) (r' := r1) (c' := c1) hp ⟨ha.still1, ha.one⟩ ⟨hb.still1, hb.one⟩ hu (phIn_of hph) (by omega) m0
  have hE : fieldE r c ph ac dn r1 c1 us = (fieldM r c ph r1 c1 us).2 := by simp [fieldE, hr]
  rw [hE] at hx ⊢
  simp [hr, g2, g3]
  rw [hT]
  simp only [bind_s, sExt_tup, List.getElem?_cons_zero, List.getElem?_cons_succ]
  by_cases hf : (fieldM r c ph r1 c1 us).2 = 0
  rotate_left
  · simp [hf] at hx
    simp [hf, x7p, hx.len u_pairs]
  simp [hf] at hx
  obtain ⟨hTi, hTl⟩ := fieldM_in (phIn_of hph) hf
  have hR := netOf_right hr
  obtain ⟨ev, hev, hn⟩ := w_rNetOf 26 hp ha hb hr m0
  have hco := fun m => w_Cost 28 (n := (ph.length : Int)) hev hR.len ht (edgeIn_of hR (by rw [hTl])) hTi m
  obtain ⟨y, hy, hrc⟩ := w_rCuts 28 (n := (ph.length : Int)) hev (by have := hR.len; omega) ht hTi (edgeIn_of hR (by rw [hTl])) m0
  have hsame := w_same 29 hx hy (by unfold pairsM; have := List.length_filter_le (fun e => !decide (exI (fieldM r c ph r1 c1 us).1 e = 0)) (netOfM r c ph ac dn); have := hR.len; simp; omega) m0
  simp [hf, x7p, g2]
  rw [hn]
  simp only [bind_s]
  rw [hco]
  simp [g2]
  rw [hn]
  simp only [bind_s]
  rw [hrc]
  simp only [bind_s]
  rw [hsame]
  simp

end Go.Ix
