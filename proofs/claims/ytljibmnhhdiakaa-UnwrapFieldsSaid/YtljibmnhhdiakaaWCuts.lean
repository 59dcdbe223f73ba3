/- Fields of tasks: cost and cuts; pairs of nodes. -/
import Derived.Test.YtljibmnhhdiakaaWFields2
set_option linter.unusedSimpArgs false
set_option linter.unusedVariables false
namespace Go.Ix
open Go.Proofs

/-- The error of a task and a field. -/
def fieldE (r c : Int) (ph ac dn : List Int) (r' c' : Int) (us : List Int) : Int := bif decide (taskM r c ph ac dn = 0) then (fieldM r c ph r' c' us).2 else taskM r c ph ac dn
theorem w_field (d : Nat) {r c r' c' : Int} {p a b u : AV} {ph ac dn us : List Int} (hp : Ints p ph) (ha : Ints a ac) (hb : Ints b dn) (hu : Ints u us) (hl : ph.length ≤ 100000) (h1 : ac.length ≤ 100000) (h2 : dn.length ≤ 100000) (m : Mem) :
    ∃ n ev t, Sl Edge.c ev (bif decide (taskM r c ph ac dn = 0) then netOfM r c ph ac dn else []) ∧ Ints t (bif decide (taskM r c ph ac dn = 0) then (fieldM r c ph r' c' us).1 else []) ∧
      sCall0 (callE (d + 10)) x4w [.agg [I r, I c, p, a, b], .agg [I r', I c', u]] m = some (.tup [.agg [I n, ev], t, I (fieldE r c ph ac dn r' c' us)], m) := by
  have hck := fun m => w_pCheckTask d (r := r) (c := c) hp ha hb (by omega) (by omega) (by omega) m
  by_cases hr : taskM r c ph ac dn = 0
  · obtain ⟨r0, r1, c0, c1, hlen, hph, -⟩ := task_right hr
    obtain ⟨m3, hm3⟩ : ∃ m3 : Mem, m3 = (((⟨[], 1⟩ : Mem).new (0, 0, 2) (.row [I r, I c, p, a, b] 0 false)).new (0, 1, 3) (.row [I r', I c', u] 0 false)).new (0, 2, 4) (.row [I 0, nilS] 0 false) := ⟨_, rfl⟩
    obtain ⟨t, ht, hT⟩ := w_turnsOf (d + 6) (r := r) (c := c) (r' := r') (c' := c') hp ⟨ha.still1, ha.one⟩ ⟨hb.still1, hb.one⟩ hu (phIn_of hph) hl m3
    obtain ⟨ev, hev, hn⟩ := w_netOf (d + 5) hp ha hb hr m3
    refine ⟨ph.length, ev, t, by simpa [hr] using hev, by simpa [hr] using ht, Ans.call0_tup ?_ (by simp [hp.still1, ha.still1, hb.still1, hu.still1]) (by simp [hev.still1, ht.still])⟩
    unfold Ans
    rw [xqh]
    unfold x7j xdu
    have g2 : m3.get (0, 0, 2) = some (.row [I r, I c, p, a, b] 0 false) := by rw [hm3]; simp
    have g3 : m3.get (0, 1, 3) = some (.row [I r', I c', u] 0 false) := by rw [hm3]; simp
    have g4 : m3.get (0, 2, 4) = some (.row [I 0, nilS] 0 false) := by rw [hm3]; simp
    have hbn : sBuild [I 0, nilS] [(0, 2, .agg [I (ph.length : Int), ev])] = some (.agg [I ph.length, ev]) := by simp [sBuild, sFill]
    simp [mem0, hp.one, ha.one, hb.one, hu.one, z_pnet]
    rw [← hm3]
    simp [hck, hr, g2, g3]
    rw [hT]
    simp [g2, hn, hbn, g4, hev.one, sLdP, fieldE, hr]
  · refine ⟨0, nilS, nilS, by simp [hr]; exact Or.inl ⟨rfl, rfl⟩, by simp [hr]; exact Or.inl ⟨rfl, rfl⟩, Ans.call0_tup ?_ (by simp [hp.still1, ha.still1, hb.still1, hu.still1]) rfl⟩
    unfold Ans
    rw [xqh]
    unfold x7j xdu
    have hb0 : sBuild [I 0, nilS] [] = some (.agg [I 0, nilS]) := rfl
    simp [mem0, hp.one, ha.one, hb.one, hu.one, z_pnet, hck, hr, hb0, sLdP, fieldE]

theorem w_CheckField (d : Nat) {r c r' c' : Int} {p a b u : AV} {ph ac dn us : List Int} (hp : Ints p ph) (ha : Ints a ac) (hb : Ints b dn) (hu : Ints u us) (hl : ph.length ≤ 100000) (h1 : ac.length ≤ 100000) (h2 : dn.length ≤ 100000) (m : Mem) :
    sCall0 (callE (d + 11)) x69 [.agg [I r, I c, p, a, b], .agg [I r', I c', u]] m = some (.tup [I (bif decide (fieldE r c ph ac dn r' c' us = 0) then costI (fieldM r c ph r' c' us).1 0 (netOfM r c ph ac dn) else 0), I (fieldE r c ph ac dn r' c' us)], m) := by
  obtain ⟨m2, hm2⟩ : ∃ m2 : Mem, m2 = ((⟨[], 1⟩ : Mem).new (0, 0, 2) (.row [I r, I c, p, a, b] 0 false)).new (0, 1, 3) (.row [I r', I c', u] 0 false) := ⟨_, rfl⟩
  obtain ⟨n, ev, t, hev, ht, hF⟩ := w_field d (r := r) (c := c) (r' := r') (c' := c') hp ha hb hu hl h1 h2 m2
  have g2 : m2.get (0, 0, 2) = some (.row [I r, I c, p, a, b] 0 false) := by rw [hm2]; simp
  have g3 : m2.get (0, 1, 3) = some (.row [I r', I c', u] 0 false) := by rw [hm2]; simp
  refine Ans.call0_tup ?_ (by simp [hp.still1, ha.still1, hb.still1, hu.still1]) rfl
  unfold Ans
  rw [x122]
  unfold x8r xfr
  have hev1 := hev.one
  simp [mem0, hp.one, ha.one, hb.one, hu.one]
  rw [← hm2]
  rw [hF]
  simp only [bind_s, sExt_tup, List.getElem?_cons_zero, List.getElem?_cons_succ]
  simp [z_pnet]
  rw [hev1]
  simp
  by_cases e : fieldE r c ph ac dn r' c' us = 0
  rotate_left
  · simp [e]
  have hr : taskM r c ph ac dn = 0 := by
    unfold fieldE at e
    by_cases h : taskM r c ph ac dn = 0
    · exact h
    · simp [h] at e
  have hfm : (fieldM r c ph r' c' us).2 = 0 := by simpa [fieldE, hr] using e
  obtain ⟨-, -, -, -, -, hph, -⟩ := task_right hr
  obtain ⟨hT, hTl⟩ := fieldM_in (phIn_of hph) hfm
  simp [hr] at hev ht
  have hR := netOf_right hr
  have hcost := fun m => w_cost (d + 8) (n := n) hev hR.len ht (edgeIn_of hR (by rw [hTl])) hT m
  simp [e, hcost]

/-! ### Pairs -/
abbrev Pr := Int × Int
def Pr.c (x : Pr) : List AV := [I x.1, I x.2]
theorem Pr.len (x : Pr) : (Pr.c x).length = 2 := rfl
theorem Pr.still (x : Pr) : (Pr.c x).all Go.Ix.still1 = true := rfl
abbrev Prs (a : AV) (l : List Pr) : Prop := Sl Pr.c a l
theorem u_pairs : Try.prog.underlying x9q = some (.slice x5m) := by kernel_rfl
theorem mkLit_2 {id : Id} {a b : Int} {m : Mem} {R : Type} (k : AV → Mem → Option R) : sMkLit [I 0, I 0] [(0, 2, .agg [I a, I b])] 1 2 id m k = k (.slit [I a, I b] 1 true) m := by
  simp [sMkLit, sFill, zeros, List.range_succ, splice]
/-- The ends of the edges of which something is so. -/
def pairsM (q : Edge → Bool) (l : List Edge) : List Pr := (l.filter q).map fun e => (e.fr, e.to)
theorem pairsM_snoc (q : Edge → Bool) (l : List Edge) (e : Edge) : pairsM q (l ++ [e]) = if q e = true then pairsM q l ++ [(e.fr, e.to)] else pairsM q l := by
  unfold pairsM
  rw [List.filter_append]
  cases h : q e <;> simp [h]

/-- A function value that tells a property of edges and lets the objects of other frames be. -/
def TellsE (call : FCall) (f : AV) (u : Nat) (P : Mem → Prop) (q : Edge → Bool) (l : List Edge) : Prop := ∀ (hs : FHs) (e : Edge) (m : Mem), e ∈ l → u < m.next → P m → ∃ m', fxInv call hs 2 f [.agg e.c] m = some (B (q e), m') ∧ m.next ≤ m'.next ∧ (∀ id : Id, id.1 < m.next → m'.get id = m.get id)

theorem l_pairs (d : Nat) (hs : FHs) (u : Nat) {ev f : AV} {l : List Edge} {q : Edge → Bool} {P : Mem → Prop} (h : Sl Edge.c ev l) (hl : l.length ≤ 100000) (hf : TellsE (callE d) f u P q l)
    (hP : ∀ m m' : Mem, P m → (∀ id : Id, id.1 < u → m'.get id = m.get id) → P m') :
    ∀ (suf : List Edge) (k j : Nat) (o : AV) (m : Mem) (fc : Nat), l.drop k = suf → suf.length < j → u < m.next → P m → Gk 2 Pr.c (fun id => id.1 = u ∧ id.2.2 = 26) m o (pairsM q (l.take k)) →
    ∃ a m', x33 (callE d) hs u j f o ev (I l.length) (I k) m fc = some (a, m') ∧ Gk 2 Pr.c (fun id => id.1 = u ∧ id.2.2 = 26) m' a (pairsM q l) := by
  intro suf
  induction suf with
  | nil =>
    intro k j o m fc hd hj hu hPm hG
    obtain ⟨j, rfl⟩ : ∃ i, j = i + 1 := ⟨j - 1, by simp at hj; omega⟩
    have hk0 := List.drop_eq_nil_iff.mp hd
    have hk : ¬ ((k : Int) < (l.length : Int)) := by omega
    rw [List.take_of_length_le hk0] at hG
    refine ⟨o, m, ?_, hG⟩
    simp only [x33]
    unfold xdw
    simp [hk, x32]
  | cons e r ih =>
    intro k j o m fc hd hj hu hPm hG
    obtain ⟨j, rfl⟩ : ∃ i, j = i + 1 := ⟨j - 1, by simp at hj; omega⟩
    obtain ⟨hk, hke, hd⟩ := drop_cons hd
    have hk' : (k : Int) < (l.length : Int) := by omega
    have ix := h.ix Edge.len hk
    have ld := ld_flat (m := m) Edge.len (by omega) hk
    rw [hke] at ld
    obtain ⟨M, hM⟩ : ∃ M, M = (m.new (u, fc + 1 + 2, 7) (.row [I 0, I 0, I 0, I 0] 0 false)).set (u, fc + 1 + 2, 7) (.row e.c 0 false) := ⟨_, rfl⟩
    have hMg : ∀ i : Id, i ≠ (u, fc + 1 + 2, 7) → M.get i = m.get i := fun i hi => by rw [hM, Mem.get_set, if_neg hi, Mem.get_new, if_neg hi]
    have g7 : M.get (u, fc + 1 + 2, 7) = some (.row e.c 0 false) := by rw [hM]; simp
    have hMn : M.next = m.next := by rw [hM]; rfl
    have hPM : P M := hP m M hPm fun id hid => hMg id (by rintro rfl; simp at hid)
    obtain ⟨m2, h2, hn2, hg2⟩ := hf hs e M (hke ▸ List.getElem_mem hk) (by omega) hPM
    have g72 : m2.get (u, fc + 1 + 2, 7) = some (.row [I e.fr, I e.to, I e.jump, I e.wt] 0 false) := by rw [hg2 _ (by simp only; omega)]; exact g7
    have hPM2 : P m2 := hP M m2 hPM fun id hid => hg2 id (by omega)
    have hG2 : Gk 2 Pr.c (fun id => id.1 = u ∧ id.2.2 = 26) m2 o (pairsM q (l.take k)) := hG.frame fun id hid => by
      rw [hg2 id (by omega), hMg id (by rintro rfl; simp at hid)]
    have htk : l.take (k + 1) = l.take k ++ [e] := by rw [List.take_succ_eq_append_getElem hk, hke]
    have start : ∀ K, (sCond (B (q e))
          ((sFA 0 (.ptr (u, fc + 1 + 2, 7) 0 0)).bind fun t20 => (sLd false 1 t20 m2).bind fun t21 => (sFA 1 (.ptr (u, fc + 1 + 2, 7) 0 0)).bind fun t22 => (sLd false 1 t22 m2).bind fun t23 =>
            (sBuild x3h [(0, 1, t21), (1, 1, t23)]).bind fun t24 => sMkLit x3h [(0, 2, t24)] 1 2 (u, fc + 1 + 13, 25) m2 fun t25 m_3 => sApp 2 16 (u, fc + 1 + 14, 26) (elems m_3.get 2 t25) o m_3 fun t26 m_4 =>
              x6k (callE d) hs u (x33 (callE d) hs u j) f t26 ev (I l.length) (I k) m_4 (fc + 1 + 16))
          (x6k (callE d) hs u (x33 (callE d) hs u j) f o ev (I l.length) (I k) m2 (fc + 1 + 7))) = K →
        x33 (callE d) hs u (j + 1) f o ev (I l.length) (I k) m fc = K := by
      intro K hK
      rw [← hK]
      simp only [x33]
      unfold xdw xdv
      simp only [sLt_I, bind_s, hk', decide_true, sCond_t, ix, ld, sAlloc_eq, z_edge, sSt_ptr, Mem.get_new, if_true]
      rw [show e.c = [I e.fr, I e.to, I e.jump, I e.wt] from rfl, stRow_4]
      simp only [List.all_cons, List.all_nil, one_I, Bool.and_self, cond_t, bind_s]
      rw [show [I e.fr, I e.to, I e.jump, I e.wt] = e.c from rfl, ← hM]
      simp only [sLd_ptr, g7, ldRow_row, Nat.beq_refl, cond_t, List.drop_zero]
      rw [show rd true 4 e.c = some (.agg e.c) from rfl]
      simp only [bind_s, h2]
    cases hq : q e
    · obtain ⟨a, m', h5, h6⟩ := ih (k + 1) j o m2 (fc + 1 + 7 + 2) hd (by simp at hj; omega) (by omega) hPM2 (by rw [htk, pairsM_snoc, hq]; exact hG2)
      refine ⟨a, m', start _ ?_, h6⟩
      rw [hq]
      unfold x6k
      simp (disch := omega)
      exact h5
    · obtain ⟨a', m3, A, hG3, u1, u2, n3, f3⟩ := hG2.app Pr.len (by omega) (bytes := 16) (id0 := (u, fc + 1 + 14, 26)) ⟨rfl, rfl⟩ (by unfold roomy pairsM; have := List.length_filter_le q (l.take k); simp at this ⊢; omega) (e.fr, e.to)
      obtain ⟨a, m', h5, h6⟩ := ih (k + 1) j a' m3 (fc + 1 + 16 + 2) hd (by simp at hj; omega) (by omega) (hP m2 m3 hPM2 fun id hid => f3 id (by omega)) (by rw [htk, pairsM_snoc, hq]; exact hG3)
      refine ⟨a, m', start _ ?_, h6⟩
      have hel : ∀ M : Mem, elems M.get 2 (.slit [I e.fr, I e.to] 1 true) = some (Pr.c (e.fr, e.to), 1) := fun _ => rfl
      rw [hq]
      simp (disch := omega) [g72, z_2int, mkLit_2, sBuild, sFill, hel, A, x6k]
      exact h5

end Go.Ix
