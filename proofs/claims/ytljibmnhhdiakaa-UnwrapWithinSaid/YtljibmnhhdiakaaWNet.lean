import Derived.Test.YtljibmnhhdiakaaWBase
set_option linter.unusedSimpArgs false
namespace Go.Ix
open Go.Proofs

structure Edge where
  fr : Int
  to : Int
  jump : Int
  wt : Int
def Edge.c (e : Edge) : List AV := [I e.fr, I e.to, I e.jump, I e.wt]
theorem Edge.len (e : Edge) : e.c.length = 4 := rfl

def wi (a b c : Int) : Bool := decide (b ≤ a ∧ a ≤ c)
theorem wi_t {a b c : Int} (h : wi a b c = true) : b ≤ a ∧ a ≤ c := of_decide_eq_true h
theorem wi_f {a b c : Int} (h : wi a b c = false) : ¬ (b ≤ a ∧ a ≤ c) := of_decide_eq_false h
theorem wi_iff {a b c : Int} : wi a b c = true ↔ b ≤ a ∧ a ≤ c := decide_eq_true_iff
theorem w_Within (d : Nat) (a b c : Int) (m : Mem) : sCall0 (callE (d + 1)) x15 [I a, I b, I c] m = some (B (wi a b c), m) := by
  refine call0 rfl (m' := ⟨[], 1⟩) ?_ rfl
  rw [xsn]
  unfold x6u xc3 wi
  by_cases h : b ≤ a <;> by_cases h2 : a ≤ c <;> simp [h, h2, mem0]
theorem w_within (d : Nat) (a b c : Int) (m : Mem) : sCall0 (callE (d + 1)) x1e [I a, I b, I c] m = some (B (wi a b c), m) := by
  refine call0 rfl (m' := ⟨[], 1⟩) ?_ rfl
  rw [xsy]
  unfold x6f xcn wi
  by_cases h : b ≤ a <;> by_cases h2 : a ≤ c <;> simp [h, h2, mem0]

theorem u_edges : Try.prog.underlying x1c = some (.slice xl5) := by kernel_rfl
theorem u_ints : Try.prog.underlying x6 = some (.slice y_int) := by kernel_rfl
theorem z_edge : x1o = [I 0, I 0, I 0, I 0] := by kernel_rfl
theorem z_net : x56 = [I 0, nilS] := by kernel_rfl
theorem z_ints : z_int = [I 0] := by kernel_rfl

theorem w_Size (d : Nat) (a : Int) (m : Mem) (h1 : -9223372036854775808 < a) (h2 : a ≤ 9223372036854775807) : sCall0 (callE (d + 1)) x40 [I a] m = some (I (a.natAbs : Int), m) := by
  refine call0 rfl (m' := ⟨[], 1⟩) ?_ rfl
  rw [xss]
  unfold x6z xcc
  simp (disch := omega) [mem0, w64_in]
  split <;> omega
theorem w_size (d : Nat) (a : Int) (m : Mem) (h1 : -9223372036854775808 < a) (h2 : a ≤ 9223372036854775807) : sCall0 (callE (d + 1)) x50 [I a] m = some (I (a.natAbs : Int), m) := by
  refine call0 rfl (m' := ⟨[], 1⟩) ?_ rfl
  rw [xt9]
  unfold x6j xd1
  simp (disch := omega) [mem0, w64_in]
  split <;> omega

def checkEdges (n : Int) : Int → List Edge → Int × Int
  | _, [] => (0, 0)
  | i, e :: r =>
    bif !(wi e.fr 0 (n - 1)) || !(wi e.to 0 (n - 1)) then (i, 6)
    else bif decide (e.fr = e.to) then (i, 3)
    else bif !(wi e.jump (-1000) 1000) || !(wi e.wt 0 1000) then (i, 2)
    else checkEdges n (i + 1) r
def checkNet (n : Int) (l : List Edge) : Int × Int :=
  bif !(wi n 0 200) then (0, 2) else bif decide (600 < (l.length : Int)) then (0, 8) else checkEdges n 0 l

theorem l_CheckNet (d : Nat) (hs : FHs) {n : Int} {ev : AV} {l : List Edge} (h : Sl Edge.c ev l) (hn : 0 ≤ n ∧ n ≤ 200) (hl : l.length ≤ 600) : ∀ (suf : List Edge) (k j : Nat) (m : Mem) (fc : Nat), l.drop k = suf → suf.length < j →
    m.get (0, 0, 1) = some (.row [I n, ev] 0 false) → ∃ m', x4i (callE (d + 1)) hs 0 j (.ptr (0, 0, 1) 0 0) (I k) m fc = some (.tup [I (checkEdges n k suf).1, I (checkEdges n k suf).2], m') := by
  intro suf
  induction suf with
  | nil =>
    intro k j m fc hd hj hg
    obtain ⟨j, rfl⟩ : ∃ i, j = i + 1 := ⟨j - 1, by simp at hj; omega⟩
    have hk : ¬ ((k : Int) < (l.length : Int)) := by have := List.drop_eq_nil_iff.mp hd; omega
    simp only [x4i]
    unfold xa4
    simp [hg, h.len u_edges, hk, x4h, checkEdges]
  | cons e r ih =>
    intro k j m fc hd hj hg
    obtain ⟨j, rfl⟩ : ∃ i, j = i + 1 := ⟨j - 1, by simp at hj; omega⟩
    obtain ⟨hk, he, hd⟩ := drop_cons hd
    have hk' : (k : Int) < (l.length : Int) := by omega
    have ix := h.ix Edge.len hk
    have ld := ld_flat (m := m) Edge.len (by omega) hk
    rw [he] at ld
    simp only [x4i]
    unfold xa4
    simp (disch := omega) [hg, h.len u_edges, hk', ix, ld, z_edge, Edge.c, w_Within]
    cases c1 : wi e.fr 0 (n - 1)
    · simp [checkEdges, c1]
    simp (disch := omega) [hg, w_Within]
    cases c2 : wi e.to 0 (n - 1)
    · simp [checkEdges, c1, c2]
    simp (disch := omega) [hg, w_Within]
    by_cases c3 : e.fr = e.to
    · simp [checkEdges, c1, c2, c3]
    simp (disch := omega) [c3, hg, w_Within]
    cases c4 : wi e.jump (-1000) 1000
    · simp [checkEdges, c1, c2, c3, c4]
    simp (disch := omega) [hg, w_Within]
    cases c5 : wi e.wt 0 1000
    · simp [checkEdges, c1, c2, c3, c4, c5]
    obtain ⟨m', h'⟩ := ih (k + 1) j ((m.new (0, fc + 10, 5) (.row [I 0, I 0, I 0, I 0] 0 false)).set (0, fc + 10, 5) (.row e.c 0 false)) (fc + 46) hd (by simp at hj; omega) (by simp [hg])
    simp (disch := omega) [checkEdges, c1, c2, c3, c4, c5]
    exact ⟨m', h'⟩

theorem w_CheckNet (d : Nat) {n : Int} {ev : AV} {l : List Edge} (h : Sl Edge.c ev l) (m : Mem) : sCall0 (callE (d + 2)) x11 [.agg [I n, ev]] m = some (.tup [I (checkNet n l).1, I (checkNet n l).2], m) := by
  have key : Ans (callE (d + 2)) x11 [.agg [I n, ev]] (.tup [I (checkNet n l).1, I (checkNet n l).2]) := by
    unfold Ans
    rw [xsv]
    unfold x71 xcf
    simp [mem0, h.one, w_Within]
    cases c1 : wi n 0 200
    · simp [checkNet, c1]
    simp [h.len u_edges]
    by_cases c2 : (600 : Int) < (l.length : Int)
    · simp [checkNet, c1, c2]
    obtain ⟨m', h'⟩ := l_CheckNet d [] h (wi_t c1) (by omega) l 0 NN ((⟨[], 1⟩ : Mem).new (0, 0, 1) (.row [I n, ev] 0 false)) 12 rfl (by rw [NN_eq]; omega) (by simp)
    simp [checkNet, c1, c2, xa5]
    exact ⟨m', h'⟩
  exact key.call0_tup (by simp [still, h.still1]) rfl

theorem w_Err (d : Nat) {n : Int} {ev : AV} {l : List Edge} (h : Sl Edge.c ev l) (m : Mem) : sCall0 (callE (d + 3)) x2h [.agg [I n, ev]] m = some (I (checkNet n l).2, m) := by
  refine Ans.call0 ?_ (by simp [h.still1]) rfl
  unfold Ans
  rw [xsk]
  unfold x6r xby
  simp [mem0, h.one, w_CheckNet _ h]

theorem w_isWeight (d : Nat) (a : Int) (m : Mem) : sCall0 (callE (d + 2)) x41 [I a] m = some (B (wi a 0 1000), m) := by
  refine Ans.call0 ?_ rfl rfl
  unfold Ans
  rw [xsx]
  unfold x73 xcm
  simp [mem0, w_within]

theorem l_pCheckNet (d : Nat) (hs : FHs) {n : Int} {ev : AV} {l : List Edge} (h : Sl Edge.c ev l) (hn : 0 ≤ n ∧ n ≤ 200) (hl : l.length ≤ 600) : ∀ (suf : List Edge) (k j : Nat) (m : Mem) (fc : Nat), l.drop k = suf → suf.length < j →
    m.get (0, 0, 1) = some (.row [I n, ev] 0 false) → ∃ m', x4m (callE (d + 2)) hs 0 j (.ptr (0, 0, 1) 0 0) ev (I l.length) (I k) m fc = some (.tup [I (checkEdges n k suf).1, I (checkEdges n k suf).2], m') := by
  intro suf
  induction suf with
  | nil =>
    intro k j m fc hd hj hg
    obtain ⟨j, rfl⟩ : ∃ i, j = i + 1 := ⟨j - 1, by simp at hj; omega⟩
    have hk : ¬ ((k : Int) < (l.length : Int)) := by have := List.drop_eq_nil_iff.mp hd; omega
    simp only [x4m]
    unfold xaj
    simp [hk, x4l, checkEdges]
  | cons e r ih =>
    intro k j m fc hd hj hg
    obtain ⟨j, rfl⟩ : ∃ i, j = i + 1 := ⟨j - 1, by simp at hj; omega⟩
    obtain ⟨hk, he, hd⟩ := drop_cons hd
    have hk' : (k : Int) < (l.length : Int) := by omega
    have ix := h.ix Edge.len hk
    have ld := ld_flat (m := m) Edge.len (by omega) hk
    rw [he] at ld
    simp only [x4m]
    unfold xaj
    simp (disch := omega) [hg, hk', ix, ld, z_edge, Edge.c, w_within]
    cases c1 : wi e.fr 0 (n - 1)
    · simp [checkEdges, c1]
    simp (disch := omega) [hg, w_within]
    cases c2 : wi e.to 0 (n - 1)
    · simp [checkEdges, c1, c2]
    simp (disch := omega)
    by_cases c3 : e.fr = e.to
    · simp [checkEdges, c1, c2, c3]
    simp (disch := omega) [c3, w_within]
    cases c4 : wi e.jump (-1000) 1000
    · simp [checkEdges, c1, c2, c3, c4]
    simp (disch := omega) [w_isWeight]
    cases c5 : wi e.wt 0 1000
    · simp [checkEdges, c1, c2, c3, c4, c5]
    obtain ⟨m', h'⟩ := ih (k + 1) j ((m.new (0, fc + 4, 5) (.row [I 0, I 0, I 0, I 0] 0 false)).set (0, fc + 4, 5) (.row e.c 0 false)) (fc + 43) hd (by simp at hj; omega) (by simp [hg])
    simp (disch := omega) [checkEdges, c1, c2, c3, c4, c5]
    exact ⟨m', h'⟩

theorem w_pCheckNet (d : Nat) {n : Int} {ev : AV} {l : List Edge} (h : Sl Edge.c ev l) (m : Mem) : sCall0 (callE (d + 3)) x1b [.agg [I n, ev]] m = some (.tup [I (checkNet n l).1, I (checkNet n l).2], m) := by
  have key : Ans (callE (d + 3)) x1b [.agg [I n, ev]] (.tup [I (checkNet n l).1, I (checkNet n l).2]) := by
    unfold Ans
    rw [xt5]
    unfold x77 xcx
    simp [mem0, h.one, w_within]
    cases c1 : wi n 0 200
    · simp [checkNet, c1]
    simp [h.len u_edges]
    by_cases c2 : (600 : Int) < (l.length : Int)
    · simp [checkNet, c1, c2]
    obtain ⟨m', h'⟩ := l_pCheckNet d [] h (wi_t c1) (by omega) l 0 NN ((⟨[], 1⟩ : Mem).new (0, 0, 1) (.row [I n, ev] 0 false)) 17 rfl (by rw [NN_eq]; omega) (by simp)
    simp [checkNet, c1, c2, xak, h.len u_edges]
    exact ⟨m', h'⟩
  exact key.call0_tup (by simp [h.still1]) rfl

theorem z_pnet : x2v = [I 0, nilS] := by kernel_rfl
theorem w_open (d : Nat) {n : Int} {ev : AV} {l : List Edge} (h : Sl Edge.c ev l) (m : Mem) : sCall0 (callE (d + 4)) x2t [.agg [I n, ev]] m = some (.tup [.agg [I n, ev], I (checkNet n l).2], m) := by
  refine Ans.call0_tup ?_ (by simp [h.still1]) (by simp [h.still1])
  unfold Ans
  rw [xst]
  unfold x70 xcd
  simp [mem0, h.one, w_pCheckNet _ h, z_pnet, sBuild, sFill, sLdP]

structure Right (n : Int) (l : List Edge) : Prop where
  lo : 0 ≤ n
  hi : n ≤ 200
  len : l.length ≤ 600
  ed : ∀ e ∈ l, (0 ≤ e.fr ∧ e.fr ≤ n - 1) ∧ (0 ≤ e.to ∧ e.to ≤ n - 1) ∧ e.fr ≠ e.to ∧ (-1000 ≤ e.jump ∧ e.jump ≤ 1000) ∧ (0 ≤ e.wt ∧ e.wt ≤ 1000)
theorem checkEdges_ok {n : Int} : ∀ {l : List Edge} {i : Int}, (checkEdges n i l).2 = 0 → ∀ e ∈ l, (0 ≤ e.fr ∧ e.fr ≤ n - 1) ∧ (0 ≤ e.to ∧ e.to ≤ n - 1) ∧ e.fr ≠ e.to ∧ (-1000 ≤ e.jump ∧ e.jump ≤ 1000) ∧ (0 ≤ e.wt ∧ e.wt ≤ 1000)
  | [], _, _, e, he => by cases he
  | x :: r, i, h, e, he => by
    unfold checkEdges at h
    cases c1 : wi x.fr 0 (n - 1)
    · simp [c1] at h
    cases c2 : wi x.to 0 (n - 1)
    · simp [c1, c2] at h
    by_cases c3 : x.fr = x.to
    · simp [c1, c2, c3] at h
    cases c4 : wi x.jump (-1000) 1000
    · simp [c1, c2, c3, c4] at h
    cases c5 : wi x.wt 0 1000
    · simp [c1, c2, c3, c4, c5] at h
    simp [c1, c2, c3, c4, c5] at h
    rcases List.mem_cons.mp he with rfl | he
    · exact ⟨wi_t c1, wi_t c2, c3, wi_t c4, wi_t c5⟩
    · exact checkEdges_ok h e he
theorem right_of {n : Int} {l : List Edge} (h : (checkNet n l).2 = 0) : Right n l := by
  unfold checkNet at h
  cases c1 : wi n 0 200
  · simp [c1] at h
  by_cases c2 : (600 : Int) < (l.length : Int)
  · simp [c1, c2] at h
  simp [c1, c2] at h
  exact ⟨(wi_t c1).1, (wi_t c1).2, by omega, checkEdges_ok h⟩

end Go.Ix
