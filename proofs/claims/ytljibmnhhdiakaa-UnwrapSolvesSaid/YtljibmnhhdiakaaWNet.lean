import Derived.Test.YtljibmnhhdiakaaWBase
set_option linter.unusedSimpArgs false
namespace Go.Ix
open Go.Proofs
structure Edge where
  fr : Int
  to : Int
  jump : Int
  wt : Int
def Edge.c (e : Edge) : List AV := [I e.fr, I e.to, I e.jump, I e.wt]
theorem Edge.len (e : Edge) : e.c.length = 4 := rfl
def wi (a b c : Int) : Bool := decide (b ≤ a ∧ a ≤ c)
theorem wi_t {a b c : Int} (h : wi a b c = true) : b ≤ a ∧ a ≤ c := of_decide_eq_true h
theorem wi_iff {a b c : Int} : wi a b c = true ↔ b ≤ a ∧ a ≤ c := decide_eq_true_iff
theorem x1mr (d : Nat) (a b c : Int) (m : Mem) : x1if (x1id (d + 1)) xa [I a, I b, I c] m = some (B (wi a b c), m) := by
  refine call0 rfl (m' := ⟨[], 1⟩) ?_ rfl
  rw [xu8]
  unfold x72 xen wi
  by_cases h : b ≤ a <;> by_cases h2 : a ≤ c <;> simp [h, h2, mem0]
theorem x1pe (d : Nat) (a b c : Int) (m : Mem) : x1if (x1id (d + 1)) xb [I a, I b, I c] m = some (B (wi a b c), m) := by
  refine call0 rfl (m' := ⟨[], 1⟩) ?_ rfl
  rw [xuk]
  unfold x6j xff wi
  by_cases h : b ≤ a <;> by_cases h2 : a ≤ c <;> simp [h, h2, mem0]
theorem x1jl : Try.prog.underlying x5 = some (.slice x9w) := by kernel_rfl
theorem x1ju : Try.prog.underlying x4 = some (.slice x1ka) := by kernel_rfl
theorem x1l0 : x9 = [I 0, I 0, I 0, I 0] := by kernel_rfl
theorem z_net : x3m = [I 0, nilS] := by kernel_rfl
theorem x1kh : x1ix = [I 0] := by kernel_rfl
theorem w_Size (d : Nat) (a : Int) (m : Mem) (h1 : -9223372036854775808 < a) (h2 : a ≤ 9223372036854775807) : x1if (x1id (d + 1)) x1v [I a] m = some (I (a.natAbs : Int), m) := by
  refine call0 rfl (m' := ⟨[], 1⟩) ?_ rfl
  rw [xuc]
  unfold x7c xey
  simp (disch := omega) [mem0, x1jr]
  split <;> omega
theorem w_size (d : Nat) (a : Int) (m : Mem) (h1 : -9223372036854775808 < a) (h2 : a ≤ 9223372036854775807) : x1if (x1id (d + 1)) x2d [I a] m = some (I (a.natAbs : Int), m) := by
  refine call0 rfl (m' := ⟨[], 1⟩) ?_ rfl
  rw [xuu]
  unfold x6p xfx
  simp (disch := omega) [mem0, x1jr]
  split <;> omega
def x1jy (n : Int) : Int → List Edge → Int × Int
  | _, [] => (0, 0)
  | i, e :: r =>
    bif !(wi e.fr 0 (n - 1)) || !(wi e.to 0 (n - 1)) then (i, 6)
    else bif decide (e.fr = e.to) then (i, 3)
    else bif !(wi e.jump (-1000) 1000) || !(wi e.wt 0 1000) then (i, 2)
    else x1jy n (i + 1) r
def x1jh (n : Int) (l : List Edge) : Int × Int :=
  bif !(wi n 0 200) then (0, 2) else bif decide (600 < (l.length : Int)) then (0, 8) else x1jy n 0 l
theorem x1wp (d : Nat) (hs : FHs) {n : Int} {ev : AV} {l : List Edge} (h : Sl Edge.c ev l) (hn : 0 ≤ n ∧ n ≤ 200) (hl : l.length ≤ 600) : ∀ (suf : List Edge) (k j : Nat) (m : Mem) (fc : Nat), l.drop k = suf → suf.length < j →
    m.get (0, 0, 1) = some (.row [I n, ev] 0 false) → ∃ m', x2p (x1id (d + 1)) hs 0 j (.ptr (0, 0, 1) 0 0) (I k) m fc = some (.tup [I (x1jy n k suf).1, I (x1jy n k suf).2], m') := by
  intro suf
  induction suf with
  | nil =>
    intro k j m fc hd hj hg
    obtain ⟨j, rfl⟩ : ∃ i, j = i + 1 := ⟨j - 1, by simp at hj; omega⟩
    have hk : ¬ ((k : Int) < (l.length : Int)) := by have := List.drop_eq_nil_iff.mp hd; omega
    simp only [x2p]
    unfold xaa
    simp [hg, h.len x1jl, hk, x3x, x1jy]
  | cons e r ih =>
    intro k j m fc hd hj hg
    obtain ⟨j, rfl⟩ : ∃ i, j = i + 1 := ⟨j - 1, by simp at hj; omega⟩
    obtain ⟨hk, he, hd⟩ := x1k2 hd
    have hk' : (k : Int) < (l.length : Int) := by omega
    have ix := h.ix Edge.len hk
    have ld := x1m1 (m := m) Edge.len (by omega) hk
    rw [he] at ld
    simp only [x2p]
    unfold xaa
    simp (disch := omega) [hg, h.len x1jl, hk', ix, ld, x1l0, Edge.c, x1mr]
    cases c1 : wi e.fr 0 (n - 1)
    · simp [x1jy, c1]
    simp (disch := omega) [hg, x1mr]
    cases c2 : wi e.to 0 (n - 1)
    · simp [x1jy, c1, c2]
    simp (disch := omega) [hg, x1mr]
    by_cases c3 : e.fr = e.to
    · simp [x1jy, c1, c2, c3]
    simp (disch := omega) [c3, hg, x1mr]
    cases c4 : wi e.jump (-1000) 1000
    · simp [x1jy, c1, c2, c3, c4]
    simp (disch := omega) [hg, x1mr]
    cases c5 : wi e.wt 0 1000
    · simp [x1jy, c1, c2, c3, c4, c5]
    obtain ⟨m', h'⟩ := ih (k + 1) j ((m.new (0, fc + 10, 5) (.row [I 0, I 0, I 0, I 0] 0 false)).set (0, fc + 10, 5) (.row e.c 0 false)) (fc + 46) hd (by simp at hj; omega) (by simp [hg])
    simp (disch := omega) [x1jy, c1, c2, c3, c4, c5]
    exact ⟨m', h'⟩
theorem x1wq (d : Nat) {n : Int} {ev : AV} {l : List Edge} (h : Sl Edge.c ev l) (m : Mem) : x1if (x1id (d + 2)) x3a [.agg [I n, ev]] m = some (.tup [I (x1jh n l).1, I (x1jh n l).2], m) := by
  have key : Ans (x1id (d + 2)) x3a [.agg [I n, ev]] (.tup [I (x1jh n l).1, I (x1jh n l).2]) := by
    unfold Ans
    rw [xug]
    unfold x7f xf2
    simp [mem0, h.one, x1mr]
    cases c1 : wi n 0 200
    · simp [x1jh, c1]
    simp [h.len x1jl]
    by_cases c2 : (600 : Int) < (l.length : Int)
    · simp [x1jh, c1, c2]
    obtain ⟨m', h'⟩ := x1wp d [] h (wi_t c1) (by omega) l 0 NN ((⟨[], 1⟩ : Mem).new (0, 0, 1) (.row [I n, ev] 0 false)) 12 rfl (by rw [x1iv]; omega) (by simp)
    simp [x1jh, c1, c2, xab]
    exact ⟨m', h'⟩
  exact key.call0_tup (by simp [still, h.still1]) rfl
theorem w_Err (d : Nat) {n : Int} {ev : AV} {l : List Edge} (h : Sl Edge.c ev l) (m : Mem) : x1if (x1id (d + 3)) x1b [.agg [I n, ev]] m = some (I (x1jh n l).2, m) := by
  refine Ans.call0 ?_ (by simp [h.still1]) rfl
  unfold Ans
  rw [xu2]
  unfold x6v xec
  simp [mem0, h.one, x1wq _ h]
theorem x1wr (d : Nat) (a : Int) (m : Mem) : x1if (x1id (d + 2)) x3d [I a] m = some (B (wi a 0 1000), m) := by
  refine Ans.call0 ?_ rfl rfl
  unfold Ans
  rw [xuj]
  unfold x7i xfe
  simp [mem0, x1pe]
theorem x1ws (d : Nat) (hs : FHs) {n : Int} {ev : AV} {l : List Edge} (h : Sl Edge.c ev l) (hn : 0 ≤ n ∧ n ≤ 200) (hl : l.length ≤ 600) : ∀ (suf : List Edge) (k j : Nat) (m : Mem) (fc : Nat), l.drop k = suf → suf.length < j →
    m.get (0, 0, 1) = some (.row [I n, ev] 0 false) → ∃ m', x2w (x1id (d + 2)) hs 0 j (.ptr (0, 0, 1) 0 0) ev (I l.length) (I k) m fc = some (.tup [I (x1jy n k suf).1, I (x1jy n k suf).2], m') := by
  intro suf
  induction suf with
  | nil =>
    intro k j m fc hd hj hg
    obtain ⟨j, rfl⟩ : ∃ i, j = i + 1 := ⟨j - 1, by simp at hj; omega⟩
    have hk : ¬ ((k : Int) < (l.length : Int)) := by have := List.drop_eq_nil_iff.mp hd; omega
    simp only [x2w]
    unfold xar
    simp [hk, x40, x1jy]
  | cons e r ih =>
    intro k j m fc hd hj hg
    obtain ⟨j, rfl⟩ : ∃ i, j = i + 1 := ⟨j - 1, by simp at hj; omega⟩
    obtain ⟨hk, he, hd⟩ := x1k2 hd
    have hk' : (k : Int) < (l.length : Int) := by omega
    have ix := h.ix Edge.len hk
    have ld := x1m1 (m := m) Edge.len (by omega) hk
    rw [he] at ld
    simp only [x2w]
    unfold xar
    simp (disch := omega) [hg, hk', ix, ld, x1l0, Edge.c, x1pe]
    cases c1 : wi e.fr 0 (n - 1)
    · simp [x1jy, c1]
    simp (disch := omega) [hg, x1pe]
    cases c2 : wi e.to 0 (n - 1)
    · simp [x1jy, c1, c2]
    simp (disch := omega)
    by_cases c3 : e.fr = e.to
    · simp [x1jy, c1, c2, c3]
    simp (disch := omega) [c3, x1pe]
    cases c4 : wi e.jump (-1000) 1000
    · simp [x1jy, c1, c2, c3, c4]
    simp (disch := omega) [x1wr]
    cases c5 : wi e.wt 0 1000
    · simp [x1jy, c1, c2, c3, c4, c5]
    obtain ⟨m', h'⟩ := ih (k + 1) j ((m.new (0, fc + 4, 5) (.row [I 0, I 0, I 0, I 0] 0 false)).set (0, fc + 4, 5) (.row e.c 0 false)) (fc + 43) hd (by simp at hj; omega) (by simp [hg])
    simp (disch := omega) [x1jy, c1, c2, c3, c4, c5]
    exact ⟨m', h'⟩
theorem x1wt (d : Nat) {n : Int} {ev : AV} {l : List Edge} (h : Sl Edge.c ev l) (m : Mem) : x1if (x1id (d + 3)) x3g [.agg [I n, ev]] m = some (.tup [I (x1jh n l).1, I (x1jh n l).2], m) := by
  have key : Ans (x1id (d + 3)) x3g [.agg [I n, ev]] (.tup [I (x1jh n l).1, I (x1jh n l).2]) := by
    unfold Ans
    rw [xup]
    unfold x7v xfs
    simp [mem0, h.one, x1pe]
    cases c1 : wi n 0 200
    · simp [x1jh, c1]
    simp [h.len x1jl]
    by_cases c2 : (600 : Int) < (l.length : Int)
    · simp [x1jh, c1, c2]
    obtain ⟨m', h'⟩ := x1ws d [] h (wi_t c1) (by omega) l 0 NN ((⟨[], 1⟩ : Mem).new (0, 0, 1) (.row [I n, ev] 0 false)) 17 rfl (by rw [x1iv]; omega) (by simp)
    simp [x1jh, c1, c2, xas, h.len x1jl]
    exact ⟨m', h'⟩
  exact key.call0_tup (by simp [h.still1]) rfl
theorem z_pnet : x1f = [I 0, nilS] := by kernel_rfl
theorem w_open (d : Nat) {n : Int} {ev : AV} {l : List Edge} (h : Sl Edge.c ev l) (m : Mem) : x1if (x1id (d + 4)) x1w [.agg [I n, ev]] m = some (.tup [.agg [I n, ev], I (x1jh n l).2], m) := by
  refine Ans.call0_tup ?_ (by simp [h.still1]) (by simp [h.still1])
  unfold Ans
  rw [xud]
  unfold x7d xez
  simp [mem0, h.one, x1wt _ h, z_pnet, x1ir, x1kp, sLdP]
structure Right (n : Int) (l : List Edge) : Prop where
  lo : 0 ≤ n
  hi : n ≤ 200
  len : l.length ≤ 600
  ed : ∀ e ∈ l, (0 ≤ e.fr ∧ e.fr ≤ n - 1) ∧ (0 ≤ e.to ∧ e.to ≤ n - 1) ∧ e.fr ≠ e.to ∧ (-1000 ≤ e.jump ∧ e.jump ≤ 1000) ∧ (0 ≤ e.wt ∧ e.wt ≤ 1000)
theorem x1u6 {n : Int} : ∀ {l : List Edge} {i : Int}, (x1jy n i l).2 = 0 → ∀ e ∈ l, (0 ≤ e.fr ∧ e.fr ≤ n - 1) ∧ (0 ≤ e.to ∧ e.to ≤ n - 1) ∧ e.fr ≠ e.to ∧ (-1000 ≤ e.jump ∧ e.jump ≤ 1000) ∧ (0 ≤ e.wt ∧ e.wt ≤ 1000)
  | [], _, _, e, he => by cases he
  | x :: r, i, h, e, he => by
    unfold x1jy at h
    cases c1 : wi x.fr 0 (n - 1)
    · simp [c1] at h
    cases c2 : wi x.to 0 (n - 1)
    · simp [c1, c2] at h
    by_cases c3 : x.fr = x.to
    · simp [c1, c2, c3] at h
    cases c4 : wi x.jump (-1000) 1000
    · simp [c1, c2, c3, c4] at h
    cases c5 : wi x.wt 0 1000
    · simp [c1, c2, c3, c4, c5] at h
    simp [c1, c2, c3, c4, c5] at h
    rcases List.mem_cons.mp he with rfl | he
    · exact ⟨wi_t c1, wi_t c2, c3, wi_t c4, wi_t c5⟩
    · exact x1u6 h e he
theorem x1pf {n : Int} {l : List Edge} (h : (x1jh n l).2 = 0) : Right n l := by
  unfold x1jh at h
  cases c1 : wi n 0 200
  · simp [c1] at h
  by_cases c2 : (600 : Int) < (l.length : Int)
  · simp [c1, c2] at h
  simp [c1, c2] at h
  exact ⟨(wi_t c1).1, (wi_t c1).2, by omega, x1u6 h⟩
end Go.Ix
