import Derived.Test.YtljibmnhhdiakaaMSides
set_option linter.unusedSimpArgs false
set_option linter.unusedVariables false
namespace Go.Ix
open Go.Proofs
theorem z_2int : x4k = [I 0, I 0] := by kernel_rfl
theorem x1mf (x y : Int) : sIdx Try.prog xaw (.agg [I x, I y]) (I 0) = some (I x) ∧ sIdx Try.prog xaw (.agg [I x, I y]) (I 1) = some (I y) := ⟨by kernel_rfl, by kernel_rfl⟩
theorem inv_yld {call : x1e5} {id : Id} {h : List AV → Mem → Option Mem} {hs : FHs} {mode : Nat} {l : List AV} {m : Mem} : x1fj call ((id, h) :: hs) mode (.yld id) l m = (h l m).map fun m' => (B true, m') := by
  simp [x1fj, x1j1]
theorem x1ol (x y : Int) : x1el x4k [(0, 1, I x), (1, 1, I y)] = some (.agg [I x, I y]) := by
  simp [x1el, x1fs, z_2int]
theorem l_sides0 (call : x1e5) (id : Id) (h : List AV → Mem → Option Mem) (hs : FHs) (u : Nat) {r c : Int} (hc : 1 ≤ c) (hc2 : c ≤ 64) (hrc : r * c ≤ 4096) (full : List (Int × Int)) (Inv : Nat → Mem → Prop) (hf : full.length ≤ 10000)
    (hstep : ∀ k p m, full[k]? = some p → Inv k m → ∃ m', h [I k, .agg [I p.1, I p.2]] m = some m' ∧ Inv (k + 1) m') (rec0 : AV → AV → AV → AV → AV → AV → Mem → Nat → Option (AV × Mem)) (t9 : AV) :
    ∀ (n : Nat) (k : Int) (i j : Nat) (tail : List (Int × Int)) (m : Mem) (fc : Nat), 0 ≤ k → k + n = r * c → n < j → Inv i m → full.drop i = x1ek (x1g5 c) 1 n k ++ tail →
    ∃ m' fc', x15 call ((id, h) :: hs) u rec0 j (.yld id) (.plit [I c]) (.plit [I r]) (I i) (I 0) (I 1) t9 (I 0) (I (r * c)) (I k) m fc = rec0 (.yld id) (.plit [I c]) (.plit [I r]) (I ((i + (x1ek (x1g5 c) 1 n k).length : Nat) : Int)) t9 (I 1) m' fc' ∧ Inv (i + (x1ek (x1g5 c) 1 n k).length) m' := by
  intro n
  induction n with
  | zero =>
    intro k i j tail m fc h0 hk hj hI hd
    obtain ⟨j, rfl⟩ : ∃ i, j = i + 1 := ⟨j - 1, by omega⟩
    refine ⟨m, fc + 1 + 2, ?_, by simpa [x1ek] using hI⟩
    simp only [x15]
    unfold x5y
    simp (disch := omega) [show ¬ (k < r * c) by omega, xa, x1ek]
  | succ n ih =>
    intro k i j tail m fc h0 hk hj hI hd
    obtain ⟨j, rfl⟩ : ∃ i, j = i + 1 := ⟨j - 1, by omega⟩
    simp only [x15]
    unfold x5y x8e
    have hr1 : k.tmod c = k % c := Int.tmod_eq_emod_of_nonneg h0
    have hlt : k < r * c := by omega
    cases hs' : x1g5 c k
    · have hne : ¬ (k % c = c - 1) := of_decide_eq_false hs'
      have hL : x1ek (x1g5 c) 1 (n + 1) k = (k, k + 1) :: x1ek (x1g5 c) 1 n (k + 1) := by rw [x1ek, hs']; rfl
      rw [hL] at hd ⊢
      obtain ⟨hi, hie, hd⟩ := x1fp hd
      obtain ⟨m', h1, h2⟩ := hstep i (k, k + 1) m (by rw [List.getElem?_eq_getElem hi, hie]) hI
      obtain ⟨m2, fc2, h3, h4⟩ := ih (k + 1) (i + 1) j tail m' (fc + 39) (by omega) (by omega) (by omega) h2 hd
      refine ⟨m2, fc2, ?_, by rw [List.length_cons, show i + ((x1ek (x1g5 c) 1 n (k + 1)).length + 1) = i + 1 + (x1ek (x1g5 c) 1 n (k + 1)).length by omega]; exact h4⟩
      rw [List.length_cons, show i + ((x1ek (x1g5 c) 1 n (k + 1)).length + 1) = i + 1 + (x1ek (x1g5 c) 1 n (k + 1)).length by omega, ← h3]
      simp (disch := omega) [hlt, x1l0, hr1, hne, x1ol, inv_yld, h1, x3v]
    · have hne : k % c = c - 1 := of_decide_eq_true hs'
      have hL : x1ek (x1g5 c) 1 (n + 1) k = x1ek (x1g5 c) 1 n (k + 1) := by rw [x1ek, hs']; rfl
      rw [hL] at hd ⊢
      obtain ⟨m2, fc2, h3, h4⟩ := ih (k + 1) i j tail m (fc + 27) (by omega) (by omega) (by omega) hI hd
      refine ⟨m2, fc2, ?_, h4⟩
      rw [← h3]
      simp (disch := omega) [hlt, x1l0, hr1, hne, x3v]
theorem l_sides1 (call : x1e5) (id : Id) (h : List AV → Mem → Option Mem) (hs : FHs) (u : Nat) {r c : Int} (hc : 1 ≤ c) (hc2 : c ≤ 64) (hr2 : -100 ≤ r ∧ r ≤ 64) (hrc : r * c ≤ 4096) (full : List (Int × Int)) (Inv : Nat → Mem → Prop) (hf : full.length ≤ 10000)
    (hstep : ∀ k p m, full[k]? = some p → Inv k m → ∃ m', h [I k, .agg [I p.1, I p.2]] m = some m' ∧ Inv (k + 1) m') (rec0 : AV → AV → AV → AV → AV → AV → Mem → Nat → Option (AV × Mem)) (t9 : AV) :
    ∀ (n : Nat) (k : Int) (i j : Nat) (tail : List (Int × Int)) (m : Mem) (fc : Nat), 0 ≤ k → k + n = r * c → n < j → Inv i m → full.drop i = x1ek (x1g8 r c) c n k ++ tail →
    ∃ m' fc', x15 call ((id, h) :: hs) u rec0 j (.yld id) (.plit [I c]) (.plit [I r]) (I i) (I 1) (I c) t9 (I 1) (I (r * c)) (I k) m fc = rec0 (.yld id) (.plit [I c]) (.plit [I r]) (I ((i + (x1ek (x1g8 r c) c n k).length : Nat) : Int)) t9 (I 2) m' fc' ∧ Inv (i + (x1ek (x1g8 r c) c n k).length) m' := by
  intro n
  induction n with
  | zero =>
    intro k i j tail m fc h0 hk hj hI hd
    obtain ⟨j, rfl⟩ : ∃ i, j = i + 1 := ⟨j - 1, by omega⟩
    refine ⟨m, fc + 1 + 2, ?_, by simpa [x1ek] using hI⟩
    simp only [x15]
    unfold x5y
    simp (disch := omega) [show ¬ (k < r * c) by omega, xa, x1ek]
  | succ n ih =>
    intro k i j tail m fc h0 hk hj hI hd
    obtain ⟨j, rfl⟩ : ∃ i, j = i + 1 := ⟨j - 1, by omega⟩
    simp only [x15]
    unfold x5y x8e
    have hr1 : k.tdiv c = k / c := Int.tdiv_eq_ediv_of_nonneg h0
    have hlt : k < r * c := by omega
    have q0 : 0 ≤ k / c := Int.ediv_nonneg h0 (by omega)
    have q1 : k / c ≤ k := Int.ediv_le_self _ h0
    cases hs' : x1g8 r c k
    · have hne : ¬ (k / c = r - 1) := of_decide_eq_false hs'
      have hL : x1ek (x1g8 r c) c (n + 1) k = (k, k + c) :: x1ek (x1g8 r c) c n (k + 1) := by rw [x1ek, hs']; rfl
      rw [hL] at hd ⊢
      obtain ⟨hi, hie, hd⟩ := x1fp hd
      obtain ⟨m', h1, h2⟩ := hstep i (k, k + c) m (by rw [List.getElem?_eq_getElem hi, hie]) hI
      obtain ⟨m2, fc2, h3, h4⟩ := ih (k + 1) (i + 1) j tail m' (fc + 39) (by omega) (by omega) (by omega) h2 hd
      refine ⟨m2, fc2, ?_, by rw [List.length_cons, show i + ((x1ek (x1g8 r c) c n (k + 1)).length + 1) = i + 1 + (x1ek (x1g8 r c) c n (k + 1)).length by omega]; exact h4⟩
      rw [List.length_cons, show i + ((x1ek (x1g8 r c) c n (k + 1)).length + 1) = i + 1 + (x1ek (x1g8 r c) c n (k + 1)).length by omega, ← h3]
      simp (disch := omega) [hlt, x1lw, hr1, hne, x1ol, inv_yld, h1, x3v]
    · have hne : k / c = r - 1 := of_decide_eq_true hs'
      have hL : x1ek (x1g8 r c) c (n + 1) k = x1ek (x1g8 r c) c n (k + 1) := by rw [x1ek, hs']; rfl
      rw [hL] at hd ⊢
      obtain ⟨m2, fc2, h3, h4⟩ := ih (k + 1) i j tail m (fc + 27) (by omega) (by omega) (by omega) hI hd
      refine ⟨m2, fc2, ?_, h4⟩
      rw [← h3]
      simp (disch := omega) [hlt, x1lw, hr1, hne, x3v]
theorem w_sides1 (d : Nat) (id : Id) (h : List AV → Mem → Option Mem) (hs : FHs) {r c : Int} (hr : 1 ≤ r) (hr2 : r ≤ 64) (hc : 1 ≤ c) (hc2 : c ≤ 64) (Inv : Nat → Mem → Prop) (m : Mem) (h0 : Inv 0 ⟨m.hp, m.next + 1⟩)
    (hstep : ∀ k p m, (x1fx r c)[k]? = some p → Inv k m → ∃ m', h [I k, .agg [I p.1, I p.2]] m = some m' ∧ Inv (k + 1) m') :
    ∃ m', x1e6 (d + 1) ((id, h) :: hs) x2b [.yld id, .plit [I c], .plit [I r]] m = some (.tup [], m') ∧ Inv (x1fx r c).length m' := by
  have hrc := x1ja (wi_iff.mpr ⟨hr, hr2⟩) (wi_iff.mpr ⟨hc, hc2⟩)
  have hlen : (x1fx r c).length ≤ 10000 := by
    have := x1lb hr hc
    have e1 : r * (c - 1) = r * c - r := by rw [Int.mul_sub]; omega
    have e2 : (r - 1) * c = r * c - c := by rw [Int.sub_mul]; omega
    omega
  rw [xsq]
  unfold x7s xf6
  obtain ⟨j, hj⟩ := NN_3
  have hn : (0 : Int) + ((r * c).toNat : Int) = r * c := by omega
  obtain ⟨m1, f1, e1, i1⟩ := l_sides0 (x1e6 d) id h hs m.next hc hc2 hrc.2 (x1fx r c) Inv hlen hstep (x16 (x1e6 d) ((id, h) :: hs) m.next (j + 2)) (.agg [I 1, I c]) (r * c).toNat 0 0 NN (x1ek (x1g8 r c) c (r * c).toNat 0) ⟨m.hp, m.next + 1⟩ 13 (by omega) hn (by rw [x1f2]; omega) h0 rfl
  rw [Nat.zero_add] at e1 i1
  obtain ⟨m2, f2, e2, i2⟩ := l_sides1 (x1e6 d) id h hs m.next hc hc2 ⟨by omega, hr2⟩ hrc.2 (x1fx r c) Inv hlen hstep (x16 (x1e6 d) ((id, h) :: hs) m.next (j + 1)) (.agg [I 1, I c]) (r * c).toNat 0 (x1ek (x1g5 c) 1 (r * c).toNat 0).length NN [] m1 (f1 + 9) (by omega) hn (by rw [x1f2]; omega) i1 (by
    unfold x1fx
    rw [List.drop_left, List.append_nil])
  refine ⟨m2, ?_, ?_⟩
  rotate_left
  · unfold x1fx; rw [List.length_append]; exact i2
  · have hL : ∀ (n : Nat) (t0 t1 t2 t4 t9 t10 : AV) (M : Mem) (fc : Nat), x16 (x1e6 d) ((id, h) :: hs) m.next (n + 1) t0 t1 t2 t4 t9 t10 M fc = x60 (x1e6 d) ((id, h) :: hs) m.next (x16 (x1e6 d) ((id, h) :: hs) m.next n) t0 t1 t2 t4 t9 t10 M fc := fun _ _ _ _ _ _ _ _ _ => rfl
    have h3 : x16 (x1e6 d) ((id, h) :: hs) m.next NN = x16 (x1e6 d) ((id, h) :: hs) m.next (j + 3) := by rw [hj]
    simp only [x1h3, rd_f, x1ea, x1ol, h3, hL]
    unfold x60 x5z
    simp (disch := omega) only [x1fl, x1ea, x1fb, x1gb, decide_true, (x1mf 1 c).1, (x1mf 1 c).2, x1h3, rd_f, x1lv, x1f1, show ((0 : Int) < 2) from by omega]
    refine Eq.trans e1 ?_
    rw [hL]
    unfold x60 x5z
    simp (disch := omega) only [x1fl, x1ea, x1fb, x1gb, decide_true, (x1mf 1 c).1, (x1mf 1 c).2, x1h3, rd_f, x1lv, x1f1, show ((1 : Int) < 2) from by omega]
    refine Eq.trans e2 ?_
    rw [hL]
    unfold x60
    simp
end Go.Ix
