import Derived.Test.YtljibmnhhdiakaaFxText0
import Derived.Test.YtljibmnhhdiakaaFxEnt
import Derived.Test.YtljibmnhhdiakaaFxRules
import Derived.Test.YtljibmnhhdiakaaFxProj
import Derived.ProofKit
set_option linter.unusedVariables false
namespace Go.Ix
open Go.Proofs
variable (call : x1ic) (hs : FHs) (u : Nat)
noncomputable abbrev xbm : Fs → O2 := x1ih Try.prog [.tmp 2]
noncomputable abbrev x1nm := XK call { f := x51, u := u, nt := 108, hs := hs } xbm
noncomputable def xle := x1ij x51
noncomputable def xgb := nRs 9 xle
noncomputable def xlf := nL xgb
noncomputable def xyf := nR xgb
noncomputable def xlg := nR xlf
noncomputable def xlh := nR xlg
noncomputable def xyg := nR xlh
theorem xyh : x1nm call hs u xyf xbm eNil = (j0 (x3k call hs u)) := by kernel_rfl
theorem xyi (rec0 : AV → AV → AV → Mem → Nat → O2) : x1nm call hs u xyg (j3 rec0 3 12 13) (setE 0 (j0 (x3k call hs u)) eNil) = (j3 (x9e call hs u rec0) 3 12 13) := by kernel_rfl
theorem xyj : x1nm call hs u xlh (j0 (x3k call hs u)) (setE 0 (j0 (x3k call hs u)) eNil) = (j3 (x2e call hs u NN) 3 12 13) := lp (Ln := fun n => j3 (x2e call hs u n) 3 12 13) (by kernel_rfl) rfl fun n => (xyi call hs u (x2e call hs u n)).trans (by kernel_rfl)
theorem xyk : x1nm call hs u xlg (j0 (x3k call hs u)) eNil = (j3 (x2e call hs u NN) 3 12 13) := bk (by kernel_rfl) (xyj call hs u)
theorem xyl : x1nm call hs u xlf (j0 (x3k call hs u)) eNil = (j2 (x9f call hs u) 3 12) := (sqN 1 (by kernel_rfl) (xyk call hs u)).trans (by kernel_rfl)
theorem xym : x1nm call hs u xgb xbm eNil = (j2 (x9f call hs u) 3 12) := sq2 (by kernel_rfl) (xyh call hs u) (xyl call hs u)
theorem xyn : x1nm call hs u xle xbm eNil = (j1 (xe5 call hs u) 0) := (sqN 9 (by kernel_rfl) (xym call hs u)).trans (by kernel_rfl)
theorem xvi : FL x51 x6s := le1 (fn := Try.f3) (by kernel_rfl) (by kernel_rfl) (by kernel_rfl) (by kernel_rfl) (fun call hs t0 m => (congrFun (xyn call hs m.next) _).trans (by kernel_rfl)) (fun _ _ _ _ _ h => by unfold x6s at h; split at h <;> first | exact ⟨_, rfl⟩ | cases h)
noncomputable abbrev x6d : Fs → O2 := x1ih Try.prog [.tmp 6]
noncomputable abbrev x1m6 := XK call { f := x93, u := u, nt := 95, hs := hs } x6d
noncomputable def xli := x1ij x93
noncomputable def xgc := nRs 6 xli
noncomputable def xyo := nL xgc
noncomputable def xlj := nR xgc
noncomputable def xgd := nRs 3 xlj
noncomputable def xlk := nL xgd
noncomputable def xyp := nR xgd
noncomputable def xll := nR xlk
noncomputable def xlm := nR xll
noncomputable def xyq := nR xlm
theorem xyr : x1m6 call hs u xyp x6d eNil = (j3 (x4n call hs u) 3 7 11) := by kernel_rfl
theorem xys (rec0 : AV → AV → AV → AV → AV → AV → Mem → Nat → O2) : x1m6 call hs u xyq (j6 rec0 1 2 3 7 11 12) (setE 0 (j3 (x4n call hs u) 3 7 11) eNil) = (j6 (xir call hs u rec0) 1 2 3 7 11 12) := by kernel_rfl
theorem xyt : x1m6 call hs u xlm (j3 (x4n call hs u) 3 7 11) (setE 0 (j3 (x4n call hs u) 3 7 11) eNil) = (j6 (x5f call hs u NN) 1 2 3 7 11 12) := lp (Ln := fun n => j6 (x5f call hs u n) 1 2 3 7 11 12) (by kernel_rfl) rfl fun n => (xys call hs u (x5f call hs u n)).trans (by kernel_rfl)
theorem xyu : x1m6 call hs u xll (j3 (x4n call hs u) 3 7 11) eNil = (j6 (x5f call hs u NN) 1 2 3 7 11 12) := bk (by kernel_rfl) (xyt call hs u)
theorem xyv : x1m6 call hs u xlk (j3 (x4n call hs u) 3 7 11) eNil = (j5 (xe6 call hs u) 1 2 3 7 11) := (sqN 1 (by kernel_rfl) (xyu call hs u)).trans (by kernel_rfl)
theorem xyw : x1m6 call hs u xgd x6d eNil = (j5 (xe6 call hs u) 1 2 3 7 11) := sq2 (by kernel_rfl) (xyr call hs u) (xyv call hs u)
theorem xyx : x1m6 call hs u xlj x6d eNil = (j7 (x9g call hs u) 1 2 3 7 8 9 10) := (sqN 3 (by kernel_rfl) (xyw call hs u)).trans (by kernel_rfl)
theorem xyy : x1m6 call hs u xyo (j7 (x9g call hs u) 1 2 3 7 8 9 10) eNil = (j7 (xe7 call hs u) 1 2 3 7 8 9 10) := by kernel_rfl
theorem xyz : x1m6 call hs u xgc x6d eNil = (j7 (xe7 call hs u) 1 2 3 7 8 9 10) := sq2 (by kernel_rfl) (xyx call hs u) (xyy call hs u)
theorem xz0 : x1m6 call hs u xli x6d eNil = (j3 (xis call hs u) 0 1 2) := (sqN 6 (by kernel_rfl) (xyz call hs u)).trans (by kernel_rfl)
theorem xvj : FL x93 xco := le3 (fn := Try.f6) (by kernel_rfl) (by kernel_rfl) (by kernel_rfl) (by kernel_rfl) (fun call hs t0 t1 t2 m => (congrFun (xz0 call hs m.next) _).trans (by kernel_rfl)) (fun _ _ _ _ _ h => by unfold xco at h; split at h <;> first | exact ⟨_, _, _, rfl⟩ | cases h)
noncomputable abbrev xbn : Fs → O2 := x1ih Try.prog [.tmp 4]
noncomputable abbrev x1qp := XK call { f := x94, u := u, nt := 45, hs := hs } xbn
noncomputable def xln := x1ij x94
noncomputable def xge := nRs 6 xln
noncomputable def xz1 := nL xge
noncomputable def xz2 := nR xge
theorem xz3 : x1qp call hs u xz2 xbn eNil = (j4 (x9h call hs u) 5 6 7 8) := by kernel_rfl
theorem xz4 : x1qp call hs u xz1 (j4 (x9h call hs u) 5 6 7 8) eNil = (j6 (xe8 call hs u) 1 2 5 6 7 8) := by kernel_rfl
theorem xz5 : x1qp call hs u xge xbn eNil = (j6 (xe8 call hs u) 1 2 5 6 7 8) := sq2 (by kernel_rfl) (xz3 call hs u) (xz4 call hs u)
theorem xz6 : x1qp call hs u xln xbn eNil = (j2 (xit call hs u) 0 1) := (sqN 6 (by kernel_rfl) (xz5 call hs u)).trans (by kernel_rfl)
theorem xvk : FL x94 xcp := le2 (fn := Try.f9) (by kernel_rfl) (by kernel_rfl) (by kernel_rfl) (by kernel_rfl) (fun call hs t0 t1 m => (congrFun (xz6 call hs m.next) _).trans (by kernel_rfl)) (fun _ _ _ _ _ h => by unfold xcp at h; split at h <;> first | exact ⟨_, _, rfl⟩ | cases h)
noncomputable abbrev xlo : Fs → O2 := x1ih Try.prog [.tmp 6]
noncomputable abbrev x1xo := XK call { f := x95, u := u, nt := 100, hs := hs } xlo
noncomputable def xz7 := x1ij x95
theorem xz8 : x1xo call hs u xz7 xlo eNil = (j3 (xiu call hs u) 0 1 2) := by kernel_rfl
theorem xvl : FL x95 xcq := le3 (fn := Try.f10) (by kernel_rfl) (by kernel_rfl) (by kernel_rfl) (by kernel_rfl) (fun call hs t0 t1 t2 m => (congrFun (xz8 call hs m.next) _).trans (by kernel_rfl)) (fun _ _ _ _ _ h => by unfold xcq at h; split at h <;> first | exact ⟨_, _, _, rfl⟩ | cases h)
noncomputable abbrev xbo : Fs → O2 := x1ih Try.prog [.tmp 4]
noncomputable abbrev x1qq := XK call { f := x96, u := u, nt := 56, hs := hs } xbo
noncomputable def xlp := x1ij x96
noncomputable def xgf := nRs 6 xlp
noncomputable def xz9 := nL xgf
noncomputable def xza := nR xgf
theorem xzb : x1qq call hs u xza xbo eNil = (j4 (x9i call hs u) 5 6 7 8) := by kernel_rfl
theorem xzc : x1qq call hs u xz9 (j4 (x9i call hs u) 5 6 7 8) eNil = (j6 (xe9 call hs u) 1 2 5 6 7 8) := by kernel_rfl
theorem xzd : x1qq call hs u xgf xbo eNil = (j6 (xe9 call hs u) 1 2 5 6 7 8) := sq2 (by kernel_rfl) (xzb call hs u) (xzc call hs u)
theorem xze : x1qq call hs u xlp xbo eNil = (j2 (xiv call hs u) 0 1) := (sqN 6 (by kernel_rfl) (xzd call hs u)).trans (by kernel_rfl)
theorem xvm : FL x96 xcr := le2 (fn := Try.f11) (by kernel_rfl) (by kernel_rfl) (by kernel_rfl) (by kernel_rfl) (fun call hs t0 t1 m => (congrFun (xze call hs m.next) _).trans (by kernel_rfl)) (fun _ _ _ _ _ h => by unfold xcr at h; split at h <;> first | exact ⟨_, _, rfl⟩ | cases h)
noncomputable abbrev xlq : Fs → O2 := x1ih Try.prog [.tmp 0]
noncomputable abbrev x1xp := XK call { f := x1a, u := u, nt := 79, hs := hs } xlq
noncomputable def xzf := x1ij x1a
theorem xzg : x1xp call hs u xzf xlq eNil = (j0 (xiw call hs u)) := by kernel_rfl
theorem xvn : FL x1a xcs := le0 (fn := Try.f15) (by kernel_rfl) (by kernel_rfl) (by kernel_rfl) (by kernel_rfl) (fun call hs m => (congrFun (xzg call hs m.next) _).trans (by kernel_rfl)) (fun _ _ _ _ _ h => by unfold xcs at h; split at h <;> first | exact rfl | cases h)
noncomputable abbrev xbp : Fs → O2 := x1ih Try.prog [.tmp 2]
noncomputable abbrev x1nn := XK call { f := x1t, u := u, nt := 56, hs := hs } xbp
noncomputable def xlr := x1ij x1t
noncomputable def xgg := nRs 3 xlr
noncomputable def xls := nL xgg
noncomputable def xzh := nR xgg
noncomputable def xlt := nR xls
noncomputable def xlu := nR xlt
noncomputable def xzi := nR xlu
theorem xzj : x1nn call hs u xzh xbp eNil = (j0 (x3l call hs u)) := by kernel_rfl
theorem xzk (rec0 : AV → AV → Mem → Nat → O2) : x1nn call hs u xzi (j2 rec0 1 3) (setE 0 (j0 (x3l call hs u)) eNil) = (j2 (x9j call hs u rec0) 1 3) := by kernel_rfl
theorem xzl : x1nn call hs u xlu (j0 (x3l call hs u)) (setE 0 (j0 (x3l call hs u)) eNil) = (j2 (x2f call hs u NN) 1 3) := lp (Ln := fun n => j2 (x2f call hs u n) 1 3) (by kernel_rfl) rfl fun n => (xzk call hs u (x2f call hs u n)).trans (by kernel_rfl)
theorem xzm : x1nn call hs u xlt (j0 (x3l call hs u)) eNil = (j2 (x2f call hs u NN) 1 3) := bk (by kernel_rfl) (xzl call hs u)
theorem xzn : x1nn call hs u xls (j0 (x3l call hs u)) eNil = (j1 (x9k call hs u) 1) := (sqN 1 (by kernel_rfl) (xzm call hs u)).trans (by kernel_rfl)
theorem xzo : x1nn call hs u xgg xbp eNil = (j1 (x9k call hs u) 1) := sq2 (by kernel_rfl) (xzj call hs u) (xzn call hs u)
theorem xzp : x1nn call hs u xlr xbp eNil = (j1 (xeb call hs u) 0) := (sqN 3 (by kernel_rfl) (xzo call hs u)).trans (by kernel_rfl)
theorem xvo : FL x1t x6t := le1 (fn := Try.f16) (by kernel_rfl) (by kernel_rfl) (by kernel_rfl) (by kernel_rfl) (fun call hs t0 m => (congrFun (xzp call hs m.next) _).trans (by kernel_rfl)) (fun _ _ _ _ _ h => by unfold x6t at h; split at h <;> first | exact ⟨_, rfl⟩ | cases h)
noncomputable abbrev xlv : Fs → O2 := x1ih Try.prog [.tmp 2, .tmp 3, .tmp 4, .tmp 5]
noncomputable abbrev x1xq := XK call { f := x1u, u := u, nt := 33, hs := hs } xlv
noncomputable def xzq := x1ij x1u
theorem xzr : x1xq call hs u xzq xlv eNil = (j1 (x88 call hs u) 0) := by kernel_rfl
theorem xvp : FL x1u x6u := le1 (fn := Try.f17) (by kernel_rfl) (by kernel_rfl) (by kernel_rfl) (by kernel_rfl) (fun call hs t0 m => (congrFun (xzr call hs m.next) _).trans (by kernel_rfl)) (fun _ _ _ _ _ h => by unfold x6u at h; split at h <;> first | exact ⟨_, rfl⟩ | cases h)
noncomputable abbrev xlw : Fs → O2 := x1ih Try.prog [.cell 2 xbl]
noncomputable abbrev x1xr := XK call { f := xk, u := u, nt := 10, hs := hs } xlw
noncomputable def xzs := x1ij xk
theorem xzt : x1xr call hs u xzs xlw eNil = (j1 (x9l call hs u) 0) := by kernel_rfl
theorem xvq : FL xk x52 := le1 (fn := Try.f18) (by kernel_rfl) (by kernel_rfl) (by kernel_rfl) (by kernel_rfl) (fun call hs t0 m => (congrFun (xzt call hs m.next) _).trans (by kernel_rfl)) (fun _ _ _ _ _ h => by unfold x52 at h; split at h <;> first | exact ⟨_, rfl⟩ | cases h)
noncomputable abbrev xlx : Fs → O2 := x1ih Try.prog [.tmp 2]
noncomputable abbrev x1xs := XK call { f := x1b, u := u, nt := 11, hs := hs } xlx
noncomputable def xzu := x1ij x1b
theorem xzv : x1xs call hs u xzu xlx eNil = (j1 (xec call hs u) 0) := by kernel_rfl
theorem xvr : FL x1b x6v := le1 (fn := Try.f19) (by kernel_rfl) (by kernel_rfl) (by kernel_rfl) (by kernel_rfl) (fun call hs t0 m => (congrFun (xzv call hs m.next) _).trans (by kernel_rfl)) (fun _ _ _ _ _ h => by unfold x6v at h; split at h <;> first | exact ⟨_, rfl⟩ | cases h)
noncomputable abbrev xbq : Fs → O2 := x1ih Try.prog [.tmp 4, .tmp 5]
noncomputable abbrev x1no := XK call { f := x37, u := u, nt := 27, hs := hs } xbq
noncomputable def xly := x1ij x37
noncomputable def xgh := nRs 2 xly
noncomputable def xlz := nL xgh
noncomputable def xzw := nR xgh
noncomputable def xm0 := nR xlz
noncomputable def xm1 := nR xm0
noncomputable def xzx := nR xm1
theorem xzy : x1no call hs u xzw xbq eNil = (j2 (x3n call hs u) 1 2) := by kernel_rfl
theorem xzz (rec0 : AV → AV → AV → Mem → Nat → O2) : x1no call hs u xzx (j3 rec0 1 2 6) (setE 0 (j2 (x3n call hs u) 1 2) eNil) = (j3 (x9m call hs u rec0) 1 2 6) := by kernel_rfl
theorem x100 : x1no call hs u xm1 (j2 (x3n call hs u) 1 2) (setE 0 (j2 (x3n call hs u) 1 2) eNil) = (j3 (x2g call hs u NN) 1 2 6) := lp (Ln := fun n => j3 (x2g call hs u n) 1 2 6) (by kernel_rfl) rfl fun n => (xzz call hs u (x2g call hs u n)).trans (by kernel_rfl)
theorem x101 : x1no call hs u xm0 (j2 (x3n call hs u) 1 2) eNil = (j3 (x2g call hs u NN) 1 2 6) := bk (by kernel_rfl) (x100 call hs u)
theorem x102 : x1no call hs u xlz (j2 (x3n call hs u) 1 2) eNil = (j2 (x9n call hs u) 1 2) := (sqN 1 (by kernel_rfl) (x101 call hs u)).trans (by kernel_rfl)
theorem x103 : x1no call hs u xgh xbq eNil = (j2 (x9n call hs u) 1 2) := sq2 (by kernel_rfl) (xzy call hs u) (x102 call hs u)
theorem x104 : x1no call hs u xly xbq eNil = (j2 (xed call hs u) 0 1) := (sqN 2 (by kernel_rfl) (x103 call hs u)).trans (by kernel_rfl)
theorem xvs : FL x37 x6w := le2 (fn := Try.f20) (by kernel_rfl) (by kernel_rfl) (by kernel_rfl) (by kernel_rfl) (fun call hs t0 t1 m => (congrFun (x104 call hs m.next) _).trans (by kernel_rfl)) (fun _ _ _ _ _ h => by unfold x6w at h; split at h <;> first | exact ⟨_, _, rfl⟩ | cases h)
noncomputable abbrev x8w : Fs → O2 := x1ih Try.prog [.tmp 4, .tmp 5]
noncomputable abbrev x1le := XK call { f := x38, u := u, nt := 91, hs := hs } x8w
noncomputable def xm2 := x1ij x38
noncomputable def xgi := nRs 4 xm2
noncomputable def xm3 := nL xgi
noncomputable def xgj := nR xgi
noncomputable def xm4 := nL xgj
noncomputable def x105 := nR xgj
noncomputable def xm5 := nR xm4
noncomputable def xm6 := nR xm5
noncomputable def x106 := nR xm6
noncomputable def xm7 := nR xm3
noncomputable def xm8 := nR xm7
noncomputable def x107 := nR xm8
theorem x108 : x1le call hs u x105 x8w eNil = (j1 (x3o call hs u) 7) := by kernel_rfl
theorem x109 (rec0 : AV → AV → AV → AV → Mem → Nat → O2) : x1le call hs u x106 (j4 rec0 2 6 7 10) (setE 2 (j1 (x3o call hs u) 7) eNil) = (j4 (x9o call hs u rec0) 2 6 7 10) := by kernel_rfl
theorem x10a : x1le call hs u xm6 (j1 (x3o call hs u) 7) (setE 2 (j1 (x3o call hs u) 7) eNil) = (j4 (x2h call hs u NN) 2 6 7 10) := lp (Ln := fun n => j4 (x2h call hs u n) 2 6 7 10) (by kernel_rfl) rfl fun n => (x109 call hs u (x2h call hs u n)).trans (by kernel_rfl)
theorem x10b : x1le call hs u xm5 (j1 (x3o call hs u) 7) eNil = (j4 (x2h call hs u NN) 2 6 7 10) := bk (by kernel_rfl) (x10a call hs u)
theorem x10c : x1le call hs u xm4 (j1 (x3o call hs u) 7) eNil = (j3 (x2i call hs u) 2 6 7) := (sqN 1 (by kernel_rfl) (x10b call hs u)).trans (by kernel_rfl)
theorem x10d : x1le call hs u xgj x8w eNil = (j3 (x2i call hs u) 2 6 7) := sq2 (by kernel_rfl) (x108 call hs u) (x10c call hs u)
theorem x10e (rec1 : AV → AV → AV → AV → AV → Mem → Nat → O2) : x1le call hs u x107 (j5 rec1 1 2 6 7 8) (setE 0 (j3 (x2i call hs u) 2 6 7) eNil) = (j5 (x9p call hs u rec1) 1 2 6 7 8) := by kernel_rfl
theorem x10f : x1le call hs u xm8 (j3 (x2i call hs u) 2 6 7) (setE 0 (j3 (x2i call hs u) 2 6 7) eNil) = (j5 (x2j call hs u NN) 1 2 6 7 8) := lp (Ln := fun n => j5 (x2j call hs u n) 1 2 6 7 8) (by kernel_rfl) rfl fun n => (x10e call hs u (x2j call hs u n)).trans (by kernel_rfl)
theorem x10g : x1le call hs u xm7 (j3 (x2i call hs u) 2 6 7) eNil = (j5 (x2j call hs u NN) 1 2 6 7 8) := bk (by kernel_rfl) (x10f call hs u)
theorem x10h : x1le call hs u xm3 (j3 (x2i call hs u) 2 6 7) eNil = (j4 (x9q call hs u) 1 2 6 7) := (sqN 1 (by kernel_rfl) (x10g call hs u)).trans (by kernel_rfl)
theorem x10i : x1le call hs u xgi x8w eNil = (j4 (x9q call hs u) 1 2 6 7) := sq2 (by kernel_rfl) (x10d call hs u) (x10h call hs u)
theorem x10j : x1le call hs u xm2 x8w eNil = (j2 (xee call hs u) 0 1) := (sqN 4 (by kernel_rfl) (x10i call hs u)).trans (by kernel_rfl)
theorem xvt : FL x38 x6x := le2 (fn := Try.f21) (by kernel_rfl) (by kernel_rfl) (by kernel_rfl) (by kernel_rfl) (fun call hs t0 t1 m => (congrFun (x10j call hs m.next) _).trans (by kernel_rfl)) (fun _ _ _ _ _ h => by unfold x6x at h; split at h <;> first | exact ⟨_, _, rfl⟩ | cases h)
noncomputable abbrev xm9 : Fs → O2 := x1ih Try.prog [.tmp 2]
noncomputable abbrev x1xt := XK call { f := x4a, u := u, nt := 7, hs := hs } xm9
noncomputable def x10k := x1ij x4a
theorem x10l : x1xt call hs u x10k xm9 eNil = (j1 (xef call hs u) 0) := by kernel_rfl
theorem xvu : FL x4a x6y := le1 (fn := Try.f22) (by kernel_rfl) (by kernel_rfl) (by kernel_rfl) (by kernel_rfl) (fun call hs t0 m => (congrFun (x10l call hs m.next) _).trans (by kernel_rfl)) (fun _ _ _ _ _ h => by unfold x6y at h; split at h <;> first | exact ⟨_, rfl⟩ | cases h)
noncomputable abbrev x8x : Fs → O2 := x1ih Try.prog [.tmp 2]
noncomputable abbrev x1jp := XK call { f := x4b, u := u, nt := 82, hs := hs } x8x
noncomputable def xma := x1ij x4b
noncomputable def xgk := nRs 2 xma
noncomputable def xmb := nL xgk
noncomputable def xgl := nR xgk
noncomputable def xmc := nL xgl
noncomputable def x10m := nR xgl
noncomputable def xmd := nR xmc
noncomputable def xme := nR xmd
noncomputable def xmf := nR xme
noncomputable def xgm := nR xmf
noncomputable def xmg := nL xgm
noncomputable def x10n := nR xgm
noncomputable def xmh := nR xmg
noncomputable def xgn := nR xmh
noncomputable def xmi := nL xgn
noncomputable def x10o := nR xgn
noncomputable def xmj := nR xmi
noncomputable def xmk := nR xmj
noncomputable def xml := nR xmk
noncomputable def xgo := nR xml
noncomputable def x10p := nL xgo
noncomputable def x10q := nR xgo
noncomputable def xmm := nR xmb
noncomputable def xmn := nR xmm
noncomputable def x10r := nR xmn
theorem x10s : x1jp call hs u x10m x8x eNil = (j1 (x7 call hs u) 3) := by kernel_rfl
theorem x10t (rec0 : AV → AV → AV → Mem → Nat → O2) : x1jp call hs u x10n (j3 rec0 1 3 5) (setE 2 (j1 (x7 call hs u) 3) eNil) = (j3 (xf call hs u rec0) 1 3 5) := by kernel_rfl
theorem x10u (rec0 : AV → AV → AV → Mem → Nat → O2) : x1jp call hs u x10o (j3 (xf call hs u rec0) 1 3 5) (setE 3 (j3 (xf call hs u rec0) 1 3 5) (setE 2 (j1 (x7 call hs u) 3) eNil)) = (j4 (xv call hs u rec0) 1 3 5 6) := by kernel_rfl
theorem x10v (rec0 : AV → AV → AV → Mem → Nat → O2) (rec1 : AV → AV → AV → AV → AV → Mem → Nat → O2) : x1jp call hs u x10q (j5 rec1 1 3 5 6 7) (setE 4 (j4 (xv call hs u rec0) 1 3 5 6) (setE 3 (j3 (xf call hs u rec0) 1 3 5) (setE 2 (j1 (x7 call hs u) 3) eNil))) = (j5 (x4p call hs u rec0 rec1) 1 3 5 6 7) := by kernel_rfl
theorem x10w (rec0 : AV → AV → AV → Mem → Nat → O2) (rec1 : AV → AV → AV → AV → AV → Mem → Nat → O2) : x1jp call hs u x10p (j5 (x4p call hs u rec0 rec1) 1 3 5 6 7) (setE 4 (j4 (xv call hs u rec0) 1 3 5 6) (setE 3 (j3 (xf call hs u rec0) 1 3 5) (setE 2 (j1 (x7 call hs u) 3) eNil))) = (j5 (x5g call hs u rec0 rec1) 1 3 5 6 7) := by kernel_rfl
theorem x10x (rec0 : AV → AV → AV → Mem → Nat → O2) (rec1 : AV → AV → AV → AV → AV → Mem → Nat → O2) : x1jp call hs u xgo (j5 rec1 1 3 5 6 7) (setE 4 (j4 (xv call hs u rec0) 1 3 5 6) (setE 3 (j3 (xf call hs u rec0) 1 3 5) (setE 2 (j1 (x7 call hs u) 3) eNil))) = (j5 (x5g call hs u rec0 rec1) 1 3 5 6 7) := sq2 (by kernel_rfl) (x10v call hs u rec0 rec1) (x10w call hs u rec0 rec1)
theorem x10y (rec0 : AV → AV → AV → Mem → Nat → O2) (rec1 : AV → AV → AV → AV → AV → Mem → Nat → O2) : x1jp call hs u xml (j5 rec1 1 3 5 6 7) (setE 4 (j4 (xv call hs u rec0) 1 3 5 6) (setE 3 (j3 (xf call hs u rec0) 1 3 5) (setE 2 (j1 (x7 call hs u) 3) eNil))) = (j5 (x5h call hs u rec0 rec1) 1 3 5 6 7) := (sqN 1 (by kernel_rfl) (x10x call hs u rec0 rec1)).trans (by kernel_rfl)
theorem x10z (rec0 : AV → AV → AV → Mem → Nat → O2) : x1jp call hs u xmk (j4 (xv call hs u rec0) 1 3 5 6) (setE 4 (j4 (xv call hs u rec0) 1 3 5 6) (setE 3 (j3 (xf call hs u rec0) 1 3 5) (setE 2 (j1 (x7 call hs u) 3) eNil))) = (j5 (x1g call hs u rec0 NN) 1 3 5 6 7) := lp (Ln := fun n => j5 (x1g call hs u rec0 n) 1 3 5 6 7) (by kernel_rfl) rfl fun n => (x10y call hs u rec0 (x1g call hs u rec0 n)).trans (by kernel_rfl)
theorem x110 (rec0 : AV → AV → AV → Mem → Nat → O2) : x1jp call hs u xmj (j4 (xv call hs u rec0) 1 3 5 6) (setE 3 (j3 (xf call hs u rec0) 1 3 5) (setE 2 (j1 (x7 call hs u) 3) eNil)) = (j5 (x1g call hs u rec0 NN) 1 3 5 6 7) := bk (by kernel_rfl) (x10z call hs u rec0)
theorem x111 (rec0 : AV → AV → AV → Mem → Nat → O2) : x1jp call hs u xmi (j4 (xv call hs u rec0) 1 3 5 6) (setE 3 (j3 (xf call hs u rec0) 1 3 5) (setE 2 (j1 (x7 call hs u) 3) eNil)) = (j4 (x9r call hs u rec0) 1 3 5 6) := (sqN 1 (by kernel_rfl) (x110 call hs u rec0)).trans (by kernel_rfl)
theorem x112 (rec0 : AV → AV → AV → Mem → Nat → O2) : x1jp call hs u xgn (j3 (xf call hs u rec0) 1 3 5) (setE 3 (j3 (xf call hs u rec0) 1 3 5) (setE 2 (j1 (x7 call hs u) 3) eNil)) = (j4 (x9r call hs u rec0) 1 3 5 6) := sq2 (by kernel_rfl) (x10u call hs u rec0) (x111 call hs u rec0)
theorem x113 (rec0 : AV → AV → AV → Mem → Nat → O2) : x1jp call hs u xmh (j3 (xf call hs u rec0) 1 3 5) (setE 3 (j3 (xf call hs u rec0) 1 3 5) (setE 2 (j1 (x7 call hs u) 3) eNil)) = (j3 (x89 call hs u rec0) 1 3 5) := (sqN 1 (by kernel_rfl) (x112 call hs u rec0)).trans (by kernel_rfl)
theorem x114 (rec0 : AV → AV → AV → Mem → Nat → O2) : x1jp call hs u xmg (j3 (xf call hs u rec0) 1 3 5) (setE 2 (j1 (x7 call hs u) 3) eNil) = (j3 (x89 call hs u rec0) 1 3 5) := bk (by kernel_rfl) (x113 call hs u rec0)
theorem x115 (rec0 : AV → AV → AV → Mem → Nat → O2) : x1jp call hs u xgm (j3 rec0 1 3 5) (setE 2 (j1 (x7 call hs u) 3) eNil) = (j3 (x89 call hs u rec0) 1 3 5) := sq2 (by kernel_rfl) (x10t call hs u rec0) (x114 call hs u rec0)
theorem x116 (rec0 : AV → AV → AV → Mem → Nat → O2) : x1jp call hs u xmf (j3 rec0 1 3 5) (setE 2 (j1 (x7 call hs u) 3) eNil) = (j3 (x9s call hs u rec0) 1 3 5) := (sqN 1 (by kernel_rfl) (x115 call hs u rec0)).trans (by kernel_rfl)
theorem x117 : x1jp call hs u xme (j1 (x7 call hs u) 3) (setE 2 (j1 (x7 call hs u) 3) eNil) = (j3 (x10 call hs u NN) 1 3 5) := lp (Ln := fun n => j3 (x10 call hs u n) 1 3 5) (by kernel_rfl) rfl fun n => (x116 call hs u (x10 call hs u n)).trans (by kernel_rfl)
theorem x118 : x1jp call hs u xmd (j1 (x7 call hs u) 3) eNil = (j3 (x10 call hs u NN) 1 3 5) := bk (by kernel_rfl) (x117 call hs u)
theorem x119 : x1jp call hs u xmc (j1 (x7 call hs u) 3) eNil = (j2 (x1y call hs u) 1 3) := (sqN 1 (by kernel_rfl) (x118 call hs u)).trans (by kernel_rfl)
theorem x11a : x1jp call hs u xgl x8x eNil = (j2 (x1y call hs u) 1 3) := sq2 (by kernel_rfl) (x10s call hs u) (x119 call hs u)
theorem x11b (rec2 : AV → AV → AV → Mem → Nat → O2) : x1jp call hs u x10r (j3 rec2 1 3 4) (setE 0 (j2 (x1y call hs u) 1 3) eNil) = (j3 (x9t call hs u rec2) 1 3 4) := by kernel_rfl
theorem x11c : x1jp call hs u xmn (j2 (x1y call hs u) 1 3) (setE 0 (j2 (x1y call hs u) 1 3) eNil) = (j3 (x2k call hs u NN) 1 3 4) := lp (Ln := fun n => j3 (x2k call hs u n) 1 3 4) (by kernel_rfl) rfl fun n => (x11b call hs u (x2k call hs u n)).trans (by kernel_rfl)
theorem x11d : x1jp call hs u xmm (j2 (x1y call hs u) 1 3) eNil = (j3 (x2k call hs u NN) 1 3 4) := bk (by kernel_rfl) (x11c call hs u)
theorem x11e : x1jp call hs u xmb (j2 (x1y call hs u) 1 3) eNil = (j2 (x9u call hs u) 1 3) := (sqN 1 (by kernel_rfl) (x11d call hs u)).trans (by kernel_rfl)
theorem x11f : x1jp call hs u xgk x8x eNil = (j2 (x9u call hs u) 1 3) := sq2 (by kernel_rfl) (x11a call hs u) (x11e call hs u)
theorem x11g : x1jp call hs u xma x8x eNil = (j1 (xeg call hs u) 0) := (sqN 2 (by kernel_rfl) (x11f call hs u)).trans (by kernel_rfl)
theorem xvv : FL x4b x6z := le1 (fn := Try.f23) (by kernel_rfl) (by kernel_rfl) (by kernel_rfl) (by kernel_rfl) (fun call hs t0 m => (congrFun (x11g call hs m.next) _).trans (by kernel_rfl)) (fun _ _ _ _ _ h => by unfold x6z at h; split at h <;> first | exact ⟨_, rfl⟩ | cases h)
noncomputable abbrev xbr : Fs → O2 := x1ih Try.prog [.tmp 4]
noncomputable abbrev x1np := XK call { f := x4c, u := u, nt := 18, hs := hs } xbr
noncomputable def xmo := x1ij x4c
noncomputable def xgp := nR xmo
noncomputable def xmp := nL xgp
noncomputable def x11h := nR xgp
noncomputable def xmq := nR xmp
noncomputable def xmr := nR xmq
noncomputable def x11i := nR xmr
theorem x11j : x1np call hs u x11h xbr eNil = (j0 (x3p call hs u)) := by kernel_rfl
theorem x11k (rec0 : AV → AV → AV → Mem → Nat → O2) : x1np call hs u x11i (j3 rec0 0 1 5) (setE 0 (j0 (x3p call hs u)) eNil) = (j3 (x9v call hs u rec0) 0 1 5) := by kernel_rfl
theorem x11l : x1np call hs u xmr (j0 (x3p call hs u)) (setE 0 (j0 (x3p call hs u)) eNil) = (j3 (x2l call hs u NN) 0 1 5) := lp (Ln := fun n => j3 (x2l call hs u n) 0 1 5) (by kernel_rfl) rfl fun n => (x11k call hs u (x2l call hs u n)).trans (by kernel_rfl)
theorem x11m : x1np call hs u xmq (j0 (x3p call hs u)) eNil = (j3 (x2l call hs u NN) 0 1 5) := bk (by kernel_rfl) (x11l call hs u)
theorem x11n : x1np call hs u xmp (j0 (x3p call hs u)) eNil = (j2 (xeh call hs u) 0 1) := (sqN 1 (by kernel_rfl) (x11m call hs u)).trans (by kernel_rfl)
theorem x11o : x1np call hs u xgp xbr eNil = (j2 (xeh call hs u) 0 1) := sq2 (by kernel_rfl) (x11j call hs u) (x11n call hs u)
theorem x11p : x1np call hs u xmo xbr eNil = (j2 (xix call hs u) 0 1) := (sqN 1 (by kernel_rfl) (x11o call hs u)).trans (by kernel_rfl)
theorem xvw : FL x4c x97 := le2 (fn := Try.f24) (by kernel_rfl) (by kernel_rfl) (by kernel_rfl) (by kernel_rfl) (fun call hs t0 t1 m => (congrFun (x11p call hs m.next) _).trans (by kernel_rfl)) (fun _ _ _ _ _ h => by unfold x97 at h; split at h <;> first | exact ⟨_, _, rfl⟩ | cases h)
noncomputable abbrev x8y : Fs → O2 := x1ih Try.prog [.tmp 2]
noncomputable abbrev x1lf := XK call { f := x98, u := u, nt := 56, hs := hs } x8y
noncomputable def xms := x1ij x98
noncomputable def xgq := nRs 4 xms
noncomputable def xmt := nL xgq
noncomputable def xgr := nR xgq
noncomputable def xmu := nL xgr
noncomputable def x11q := nR xgr
noncomputable def xmv := nR xmu
noncomputable def xmw := nR xmv
noncomputable def x11r := nR xmw
noncomputable def xmx := nR xmt
noncomputable def xmy := nR xmx
noncomputable def x11s := nR xmy
theorem x11t : x1lf call hs u x11q x8y eNil = (j0 (x4q call hs u)) := by kernel_rfl
theorem x11u (rec0 : AV → AV → Mem → Nat → O2) : x1lf call hs u x11r (j2 rec0 1 4) (setE 2 (j0 (x4q call hs u)) eNil) = (j2 (xiy call hs u rec0) 1 4) := by kernel_rfl
theorem x11v : x1lf call hs u xmw (j0 (x4q call hs u)) (setE 2 (j0 (x4q call hs u)) eNil) = (j2 (x5i call hs u NN) 1 4) := lp (Ln := fun n => j2 (x5i call hs u n) 1 4) (by kernel_rfl) rfl fun n => (x11u call hs u (x5i call hs u n)).trans (by kernel_rfl)
theorem x11w : x1lf call hs u xmv (j0 (x4q call hs u)) eNil = (j2 (x5i call hs u NN) 1 4) := bk (by kernel_rfl) (x11v call hs u)
theorem x11x : x1lf call hs u xmu (j0 (x4q call hs u)) eNil = (j1 (x3q call hs u) 1) := (sqN 1 (by kernel_rfl) (x11w call hs u)).trans (by kernel_rfl)
theorem x11y : x1lf call hs u xgr x8y eNil = (j1 (x3q call hs u) 1) := sq2 (by kernel_rfl) (x11t call hs u) (x11x call hs u)
theorem x11z (rec1 : AV → AV → Mem → Nat → O2) : x1lf call hs u x11s (j2 rec1 1 3) (setE 0 (j1 (x3q call hs u) 1) eNil) = (j2 (xiz call hs u rec1) 1 3) := by kernel_rfl
theorem x120 : x1lf call hs u xmy (j1 (x3q call hs u) 1) (setE 0 (j1 (x3q call hs u) 1) eNil) = (j2 (x5j call hs u NN) 1 3) := lp (Ln := fun n => j2 (x5j call hs u n) 1 3) (by kernel_rfl) rfl fun n => (x11z call hs u (x5j call hs u n)).trans (by kernel_rfl)
theorem x121 : x1lf call hs u xmx (j1 (x3q call hs u) 1) eNil = (j2 (x5j call hs u NN) 1 3) := bk (by kernel_rfl) (x120 call hs u)
theorem x122 : x1lf call hs u xmt (j1 (x3q call hs u) 1) eNil = (j1 (xei call hs u) 1) := (sqN 1 (by kernel_rfl) (x121 call hs u)).trans (by kernel_rfl)
theorem x123 : x1lf call hs u xgq x8y eNil = (j1 (xei call hs u) 1) := sq2 (by kernel_rfl) (x11y call hs u) (x122 call hs u)
theorem x124 : x1lf call hs u xms x8y eNil = (j1 (xj0 call hs u) 0) := (sqN 4 (by kernel_rfl) (x123 call hs u)).trans (by kernel_rfl)
theorem xvx : FL x98 xct := le1 (fn := Try.f25) (by kernel_rfl) (by kernel_rfl) (by kernel_rfl) (by kernel_rfl) (fun call hs t0 m => (congrFun (x124 call hs m.next) _).trans (by kernel_rfl)) (fun _ _ _ _ _ h => by unfold xct at h; split at h <;> first | exact ⟨_, rfl⟩ | cases h)
noncomputable abbrev xmz : Fs → O2 := x1ih Try.prog [.cell 2 xg8]
noncomputable abbrev x1xu := XK call { f := x99, u := u, nt := 13, hs := hs } xmz
noncomputable def x125 := x1ij x99
theorem x126 : x1xu call hs u x125 xmz eNil = (j1 (xj1 call hs u) 0) := by kernel_rfl
theorem xvy : FL x99 xcu := le1 (fn := Try.f27) (by kernel_rfl) (by kernel_rfl) (by kernel_rfl) (by kernel_rfl) (fun call hs t0 m => (congrFun (x126 call hs m.next) _).trans (by kernel_rfl)) (fun _ _ _ _ _ h => by unfold xcu at h; split at h <;> first | exact ⟨_, rfl⟩ | cases h)
noncomputable abbrev x8z : Fs → O2 := x1ih Try.prog [.tmp 2]
noncomputable abbrev x1lg := XK call { f := x70, u := u, nt := 83, hs := hs } x8z
noncomputable def xn0 := x1ij x70
noncomputable def xgs := nRs 6 xn0
noncomputable def xn1 := nL xgs
noncomputable def xgt := nR xgs
noncomputable def xn2 := nL xgt
noncomputable def x127 := nR xgt
noncomputable def xn3 := nR xn2
noncomputable def xn4 := nR xn3
noncomputable def x128 := nR xn4
noncomputable def xn5 := nR xn1
noncomputable def xn6 := nR xn5
noncomputable def x129 := nR xn6
theorem x12a : x1lg call hs u x127 x8z eNil = (j0 (x4r call hs u)) := by kernel_rfl
theorem x12b (rec0 : AV → AV → Mem → Nat → O2) : x1lg call hs u x128 (j2 rec0 1 7) (setE 2 (j0 (x4r call hs u)) eNil) = (j2 (xj2 call hs u rec0) 1 7) := by kernel_rfl
theorem x12c : x1lg call hs u xn4 (j0 (x4r call hs u)) (setE 2 (j0 (x4r call hs u)) eNil) = (j2 (x5k call hs u NN) 1 7) := lp (Ln := fun n => j2 (x5k call hs u n) 1 7) (by kernel_rfl) rfl fun n => (x12b call hs u (x5k call hs u n)).trans (by kernel_rfl)
theorem x12d : x1lg call hs u xn3 (j0 (x4r call hs u)) eNil = (j2 (x5k call hs u NN) 1 7) := bk (by kernel_rfl) (x12c call hs u)
theorem x12e : x1lg call hs u xn2 (j0 (x4r call hs u)) eNil = (j1 (x3r call hs u) 1) := (sqN 1 (by kernel_rfl) (x12d call hs u)).trans (by kernel_rfl)
theorem x12f : x1lg call hs u xgt x8z eNil = (j1 (x3r call hs u) 1) := sq2 (by kernel_rfl) (x12a call hs u) (x12e call hs u)
theorem x12g (rec1 : AV → AV → Mem → Nat → O2) : x1lg call hs u x129 (j2 rec1 1 6) (setE 0 (j1 (x3r call hs u) 1) eNil) = (j2 (xj3 call hs u rec1) 1 6) := by kernel_rfl
theorem x12h : x1lg call hs u xn6 (j1 (x3r call hs u) 1) (setE 0 (j1 (x3r call hs u) 1) eNil) = (j2 (x5l call hs u NN) 1 6) := lp (Ln := fun n => j2 (x5l call hs u n) 1 6) (by kernel_rfl) rfl fun n => (x12g call hs u (x5l call hs u n)).trans (by kernel_rfl)
theorem x12i : x1lg call hs u xn5 (j1 (x3r call hs u) 1) eNil = (j2 (x5l call hs u NN) 1 6) := bk (by kernel_rfl) (x12h call hs u)
theorem x12j : x1lg call hs u xn1 (j1 (x3r call hs u) 1) eNil = (j1 (xej call hs u) 1) := (sqN 1 (by kernel_rfl) (x12i call hs u)).trans (by kernel_rfl)
theorem x12k : x1lg call hs u xgs x8z eNil = (j1 (xej call hs u) 1) := sq2 (by kernel_rfl) (x12f call hs u) (x12j call hs u)
theorem x12l : x1lg call hs u xn0 x8z eNil = (j1 (xj4 call hs u) 0) := (sqN 6 (by kernel_rfl) (x12k call hs u)).trans (by kernel_rfl)
theorem xvz : FL x70 xcv := le1 (fn := Try.f28) (by kernel_rfl) (by kernel_rfl) (by kernel_rfl) (by kernel_rfl) (fun call hs t0 m => (congrFun (x12l call hs m.next) _).trans (by kernel_rfl)) (fun _ _ _ _ _ h => by unfold xcv at h; split at h <;> first | exact ⟨_, rfl⟩ | cases h)
noncomputable abbrev xbs : Fs → O2 := x1ih Try.prog [.tmp 2]
noncomputable abbrev x1nq := XK call { f := x53, u := u, nt := 67, hs := hs } xbs
noncomputable def xn7 := x1ij x53
noncomputable def xgu := nRs 6 xn7
noncomputable def xn8 := nL xgu
noncomputable def x12m := nR xgu
noncomputable def xn9 := nR xn8
noncomputable def xna := nR xn9
noncomputable def x12n := nR xna
theorem x12o : x1nq call hs u x12m xbs eNil = (j0 (x4s call hs u)) := by kernel_rfl
theorem x12p (rec0 : AV → AV → AV → Mem → Nat → O2) : x1nq call hs u x12n (j3 rec0 57 58 59) (setE 0 (j0 (x4s call hs u)) eNil) = (j3 (xj5 call hs u rec0) 57 58 59) := by kernel_rfl
theorem x12q : x1nq call hs u xna (j0 (x4s call hs u)) (setE 0 (j0 (x4s call hs u)) eNil) = (j3 (x5m call hs u NN) 57 58 59) := lp (Ln := fun n => j3 (x5m call hs u n) 57 58 59) (by kernel_rfl) rfl fun n => (x12p call hs u (x5m call hs u n)).trans (by kernel_rfl)
theorem x12r : x1nq call hs u xn9 (j0 (x4s call hs u)) eNil = (j3 (x5m call hs u NN) 57 58 59) := bk (by kernel_rfl) (x12q call hs u)
theorem x12s : x1nq call hs u xn8 (j0 (x4s call hs u)) eNil = (j1 (xek call hs u) 1) := (sqN 1 (by kernel_rfl) (x12r call hs u)).trans (by kernel_rfl)
theorem x12t : x1nq call hs u xgu xbs eNil = (j1 (xek call hs u) 1) := sq2 (by kernel_rfl) (x12o call hs u) (x12s call hs u)
theorem x12u : x1nq call hs u xn7 xbs eNil = (j1 (xj6 call hs u) 0) := (sqN 6 (by kernel_rfl) (x12t call hs u)).trans (by kernel_rfl)
theorem xw0 : FL x53 xcw := le1 (fn := Try.f29) (by kernel_rfl) (by kernel_rfl) (by kernel_rfl) (by kernel_rfl) (fun call hs t0 m => (congrFun (x12u call hs m.next) _).trans (by kernel_rfl)) (fun _ _ _ _ _ h => by unfold xcw at h; split at h <;> first | exact ⟨_, rfl⟩ | cases h)
noncomputable abbrev xbt : Fs → O2 := x1ih Try.prog [.tmp 4]
noncomputable abbrev x1nr := XK call { f := x9a, u := u, nt := 38, hs := hs } xbt
noncomputable def xnb := x1ij x9a
noncomputable def xgv := nRs 2 xnb
noncomputable def xnc := nL xgv
noncomputable def x12v := nR xgv
noncomputable def xnd := nR xnc
noncomputable def xne := nR xnd
noncomputable def x12w := nR xne
theorem x12x : x1nr call hs u x12v xbt eNil = (j0 (x4t call hs u)) := by kernel_rfl
theorem x12y (rec0 : AV → AV → AV → Mem → Nat → O2) : x1nr call hs u x12w (j3 rec0 2 3 5) (setE 0 (j0 (x4t call hs u)) eNil) = (j3 (xj7 call hs u rec0) 2 3 5) := by kernel_rfl
theorem x12z : x1nr call hs u xne (j0 (x4t call hs u)) (setE 0 (j0 (x4t call hs u)) eNil) = (j3 (x5n call hs u NN) 2 3 5) := lp (Ln := fun n => j3 (x5n call hs u n) 2 3 5) (by kernel_rfl) rfl fun n => (x12y call hs u (x5n call hs u n)).trans (by kernel_rfl)
theorem x130 : x1nr call hs u xnd (j0 (x4t call hs u)) eNil = (j3 (x5n call hs u NN) 2 3 5) := bk (by kernel_rfl) (x12z call hs u)
theorem x131 : x1nr call hs u xnc (j0 (x4t call hs u)) eNil = (j2 (xel call hs u) 2 3) := (sqN 1 (by kernel_rfl) (x130 call hs u)).trans (by kernel_rfl)
theorem x132 : x1nr call hs u xgv xbt eNil = (j2 (xel call hs u) 2 3) := sq2 (by kernel_rfl) (x12x call hs u) (x131 call hs u)
theorem x133 : x1nr call hs u xnb xbt eNil = (j2 (xj8 call hs u) 0 1) := (sqN 2 (by kernel_rfl) (x132 call hs u)).trans (by kernel_rfl)
theorem xw1 : FL x9a xcx := le2 (fn := Try.f30) (by kernel_rfl) (by kernel_rfl) (by kernel_rfl) (by kernel_rfl) (fun call hs t0 t1 m => (congrFun (x133 call hs m.next) _).trans (by kernel_rfl)) (fun _ _ _ _ _ h => by unfold xcx at h; split at h <;> first | exact ⟨_, _, rfl⟩ | cases h)
noncomputable abbrev xnf : Fs → O2 := x1ih Try.prog [.cell 6 xea, .tmp 7]
noncomputable abbrev x1xv := XK call { f := x71, u := u, nt := 66, hs := hs } xnf
noncomputable def x134 := x1ij x71
theorem x135 : x1xv call hs u x134 xnf eNil = (j3 (xj9 call hs u) 0 1 2) := by kernel_rfl
theorem xw2 : FL x71 xcy := le3 (fn := Try.f32) (by kernel_rfl) (by kernel_rfl) (by kernel_rfl) (by kernel_rfl) (fun call hs t0 t1 t2 m => (congrFun (x135 call hs m.next) _).trans (by kernel_rfl)) (fun _ _ _ _ _ h => by unfold xcy at h; split at h <;> first | exact ⟨_, _, _, rfl⟩ | cases h)
noncomputable abbrev xbu : Fs → O2 := x1ih Try.prog [.tmp 4]
noncomputable abbrev x1ns := XK call { f := x4d, u := u, nt := 26, hs := hs } xbu
noncomputable def xng := x1ij x4d
noncomputable def xgw := nRs 2 xng
noncomputable def xnh := nL xgw
noncomputable def x136 := nR xgw
noncomputable def xni := nR xnh
noncomputable def xnj := nR xni
noncomputable def x137 := nR xnj
theorem x138 : x1ns call hs u x136 xbu eNil = (j0 (x4u call hs u)) := by kernel_rfl
theorem x139 (rec0 : AV → AV → AV → Mem → Nat → O2) : x1ns call hs u x137 (j3 rec0 0 1 5) (setE 0 (j0 (x4u call hs u)) eNil) = (j3 (xja call hs u rec0) 0 1 5) := by kernel_rfl
theorem x13a : x1ns call hs u xnj (j0 (x4u call hs u)) (setE 0 (j0 (x4u call hs u)) eNil) = (j3 (x5o call hs u NN) 0 1 5) := lp (Ln := fun n => j3 (x5o call hs u n) 0 1 5) (by kernel_rfl) rfl fun n => (x139 call hs u (x5o call hs u n)).trans (by kernel_rfl)
theorem x13b : x1ns call hs u xni (j0 (x4u call hs u)) eNil = (j3 (x5o call hs u NN) 0 1 5) := bk (by kernel_rfl) (x13a call hs u)
theorem x13c : x1ns call hs u xnh (j0 (x4u call hs u)) eNil = (j2 (xem call hs u) 0 1) := (sqN 1 (by kernel_rfl) (x13b call hs u)).trans (by kernel_rfl)
theorem x13d : x1ns call hs u xgw xbu eNil = (j2 (xem call hs u) 0 1) := sq2 (by kernel_rfl) (x138 call hs u) (x13c call hs u)
theorem x13e : x1ns call hs u xng xbu eNil = (j2 (xjb call hs u) 0 1) := (sqN 2 (by kernel_rfl) (x13d call hs u)).trans (by kernel_rfl)
theorem xw3 : FL x4d xcz := le2 (fn := Try.f34) (by kernel_rfl) (by kernel_rfl) (by kernel_rfl) (by kernel_rfl) (fun call hs t0 t1 m => (congrFun (x13e call hs m.next) _).trans (by kernel_rfl)) (fun _ _ _ _ _ h => by unfold xcz at h; split at h <;> first | exact ⟨_, _, rfl⟩ | cases h)
noncomputable abbrev xnk : Fs → O2 := x1ih Try.prog [.tmp 6]
noncomputable abbrev x1xw := XK call { f := xa, u := u, nt := 15, hs := hs } xnk
noncomputable def x13f := x1ij xa
theorem x13g : x1xw call hs u x13f xnk eNil = (j3 (xen call hs u) 0 1 2) := by kernel_rfl
theorem xw4 : FL xa x72 := le3 (fn := Try.f36) (by kernel_rfl) (by kernel_rfl) (by kernel_rfl) (by kernel_rfl) (fun call hs t0 t1 t2 m => (congrFun (x13g call hs m.next) _).trans (by kernel_rfl)) (fun _ _ _ _ _ h => by unfold x72 at h; split at h <;> first | exact ⟨_, _, _, rfl⟩ | cases h)
noncomputable abbrev x6e : Fs → O2 := x1ih Try.prog [.tmp 2]
noncomputable abbrev x1qr := XK call { f := x39, u := u, nt := 20, hs := hs } x6e
noncomputable def xnl := x1ij x39
noncomputable def xnm := nRs 2 xnl
noncomputable def xnn := nR xnm
noncomputable def x13h := nR xnn
theorem x13i (rec0 : AV → AV → Mem → Nat → O2) : x1qr call hs u x13h (j2 rec0 1 3) (setE 0 x6e eNil) = (j2 (x3s call hs u rec0) 1 3) := by kernel_rfl
theorem x13j : x1qr call hs u xnn x6e (setE 0 x6e eNil) = (j2 (xt call hs u NN) 1 3) := lp (Ln := fun n => j2 (xt call hs u n) 1 3) (by kernel_rfl) rfl fun n => (x13i call hs u (xt call hs u n)).trans (by kernel_rfl)
theorem x13k : x1qr call hs u xnm x6e eNil = (j2 (xt call hs u NN) 1 3) := bk (by kernel_rfl) (x13j call hs u)
theorem x13l : x1qr call hs u xnl x6e eNil = (j1 (xeo call hs u) 0) := (sqN 2 (by kernel_rfl) (x13k call hs u)).trans (by kernel_rfl)
theorem xw5 : FL x39 x73 := le1 (fn := Try.f38) (by kernel_rfl) (by kernel_rfl) (by kernel_rfl) (by kernel_rfl) (fun call hs t0 m => (congrFun (x13l call hs m.next) _).trans (by kernel_rfl)) (fun _ _ _ _ _ h => by unfold x73 at h; split at h <;> first | exact ⟨_, rfl⟩ | cases h)
noncomputable abbrev xno : Fs → O2 := x1ih Try.prog [.tmp 4, .tmp 5]
noncomputable abbrev x1xx := XK call { f := x4e, u := u, nt := 29, hs := hs } xno
noncomputable def x13m := x1ij x4e
theorem x13n : x1xx call hs u x13m xno eNil = (j2 (xjc call hs u) 0 1) := by kernel_rfl
theorem xw6 : FL x4e xd0 := le2 (fn := Try.f39) (by kernel_rfl) (by kernel_rfl) (by kernel_rfl) (by kernel_rfl) (fun call hs t0 t1 m => (congrFun (x13n call hs m.next) _).trans (by kernel_rfl)) (fun _ _ _ _ _ h => by unfold xd0 at h; split at h <;> first | exact ⟨_, _, rfl⟩ | cases h)
noncomputable abbrev xnp : Fs → O2 := x1ih Try.prog [.tmp 2]
noncomputable abbrev x1xy := XK call { f := xe, u := u, nt := 6, hs := hs } xnp
noncomputable def x13o := x1ij xe
theorem x13p : x1xy call hs u x13o xnp eNil = (j1 (xep call hs u) 0) := by kernel_rfl
theorem xw7 : FL xe x74 := le1 (fn := Try.f40) (by kernel_rfl) (by kernel_rfl) (by kernel_rfl) (by kernel_rfl) (fun call hs t0 m => (congrFun (x13p call hs m.next) _).trans (by kernel_rfl)) (fun _ _ _ _ _ h => by unfold x74 at h; split at h <;> first | exact ⟨_, rfl⟩ | cases h)
noncomputable abbrev xnq : Fs → O2 := x1ih Try.prog [.tmp 2]
noncomputable abbrev x1xz := XK call { f := x75, u := u, nt := 10, hs := hs } xnq
noncomputable def x13q := x1ij x75
theorem x13r : x1xz call hs u x13q xnq eNil = (j1 (xjd call hs u) 0) := by kernel_rfl
theorem xw8 : FL x75 xd1 := le1 (fn := Try.f41) (by kernel_rfl) (by kernel_rfl) (by kernel_rfl) (by kernel_rfl) (fun call hs t0 m => (congrFun (x13r call hs m.next) _).trans (by kernel_rfl)) (fun _ _ _ _ _ h => by unfold xd1 at h; split at h <;> first | exact ⟨_, rfl⟩ | cases h)
noncomputable abbrev xbv : Fs → O2 := x1ih Try.prog [.cell 2 xg7, .tmp 3, .tmp 4, .tmp 5]
noncomputable abbrev x1m7 := XK call { f := x76, u := u, nt := 72, hs := hs } xbv
noncomputable def xnr := x1ij x76
noncomputable def xgx := nRs 5 xnr
noncomputable def xns := nL xgx
noncomputable def x13s := nR xgx
noncomputable def xnt := nR xns
noncomputable def xnu := nR xnt
noncomputable def xnv := nR xnu
noncomputable def xgy := nRs 2 xnv
noncomputable def x13t := nL xgy
noncomputable def x13u := nR xgy
theorem x13v : x1m7 call hs u x13s xbv eNil = (j4 (x1z call hs u) 2 7 8 9) := by kernel_rfl
theorem x13w (rec0 : AV → AV → AV → AV → AV → AV → AV → Mem → Nat → O2) : x1m7 call hs u x13u (j7 rec0 2 7 8 9 37 38 39) (setE 0 (j4 (x1z call hs u) 2 7 8 9) eNil) = (j7 (x9x call hs u rec0) 2 7 8 9 37 38 39) := by kernel_rfl
theorem x13x (rec0 : AV → AV → AV → AV → AV → AV → AV → Mem → Nat → O2) : x1m7 call hs u x13t (j7 (x9x call hs u rec0) 2 7 8 9 37 38 39) (setE 0 (j4 (x1z call hs u) 2 7 8 9) eNil) = (j7 (xeq call hs u rec0) 2 7 8 9 37 38 39) := by kernel_rfl
theorem x13y (rec0 : AV → AV → AV → AV → AV → AV → AV → Mem → Nat → O2) : x1m7 call hs u xgy (j7 rec0 2 7 8 9 37 38 39) (setE 0 (j4 (x1z call hs u) 2 7 8 9) eNil) = (j7 (xeq call hs u rec0) 2 7 8 9 37 38 39) := sq2 (by kernel_rfl) (x13w call hs u rec0) (x13x call hs u rec0)
theorem x13z (rec0 : AV → AV → AV → AV → AV → AV → AV → Mem → Nat → O2) : x1m7 call hs u xnv (j7 rec0 2 7 8 9 37 38 39) (setE 0 (j4 (x1z call hs u) 2 7 8 9) eNil) = (j7 (xje call hs u rec0) 2 7 8 9 37 38 39) := (sqN 2 (by kernel_rfl) (x13y call hs u rec0)).trans (by kernel_rfl)
theorem x140 : x1m7 call hs u xnu (j4 (x1z call hs u) 2 7 8 9) (setE 0 (j4 (x1z call hs u) 2 7 8 9) eNil) = (j7 (x5p call hs u NN) 2 7 8 9 37 38 39) := lp (Ln := fun n => j7 (x5p call hs u n) 2 7 8 9 37 38 39) (by kernel_rfl) rfl fun n => (x13z call hs u (x5p call hs u n)).trans (by kernel_rfl)
theorem x141 : x1m7 call hs u xnt (j4 (x1z call hs u) 2 7 8 9) eNil = (j7 (x5p call hs u NN) 2 7 8 9 37 38 39) := bk (by kernel_rfl) (x140 call hs u)
theorem x142 : x1m7 call hs u xns (j4 (x1z call hs u) 2 7 8 9) eNil = (j4 (xer call hs u) 2 7 8 9) := (sqN 1 (by kernel_rfl) (x141 call hs u)).trans (by kernel_rfl)
theorem x143 : x1m7 call hs u xgx xbv eNil = (j4 (xer call hs u) 2 7 8 9) := sq2 (by kernel_rfl) (x13v call hs u) (x142 call hs u)
theorem x144 : x1m7 call hs u xnr xbv eNil = (j1 (xjf call hs u) 0) := (sqN 5 (by kernel_rfl) (x143 call hs u)).trans (by kernel_rfl)
theorem xw9 : FL x76 xd2 := le1 (fn := Try.f42) (by kernel_rfl) (by kernel_rfl) (by kernel_rfl) (by kernel_rfl) (fun call hs t0 m => (congrFun (x144 call hs m.next) _).trans (by kernel_rfl)) (fun _ _ _ _ _ h => by unfold xd2 at h; split at h <;> first | exact ⟨_, rfl⟩ | cases h)
noncomputable abbrev xnw : Fs → O2 := x1ih Try.prog [.tmp 4, .tmp 5]
noncomputable abbrev x1y0 := XK call { f := x4f, u := u, nt := 21, hs := hs } xnw
noncomputable def x145 := x1ij x4f
theorem x146 : x1y0 call hs u x145 xnw eNil = (j2 (xjg call hs u) 0 1) := by kernel_rfl
theorem xwa : FL x4f xd3 := le2 (fn := Try.f46) (by kernel_rfl) (by kernel_rfl) (by kernel_rfl) (by kernel_rfl) (fun call hs t0 t1 m => (congrFun (x146 call hs m.next) _).trans (by kernel_rfl)) (fun _ _ _ _ _ h => by unfold xd3 at h; split at h <;> first | exact ⟨_, _, rfl⟩ | cases h)
noncomputable abbrev xbw : Fs → O2 := x1ih Try.prog [.tmp 4, .tmp 5]
noncomputable abbrev x1kv := XK call { f := x77, u := u, nt := 101, hs := hs } xbw
noncomputable def xnx := x1ij x77
noncomputable def xgz := nRs 4 xnx
noncomputable def xny := nL xgz
noncomputable def x147 := nR xgz
noncomputable def xnz := nR xny
noncomputable def xo0 := nR xnz
noncomputable def xo1 := nR xo0
noncomputable def xh0 := nRs 2 xo1
noncomputable def xo2 := nL xh0
noncomputable def x148 := nR xh0
noncomputable def xo3 := nR xo2
noncomputable def xh1 := nRs 3 xo3
noncomputable def x149 := nL xh1
noncomputable def x14a := nR xh1
theorem x14b : x1kv call hs u x147 xbw eNil = (j1 (xu call hs u) 7) := by kernel_rfl
theorem x14c (rec0 : AV → AV → AV → AV → AV → AV → Mem → Nat → O2) : x1kv call hs u x148 (j6 rec0 1 2 7 21 22 23) (setE 0 (j1 (xu call hs u) 7) eNil) = (j6 (x1h call hs u rec0) 1 2 7 21 22 23) := by kernel_rfl
theorem x14d (rec0 : AV → AV → AV → AV → AV → AV → Mem → Nat → O2) : x1kv call hs u x14a (j6 (x1h call hs u rec0) 1 2 7 21 22 23) (setE 1 (j6 (x1h call hs u rec0) 1 2 7 21 22 23) (setE 0 (j1 (xu call hs u) 7) eNil)) = (j10 (x9y call hs u rec0) 1 2 7 8 10 11 12 21 22 23) := by kernel_rfl
theorem x14e (rec0 : AV → AV → AV → AV → AV → AV → Mem → Nat → O2) : x1kv call hs u x149 (j10 (x9y call hs u rec0) 1 2 7 8 10 11 12 21 22 23) (setE 1 (j6 (x1h call hs u rec0) 1 2 7 21 22 23) (setE 0 (j1 (xu call hs u) 7) eNil)) = (j10 (xes call hs u rec0) 1 2 7 8 10 11 12 21 22 23) := by kernel_rfl
theorem x14f (rec0 : AV → AV → AV → AV → AV → AV → Mem → Nat → O2) : x1kv call hs u xh1 (j6 (x1h call hs u rec0) 1 2 7 21 22 23) (setE 1 (j6 (x1h call hs u rec0) 1 2 7 21 22 23) (setE 0 (j1 (xu call hs u) 7) eNil)) = (j10 (xes call hs u rec0) 1 2 7 8 10 11 12 21 22 23) := sq2 (by kernel_rfl) (x14d call hs u rec0) (x14e call hs u rec0)
theorem x14g (rec0 : AV → AV → AV → AV → AV → AV → Mem → Nat → O2) : x1kv call hs u xo3 (j6 (x1h call hs u rec0) 1 2 7 21 22 23) (setE 1 (j6 (x1h call hs u rec0) 1 2 7 21 22 23) (setE 0 (j1 (xu call hs u) 7) eNil)) = (j6 (x9z call hs u rec0) 1 2 7 21 22 23) := (sqN 3 (by kernel_rfl) (x14f call hs u rec0)).trans (by kernel_rfl)
theorem x14h (rec0 : AV → AV → AV → AV → AV → AV → Mem → Nat → O2) : x1kv call hs u xo2 (j6 (x1h call hs u rec0) 1 2 7 21 22 23) (setE 0 (j1 (xu call hs u) 7) eNil) = (j6 (x9z call hs u rec0) 1 2 7 21 22 23) := bk (by kernel_rfl) (x14g call hs u rec0)
theorem x14i (rec0 : AV → AV → AV → AV → AV → AV → Mem → Nat → O2) : x1kv call hs u xh0 (j6 rec0 1 2 7 21 22 23) (setE 0 (j1 (xu call hs u) 7) eNil) = (j6 (x9z call hs u rec0) 1 2 7 21 22 23) := sq2 (by kernel_rfl) (x14c call hs u rec0) (x14h call hs u rec0)
theorem x14j (rec0 : AV → AV → AV → AV → AV → AV → Mem → Nat → O2) : x1kv call hs u xo1 (j6 rec0 1 2 7 21 22 23) (setE 0 (j1 (xu call hs u) 7) eNil) = (j6 (xjh call hs u rec0) 1 2 7 21 22 23) := (sqN 2 (by kernel_rfl) (x14i call hs u rec0)).trans (by kernel_rfl)
theorem x14k : x1kv call hs u xo0 (j1 (xu call hs u) 7) (setE 0 (j1 (xu call hs u) 7) eNil) = (j6 (x5q call hs u NN) 1 2 7 21 22 23) := lp (Ln := fun n => j6 (x5q call hs u n) 1 2 7 21 22 23) (by kernel_rfl) rfl fun n => (x14j call hs u (x5q call hs u n)).trans (by kernel_rfl)
theorem x14l : x1kv call hs u xnz (j1 (xu call hs u) 7) eNil = (j6 (x5q call hs u NN) 1 2 7 21 22 23) := bk (by kernel_rfl) (x14k call hs u)
theorem x14m : x1kv call hs u xny (j1 (xu call hs u) 7) eNil = (j3 (xet call hs u) 1 2 7) := (sqN 1 (by kernel_rfl) (x14l call hs u)).trans (by kernel_rfl)
theorem x14n : x1kv call hs u xgz xbw eNil = (j3 (xet call hs u) 1 2 7) := sq2 (by kernel_rfl) (x14b call hs u) (x14m call hs u)
theorem x14o : x1kv call hs u xnx xbw eNil = (j2 (xji call hs u) 0 1) := (sqN 4 (by kernel_rfl) (x14n call hs u)).trans (by kernel_rfl)
theorem xwb : FL x77 xd4 := le2 (fn := Try.f47) (by kernel_rfl) (by kernel_rfl) (by kernel_rfl) (by kernel_rfl) (fun call hs t0 t1 m => (congrFun (x14o call hs m.next) _).trans (by kernel_rfl)) (fun _ _ _ _ _ h => by unfold xd4 at h; split at h <;> first | exact ⟨_, _, rfl⟩ | cases h)
noncomputable abbrev xo4 : Fs → O2 := x1ih Try.prog [.cell 2 xg7]
noncomputable abbrev x1y1 := XK call { f := x54, u := u, nt := 11, hs := hs } xo4
noncomputable def x14p := x1ij x54
theorem x14q : x1y1 call hs u x14p xo4 eNil = (j1 (xjj call hs u) 0) := by kernel_rfl
theorem xwc : FL x54 xd5 := le1 (fn := Try.f48) (by kernel_rfl) (by kernel_rfl) (by kernel_rfl) (by kernel_rfl) (fun call hs t0 m => (congrFun (x14q call hs m.next) _).trans (by kernel_rfl)) (fun _ _ _ _ _ h => by unfold xd5 at h; split at h <;> first | exact ⟨_, rfl⟩ | cases h)
noncomputable abbrev xo5 : Fs → O2 := x1ih Try.prog [.tmp 2]
noncomputable abbrev x1y2 := XK call { f := x78, u := u, nt := 18, hs := hs } xo5
noncomputable def x14r := x1ij x78
theorem x14s : x1y2 call hs u x14r xo5 eNil = (j1 (xjk call hs u) 0) := by kernel_rfl
theorem xwd : FL x78 xd6 := le1 (fn := Try.f49) (by kernel_rfl) (by kernel_rfl) (by kernel_rfl) (by kernel_rfl) (fun call hs t0 m => (congrFun (x14s call hs m.next) _).trans (by kernel_rfl)) (fun _ _ _ _ _ h => by unfold xd6 at h; split at h <;> first | exact ⟨_, rfl⟩ | cases h)
noncomputable abbrev xbx : Fs → O2 := x1ih Try.prog [.tmp 4, .tmp 5]
noncomputable abbrev x1m8 := XK call { f := x79, u := u, nt := 77, hs := hs } xbx
noncomputable def xo6 := x1ij x79
noncomputable def xh2 := nRs 3 xo6
noncomputable def xo7 := nL xh2
noncomputable def x14t := nR xh2
noncomputable def xo8 := nR xo7
noncomputable def xo9 := nR xo8
noncomputable def xoa := nR xo9
noncomputable def xh3 := nR xoa
noncomputable def x14u := nL xh3
noncomputable def x14v := nR xh3
theorem x14w : x1m8 call hs u x14t xbx eNil = (j1 (x20 call hs u) 6) := by kernel_rfl
theorem x14x (rec0 : AV → AV → AV → AV → Mem → Nat → O2) : x1m8 call hs u x14v (j4 rec0 1 2 6 7) (setE 0 (j1 (x20 call hs u) 6) eNil) = (j4 (xa0 call hs u rec0) 1 2 6 7) := by kernel_rfl
theorem x14y (rec0 : AV → AV → AV → AV → Mem → Nat → O2) : x1m8 call hs u x14u (j4 (xa0 call hs u rec0) 1 2 6 7) (setE 0 (j1 (x20 call hs u) 6) eNil) = (j4 (xeu call hs u rec0) 1 2 6 7) := by kernel_rfl
theorem x14z (rec0 : AV → AV → AV → AV → Mem → Nat → O2) : x1m8 call hs u xh3 (j4 rec0 1 2 6 7) (setE 0 (j1 (x20 call hs u) 6) eNil) = (j4 (xeu call hs u rec0) 1 2 6 7) := sq2 (by kernel_rfl) (x14x call hs u rec0) (x14y call hs u rec0)
theorem x150 (rec0 : AV → AV → AV → AV → Mem → Nat → O2) : x1m8 call hs u xoa (j4 rec0 1 2 6 7) (setE 0 (j1 (x20 call hs u) 6) eNil) = (j4 (xjl call hs u rec0) 1 2 6 7) := (sqN 1 (by kernel_rfl) (x14z call hs u rec0)).trans (by kernel_rfl)
theorem x151 : x1m8 call hs u xo9 (j1 (x20 call hs u) 6) (setE 0 (j1 (x20 call hs u) 6) eNil) = (j4 (x5r call hs u NN) 1 2 6 7) := lp (Ln := fun n => j4 (x5r call hs u n) 1 2 6 7) (by kernel_rfl) rfl fun n => (x150 call hs u (x5r call hs u n)).trans (by kernel_rfl)
theorem x152 : x1m8 call hs u xo8 (j1 (x20 call hs u) 6) eNil = (j4 (x5r call hs u NN) 1 2 6 7) := bk (by kernel_rfl) (x151 call hs u)
theorem x153 : x1m8 call hs u xo7 (j1 (x20 call hs u) 6) eNil = (j3 (xev call hs u) 1 2 6) := (sqN 1 (by kernel_rfl) (x152 call hs u)).trans (by kernel_rfl)
theorem x154 : x1m8 call hs u xh2 xbx eNil = (j3 (xev call hs u) 1 2 6) := sq2 (by kernel_rfl) (x14w call hs u) (x153 call hs u)
theorem x155 : x1m8 call hs u xo6 xbx eNil = (j2 (xjm call hs u) 0 1) := (sqN 3 (by kernel_rfl) (x154 call hs u)).trans (by kernel_rfl)
theorem xwe : FL x79 xd7 := le2 (fn := Try.f50) (by kernel_rfl) (by kernel_rfl) (by kernel_rfl) (by kernel_rfl) (fun call hs t0 t1 m => (congrFun (x155 call hs m.next) _).trans (by kernel_rfl)) (fun _ _ _ _ _ h => by unfold xd7 at h; split at h <;> first | exact ⟨_, _, rfl⟩ | cases h)
noncomputable abbrev xby : Fs → O2 := x1ih Try.prog [.tmp 4]
noncomputable abbrev x1nt := XK call { f := x4g, u := u, nt := 32, hs := hs } xby
noncomputable def xob := x1ij x4g
noncomputable def xh4 := nRs 2 xob
noncomputable def xoc := nL xh4
noncomputable def x156 := nR xh4
noncomputable def xod := nR xoc
noncomputable def xoe := nR xod
noncomputable def x157 := nR xoe
theorem x158 : x1nt call hs u x156 xby eNil = (j1 (x3t call hs u) 5) := by kernel_rfl
theorem x159 (rec0 : AV → AV → AV → AV → Mem → Nat → O2) : x1nt call hs u x157 (j4 rec0 1 2 5 6) (setE 0 (j1 (x3t call hs u) 5) eNil) = (j4 (xa1 call hs u rec0) 1 2 5 6) := by kernel_rfl
theorem x15a : x1nt call hs u xoe (j1 (x3t call hs u) 5) (setE 0 (j1 (x3t call hs u) 5) eNil) = (j4 (x2m call hs u NN) 1 2 5 6) := lp (Ln := fun n => j4 (x2m call hs u n) 1 2 5 6) (by kernel_rfl) rfl fun n => (x159 call hs u (x2m call hs u n)).trans (by kernel_rfl)
theorem x15b : x1nt call hs u xod (j1 (x3t call hs u) 5) eNil = (j4 (x2m call hs u NN) 1 2 5 6) := bk (by kernel_rfl) (x15a call hs u)
theorem x15c : x1nt call hs u xoc (j1 (x3t call hs u) 5) eNil = (j3 (xa2 call hs u) 1 2 5) := (sqN 1 (by kernel_rfl) (x15b call hs u)).trans (by kernel_rfl)
theorem x15d : x1nt call hs u xh4 xby eNil = (j3 (xa2 call hs u) 1 2 5) := sq2 (by kernel_rfl) (x158 call hs u) (x15c call hs u)
theorem x15e : x1nt call hs u xob xby eNil = (j2 (xew call hs u) 0 1) := (sqN 2 (by kernel_rfl) (x15d call hs u)).trans (by kernel_rfl)
theorem xwf : FL x4g x7a := le2 (fn := Try.f55) (by kernel_rfl) (by kernel_rfl) (by kernel_rfl) (by kernel_rfl) (fun call hs t0 t1 m => (congrFun (x15e call hs m.next) _).trans (by kernel_rfl)) (fun _ _ _ _ _ h => by unfold x7a at h; split at h <;> first | exact ⟨_, _, rfl⟩ | cases h)
noncomputable abbrev xof : Fs → O2 := x1ih Try.prog [.tmp 2, .tmp 3]
noncomputable abbrev x1y3 := XK call { f := x7b, u := u, nt := 20, hs := hs } xof
noncomputable def x15f := x1ij x7b
theorem x15g : x1y3 call hs u x15f xof eNil = (j1 (xjn call hs u) 0) := by kernel_rfl
theorem xwg : FL x7b xd8 := le1 (fn := Try.f58) (by kernel_rfl) (by kernel_rfl) (by kernel_rfl) (by kernel_rfl) (fun call hs t0 m => (congrFun (x15g call hs m.next) _).trans (by kernel_rfl)) (fun _ _ _ _ _ h => by unfold xd8 at h; split at h <;> first | exact ⟨_, rfl⟩ | cases h)
noncomputable abbrev xog : Fs → O2 := x1ih Try.prog [.cell 2 xbl]
noncomputable abbrev x1y4 := XK call { f := x55, u := u, nt := 9, hs := hs } xog
noncomputable def x15h := x1ij x55
theorem x15i : x1y4 call hs u x15h xog eNil = (j1 (xjo call hs u) 0) := by kernel_rfl
theorem xwh : FL x55 xd9 := le1 (fn := Try.f60) (by kernel_rfl) (by kernel_rfl) (by kernel_rfl) (by kernel_rfl) (fun call hs t0 m => (congrFun (x15i call hs m.next) _).trans (by kernel_rfl)) (fun _ _ _ _ _ h => by unfold xd9 at h; split at h <;> first | exact ⟨_, rfl⟩ | cases h)
noncomputable abbrev xbz : Fs → O2 := x1ih Try.prog [.cell 2 xg8]
noncomputable abbrev x1qs := XK call { f := x56, u := u, nt := 20, hs := hs } xbz
noncomputable def xoh := x1ij x56
noncomputable def xh5 := nRs 2 xoh
noncomputable def x15j := nL xh5
noncomputable def x15k := nR xh5
theorem x15l : x1qs call hs u x15k xbz eNil = (j2 (xa3 call hs u) 2 3) := by kernel_rfl
theorem x15m : x1qs call hs u x15j (j2 (xa3 call hs u) 2 3) eNil = (j3 (xex call hs u) 0 2 3) := by kernel_rfl
theorem x15n : x1qs call hs u xh5 xbz eNil = (j3 (xex call hs u) 0 2 3) := sq2 (by kernel_rfl) (x15l call hs u) (x15m call hs u)
theorem x15o : x1qs call hs u xoh xbz eNil = (j1 (xjp call hs u) 0) := (sqN 2 (by kernel_rfl) (x15n call hs u)).trans (by kernel_rfl)
theorem xwi : FL x56 xda := le1 (fn := Try.f61) (by kernel_rfl) (by kernel_rfl) (by kernel_rfl) (by kernel_rfl) (fun call hs t0 m => (congrFun (x15o call hs m.next) _).trans (by kernel_rfl)) (fun _ _ _ _ _ h => by unfold xda at h; split at h <;> first | exact ⟨_, rfl⟩ | cases h)
noncomputable abbrev xoi : Fs → O2 := x1ih Try.prog [.tmp 2]
noncomputable abbrev x1y5 := XK call { f := x1v, u := u, nt := 7, hs := hs } xoi
noncomputable def x15p := x1ij x1v
theorem x15q : x1y5 call hs u x15p xoi eNil = (j1 (xey call hs u) 0) := by kernel_rfl
theorem xwj : FL x1v x7c := le1 (fn := Try.f62) (by kernel_rfl) (by kernel_rfl) (by kernel_rfl) (by kernel_rfl) (fun call hs t0 m => (congrFun (x15q call hs m.next) _).trans (by kernel_rfl)) (fun _ _ _ _ _ h => by unfold x7c at h; split at h <;> first | exact ⟨_, rfl⟩ | cases h)
noncomputable abbrev xoj : Fs → O2 := x1ih Try.prog [.cell 2 xl3, .tmp 3]
noncomputable abbrev x1y6 := XK call { f := x1w, u := u, nt := 14, hs := hs } xoj
noncomputable def x15r := x1ij x1w
theorem x15s : x1y6 call hs u x15r xoj eNil = (j1 (xez call hs u) 0) := by kernel_rfl
theorem xwk : FL x1w x7d := le1 (fn := Try.f63) (by kernel_rfl) (by kernel_rfl) (by kernel_rfl) (by kernel_rfl) (fun call hs t0 m => (congrFun (x15s call hs m.next) _).trans (by kernel_rfl)) (fun _ _ _ _ _ h => by unfold x7d at h; split at h <;> first | exact ⟨_, rfl⟩ | cases h)
noncomputable abbrev x6f : Fs → O2 := x1ih Try.prog [.tmp 2]
noncomputable abbrev x1k4 := XK call { f := x1c, u := u, nt := 64, hs := hs } x6f
noncomputable def xok := x1ij x1c
noncomputable def xh6 := nRs 2 xok
noncomputable def xol := nL xh6
noncomputable def xom := nR xh6
noncomputable def xh7 := nRs 2 xom
noncomputable def xon := nL xh7
noncomputable def x15t := nR xh7
noncomputable def xoo := nR xon
noncomputable def xop := nR xoo
noncomputable def xoq := nR xop
noncomputable def xh8 := nRs 2 xoq
noncomputable def xor := nL xh8
noncomputable def x15u := nR xh8
noncomputable def xos := nR xor
noncomputable def xh9 := nR xos
noncomputable def x15v := nL xh9
noncomputable def x15w := nR xh9
noncomputable def xot := nR xol
noncomputable def x15x := nR xot
theorem x15y : x1k4 call hs u x15t x6f eNil = (j1 (xl call hs u) 3) := by kernel_rfl
theorem x15z (rec0 : AV → AV → AV → AV → AV → Mem → Nat → O2) : x1k4 call hs u x15u (j5 rec0 3 6 26 27 28) (setE 2 (j1 (xl call hs u) 3) eNil) = (j5 (x1i call hs u rec0) 3 6 26 27 28) := by kernel_rfl
theorem x160 (rec0 : AV → AV → AV → AV → AV → Mem → Nat → O2) : x1k4 call hs u x15w (j5 (x1i call hs u rec0) 3 6 26 27 28) (setE 3 (j5 (x1i call hs u rec0) 3 6 26 27 28) (setE 2 (j1 (xl call hs u) 3) eNil)) = (j7 (x3u call hs u rec0) 3 6 7 8 26 27 28) := by kernel_rfl
theorem x161 (rec0 : AV → AV → AV → AV → AV → Mem → Nat → O2) : x1k4 call hs u x15v (j7 (x3u call hs u rec0) 3 6 7 8 26 27 28) (setE 3 (j5 (x1i call hs u rec0) 3 6 26 27 28) (setE 2 (j1 (xl call hs u) 3) eNil)) = (j7 (xa4 call hs u rec0) 3 6 7 8 26 27 28) := by kernel_rfl
theorem x162 (rec0 : AV → AV → AV → AV → AV → Mem → Nat → O2) : x1k4 call hs u xh9 (j5 (x1i call hs u rec0) 3 6 26 27 28) (setE 3 (j5 (x1i call hs u rec0) 3 6 26 27 28) (setE 2 (j1 (xl call hs u) 3) eNil)) = (j7 (xa4 call hs u rec0) 3 6 7 8 26 27 28) := sq2 (by kernel_rfl) (x160 call hs u rec0) (x161 call hs u rec0)
theorem x163 (rec0 : AV → AV → AV → AV → AV → Mem → Nat → O2) : x1k4 call hs u xos (j5 (x1i call hs u rec0) 3 6 26 27 28) (setE 3 (j5 (x1i call hs u rec0) 3 6 26 27 28) (setE 2 (j1 (xl call hs u) 3) eNil)) = (j5 (x8b call hs u rec0) 3 6 26 27 28) := (sqN 1 (by kernel_rfl) (x162 call hs u rec0)).trans (by kernel_rfl)
theorem x164 (rec0 : AV → AV → AV → AV → AV → Mem → Nat → O2) : x1k4 call hs u xor (j5 (x1i call hs u rec0) 3 6 26 27 28) (setE 2 (j1 (xl call hs u) 3) eNil) = (j5 (x8b call hs u rec0) 3 6 26 27 28) := bk (by kernel_rfl) (x163 call hs u rec0)
theorem x165 (rec0 : AV → AV → AV → AV → AV → Mem → Nat → O2) : x1k4 call hs u xh8 (j5 rec0 3 6 26 27 28) (setE 2 (j1 (xl call hs u) 3) eNil) = (j5 (x8b call hs u rec0) 3 6 26 27 28) := sq2 (by kernel_rfl) (x15z call hs u rec0) (x164 call hs u rec0)
theorem x166 (rec0 : AV → AV → AV → AV → AV → Mem → Nat → O2) : x1k4 call hs u xoq (j5 rec0 3 6 26 27 28) (setE 2 (j1 (xl call hs u) 3) eNil) = (j5 (xa5 call hs u rec0) 3 6 26 27 28) := (sqN 2 (by kernel_rfl) (x165 call hs u rec0)).trans (by kernel_rfl)
theorem x167 : x1k4 call hs u xop (j1 (xl call hs u) 3) (setE 2 (j1 (xl call hs u) 3) eNil) = (j5 (xw call hs u NN) 3 6 26 27 28) := lp (Ln := fun n => j5 (xw call hs u n) 3 6 26 27 28) (by kernel_rfl) rfl fun n => (x166 call hs u (xw call hs u n)).trans (by kernel_rfl)
theorem x168 : x1k4 call hs u xoo (j1 (xl call hs u) 3) eNil = (j5 (xw call hs u NN) 3 6 26 27 28) := bk (by kernel_rfl) (x167 call hs u)
theorem x169 : x1k4 call hs u xon (j1 (xl call hs u) 3) eNil = (j3 (xa6 call hs u) 3 5 6) := (sqN 1 (by kernel_rfl) (x168 call hs u)).trans (by kernel_rfl)
theorem x16a : x1k4 call hs u xh7 x6f eNil = (j3 (xa6 call hs u) 3 5 6) := sq2 (by kernel_rfl) (x15y call hs u) (x169 call hs u)
theorem x16b : x1k4 call hs u xom x6f eNil = (j2 (x2n call hs u) 1 3) := (sqN 2 (by kernel_rfl) (x16a call hs u)).trans (by kernel_rfl)
theorem x16c (rec1 : AV → AV → Mem → Nat → O2) : x1k4 call hs u x15x (j2 rec1 1 3) (setE 0 (j2 (x2n call hs u) 1 3) eNil) = (j2 (xf0 call hs u rec1) 1 3) := by kernel_rfl
theorem x16d : x1k4 call hs u xot (j2 (x2n call hs u) 1 3) (setE 0 (j2 (x2n call hs u) 1 3) eNil) = (j2 (x12 call hs u NN) 1 3) := lp (Ln := fun n => j2 (x12 call hs u n) 1 3) (by kernel_rfl) rfl fun n => (x16c call hs u (x12 call hs u n)).trans (by kernel_rfl)
theorem x16e : x1k4 call hs u xol (j2 (x2n call hs u) 1 3) eNil = (j2 (x12 call hs u NN) 1 3) := bk (by kernel_rfl) (x16d call hs u)
theorem x16f : x1k4 call hs u xh6 x6f eNil = (j2 (x12 call hs u NN) 1 3) := sq2 (by kernel_rfl) (x16b call hs u) (x16e call hs u)
theorem x16g : x1k4 call hs u xok x6f eNil = (j1 (xa7 call hs u) 0) := (sqN 2 (by kernel_rfl) (x16f call hs u)).trans (by kernel_rfl)
theorem xwl : FL x1c x9b := le1 (fn := Try.f64) (by kernel_rfl) (by kernel_rfl) (by kernel_rfl) (by kernel_rfl) (fun call hs t0 m => (congrFun (x16g call hs m.next) _).trans (by kernel_rfl)) (fun _ _ _ _ _ h => by unfold x9b at h; split at h <;> first | exact ⟨_, rfl⟩ | cases h)
noncomputable abbrev xc0 : Fs → O2 := x1ih Try.prog [.tmp 4]
noncomputable abbrev x1nu := XK call { f := x1x, u := u, nt := 27, hs := hs } xc0
noncomputable def xou := x1ij x1x
noncomputable def xha := nRs 2 xou
noncomputable def xov := nL xha
noncomputable def x16h := nR xha
noncomputable def xow := nR xov
noncomputable def xox := nR xow
noncomputable def x16i := nR xox
theorem x16j : x1nu call hs u x16h xc0 eNil = (j1 (x3w call hs u) 5) := by kernel_rfl
theorem x16k (rec0 : AV → AV → AV → AV → AV → Mem → Nat → O2) : x1nu call hs u x16i (j5 rec0 1 5 10 11 12) (setE 0 (j1 (x3w call hs u) 5) eNil) = (j5 (xa8 call hs u rec0) 1 5 10 11 12) := by kernel_rfl
theorem x16l : x1nu call hs u xox (j1 (x3w call hs u) 5) (setE 0 (j1 (x3w call hs u) 5) eNil) = (j5 (x2o call hs u NN) 1 5 10 11 12) := lp (Ln := fun n => j5 (x2o call hs u n) 1 5 10 11 12) (by kernel_rfl) rfl fun n => (x16k call hs u (x2o call hs u n)).trans (by kernel_rfl)
theorem x16m : x1nu call hs u xow (j1 (x3w call hs u) 5) eNil = (j5 (x2o call hs u NN) 1 5 10 11 12) := bk (by kernel_rfl) (x16l call hs u)
theorem x16n : x1nu call hs u xov (j1 (x3w call hs u) 5) eNil = (j3 (xa9 call hs u) 1 2 5) := (sqN 1 (by kernel_rfl) (x16m call hs u)).trans (by kernel_rfl)
theorem x16o : x1nu call hs u xha xc0 eNil = (j3 (xa9 call hs u) 1 2 5) := sq2 (by kernel_rfl) (x16j call hs u) (x16n call hs u)
theorem x16p : x1nu call hs u xou xc0 eNil = (j2 (xf1 call hs u) 0 1) := (sqN 2 (by kernel_rfl) (x16o call hs u)).trans (by kernel_rfl)
theorem xwm : FL x1x x7e := le2 (fn := Try.f65) (by kernel_rfl) (by kernel_rfl) (by kernel_rfl) (by kernel_rfl) (fun call hs t0 t1 m => (congrFun (x16p call hs m.next) _).trans (by kernel_rfl)) (fun _ _ _ _ _ h => by unfold x7e at h; split at h <;> first | exact ⟨_, _, rfl⟩ | cases h)
noncomputable abbrev xc1 : Fs → O2 := x1ih Try.prog [.tmp 2, .tmp 3]
noncomputable abbrev x1nv := XK call { f := x3a, u := u, nt := 60, hs := hs } xc1
noncomputable def xoy := x1ij x3a
noncomputable def xhb := nRs 3 xoy
noncomputable def xoz := nL xhb
noncomputable def x16q := nR xhb
noncomputable def xp0 := nR xoz
noncomputable def xp1 := nR xp0
noncomputable def x16r := nR xp1
theorem x16s : x1nv call hs u x16q xc1 eNil = (j0 (x3x call hs u)) := by kernel_rfl
theorem x16t (rec0 : AV → AV → Mem → Nat → O2) : x1nv call hs u x16r (j2 rec0 1 4) (setE 0 (j0 (x3x call hs u)) eNil) = (j2 (xaa call hs u rec0) 1 4) := by kernel_rfl
theorem x16u : x1nv call hs u xp1 (j0 (x3x call hs u)) (setE 0 (j0 (x3x call hs u)) eNil) = (j2 (x2p call hs u NN) 1 4) := lp (Ln := fun n => j2 (x2p call hs u n) 1 4) (by kernel_rfl) rfl fun n => (x16t call hs u (x2p call hs u n)).trans (by kernel_rfl)
theorem x16v : x1nv call hs u xp0 (j0 (x3x call hs u)) eNil = (j2 (x2p call hs u NN) 1 4) := bk (by kernel_rfl) (x16u call hs u)
theorem x16w : x1nv call hs u xoz (j0 (x3x call hs u)) eNil = (j1 (xab call hs u) 1) := (sqN 1 (by kernel_rfl) (x16v call hs u)).trans (by kernel_rfl)
theorem x16x : x1nv call hs u xhb xc1 eNil = (j1 (xab call hs u) 1) := sq2 (by kernel_rfl) (x16s call hs u) (x16w call hs u)
theorem x16y : x1nv call hs u xoy xc1 eNil = (j1 (xf2 call hs u) 0) := (sqN 3 (by kernel_rfl) (x16x call hs u)).trans (by kernel_rfl)
theorem xwn : FL x3a x7f := le1 (fn := Try.f66) (by kernel_rfl) (by kernel_rfl) (by kernel_rfl) (by kernel_rfl) (fun call hs t0 m => (congrFun (x16y call hs m.next) _).trans (by kernel_rfl)) (fun _ _ _ _ _ h => by unfold x7f at h; split at h <;> first | exact ⟨_, rfl⟩ | cases h)
noncomputable abbrev xc2 : Fs → O2 := x1ih Try.prog [.tmp 4]
noncomputable abbrev x1nw := XK call { f := x4h, u := u, nt := 27, hs := hs } xc2
noncomputable def xp2 := x1ij x4h
noncomputable def xhc := nRs 2 xp2
noncomputable def xp3 := nL xhc
noncomputable def x16z := nR xhc
noncomputable def xp4 := nR xp3
noncomputable def xp5 := nR xp4
noncomputable def x170 := nR xp5
theorem x171 : x1nw call hs u x16z xc2 eNil = (j1 (x3y call hs u) 5) := by kernel_rfl
theorem x172 (rec0 : AV → AV → AV → AV → Mem → Nat → O2) : x1nw call hs u x170 (j4 rec0 1 2 5 6) (setE 0 (j1 (x3y call hs u) 5) eNil) = (j4 (xac call hs u rec0) 1 2 5 6) := by kernel_rfl
theorem x173 : x1nw call hs u xp5 (j1 (x3y call hs u) 5) (setE 0 (j1 (x3y call hs u) 5) eNil) = (j4 (x2q call hs u NN) 1 2 5 6) := lp (Ln := fun n => j4 (x2q call hs u n) 1 2 5 6) (by kernel_rfl) rfl fun n => (x172 call hs u (x2q call hs u n)).trans (by kernel_rfl)
theorem x174 : x1nw call hs u xp4 (j1 (x3y call hs u) 5) eNil = (j4 (x2q call hs u NN) 1 2 5 6) := bk (by kernel_rfl) (x173 call hs u)
theorem x175 : x1nw call hs u xp3 (j1 (x3y call hs u) 5) eNil = (j3 (xad call hs u) 1 2 5) := (sqN 1 (by kernel_rfl) (x174 call hs u)).trans (by kernel_rfl)
theorem x176 : x1nw call hs u xhc xc2 eNil = (j3 (xad call hs u) 1 2 5) := sq2 (by kernel_rfl) (x171 call hs u) (x175 call hs u)
theorem x177 : x1nw call hs u xp2 xc2 eNil = (j2 (xf3 call hs u) 0 1) := (sqN 2 (by kernel_rfl) (x176 call hs u)).trans (by kernel_rfl)
theorem xwo : FL x4h x7g := le2 (fn := Try.f67) (by kernel_rfl) (by kernel_rfl) (by kernel_rfl) (by kernel_rfl) (fun call hs t0 t1 m => (congrFun (x177 call hs m.next) _).trans (by kernel_rfl)) (fun _ _ _ _ _ h => by unfold x7g at h; split at h <;> first | exact ⟨_, _, rfl⟩ | cases h)
noncomputable abbrev xc3 : Fs → O2 := x1ih Try.prog [.tmp 2]
noncomputable abbrev x1m9 := XK call { f := x3b, u := u, nt := 38, hs := hs } xc3
noncomputable def xp6 := x1ij x3b
noncomputable def xhd := nRs 3 xp6
noncomputable def xp7 := nL xhd
noncomputable def x178 := nR xhd
noncomputable def xp8 := nR xp7
noncomputable def xp9 := nR xp8
noncomputable def xpa := nR xp9
noncomputable def xhe := nR xpa
noncomputable def x179 := nL xhe
noncomputable def x17a := nR xhe
theorem x17b : x1m9 call hs u x178 xc3 eNil = (j1 (x1j call hs u) 3) := by kernel_rfl
theorem x17c (rec0 : AV → AV → AV → AV → Mem → Nat → O2) : x1m9 call hs u x17a (j4 rec0 0 3 4 5) (setE 0 (j1 (x1j call hs u) 3) eNil) = (j4 (x5s call hs u rec0) 0 3 4 5) := by kernel_rfl
theorem x17d (rec0 : AV → AV → AV → AV → Mem → Nat → O2) : x1m9 call hs u x179 (j4 (x5s call hs u rec0) 0 3 4 5) (setE 0 (j1 (x1j call hs u) 3) eNil) = (j4 (x8c call hs u rec0) 0 3 4 5) := by kernel_rfl
theorem x17e (rec0 : AV → AV → AV → AV → Mem → Nat → O2) : x1m9 call hs u xhe (j4 rec0 0 3 4 5) (setE 0 (j1 (x1j call hs u) 3) eNil) = (j4 (x8c call hs u rec0) 0 3 4 5) := sq2 (by kernel_rfl) (x17c call hs u rec0) (x17d call hs u rec0)
theorem x17f (rec0 : AV → AV → AV → AV → Mem → Nat → O2) : x1m9 call hs u xpa (j4 rec0 0 3 4 5) (setE 0 (j1 (x1j call hs u) 3) eNil) = (j4 (x8d call hs u rec0) 0 3 4 5) := (sqN 1 (by kernel_rfl) (x17e call hs u rec0)).trans (by kernel_rfl)
theorem x17g : x1m9 call hs u xp9 (j1 (x1j call hs u) 3) (setE 0 (j1 (x1j call hs u) 3) eNil) = (j4 (x21 call hs u NN) 0 3 4 5) := lp (Ln := fun n => j4 (x21 call hs u n) 0 3 4 5) (by kernel_rfl) rfl fun n => (x17f call hs u (x21 call hs u n)).trans (by kernel_rfl)
theorem x17h : x1m9 call hs u xp8 (j1 (x1j call hs u) 3) eNil = (j4 (x21 call hs u NN) 0 3 4 5) := bk (by kernel_rfl) (x17g call hs u)
theorem x17i : x1m9 call hs u xp7 (j1 (x1j call hs u) 3) eNil = (j3 (xae call hs u) 0 3 4) := (sqN 1 (by kernel_rfl) (x17h call hs u)).trans (by kernel_rfl)
theorem x17j : x1m9 call hs u xhd xc3 eNil = (j3 (xae call hs u) 0 3 4) := sq2 (by kernel_rfl) (x17b call hs u) (x17i call hs u)
theorem x17k : x1m9 call hs u xp6 xc3 eNil = (j1 (xf4 call hs u) 0) := (sqN 3 (by kernel_rfl) (x17j call hs u)).trans (by kernel_rfl)
theorem xwp : FL x3b x7h := le1 (fn := Try.f68) (by kernel_rfl) (by kernel_rfl) (by kernel_rfl) (by kernel_rfl) (fun call hs t0 m => (congrFun (x17k call hs m.next) _).trans (by kernel_rfl)) (fun _ _ _ _ _ h => by unfold x7h at h; split at h <;> first | exact ⟨_, rfl⟩ | cases h)
noncomputable abbrev xc4 : Fs → O2 := x1ih Try.prog [.cell 2 xbl]
noncomputable abbrev x1oq := XK call { f := x3c, u := u, nt := 71, hs := hs } xc4
noncomputable abbrev x1vk := XK (R := Mem) call { f := x3c, u := u, nt := 71, hs := hs } fNil
noncomputable def xpb := x1ij x3c
noncomputable def xhf := nRs 4 xpb
noncomputable def xpc := nL xhf
noncomputable def x17l := nR xhf
noncomputable def xpd := nR xpc
noncomputable def xc5 := nR xpd
noncomputable def x17m := nL xc5
noncomputable def x17n := nR xc5
theorem x17o : x1oq call hs u x17l xc4 eNil = (j2 (x5t call hs u) 2 4) := by kernel_rfl
theorem x17p : x1vk call hs u x17n (fun s => some s.m) eNil = (j5 (xf5 call hs u) 3 4 5 6 7) := by kernel_rfl
theorem x17q : x1vk call hs u x17m (j5 (xf5 call hs u) 3 4 5 6 7) eNil = (j5 (xjq call hs u) 3 4 5 27 28) := by kernel_rfl
theorem x17r : x1oq call hs u xc5 (j2 (x5t call hs u) 2 4) (setE 0 (j2 (x5t call hs u) 2 4) eNil) = (j5 (xf6 call hs u) 2 3 4 5 26) := (rg (C := xc5) (c := { f := x3c, u := u, nt := 71, hs := hs }) (f := (.tmp 26)) (ps := #[27, 28]) (by kernel_rfl) (fun u => x17p call hs u) (fun u => x17q call hs u)).trans (by kernel_rfl)
theorem x17s : x1oq call hs u xpd (j2 (x5t call hs u) 2 4) eNil = (j5 (xf6 call hs u) 2 3 4 5 26) := bk (by kernel_rfl) (x17r call hs u)
theorem x17t : x1oq call hs u xpc (j2 (x5t call hs u) 2 4) eNil = (j4 (xf7 call hs u) 2 3 4 5) := (sqN 1 (by kernel_rfl) (x17s call hs u)).trans (by kernel_rfl)
theorem x17u : x1oq call hs u xhf xc4 eNil = (j4 (xf7 call hs u) 2 3 4 5) := sq2 (by kernel_rfl) (x17o call hs u) (x17t call hs u)
theorem x17v : x1oq call hs u xpb xc4 eNil = (j1 (xjr call hs u) 0) := (sqN 4 (by kernel_rfl) (x17u call hs u)).trans (by kernel_rfl)
theorem xwq : FL x3c xdb := le1 (fn := Try.f69) (by kernel_rfl) (by kernel_rfl) (by kernel_rfl) (by kernel_rfl) (fun call hs t0 m => (congrFun (x17v call hs m.next) _).trans (by kernel_rfl)) (fun _ _ _ _ _ h => by unfold xdb at h; split at h <;> first | exact ⟨_, rfl⟩ | cases h)
noncomputable abbrev xpe : Fs → O2 := x1ih Try.prog [.tmp 6]
noncomputable abbrev x1y7 := XK call { f := x57, u := u, nt := 20, hs := hs } xpe
noncomputable def x17w := x1ij x57
theorem x17x : x1y7 call hs u x17w xpe eNil = (j3 (xjs call hs u) 0 1 2) := by kernel_rfl
theorem xwr : FL x57 xdc := le3 (fn := Try.f70) (by kernel_rfl) (by kernel_rfl) (by kernel_rfl) (by kernel_rfl) (fun call hs t0 t1 t2 m => (congrFun (x17x call hs m.next) _).trans (by kernel_rfl)) (fun _ _ _ _ _ h => by unfold xdc at h; split at h <;> first | exact ⟨_, _, _, rfl⟩ | cases h)
noncomputable abbrev xc6 : Fs → O2 := x1ih Try.prog [.tmp 2]
noncomputable abbrev x1nx := XK call { f := x58, u := u, nt := 23, hs := hs } xc6
noncomputable def xpf := x1ij x58
noncomputable def xhg := nR xpf
noncomputable def xpg := nL xhg
noncomputable def x17y := nR xhg
noncomputable def xph := nR xpg
noncomputable def xpi := nR xph
noncomputable def x17z := nR xpi
theorem x180 : x1nx call hs u x17y xc6 eNil = (j0 (x4v call hs u)) := by kernel_rfl
theorem x181 (rec0 : AV → AV → Mem → Nat → O2) : x1nx call hs u x17z (j2 rec0 0 3) (setE 0 (j0 (x4v call hs u)) eNil) = (j2 (xjt call hs u rec0) 0 3) := by kernel_rfl
theorem x182 : x1nx call hs u xpi (j0 (x4v call hs u)) (setE 0 (j0 (x4v call hs u)) eNil) = (j2 (x5u call hs u NN) 0 3) := lp (Ln := fun n => j2 (x5u call hs u n) 0 3) (by kernel_rfl) rfl fun n => (x181 call hs u (x5u call hs u n)).trans (by kernel_rfl)
theorem x183 : x1nx call hs u xph (j0 (x4v call hs u)) eNil = (j2 (x5u call hs u NN) 0 3) := bk (by kernel_rfl) (x182 call hs u)
theorem x184 : x1nx call hs u xpg (j0 (x4v call hs u)) eNil = (j1 (xf8 call hs u) 0) := (sqN 1 (by kernel_rfl) (x183 call hs u)).trans (by kernel_rfl)
theorem x185 : x1nx call hs u xhg xc6 eNil = (j1 (xf8 call hs u) 0) := sq2 (by kernel_rfl) (x180 call hs u) (x184 call hs u)
theorem x186 : x1nx call hs u xpf xc6 eNil = (j1 (xju call hs u) 0) := (sqN 1 (by kernel_rfl) (x185 call hs u)).trans (by kernel_rfl)
theorem xws : FL x58 xdd := le1 (fn := Try.f71) (by kernel_rfl) (by kernel_rfl) (by kernel_rfl) (by kernel_rfl) (fun call hs t0 m => (congrFun (x186 call hs m.next) _).trans (by kernel_rfl)) (fun _ _ _ _ _ h => by unfold xdd at h; split at h <;> first | exact ⟨_, rfl⟩ | cases h)
noncomputable abbrev xpj : Fs → O2 := x1ih Try.prog [.tmp 6]
noncomputable abbrev x1y8 := XK call { f := x59, u := u, nt := 22, hs := hs } xpj
noncomputable def x187 := x1ij x59
theorem x188 : x1y8 call hs u x187 xpj eNil = (j3 (xjv call hs u) 0 1 2) := by kernel_rfl
theorem xwt : FL x59 xde := le3 (fn := Try.f72) (by kernel_rfl) (by kernel_rfl) (by kernel_rfl) (by kernel_rfl) (fun call hs t0 t1 t2 m => (congrFun (x188 call hs m.next) _).trans (by kernel_rfl)) (fun _ _ _ _ _ h => by unfold xde at h; split at h <;> first | exact ⟨_, _, _, rfl⟩ | cases h)
noncomputable abbrev xpk : Fs → O2 := x1ih Try.prog [.tmp 4]
noncomputable abbrev x1y9 := XK call { f := x5a, u := u, nt := 9, hs := hs } xpk
noncomputable def x189 := x1ij x5a
theorem x18a : x1y9 call hs u x189 xpk eNil = (j2 (xjw call hs u) 0 1) := by kernel_rfl
theorem xwu : FL x5a xdf := le2 (fn := Try.f73) (by kernel_rfl) (by kernel_rfl) (by kernel_rfl) (by kernel_rfl) (fun call hs t0 t1 m => (congrFun (x18a call hs m.next) _).trans (by kernel_rfl)) (fun _ _ _ _ _ h => by unfold xdf at h; split at h <;> first | exact ⟨_, _, rfl⟩ | cases h)
noncomputable abbrev xpl : Fs → O2 := x1ih Try.prog [.tmp 2]
noncomputable abbrev x1ya := XK call { f := x5b, u := u, nt := 7, hs := hs } xpl
noncomputable def x18b := x1ij x5b
theorem x18c : x1ya call hs u x18b xpl eNil = (j1 (xjx call hs u) 0) := by kernel_rfl
theorem xwv : FL x5b xdg := le1 (fn := Try.f74) (by kernel_rfl) (by kernel_rfl) (by kernel_rfl) (by kernel_rfl) (fun call hs t0 m => (congrFun (x18c call hs m.next) _).trans (by kernel_rfl)) (fun _ _ _ _ _ h => by unfold xdg at h; split at h <;> first | exact ⟨_, rfl⟩ | cases h)
noncomputable abbrev x6g : Fs → O2 := x1ih Try.prog [.tmp 2]
noncomputable abbrev x1ki := XK call { f := x5c, u := u, nt := 36, hs := hs } x6g
noncomputable def xpm := x1ij x5c
noncomputable def xhh := nRs 2 xpm
noncomputable def xpn := nL xhh
noncomputable def xpo := nR xhh
noncomputable def xhi := nR xpo
noncomputable def xpp := nL xhi
noncomputable def x18d := nR xhi
noncomputable def xpq := nR xpp
noncomputable def xpr := nR xpq
noncomputable def x18e := nR xpr
noncomputable def xps := nR xpn
noncomputable def xpt := nR xps
noncomputable def xpu := nR xpt
noncomputable def xhj := nRs 2 xpu
noncomputable def x18f := nL xhj
noncomputable def x18g := nR xhj
theorem x18h : x1ki call hs u x18d x6g eNil = (j1 (x4w call hs u) 6) := by kernel_rfl
theorem x18i (rec0 : AV → AV → AV → AV → Mem → Nat → O2) : x1ki call hs u x18e (j4 rec0 6 25 26 27) (setE 2 (j1 (x4w call hs u) 6) eNil) = (j4 (xjy call hs u rec0) 6 25 26 27) := by kernel_rfl
theorem x18j : x1ki call hs u xpr (j1 (x4w call hs u) 6) (setE 2 (j1 (x4w call hs u) 6) eNil) = (j4 (x5v call hs u NN) 6 25 26 27) := lp (Ln := fun n => j4 (x5v call hs u n) 6 25 26 27) (by kernel_rfl) rfl fun n => (x18i call hs u (x5v call hs u n)).trans (by kernel_rfl)
theorem x18k : x1ki call hs u xpq (j1 (x4w call hs u) 6) eNil = (j4 (x5v call hs u NN) 6 25 26 27) := bk (by kernel_rfl) (x18j call hs u)
theorem x18l : x1ki call hs u xpp (j1 (x4w call hs u) 6) eNil = (j2 (xf9 call hs u) 0 6) := (sqN 1 (by kernel_rfl) (x18k call hs u)).trans (by kernel_rfl)
theorem x18m : x1ki call hs u xhi x6g eNil = (j2 (xf9 call hs u) 0 6) := sq2 (by kernel_rfl) (x18h call hs u) (x18l call hs u)
theorem x18n : x1ki call hs u xpo x6g eNil = (j2 (x22 call hs u) 0 3) := (sqN 1 (by kernel_rfl) (x18m call hs u)).trans (by kernel_rfl)
theorem x18o (rec1 : AV → AV → AV → AV → AV → Mem → Nat → O2) : x1ki call hs u x18g (j5 rec1 0 3 9 10 11) (setE 0 (j2 (x22 call hs u) 0 3) eNil) = (j5 (xfb call hs u rec1) 0 3 9 10 11) := by kernel_rfl
theorem x18p (rec1 : AV → AV → AV → AV → AV → Mem → Nat → O2) : x1ki call hs u x18f (j5 (xfb call hs u rec1) 0 3 9 10 11) (setE 0 (j2 (x22 call hs u) 0 3) eNil) = (j5 (xfc call hs u rec1) 0 3 9 10 11) := by kernel_rfl
theorem x18q (rec1 : AV → AV → AV → AV → AV → Mem → Nat → O2) : x1ki call hs u xhj (j5 rec1 0 3 9 10 11) (setE 0 (j2 (x22 call hs u) 0 3) eNil) = (j5 (xfc call hs u rec1) 0 3 9 10 11) := sq2 (by kernel_rfl) (x18o call hs u rec1) (x18p call hs u rec1)
theorem x18r (rec1 : AV → AV → AV → AV → AV → Mem → Nat → O2) : x1ki call hs u xpu (j5 rec1 0 3 9 10 11) (setE 0 (j2 (x22 call hs u) 0 3) eNil) = (j5 (xjz call hs u rec1) 0 3 9 10 11) := (sqN 2 (by kernel_rfl) (x18q call hs u rec1)).trans (by kernel_rfl)
theorem x18s : x1ki call hs u xpt (j2 (x22 call hs u) 0 3) (setE 0 (j2 (x22 call hs u) 0 3) eNil) = (j5 (x5w call hs u NN) 0 3 9 10 11) := lp (Ln := fun n => j5 (x5w call hs u n) 0 3 9 10 11) (by kernel_rfl) rfl fun n => (x18r call hs u (x5w call hs u n)).trans (by kernel_rfl)
theorem x18t : x1ki call hs u xps (j2 (x22 call hs u) 0 3) eNil = (j5 (x5w call hs u NN) 0 3 9 10 11) := bk (by kernel_rfl) (x18s call hs u)
theorem x18u : x1ki call hs u xpn (j2 (x22 call hs u) 0 3) eNil = (j2 (xfd call hs u) 0 3) := (sqN 1 (by kernel_rfl) (x18t call hs u)).trans (by kernel_rfl)
theorem x18v : x1ki call hs u xhh x6g eNil = (j2 (xfd call hs u) 0 3) := sq2 (by kernel_rfl) (x18n call hs u) (x18u call hs u)
theorem x18w : x1ki call hs u xpm x6g eNil = (j1 (xk0 call hs u) 0) := (sqN 2 (by kernel_rfl) (x18v call hs u)).trans (by kernel_rfl)
theorem xww : FL x5c xdh := le1 (fn := Try.f75) (by kernel_rfl) (by kernel_rfl) (by kernel_rfl) (by kernel_rfl) (fun call hs t0 m => (congrFun (x18w call hs m.next) _).trans (by kernel_rfl)) (fun _ _ _ _ _ h => by unfold xdh at h; split at h <;> first | exact ⟨_, rfl⟩ | cases h)
noncomputable abbrev xpv : Fs → O2 := x1ih Try.prog [.tmp 2]
noncomputable abbrev x1yb := XK call { f := x3d, u := u, nt := 5, hs := hs } xpv
noncomputable def x18x := x1ij x3d
theorem x18y : x1yb call hs u x18x xpv eNil = (j1 (xfe call hs u) 0) := by kernel_rfl
theorem xwx : FL x3d x7i := le1 (fn := Try.f76) (by kernel_rfl) (by kernel_rfl) (by kernel_rfl) (by kernel_rfl) (fun call hs t0 m => (congrFun (x18y call hs m.next) _).trans (by kernel_rfl)) (fun _ _ _ _ _ h => by unfold x7i at h; split at h <;> first | exact ⟨_, rfl⟩ | cases h)
noncomputable abbrev xpw : Fs → O2 := x1ih Try.prog [.cell 8 x9w, .tmp 9]
noncomputable abbrev x1yc := XK call { f := x9c, u := u, nt := 42, hs := hs } xpw
noncomputable def x18z := x1ij x9c
theorem x190 : x1yc call hs u x18z xpw eNil = (j4 (xk1 call hs u) 0 1 2 3) := by kernel_rfl
theorem xwy : FL x9c xdi := le4 (fn := Try.f77) (by kernel_rfl) (by kernel_rfl) (by kernel_rfl) (by kernel_rfl) (fun call hs t0 t1 t2 t3 m => (congrFun (x190 call hs m.next) _).trans (by kernel_rfl)) (fun _ _ _ _ _ h => by unfold xdi at h; split at h <;> first | exact ⟨_, _, _, _, rfl⟩ | cases h)
noncomputable abbrev xpx : Fs → O2 := x1ih Try.prog [.tmp 6]
noncomputable abbrev x1yd := XK call { f := xb, u := u, nt := 15, hs := hs } xpx
noncomputable def x191 := x1ij xb
theorem x192 : x1yd call hs u x191 xpx eNil = (j3 (xff call hs u) 0 1 2) := by kernel_rfl
theorem xv5 : FL xb x6j := le3 (fn := Try.f78) (by kernel_rfl) (by kernel_rfl) (by kernel_rfl) (by kernel_rfl) (fun call hs t0 t1 t2 m => (congrFun (x192 call hs m.next) _).trans (by kernel_rfl)) (fun _ _ _ _ _ h => by unfold x6j at h; split at h <;> first | exact ⟨_, _, _, rfl⟩ | cases h)
noncomputable abbrev xc7 : Fs → O2 := x1ih Try.prog [.tmp 2]
noncomputable abbrev x1ma := XK call { f := x3e, u := u, nt := 53, hs := hs } xc7
noncomputable def xpy := x1ij x3e
noncomputable def xhk := nRs 2 xpy
noncomputable def xpz := nL xhk
noncomputable def x193 := nR xhk
noncomputable def xq0 := nR xpz
noncomputable def xq1 := nR xq0
noncomputable def xq2 := nR xq1
noncomputable def xhl := nRs 2 xq2
noncomputable def x194 := nL xhl
noncomputable def x195 := nR xhl
theorem x196 : x1ma call hs u x193 xc7 eNil = (j2 (x13 call hs u) 1 3) := by kernel_rfl
theorem x197 (rec0 : AV → AV → AV → AV → AV → Mem → Nat → O2) : x1ma call hs u x195 (j5 rec0 1 3 12 13 14) (setE 0 (j2 (x13 call hs u) 1 3) eNil) = (j5 (x5x call hs u rec0) 1 3 12 13 14) := by kernel_rfl
theorem x198 (rec0 : AV → AV → AV → AV → AV → Mem → Nat → O2) : x1ma call hs u x194 (j5 (x5x call hs u rec0) 1 3 12 13 14) (setE 0 (j2 (x13 call hs u) 1 3) eNil) = (j5 (x8f call hs u rec0) 1 3 12 13 14) := by kernel_rfl
theorem x199 (rec0 : AV → AV → AV → AV → AV → Mem → Nat → O2) : x1ma call hs u xhl (j5 rec0 1 3 12 13 14) (setE 0 (j2 (x13 call hs u) 1 3) eNil) = (j5 (x8f call hs u rec0) 1 3 12 13 14) := sq2 (by kernel_rfl) (x197 call hs u rec0) (x198 call hs u rec0)
theorem x19a (rec0 : AV → AV → AV → AV → AV → Mem → Nat → O2) : x1ma call hs u xq2 (j5 rec0 1 3 12 13 14) (setE 0 (j2 (x13 call hs u) 1 3) eNil) = (j5 (x8g call hs u rec0) 1 3 12 13 14) := (sqN 2 (by kernel_rfl) (x199 call hs u rec0)).trans (by kernel_rfl)
theorem x19b : x1ma call hs u xq1 (j2 (x13 call hs u) 1 3) (setE 0 (j2 (x13 call hs u) 1 3) eNil) = (j5 (x1k call hs u NN) 1 3 12 13 14) := lp (Ln := fun n => j5 (x1k call hs u n) 1 3 12 13 14) (by kernel_rfl) rfl fun n => (x19a call hs u (x1k call hs u n)).trans (by kernel_rfl)
theorem x19c : x1ma call hs u xq0 (j2 (x13 call hs u) 1 3) eNil = (j5 (x1k call hs u NN) 1 3 12 13 14) := bk (by kernel_rfl) (x19b call hs u)
theorem x19d : x1ma call hs u xpz (j2 (x13 call hs u) 1 3) eNil = (j2 (xaf call hs u) 1 3) := (sqN 1 (by kernel_rfl) (x19c call hs u)).trans (by kernel_rfl)
theorem x19e : x1ma call hs u xhk xc7 eNil = (j2 (xaf call hs u) 1 3) := sq2 (by kernel_rfl) (x196 call hs u) (x19d call hs u)
theorem x19f : x1ma call hs u xpy xc7 eNil = (j1 (xag call hs u) 0) := (sqN 2 (by kernel_rfl) (x19e call hs u)).trans (by kernel_rfl)
theorem xwz : FL x3e x9d := le1 (fn := Try.f79) (by kernel_rfl) (by kernel_rfl) (by kernel_rfl) (by kernel_rfl) (fun call hs t0 m => (congrFun (x19f call hs m.next) _).trans (by kernel_rfl)) (fun _ _ _ _ _ h => by unfold x9d at h; split at h <;> first | exact ⟨_, rfl⟩ | cases h)
noncomputable abbrev xc8 : Fs → O2 := x1ih Try.prog [.tmp 4]
noncomputable abbrev x1mb := XK call { f := x4i, u := u, nt := 47, hs := hs } xc8
noncomputable def xq3 := x1ij x4i
noncomputable def xhm := nRs 2 xq3
noncomputable def xq4 := nL xhm
noncomputable def x19g := nR xhm
noncomputable def xq5 := nR xq4
noncomputable def xq6 := nR xq5
noncomputable def xq7 := nR xq6
noncomputable def xhn := nRs 2 xq7
noncomputable def x19h := nL xhn
noncomputable def x19i := nR xhn
theorem x19j : x1mb call hs u x19g xc8 eNil = (j1 (x23 call hs u) 5) := by kernel_rfl
theorem x19k (rec0 : AV → AV → AV → AV → AV → Mem → Nat → O2) : x1mb call hs u x19i (j5 rec0 0 1 5 12 13) (setE 0 (j1 (x23 call hs u) 5) eNil) = (j5 (xah call hs u rec0) 0 1 5 12 13) := by kernel_rfl
theorem x19l (rec0 : AV → AV → AV → AV → AV → Mem → Nat → O2) : x1mb call hs u x19h (j5 (xah call hs u rec0) 0 1 5 12 13) (setE 0 (j1 (x23 call hs u) 5) eNil) = (j5 (xfh call hs u rec0) 0 1 5 12 13) := by kernel_rfl
theorem x19m (rec0 : AV → AV → AV → AV → AV → Mem → Nat → O2) : x1mb call hs u xhn (j5 rec0 0 1 5 12 13) (setE 0 (j1 (x23 call hs u) 5) eNil) = (j5 (xfh call hs u rec0) 0 1 5 12 13) := sq2 (by kernel_rfl) (x19k call hs u rec0) (x19l call hs u rec0)
theorem x19n (rec0 : AV → AV → AV → AV → AV → Mem → Nat → O2) : x1mb call hs u xq7 (j5 rec0 0 1 5 12 13) (setE 0 (j1 (x23 call hs u) 5) eNil) = (j5 (xk2 call hs u rec0) 0 1 5 12 13) := (sqN 2 (by kernel_rfl) (x19m call hs u rec0)).trans (by kernel_rfl)
theorem x19o : x1mb call hs u xq6 (j1 (x23 call hs u) 5) (setE 0 (j1 (x23 call hs u) 5) eNil) = (j5 (x5y call hs u NN) 0 1 5 12 13) := lp (Ln := fun n => j5 (x5y call hs u n) 0 1 5 12 13) (by kernel_rfl) rfl fun n => (x19n call hs u (x5y call hs u n)).trans (by kernel_rfl)
theorem x19p : x1mb call hs u xq5 (j1 (x23 call hs u) 5) eNil = (j5 (x5y call hs u NN) 0 1 5 12 13) := bk (by kernel_rfl) (x19o call hs u)
theorem x19q : x1mb call hs u xq4 (j1 (x23 call hs u) 5) eNil = (j3 (xfi call hs u) 0 1 5) := (sqN 1 (by kernel_rfl) (x19p call hs u)).trans (by kernel_rfl)
theorem x19r : x1mb call hs u xhm xc8 eNil = (j3 (xfi call hs u) 0 1 5) := sq2 (by kernel_rfl) (x19j call hs u) (x19q call hs u)
theorem x19s : x1mb call hs u xq3 xc8 eNil = (j2 (xk3 call hs u) 0 1) := (sqN 2 (by kernel_rfl) (x19r call hs u)).trans (by kernel_rfl)
theorem xx0 : FL x4i xdj := le2 (fn := Try.f80) (by kernel_rfl) (by kernel_rfl) (by kernel_rfl) (by kernel_rfl) (fun call hs t0 t1 m => (congrFun (x19s call hs m.next) _).trans (by kernel_rfl)) (fun _ _ _ _ _ h => by unfold xdj at h; split at h <;> first | exact ⟨_, _, rfl⟩ | cases h)
noncomputable abbrev xc9 : Fs → O2 := x1ih Try.prog [.tmp 2]
noncomputable abbrev x1ny := XK call { f := x7j, u := u, nt := 26, hs := hs } xc9
noncomputable def xq8 := x1ij x7j
noncomputable def xho := nRs 3 xq8
noncomputable def xq9 := nL xho
noncomputable def x19t := nR xho
noncomputable def xqa := nR xq9
noncomputable def xqb := nR xqa
noncomputable def x19u := nR xqb
theorem x19v : x1ny call hs u x19t xc9 eNil = (j2 (x4x call hs u) 1 4) := by kernel_rfl
theorem x19w (rec0 : AV → AV → AV → AV → AV → Mem → Nat → O2) : x1ny call hs u x19u (j5 rec0 1 3 4 10 11) (setE 0 (j2 (x4x call hs u) 1 4) eNil) = (j5 (xk4 call hs u rec0) 1 3 4 10 11) := by kernel_rfl
theorem x19x : x1ny call hs u xqb (j2 (x4x call hs u) 1 4) (setE 0 (j2 (x4x call hs u) 1 4) eNil) = (j5 (x60 call hs u NN) 1 3 4 10 11) := lp (Ln := fun n => j5 (x60 call hs u n) 1 3 4 10 11) (by kernel_rfl) rfl fun n => (x19w call hs u (x60 call hs u n)).trans (by kernel_rfl)
theorem x19y : x1ny call hs u xqa (j2 (x4x call hs u) 1 4) eNil = (j5 (x60 call hs u NN) 1 3 4 10 11) := bk (by kernel_rfl) (x19x call hs u)
theorem x19z : x1ny call hs u xq9 (j2 (x4x call hs u) 1 4) eNil = (j3 (xfj call hs u) 1 3 4) := (sqN 1 (by kernel_rfl) (x19y call hs u)).trans (by kernel_rfl)
theorem x1a0 : x1ny call hs u xho xc9 eNil = (j3 (xfj call hs u) 1 3 4) := sq2 (by kernel_rfl) (x19v call hs u) (x19z call hs u)
theorem x1a1 : x1ny call hs u xq8 xc9 eNil = (j1 (xk5 call hs u) 0) := (sqN 3 (by kernel_rfl) (x1a0 call hs u)).trans (by kernel_rfl)
theorem xx1 : FL x7j xdk := le1 (fn := Try.f81) (by kernel_rfl) (by kernel_rfl) (by kernel_rfl) (by kernel_rfl) (fun call hs t0 m => (congrFun (x1a1 call hs m.next) _).trans (by kernel_rfl)) (fun _ _ _ _ _ h => by unfold xdk at h; split at h <;> first | exact ⟨_, rfl⟩ | cases h)
noncomputable abbrev x1q : Fs → O2 := x1ih Try.prog [.tmp 4, .tmp 5]
noncomputable abbrev x1j6 := XK call { f := x3f, u := u, nt := 169, hs := hs } x1q
noncomputable def xqc := x1ij x3f
noncomputable def xhp := nRs 4 xqc
noncomputable def xqd := nL xhp
noncomputable def xhq := nR xhp
noncomputable def xqe := nL xhq
noncomputable def xqf := nR xhq
noncomputable def xhr := nR xqf
noncomputable def xqg := nL xhr
noncomputable def xqh := nR xhr
noncomputable def xqi := nRs 2 xqh
noncomputable def xqj := nR xqi
noncomputable def x1a2 := nR xqj
noncomputable def xqk := nR xqg
noncomputable def xql := nR xqk
noncomputable def x1a3 := nR xql
noncomputable def xqm := nR xqe
noncomputable def xqn := nR xqm
noncomputable def x1a4 := nR xqn
noncomputable def xqo := nR xqd
noncomputable def xqp := nR xqo
noncomputable def xqq := nR xqp
noncomputable def xhs := nR xqq
noncomputable def xqr := nL xhs
noncomputable def x1a5 := nR xhs
noncomputable def xqs := nR xqr
noncomputable def xht := nR xqs
noncomputable def xqt := nL xht
noncomputable def x1a6 := nR xht
noncomputable def xqu := nR xqt
noncomputable def xqv := nR xqu
noncomputable def xqw := nR xqv
noncomputable def xhu := nR xqw
noncomputable def x1a7 := nL xhu
noncomputable def x1a8 := nR xhu
theorem x1a9 (rec0 : AV → AV → AV → AV → AV → AV → Mem → Nat → O2) : x1j6 call hs u x1a2 (j6 rec0 6 8 9 14 16 17) (setE 8 x1q eNil) = (j6 (xai call hs u rec0) 6 8 9 14 16 17) := by kernel_rfl
theorem x1aa : x1j6 call hs u xqj x1q (setE 8 x1q eNil) = (j6 (x2r call hs u NN) 6 8 9 14 16 17) := lp (Ln := fun n => j6 (x2r call hs u n) 6 8 9 14 16 17) (by kernel_rfl) rfl fun n => (x1a9 call hs u (x2r call hs u n)).trans (by kernel_rfl)
theorem x1ab : x1j6 call hs u xqi x1q eNil = (j6 (x2r call hs u NN) 6 8 9 14 16 17) := bk (by kernel_rfl) (x1aa call hs u)
theorem x1ac : x1j6 call hs u xqh x1q eNil = (j5 (x2s call hs u) 1 6 8 9 14) := (sqN 2 (by kernel_rfl) (x1ab call hs u)).trans (by kernel_rfl)
theorem x1ad (rec1 : AV → AV → AV → AV → AV → AV → Mem → Nat → O2) : x1j6 call hs u x1a3 (j6 rec1 1 6 8 9 14 15) (setE 6 (j5 (x2s call hs u) 1 6 8 9 14) eNil) = (j6 (xaj call hs u rec1) 1 6 8 9 14 15) := by kernel_rfl
theorem x1ae : x1j6 call hs u xql (j5 (x2s call hs u) 1 6 8 9 14) (setE 6 (j5 (x2s call hs u) 1 6 8 9 14) eNil) = (j6 (x2t call hs u NN) 1 6 8 9 14 15) := lp (Ln := fun n => j6 (x2t call hs u n) 1 6 8 9 14 15) (by kernel_rfl) rfl fun n => (x1ad call hs u (x2t call hs u n)).trans (by kernel_rfl)
theorem x1af : x1j6 call hs u xqk (j5 (x2s call hs u) 1 6 8 9 14) eNil = (j6 (x2t call hs u NN) 1 6 8 9 14 15) := bk (by kernel_rfl) (x1ae call hs u)
theorem x1ag : x1j6 call hs u xqg (j5 (x2s call hs u) 1 6 8 9 14) eNil = (j5 (xak call hs u) 1 6 8 9 14) := (sqN 1 (by kernel_rfl) (x1af call hs u)).trans (by kernel_rfl)
theorem x1ah : x1j6 call hs u xhr x1q eNil = (j5 (xak call hs u) 1 6 8 9 14) := sq2 (by kernel_rfl) (x1ac call hs u) (x1ag call hs u)
theorem x1ai : x1j6 call hs u xqf x1q eNil = (j4 (x2u call hs u) 1 6 8 9) := (sqN 1 (by kernel_rfl) (x1ah call hs u)).trans (by kernel_rfl)
theorem x1aj (rec2 : AV → AV → AV → AV → AV → AV → Mem → Nat → O2) : x1j6 call hs u x1a4 (j6 rec2 1 2 6 8 9 13) (setE 4 (j4 (x2u call hs u) 1 6 8 9) eNil) = (j6 (xal call hs u rec2) 1 2 6 8 9 13) := by kernel_rfl
theorem x1ak : x1j6 call hs u xqn (j4 (x2u call hs u) 1 6 8 9) (setE 4 (j4 (x2u call hs u) 1 6 8 9) eNil) = (j6 (x2v call hs u NN) 1 2 6 8 9 13) := lp (Ln := fun n => j6 (x2v call hs u n) 1 2 6 8 9 13) (by kernel_rfl) rfl fun n => (x1aj call hs u (x2v call hs u n)).trans (by kernel_rfl)
theorem x1al : x1j6 call hs u xqm (j4 (x2u call hs u) 1 6 8 9) eNil = (j6 (x2v call hs u NN) 1 2 6 8 9 13) := bk (by kernel_rfl) (x1ak call hs u)
theorem x1am : x1j6 call hs u xqe (j4 (x2u call hs u) 1 6 8 9) eNil = (j5 (x6 call hs u) 1 2 6 8 9) := (sqN 1 (by kernel_rfl) (x1al call hs u)).trans (by kernel_rfl)
theorem x1an : x1j6 call hs u xhq x1q eNil = (j5 (x6 call hs u) 1 2 6 8 9) := sq2 (by kernel_rfl) (x1ai call hs u) (x1am call hs u)
theorem x1ao (rec3 : AV → AV → AV → AV → AV → AV → AV → Mem → Nat → O2) : x1j6 call hs u x1a5 (j7 rec3 1 2 6 7 8 9 10) (setE 0 (j5 (x6 call hs u) 1 2 6 8 9) eNil) = (j7 (xg call hs u rec3) 1 2 6 7 8 9 10) := by kernel_rfl
theorem x1ap (rec3 : AV → AV → AV → AV → AV → AV → AV → Mem → Nat → O2) : x1j6 call hs u x1a6 (j7 (xg call hs u rec3) 1 2 6 7 8 9 10) (setE 1 (j7 (xg call hs u rec3) 1 2 6 7 8 9 10) (setE 0 (j5 (x6 call hs u) 1 2 6 8 9) eNil)) = (j7 (xx call hs u rec3) 1 2 6 7 8 9 10) := by kernel_rfl
theorem x1aq (rec3 : AV → AV → AV → AV → AV → AV → AV → Mem → Nat → O2) (rec4 : AV → AV → AV → AV → AV → AV → AV → AV → Mem → Nat → O2) : x1j6 call hs u x1a8 (j8 rec4 1 2 6 7 8 9 10 11) (setE 2 (j7 (xx call hs u rec3) 1 2 6 7 8 9 10) (setE 1 (j7 (xg call hs u rec3) 1 2 6 7 8 9 10) (setE 0 (j5 (x6 call hs u) 1 2 6 8 9) eNil))) = (j8 (x61 call hs u rec3 rec4) 1 2 6 7 8 9 10 11) := by kernel_rfl
theorem x1ar (rec3 : AV → AV → AV → AV → AV → AV → AV → Mem → Nat → O2) (rec4 : AV → AV → AV → AV → AV → AV → AV → AV → Mem → Nat → O2) : x1j6 call hs u x1a7 (j8 (x61 call hs u rec3 rec4) 1 2 6 7 8 9 10 11) (setE 2 (j7 (xx call hs u rec3) 1 2 6 7 8 9 10) (setE 1 (j7 (xg call hs u rec3) 1 2 6 7 8 9 10) (setE 0 (j5 (x6 call hs u) 1 2 6 8 9) eNil))) = (j8 (x8h call hs u rec3 rec4) 1 2 6 7 8 9 10 11) := by kernel_rfl
theorem x1as (rec3 : AV → AV → AV → AV → AV → AV → AV → Mem → Nat → O2) (rec4 : AV → AV → AV → AV → AV → AV → AV → AV → Mem → Nat → O2) : x1j6 call hs u xhu (j8 rec4 1 2 6 7 8 9 10 11) (setE 2 (j7 (xx call hs u rec3) 1 2 6 7 8 9 10) (setE 1 (j7 (xg call hs u rec3) 1 2 6 7 8 9 10) (setE 0 (j5 (x6 call hs u) 1 2 6 8 9) eNil))) = (j8 (x8h call hs u rec3 rec4) 1 2 6 7 8 9 10 11) := sq2 (by kernel_rfl) (x1aq call hs u rec3 rec4) (x1ar call hs u rec3 rec4)
theorem x1at (rec3 : AV → AV → AV → AV → AV → AV → AV → Mem → Nat → O2) (rec4 : AV → AV → AV → AV → AV → AV → AV → AV → Mem → Nat → O2) : x1j6 call hs u xqw (j8 rec4 1 2 6 7 8 9 10 11) (setE 2 (j7 (xx call hs u rec3) 1 2 6 7 8 9 10) (setE 1 (j7 (xg call hs u rec3) 1 2 6 7 8 9 10) (setE 0 (j5 (x6 call hs u) 1 2 6 8 9) eNil))) = (j8 (x8i call hs u rec3 rec4) 1 2 6 7 8 9 10 11) := (sqN 1 (by kernel_rfl) (x1as call hs u rec3 rec4)).trans (by kernel_rfl)
theorem x1au (rec3 : AV → AV → AV → AV → AV → AV → AV → Mem → Nat → O2) : x1j6 call hs u xqv (j7 (xx call hs u rec3) 1 2 6 7 8 9 10) (setE 2 (j7 (xx call hs u rec3) 1 2 6 7 8 9 10) (setE 1 (j7 (xg call hs u rec3) 1 2 6 7 8 9 10) (setE 0 (j5 (x6 call hs u) 1 2 6 8 9) eNil))) = (j8 (x24 call hs u rec3 NN) 1 2 6 7 8 9 10 11) := lp (Ln := fun n => j8 (x24 call hs u rec3 n) 1 2 6 7 8 9 10 11) (by kernel_rfl) rfl fun n => (x1at call hs u rec3 (x24 call hs u rec3 n)).trans (by kernel_rfl)
theorem x1av (rec3 : AV → AV → AV → AV → AV → AV → AV → Mem → Nat → O2) : x1j6 call hs u xqu (j7 (xx call hs u rec3) 1 2 6 7 8 9 10) (setE 1 (j7 (xg call hs u rec3) 1 2 6 7 8 9 10) (setE 0 (j5 (x6 call hs u) 1 2 6 8 9) eNil)) = (j8 (x24 call hs u rec3 NN) 1 2 6 7 8 9 10 11) := bk (by kernel_rfl) (x1au call hs u rec3)
theorem x1aw (rec3 : AV → AV → AV → AV → AV → AV → AV → Mem → Nat → O2) : x1j6 call hs u xqt (j7 (xx call hs u rec3) 1 2 6 7 8 9 10) (setE 1 (j7 (xg call hs u rec3) 1 2 6 7 8 9 10) (setE 0 (j5 (x6 call hs u) 1 2 6 8 9) eNil)) = (j7 (xam call hs u rec3) 1 2 6 7 8 9 10) := (sqN 1 (by kernel_rfl) (x1av call hs u rec3)).trans (by kernel_rfl)
theorem x1ax (rec3 : AV → AV → AV → AV → AV → AV → AV → Mem → Nat → O2) : x1j6 call hs u xht (j7 (xg call hs u rec3) 1 2 6 7 8 9 10) (setE 1 (j7 (xg call hs u rec3) 1 2 6 7 8 9 10) (setE 0 (j5 (x6 call hs u) 1 2 6 8 9) eNil)) = (j7 (xam call hs u rec3) 1 2 6 7 8 9 10) := sq2 (by kernel_rfl) (x1ap call hs u rec3) (x1aw call hs u rec3)
theorem x1ay (rec3 : AV → AV → AV → AV → AV → AV → AV → Mem → Nat → O2) : x1j6 call hs u xqs (j7 (xg call hs u rec3) 1 2 6 7 8 9 10) (setE 1 (j7 (xg call hs u rec3) 1 2 6 7 8 9 10) (setE 0 (j5 (x6 call hs u) 1 2 6 8 9) eNil)) = (j6 (x8j call hs u rec3) 1 2 6 7 8 10) := (sqN 1 (by kernel_rfl) (x1ax call hs u rec3)).trans (by kernel_rfl)
theorem x1az (rec3 : AV → AV → AV → AV → AV → AV → AV → Mem → Nat → O2) : x1j6 call hs u xqr (j7 (xg call hs u rec3) 1 2 6 7 8 9 10) (setE 0 (j5 (x6 call hs u) 1 2 6 8 9) eNil) = (j6 (x8j call hs u rec3) 1 2 6 7 8 10) := bk (by kernel_rfl) (x1ay call hs u rec3)
theorem x1b0 (rec3 : AV → AV → AV → AV → AV → AV → AV → Mem → Nat → O2) : x1j6 call hs u xhs (j7 rec3 1 2 6 7 8 9 10) (setE 0 (j5 (x6 call hs u) 1 2 6 8 9) eNil) = (j6 (x8j call hs u rec3) 1 2 6 7 8 10) := sq2 (by kernel_rfl) (x1ao call hs u rec3) (x1az call hs u rec3)
theorem x1b1 (rec3 : AV → AV → AV → AV → AV → AV → AV → Mem → Nat → O2) : x1j6 call hs u xqq (j7 rec3 1 2 6 7 8 9 10) (setE 0 (j5 (x6 call hs u) 1 2 6 8 9) eNil) = (j7 (x8k call hs u rec3) 1 2 6 7 8 9 10) := (sqN 1 (by kernel_rfl) (x1b0 call hs u rec3)).trans (by kernel_rfl)
theorem x1b2 : x1j6 call hs u xqp (j5 (x6 call hs u) 1 2 6 8 9) (setE 0 (j5 (x6 call hs u) 1 2 6 8 9) eNil) = (j7 (xm call hs u NN) 1 2 6 7 8 9 10) := lp (Ln := fun n => j7 (xm call hs u n) 1 2 6 7 8 9 10) (by kernel_rfl) rfl fun n => (x1b1 call hs u (xm call hs u n)).trans (by kernel_rfl)
theorem x1b3 : x1j6 call hs u xqo (j5 (x6 call hs u) 1 2 6 8 9) eNil = (j7 (xm call hs u NN) 1 2 6 7 8 9 10) := bk (by kernel_rfl) (x1b2 call hs u)
theorem x1b4 : x1j6 call hs u xqd (j5 (x6 call hs u) 1 2 6 8 9) eNil = (j6 (xan call hs u) 1 2 6 7 8 9) := (sqN 1 (by kernel_rfl) (x1b3 call hs u)).trans (by kernel_rfl)
theorem x1b5 : x1j6 call hs u xhp x1q eNil = (j6 (xan call hs u) 1 2 6 7 8 9) := sq2 (by kernel_rfl) (x1an call hs u) (x1b4 call hs u)
theorem x1b6 : x1j6 call hs u xqc x1q eNil = (j2 (xfk call hs u) 0 1) := (sqN 4 (by kernel_rfl) (x1b5 call hs u)).trans (by kernel_rfl)
theorem xx2 : FL x3f x7k := le2 (fn := Try.f83) (by kernel_rfl) (by kernel_rfl) (by kernel_rfl) (by kernel_rfl) (fun call hs t0 t1 m => (congrFun (x1b6 call hs m.next) _).trans (by kernel_rfl)) (fun _ _ _ _ _ h => by unfold x7k at h; split at h <;> first | exact ⟨_, _, rfl⟩ | cases h)
noncomputable abbrev xqx : Fs → O2 := x1ih Try.prog [.tmp 4]
noncomputable abbrev x1ye := XK call { f := x4j, u := u, nt := 9, hs := hs } xqx
noncomputable def x1b7 := x1ij x4j
theorem x1b8 : x1ye call hs u x1b7 xqx eNil = (j2 (xk7 call hs u) 0 1) := by kernel_rfl
theorem xx3 : FL x4j xdl := le2 (fn := Try.f84) (by kernel_rfl) (by kernel_rfl) (by kernel_rfl) (by kernel_rfl) (fun call hs t0 t1 m => (congrFun (x1b8 call hs m.next) _).trans (by kernel_rfl)) (fun _ _ _ _ _ h => by unfold xdl at h; split at h <;> first | exact ⟨_, _, rfl⟩ | cases h)
noncomputable abbrev xqy : Fs → O2 := x1ih Try.prog [.tmp 2]
noncomputable abbrev x1yf := XK call { f := x7l, u := u, nt := 6, hs := hs } xqy
noncomputable def x1b9 := x1ij x7l
theorem x1ba : x1yf call hs u x1b9 xqy eNil = (j1 (xk8 call hs u) 0) := by kernel_rfl
theorem xx4 : FL x7l xdm := le1 (fn := Try.f85) (by kernel_rfl) (by kernel_rfl) (by kernel_rfl) (by kernel_rfl) (fun call hs t0 m => (congrFun (x1ba call hs m.next) _).trans (by kernel_rfl)) (fun _ _ _ _ _ h => by unfold xdm at h; split at h <;> first | exact ⟨_, rfl⟩ | cases h)
noncomputable abbrev xqz : Fs → O2 := x1ih Try.prog [.tmp 2]
noncomputable abbrev x1yg := XK call { f := x7m, u := u, nt := 8, hs := hs } xqz
noncomputable def x1bb := x1ij x7m
theorem x1bc : x1yg call hs u x1bb xqz eNil = (j1 (xk9 call hs u) 0) := by kernel_rfl
theorem xx5 : FL x7m xdn := le1 (fn := Try.f86) (by kernel_rfl) (by kernel_rfl) (by kernel_rfl) (by kernel_rfl) (fun call hs t0 m => (congrFun (x1bc call hs m.next) _).trans (by kernel_rfl)) (fun _ _ _ _ _ h => by unfold xdn at h; split at h <;> first | exact ⟨_, rfl⟩ | cases h)
noncomputable abbrev xr0 : Fs → O2 := x1ih Try.prog [.tmp 2]
noncomputable abbrev x1yh := XK call { f := x2c, u := u, nt := 5, hs := hs } xr0
noncomputable def x1bd := x1ij x2c
theorem x1be : x1yh call hs u x1bd xr0 eNil = (j1 (xka call hs u) 0) := by kernel_rfl
theorem xvd : FL x2c xcn := le1 (fn := Try.f87) (by kernel_rfl) (by kernel_rfl) (by kernel_rfl) (by kernel_rfl) (fun call hs t0 m => (congrFun (x1be call hs m.next) _).trans (by kernel_rfl)) (fun _ _ _ _ _ h => by unfold xcn at h; split at h <;> first | exact ⟨_, rfl⟩ | cases h)
noncomputable abbrev xca : Fs → O2 := x1ih Try.prog [.tmp 4, .tmp 5]
noncomputable abbrev x1nz := XK call { f := x7n, u := u, nt := 76, hs := hs } xca
noncomputable def xr1 := x1ij x7n
noncomputable def xhv := nRs 3 xr1
noncomputable def xr2 := nL xhv
noncomputable def x1bf := nR xhv
noncomputable def xr3 := nR xr2
noncomputable def xr4 := nR xr3
noncomputable def x1bg := nR xr4
theorem x1bh : x1nz call hs u x1bf xca eNil = (j2 (x4y call hs u) 6 7) := by kernel_rfl
theorem x1bi (rec0 : AV → AV → AV → AV → AV → AV → Mem → Nat → O2) : x1nz call hs u x1bg (j6 rec0 1 6 7 23 24 25) (setE 0 (j2 (x4y call hs u) 6 7) eNil) = (j6 (xkb call hs u rec0) 1 6 7 23 24 25) := by kernel_rfl
theorem x1bj : x1nz call hs u xr4 (j2 (x4y call hs u) 6 7) (setE 0 (j2 (x4y call hs u) 6 7) eNil) = (j6 (x62 call hs u NN) 1 6 7 23 24 25) := lp (Ln := fun n => j6 (x62 call hs u n) 1 6 7 23 24 25) (by kernel_rfl) rfl fun n => (x1bi call hs u (x62 call hs u n)).trans (by kernel_rfl)
theorem x1bk : x1nz call hs u xr3 (j2 (x4y call hs u) 6 7) eNil = (j6 (x62 call hs u NN) 1 6 7 23 24 25) := bk (by kernel_rfl) (x1bj call hs u)
theorem x1bl : x1nz call hs u xr2 (j2 (x4y call hs u) 6 7) eNil = (j4 (xfl call hs u) 1 2 6 7) := (sqN 1 (by kernel_rfl) (x1bk call hs u)).trans (by kernel_rfl)
theorem x1bm : x1nz call hs u xhv xca eNil = (j4 (xfl call hs u) 1 2 6 7) := sq2 (by kernel_rfl) (x1bh call hs u) (x1bl call hs u)
theorem x1bn : x1nz call hs u xr1 xca eNil = (j2 (xkc call hs u) 0 1) := (sqN 3 (by kernel_rfl) (x1bm call hs u)).trans (by kernel_rfl)
theorem xx6 : FL x7n xdo := le2 (fn := Try.f88) (by kernel_rfl) (by kernel_rfl) (by kernel_rfl) (by kernel_rfl) (fun call hs t0 t1 m => (congrFun (x1bn call hs m.next) _).trans (by kernel_rfl)) (fun _ _ _ _ _ h => by unfold xdo at h; split at h <;> first | exact ⟨_, _, rfl⟩ | cases h)
noncomputable abbrev xr5 : Fs → O2 := x1ih Try.prog [.tmp 4]
noncomputable abbrev x1yi := XK call { f := x7o, u := u, nt := 20, hs := hs } xr5
noncomputable def x1bo := x1ij x7o
theorem x1bp : x1yi call hs u x1bo xr5 eNil = (j2 (xkd call hs u) 0 1) := by kernel_rfl
theorem xx7 : FL x7o xdp := le2 (fn := Try.f89) (by kernel_rfl) (by kernel_rfl) (by kernel_rfl) (by kernel_rfl) (fun call hs t0 t1 m => (congrFun (x1bp call hs m.next) _).trans (by kernel_rfl)) (fun _ _ _ _ _ h => by unfold xdp at h; split at h <;> first | exact ⟨_, _, rfl⟩ | cases h)
noncomputable abbrev xr6 : Fs → O2 := x1ih Try.prog [.tmp 6]
noncomputable abbrev x1yj := XK call { f := x7p, u := u, nt := 38, hs := hs } xr6
noncomputable def x1bq := x1ij x7p
theorem x1br : x1yj call hs u x1bq xr6 eNil = (j3 (xke call hs u) 0 1 2) := by kernel_rfl
theorem xx8 : FL x7p xdq := le3 (fn := Try.f90) (by kernel_rfl) (by kernel_rfl) (by kernel_rfl) (by kernel_rfl) (fun call hs t0 t1 t2 m => (congrFun (x1br call hs m.next) _).trans (by kernel_rfl)) (fun _ _ _ _ _ h => by unfold xdq at h; split at h <;> first | exact ⟨_, _, _, rfl⟩ | cases h)
noncomputable abbrev xcb : Fs → O2 := x1ih Try.prog [.tmp 2]
noncomputable abbrev x1qt := XK call { f := x48, u := u, nt := 12, hs := hs } xcb
noncomputable def xr7 := x1ij x48
noncomputable def xhw := nRs 2 xr7
noncomputable def x1bs := nL xhw
noncomputable def x1bt := nR xhw
theorem x1bu : x1qt call hs u x1bt xcb eNil = (j1 (xao call hs u) 0) := by kernel_rfl
theorem x1bv : x1qt call hs u x1bs (j1 (xao call hs u) 0) eNil = (j1 (xfm call hs u) 0) := by kernel_rfl
theorem x1bw : x1qt call hs u xhw xcb eNil = (j1 (xfm call hs u) 0) := sq2 (by kernel_rfl) (x1bu call hs u) (x1bv call hs u)
theorem x1bx : x1qt call hs u xr7 xcb eNil = (j1 (xkf call hs u) 0) := (sqN 2 (by kernel_rfl) (x1bw call hs u)).trans (by kernel_rfl)
theorem xvc : FL x48 xcm := le1 (fn := Try.f91) (by kernel_rfl) (by kernel_rfl) (by kernel_rfl) (by kernel_rfl) (fun call hs t0 m => (congrFun (x1bx call hs m.next) _).trans (by kernel_rfl)) (fun _ _ _ _ _ h => by unfold xcm at h; split at h <;> first | exact ⟨_, rfl⟩ | cases h)
noncomputable abbrev xr8 : Fs → O2 := x1ih Try.prog [.tmp 6]
noncomputable abbrev x1yk := XK call { f := x7q, u := u, nt := 29, hs := hs } xr8
noncomputable def x1by := x1ij x7q
theorem x1bz : x1yk call hs u x1by xr8 eNil = (j3 (xkg call hs u) 0 1 2) := by kernel_rfl
theorem xx9 : FL x7q xdr := le3 (fn := Try.f92) (by kernel_rfl) (by kernel_rfl) (by kernel_rfl) (by kernel_rfl) (fun call hs t0 t1 t2 m => (congrFun (x1bz call hs m.next) _).trans (by kernel_rfl)) (fun _ _ _ _ _ h => by unfold xdr at h; split at h <;> first | exact ⟨_, _, _, rfl⟩ | cases h)
noncomputable abbrev xr9 : Fs → O2 := x1ih Try.prog [.tmp 6]
noncomputable abbrev x1yl := XK call { f := x5d, u := u, nt := 27, hs := hs } xr9
noncomputable def x1c0 := x1ij x5d
theorem x1c1 : x1yl call hs u x1c0 xr9 eNil = (j3 (xkh call hs u) 0 1 2) := by kernel_rfl
theorem xxa : FL x5d xds := le3 (fn := Try.f93) (by kernel_rfl) (by kernel_rfl) (by kernel_rfl) (by kernel_rfl) (fun call hs t0 t1 t2 m => (congrFun (x1c1 call hs m.next) _).trans (by kernel_rfl)) (fun _ _ _ _ _ h => by unfold xds at h; split at h <;> first | exact ⟨_, _, _, rfl⟩ | cases h)
noncomputable abbrev xcc : Fs → O2 := x1ih Try.prog [.tmp 4]
noncomputable abbrev x1mc := XK call { f := x7r, u := u, nt := 29, hs := hs } xcc
noncomputable def xra := x1ij x7r
noncomputable def xhx := nRs 2 xra
noncomputable def xrb := nL xhx
noncomputable def x1c2 := nR xhx
noncomputable def xrc := nR xrb
noncomputable def xrd := nR xrc
noncomputable def xre := nR xrd
noncomputable def xhy := nRs 2 xre
noncomputable def x1c3 := nL xhy
noncomputable def x1c4 := nR xhy
theorem x1c5 : x1mc call hs u x1c2 xcc eNil = (j1 (x25 call hs u) 5) := by kernel_rfl
theorem x1c6 (rec0 : AV → AV → AV → AV → AV → Mem → Nat → O2) : x1mc call hs u x1c4 (j5 rec0 1 5 10 11 12) (setE 0 (j1 (x25 call hs u) 5) eNil) = (j5 (xap call hs u rec0) 1 5 10 11 12) := by kernel_rfl
theorem x1c7 (rec0 : AV → AV → AV → AV → AV → Mem → Nat → O2) : x1mc call hs u x1c3 (j5 (xap call hs u rec0) 1 5 10 11 12) (setE 0 (j1 (x25 call hs u) 5) eNil) = (j5 (xfn call hs u rec0) 1 5 10 11 12) := by kernel_rfl
theorem x1c8 (rec0 : AV → AV → AV → AV → AV → Mem → Nat → O2) : x1mc call hs u xhy (j5 rec0 1 5 10 11 12) (setE 0 (j1 (x25 call hs u) 5) eNil) = (j5 (xfn call hs u rec0) 1 5 10 11 12) := sq2 (by kernel_rfl) (x1c6 call hs u rec0) (x1c7 call hs u rec0)
theorem x1c9 (rec0 : AV → AV → AV → AV → AV → Mem → Nat → O2) : x1mc call hs u xre (j5 rec0 1 5 10 11 12) (setE 0 (j1 (x25 call hs u) 5) eNil) = (j5 (xki call hs u rec0) 1 5 10 11 12) := (sqN 2 (by kernel_rfl) (x1c8 call hs u rec0)).trans (by kernel_rfl)
theorem x1ca : x1mc call hs u xrd (j1 (x25 call hs u) 5) (setE 0 (j1 (x25 call hs u) 5) eNil) = (j5 (x63 call hs u NN) 1 5 10 11 12) := lp (Ln := fun n => j5 (x63 call hs u n) 1 5 10 11 12) (by kernel_rfl) rfl fun n => (x1c9 call hs u (x63 call hs u n)).trans (by kernel_rfl)
theorem x1cb : x1mc call hs u xrc (j1 (x25 call hs u) 5) eNil = (j5 (x63 call hs u NN) 1 5 10 11 12) := bk (by kernel_rfl) (x1ca call hs u)
theorem x1cc : x1mc call hs u xrb (j1 (x25 call hs u) 5) eNil = (j3 (xfo call hs u) 1 2 5) := (sqN 1 (by kernel_rfl) (x1cb call hs u)).trans (by kernel_rfl)
theorem x1cd : x1mc call hs u xhx xcc eNil = (j3 (xfo call hs u) 1 2 5) := sq2 (by kernel_rfl) (x1c5 call hs u) (x1cc call hs u)
theorem x1ce : x1mc call hs u xra xcc eNil = (j2 (xkj call hs u) 0 1) := (sqN 2 (by kernel_rfl) (x1cd call hs u)).trans (by kernel_rfl)
theorem xxb : FL x7r xdt := le2 (fn := Try.f95) (by kernel_rfl) (by kernel_rfl) (by kernel_rfl) (by kernel_rfl) (fun call hs t0 t1 m => (congrFun (x1ce call hs m.next) _).trans (by kernel_rfl)) (fun _ _ _ _ _ h => by unfold xdt at h; split at h <;> first | exact ⟨_, _, rfl⟩ | cases h)
noncomputable abbrev xrf : Fs → O2 := x1ih Try.prog [.tmp 4]
noncomputable abbrev x1ym := XK call { f := x49, u := u, nt := 19, hs := hs } xrf
noncomputable def x1cf := x1ij x49
theorem x1cg : x1ym call hs u x1cf xrf eNil = (j2 (xfp call hs u) 0 1) := by kernel_rfl
theorem xve : FL x49 x6o := le2 (fn := Try.f97) (by kernel_rfl) (by kernel_rfl) (by kernel_rfl) (by kernel_rfl) (fun call hs t0 t1 m => (congrFun (x1cg call hs m.next) _).trans (by kernel_rfl)) (fun _ _ _ _ _ h => by unfold x6o at h; split at h <;> first | exact ⟨_, _, rfl⟩ | cases h)
noncomputable abbrev xcd : Fs → O2 := x1ih Try.prog [.tmp 4]
noncomputable abbrev x1qu := XK call { f := x7s, u := u, nt := 14, hs := hs } xcd
noncomputable def xrg := x1ij x7s
noncomputable def xhz := nRs 2 xrg
noncomputable def x1ch := nL xhz
noncomputable def x1ci := nR xhz
theorem x1cj : x1qu call hs u x1ci xcd eNil = (j1 (xaq call hs u) 0) := by kernel_rfl
theorem x1ck : x1qu call hs u x1ch (j1 (xaq call hs u) 0) eNil = (j2 (xfq call hs u) 0 1) := by kernel_rfl
theorem x1cl : x1qu call hs u xhz xcd eNil = (j2 (xfq call hs u) 0 1) := sq2 (by kernel_rfl) (x1cj call hs u) (x1ck call hs u)
theorem x1cm : x1qu call hs u xrg xcd eNil = (j2 (xkk call hs u) 0 1) := (sqN 2 (by kernel_rfl) (x1cl call hs u)).trans (by kernel_rfl)
theorem xxc : FL x7s xdu := le2 (fn := Try.f99) (by kernel_rfl) (by kernel_rfl) (by kernel_rfl) (by kernel_rfl) (fun call hs t0 t1 m => (congrFun (x1cm call hs m.next) _).trans (by kernel_rfl)) (fun _ _ _ _ _ h => by unfold xdu at h; split at h <;> first | exact ⟨_, _, rfl⟩ | cases h)
noncomputable abbrev xrh : Fs → O2 := x1ih Try.prog [.tmp 4]
noncomputable abbrev x1yn := XK call { f := x4k, u := u, nt := 19, hs := hs } xrh
noncomputable def x1cn := x1ij x4k
theorem x1co : x1yn call hs u x1cn xrh eNil = (j2 (xfr call hs u) 0 1) := by kernel_rfl
theorem xxd : FL x4k x7t := le2 (fn := Try.f100) (by kernel_rfl) (by kernel_rfl) (by kernel_rfl) (by kernel_rfl) (fun call hs t0 t1 m => (congrFun (x1co call hs m.next) _).trans (by kernel_rfl)) (fun _ _ _ _ _ h => by unfold x7t at h; split at h <;> first | exact ⟨_, _, rfl⟩ | cases h)
noncomputable abbrev xri : Fs → O2 := x1ih Try.prog [.tmp 3]
noncomputable abbrev x1yo := XK call { f := x7u, u := u, nt := 15, hs := hs } xri
noncomputable def x1cp := x1ij x7u
theorem x1cq : x1yo call hs u x1cp xri eNil = (j2 (xkl call hs u) 0 1) := by kernel_rfl
theorem xxe : FL x7u xdv := le2 (fn := Try.f101) (by kernel_rfl) (by kernel_rfl) (by kernel_rfl) (by kernel_rfl) (fun call hs t0 t1 m => (congrFun (x1cq call hs m.next) _).trans (by kernel_rfl)) (fun _ _ _ _ _ h => by unfold xdv at h; split at h <;> first | exact ⟨_, _, rfl⟩ | cases h)
noncomputable abbrev xce : Fs → O2 := x1ih Try.prog [.tmp 2, .tmp 3]
noncomputable abbrev x1o0 := XK call { f := x3g, u := u, nt := 62, hs := hs } xce
noncomputable def xrj := x1ij x3g
noncomputable def xi0 := nRs 2 xrj
noncomputable def xrk := nL xi0
noncomputable def x1cr := nR xi0
noncomputable def xrl := nR xrk
noncomputable def xrm := nR xrl
noncomputable def x1cs := nR xrm
theorem x1ct : x1o0 call hs u x1cr xce eNil = (j0 (x40 call hs u)) := by kernel_rfl
theorem x1cu (rec0 : AV → AV → AV → AV → Mem → Nat → O2) : x1o0 call hs u x1cs (j4 rec0 1 17 18 19) (setE 1 (j0 (x40 call hs u)) eNil) = (j4 (xar call hs u rec0) 1 17 18 19) := by kernel_rfl
theorem x1cv : x1o0 call hs u xrm (j0 (x40 call hs u)) (setE 1 (j0 (x40 call hs u)) eNil) = (j4 (x2w call hs u NN) 1 17 18 19) := lp (Ln := fun n => j4 (x2w call hs u n) 1 17 18 19) (by kernel_rfl) rfl fun n => (x1cu call hs u (x2w call hs u n)).trans (by kernel_rfl)
theorem x1cw : x1o0 call hs u xrl (j0 (x40 call hs u)) eNil = (j4 (x2w call hs u NN) 1 17 18 19) := bk (by kernel_rfl) (x1cv call hs u)
theorem x1cx : x1o0 call hs u xrk (j0 (x40 call hs u)) eNil = (j1 (xas call hs u) 1) := (sqN 1 (by kernel_rfl) (x1cw call hs u)).trans (by kernel_rfl)
theorem x1cy : x1o0 call hs u xi0 xce eNil = (j1 (xas call hs u) 1) := sq2 (by kernel_rfl) (x1ct call hs u) (x1cx call hs u)
theorem x1cz : x1o0 call hs u xrj xce eNil = (j1 (xfs call hs u) 0) := (sqN 2 (by kernel_rfl) (x1cy call hs u)).trans (by kernel_rfl)
theorem xxf : FL x3g x7v := le1 (fn := Try.f102) (by kernel_rfl) (by kernel_rfl) (by kernel_rfl) (by kernel_rfl) (fun call hs t0 m => (congrFun (x1cz call hs m.next) _).trans (by kernel_rfl)) (fun _ _ _ _ _ h => by unfold x7v at h; split at h <;> first | exact ⟨_, rfl⟩ | cases h)
noncomputable abbrev xcf : Fs → O2 := x1ih Try.prog [.tmp 2]
noncomputable abbrev x1kw := XK call { f := x3h, u := u, nt := 132, hs := hs } xcf
noncomputable def xrn := x1ij x3h
noncomputable def xi1 := nRs 2 xrn
noncomputable def xro := nL xi1
noncomputable def x1d0 := nR xi1
noncomputable def xrp := nR xro
noncomputable def xrq := nR xrp
noncomputable def xrr := nR xrq
noncomputable def xi2 := nRs 2 xrr
noncomputable def xrs := nL xi2
noncomputable def x1d1 := nR xi2
noncomputable def xrt := nR xrs
noncomputable def xi3 := nR xrt
noncomputable def x1d2 := nL xi3
noncomputable def x1d3 := nR xi3
theorem x1d4 : x1kw call hs u x1d0 xcf eNil = (j1 (xo call hs u) 3) := by kernel_rfl
theorem x1d5 (rec0 : AV → AV → AV → AV → Mem → Nat → O2) : x1kw call hs u x1d1 (j4 rec0 3 28 29 30) (setE 0 (j1 (xo call hs u) 3) eNil) = (j4 (x1l call hs u rec0) 3 28 29 30) := by kernel_rfl
theorem x1d6 (rec0 : AV → AV → AV → AV → Mem → Nat → O2) : x1kw call hs u x1d3 (j4 (x1l call hs u rec0) 3 28 29 30) (setE 1 (j4 (x1l call hs u rec0) 3 28 29 30) (setE 0 (j1 (xo call hs u) 3) eNil)) = (j6 (x41 call hs u rec0) 3 4 5 28 29 30) := by kernel_rfl
theorem x1d7 (rec0 : AV → AV → AV → AV → Mem → Nat → O2) : x1kw call hs u x1d2 (j6 (x41 call hs u rec0) 3 4 5 28 29 30) (setE 1 (j4 (x1l call hs u rec0) 3 28 29 30) (setE 0 (j1 (xo call hs u) 3) eNil)) = (j6 (xat call hs u rec0) 3 4 5 28 29 30) := by kernel_rfl
theorem x1d8 (rec0 : AV → AV → AV → AV → Mem → Nat → O2) : x1kw call hs u xi3 (j4 (x1l call hs u rec0) 3 28 29 30) (setE 1 (j4 (x1l call hs u rec0) 3 28 29 30) (setE 0 (j1 (xo call hs u) 3) eNil)) = (j6 (xat call hs u rec0) 3 4 5 28 29 30) := sq2 (by kernel_rfl) (x1d6 call hs u rec0) (x1d7 call hs u rec0)
theorem x1d9 (rec0 : AV → AV → AV → AV → Mem → Nat → O2) : x1kw call hs u xrt (j4 (x1l call hs u rec0) 3 28 29 30) (setE 1 (j4 (x1l call hs u rec0) 3 28 29 30) (setE 0 (j1 (xo call hs u) 3) eNil)) = (j4 (x8l call hs u rec0) 3 28 29 30) := (sqN 1 (by kernel_rfl) (x1d8 call hs u rec0)).trans (by kernel_rfl)
theorem x1da (rec0 : AV → AV → AV → AV → Mem → Nat → O2) : x1kw call hs u xrs (j4 (x1l call hs u rec0) 3 28 29 30) (setE 0 (j1 (xo call hs u) 3) eNil) = (j4 (x8l call hs u rec0) 3 28 29 30) := bk (by kernel_rfl) (x1d9 call hs u rec0)
theorem x1db (rec0 : AV → AV → AV → AV → Mem → Nat → O2) : x1kw call hs u xi2 (j4 rec0 3 28 29 30) (setE 0 (j1 (xo call hs u) 3) eNil) = (j4 (x8l call hs u rec0) 3 28 29 30) := sq2 (by kernel_rfl) (x1d5 call hs u rec0) (x1da call hs u rec0)
theorem x1dc (rec0 : AV → AV → AV → AV → Mem → Nat → O2) : x1kw call hs u xrr (j4 rec0 3 28 29 30) (setE 0 (j1 (xo call hs u) 3) eNil) = (j4 (xau call hs u rec0) 3 28 29 30) := (sqN 2 (by kernel_rfl) (x1db call hs u rec0)).trans (by kernel_rfl)
theorem x1dd : x1kw call hs u xrq (j1 (xo call hs u) 3) (setE 0 (j1 (xo call hs u) 3) eNil) = (j4 (x1m call hs u NN) 3 28 29 30) := lp (Ln := fun n => j4 (x1m call hs u n) 3 28 29 30) (by kernel_rfl) rfl fun n => (x1dc call hs u (x1m call hs u n)).trans (by kernel_rfl)
theorem x1de : x1kw call hs u xrp (j1 (xo call hs u) 3) eNil = (j4 (x1m call hs u NN) 3 28 29 30) := bk (by kernel_rfl) (x1dd call hs u)
theorem x1df : x1kw call hs u xro (j1 (xo call hs u) 3) eNil = (j2 (xav call hs u) 1 3) := (sqN 1 (by kernel_rfl) (x1de call hs u)).trans (by kernel_rfl)
theorem x1dg : x1kw call hs u xi1 xcf eNil = (j2 (xav call hs u) 1 3) := sq2 (by kernel_rfl) (x1d4 call hs u) (x1df call hs u)
theorem x1dh : x1kw call hs u xrn xcf eNil = (j1 (xft call hs u) 0) := (sqN 2 (by kernel_rfl) (x1dg call hs u)).trans (by kernel_rfl)
theorem xxg : FL x3h x7w := le1 (fn := Try.f103) (by kernel_rfl) (by kernel_rfl) (by kernel_rfl) (by kernel_rfl) (fun call hs t0 m => (congrFun (x1dh call hs m.next) _).trans (by kernel_rfl)) (fun _ _ _ _ _ h => by unfold x7w at h; split at h <;> first | exact ⟨_, rfl⟩ | cases h)
noncomputable abbrev xcg : Fs → O2 := x1ih Try.prog [.tmp 4]
noncomputable abbrev x1o1 := XK call { f := x36, u := u, nt := 19, hs := hs } xcg
noncomputable def xru := x1ij x36
noncomputable def xi4 := nR xru
noncomputable def xrv := nL xi4
noncomputable def x1di := nR xi4
noncomputable def xrw := nR xrv
noncomputable def xrx := nR xrw
noncomputable def x1dj := nR xrx
theorem x1dk : x1o1 call hs u x1di xcg eNil = (j0 (x42 call hs u)) := by kernel_rfl
theorem x1dl (rec0 : AV → AV → AV → AV → Mem → Nat → O2) : x1o1 call hs u x1dj (j4 rec0 0 1 7 8) (setE 0 (j0 (x42 call hs u)) eNil) = (j4 (x8m call hs u rec0) 0 1 7 8) := by kernel_rfl
theorem x1dm : x1o1 call hs u xrx (j0 (x42 call hs u)) (setE 0 (j0 (x42 call hs u)) eNil) = (j4 (x26 call hs u NN) 0 1 7 8) := lp (Ln := fun n => j4 (x26 call hs u n) 0 1 7 8) (by kernel_rfl) rfl fun n => (x1dl call hs u (x26 call hs u n)).trans (by kernel_rfl)
theorem x1dn : x1o1 call hs u xrw (j0 (x42 call hs u)) eNil = (j4 (x26 call hs u NN) 0 1 7 8) := bk (by kernel_rfl) (x1dm call hs u)
theorem x1do : x1o1 call hs u xrv (j0 (x42 call hs u)) eNil = (j2 (xaw call hs u) 0 1) := (sqN 1 (by kernel_rfl) (x1dn call hs u)).trans (by kernel_rfl)
theorem x1dp : x1o1 call hs u xi4 xcg eNil = (j2 (xaw call hs u) 0 1) := sq2 (by kernel_rfl) (x1dk call hs u) (x1do call hs u)
theorem x1dq : x1o1 call hs u xru xcg eNil = (j2 (xfu call hs u) 0 1) := (sqN 1 (by kernel_rfl) (x1dp call hs u)).trans (by kernel_rfl)
theorem xvg : FL x36 x6q := le2 (fn := Try.f104) (by kernel_rfl) (by kernel_rfl) (by kernel_rfl) (by kernel_rfl) (fun call hs t0 t1 m => (congrFun (x1dq call hs m.next) _).trans (by kernel_rfl)) (fun _ _ _ _ _ h => by unfold x6q at h; split at h <;> first | exact ⟨_, _, rfl⟩ | cases h)
noncomputable abbrev xry : Fs → O2 := x1ih Try.prog [.tmp 2]
noncomputable abbrev x1yp := XK call { f := x1s, u := u, nt := 5, hs := hs } xry
noncomputable def x1dr := x1ij x1s
theorem x1ds : x1yp call hs u x1dr xry eNil = (j1 (xfv call hs u) 0) := by kernel_rfl
theorem xvh : FL x1s x6r := le1 (fn := Try.f105) (by kernel_rfl) (by kernel_rfl) (by kernel_rfl) (by kernel_rfl) (fun call hs t0 m => (congrFun (x1ds call hs m.next) _).trans (by kernel_rfl)) (fun _ _ _ _ _ h => by unfold x6r at h; split at h <;> first | exact ⟨_, rfl⟩ | cases h)
noncomputable abbrev x1r : Fs → O2 := x1ih Try.prog []
noncomputable abbrev x1js := XK call { f := x3i, u := u, nt := 160, hs := hs } x1r
noncomputable def xrz := x1ij x3i
noncomputable def xi5 := nRs 2 xrz
noncomputable def xs0 := nL xi5
noncomputable def xs1 := nR xi5
noncomputable def xi6 := nR xs1
noncomputable def xs2 := nL xi6
noncomputable def xi7 := nR xi6
noncomputable def xs3 := nL xi7
noncomputable def xs4 := nR xi7
noncomputable def xs5 := nRs 3 xs4
noncomputable def xs6 := nR xs5
noncomputable def x1dt := nR xs6
noncomputable def xs7 := nR xs3
noncomputable def xs8 := nR xs7
noncomputable def x1du := nR xs8
noncomputable def xs9 := nR xs2
noncomputable def xsa := nR xs9
noncomputable def x1dv := nR xsa
noncomputable def xsb := nR xs0
noncomputable def xsc := nR xsb
noncomputable def xsd := nR xsc
noncomputable def xi8 := nRs 2 xsd
noncomputable def x1dw := nL xi8
noncomputable def x1dx := nR xi8
theorem x1dy (rec0 : AV → AV → AV → AV → AV → AV → Mem → Nat → O2) : x1js call hs u x1dt (j6 rec0 0 4 5 136 137 138) (setE 6 x1r eNil) = (j6 (xax call hs u rec0) 0 4 5 136 137 138) := by kernel_rfl
theorem x1dz : x1js call hs u xs6 x1r (setE 6 x1r eNil) = (j6 (x2x call hs u NN) 0 4 5 136 137 138) := lp (Ln := fun n => j6 (x2x call hs u n) 0 4 5 136 137 138) (by kernel_rfl) rfl fun n => (x1dy call hs u (x2x call hs u n)).trans (by kernel_rfl)
theorem x1e0 : x1js call hs u xs5 x1r eNil = (j6 (x2x call hs u NN) 0 4 5 136 137 138) := bk (by kernel_rfl) (x1dz call hs u)
theorem x1e1 : x1js call hs u xs4 x1r eNil = (j5 (x2y call hs u) 0 1 4 5 8) := (sqN 3 (by kernel_rfl) (x1e0 call hs u)).trans (by kernel_rfl)
theorem x1e2 (rec1 : AV → AV → AV → AV → AV → AV → Mem → Nat → O2) : x1js call hs u x1du (j6 rec1 0 1 4 5 8 10) (setE 4 (j5 (x2y call hs u) 0 1 4 5 8) eNil) = (j6 (xay call hs u rec1) 0 1 4 5 8 10) := by kernel_rfl
theorem x1e3 : x1js call hs u xs8 (j5 (x2y call hs u) 0 1 4 5 8) (setE 4 (j5 (x2y call hs u) 0 1 4 5 8) eNil) = (j6 (x2z call hs u NN) 0 1 4 5 8 10) := lp (Ln := fun n => j6 (x2z call hs u n) 0 1 4 5 8 10) (by kernel_rfl) rfl fun n => (x1e2 call hs u (x2z call hs u n)).trans (by kernel_rfl)
theorem x1e4 : x1js call hs u xs7 (j5 (x2y call hs u) 0 1 4 5 8) eNil = (j6 (x2z call hs u NN) 0 1 4 5 8 10) := bk (by kernel_rfl) (x1e3 call hs u)
theorem x1e5 : x1js call hs u xs3 (j5 (x2y call hs u) 0 1 4 5 8) eNil = (j5 (x27 call hs u) 0 1 4 5 8) := (sqN 1 (by kernel_rfl) (x1e4 call hs u)).trans (by kernel_rfl)
theorem x1e6 : x1js call hs u xi7 x1r eNil = (j5 (x27 call hs u) 0 1 4 5 8) := sq2 (by kernel_rfl) (x1e1 call hs u) (x1e5 call hs u)
theorem x1e7 (rec2 : AV → AV → AV → AV → AV → AV → Mem → Nat → O2) : x1js call hs u x1dv (j6 rec2 0 1 4 5 8 9) (setE 2 (j5 (x27 call hs u) 0 1 4 5 8) eNil) = (j6 (xaz call hs u rec2) 0 1 4 5 8 9) := by kernel_rfl
theorem x1e8 : x1js call hs u xsa (j5 (x27 call hs u) 0 1 4 5 8) (setE 2 (j5 (x27 call hs u) 0 1 4 5 8) eNil) = (j6 (x30 call hs u NN) 0 1 4 5 8 9) := lp (Ln := fun n => j6 (x30 call hs u n) 0 1 4 5 8 9) (by kernel_rfl) rfl fun n => (x1e7 call hs u (x30 call hs u n)).trans (by kernel_rfl)
theorem x1e9 : x1js call hs u xs9 (j5 (x27 call hs u) 0 1 4 5 8) eNil = (j6 (x30 call hs u NN) 0 1 4 5 8 9) := bk (by kernel_rfl) (x1e8 call hs u)
theorem x1ea : x1js call hs u xs2 (j5 (x27 call hs u) 0 1 4 5 8) eNil = (j5 (xb0 call hs u) 0 1 4 5 8) := (sqN 1 (by kernel_rfl) (x1e9 call hs u)).trans (by kernel_rfl)
theorem x1eb : x1js call hs u xi6 x1r eNil = (j5 (xb0 call hs u) 0 1 4 5 8) := sq2 (by kernel_rfl) (x1e6 call hs u) (x1ea call hs u)
theorem x1ec : x1js call hs u xs1 x1r eNil = (j4 (x14 call hs u) 0 1 4 5) := (sqN 1 (by kernel_rfl) (x1eb call hs u)).trans (by kernel_rfl)
theorem x1ed (rec3 : AV → AV → AV → AV → AV → AV → AV → Mem → Nat → O2) : x1js call hs u x1dx (j7 rec3 0 1 4 5 17 18 19) (setE 0 (j4 (x14 call hs u) 0 1 4 5) eNil) = (j7 (x31 call hs u rec3) 0 1 4 5 17 18 19) := by kernel_rfl
theorem x1ee (rec3 : AV → AV → AV → AV → AV → AV → AV → Mem → Nat → O2) : x1js call hs u x1dw (j7 (x31 call hs u rec3) 0 1 4 5 17 18 19) (setE 0 (j4 (x14 call hs u) 0 1 4 5) eNil) = (j7 (x8n call hs u rec3) 0 1 4 5 17 18 19) := by kernel_rfl
theorem x1ef (rec3 : AV → AV → AV → AV → AV → AV → AV → Mem → Nat → O2) : x1js call hs u xi8 (j7 rec3 0 1 4 5 17 18 19) (setE 0 (j4 (x14 call hs u) 0 1 4 5) eNil) = (j7 (x8n call hs u rec3) 0 1 4 5 17 18 19) := sq2 (by kernel_rfl) (x1ed call hs u rec3) (x1ee call hs u rec3)
theorem x1eg (rec3 : AV → AV → AV → AV → AV → AV → AV → Mem → Nat → O2) : x1js call hs u xsd (j7 rec3 0 1 4 5 17 18 19) (setE 0 (j4 (x14 call hs u) 0 1 4 5) eNil) = (j7 (x8o call hs u rec3) 0 1 4 5 17 18 19) := (sqN 2 (by kernel_rfl) (x1ef call hs u rec3)).trans (by kernel_rfl)
theorem x1eh : x1js call hs u xsc (j4 (x14 call hs u) 0 1 4 5) (setE 0 (j4 (x14 call hs u) 0 1 4 5) eNil) = (j7 (x28 call hs u NN) 0 1 4 5 17 18 19) := lp (Ln := fun n => j7 (x28 call hs u n) 0 1 4 5 17 18 19) (by kernel_rfl) rfl fun n => (x1eg call hs u (x28 call hs u n)).trans (by kernel_rfl)
theorem x1ei : x1js call hs u xsb (j4 (x14 call hs u) 0 1 4 5) eNil = (j7 (x28 call hs u NN) 0 1 4 5 17 18 19) := bk (by kernel_rfl) (x1eh call hs u)
theorem x1ej : x1js call hs u xs0 (j4 (x14 call hs u) 0 1 4 5) eNil = (j4 (xb1 call hs u) 0 1 4 5) := (sqN 1 (by kernel_rfl) (x1ei call hs u)).trans (by kernel_rfl)
theorem x1ek : x1js call hs u xi5 x1r eNil = (j4 (xb1 call hs u) 0 1 4 5) := sq2 (by kernel_rfl) (x1ec call hs u) (x1ej call hs u)
theorem x1el : x1js call hs u xrz x1r eNil = (j2 (xfw call hs u) 0 1) := (sqN 2 (by kernel_rfl) (x1ek call hs u)).trans (by kernel_rfl)
theorem xxh : FL x3i x7x := le2 (fn := Try.f106) (by kernel_rfl) (by kernel_rfl) (by kernel_rfl) (by kernel_rfl) (fun call hs t0 t1 m => (congrFun (x1el call hs m.next) _).trans (by kernel_rfl)) (fun _ _ _ _ _ h => by unfold x7x at h; split at h <;> first | exact ⟨_, _, rfl⟩ | cases h)
noncomputable abbrev xse : Fs → O2 := x1ih Try.prog [.tmp 2]
noncomputable abbrev x1yq := XK call { f := x2d, u := u, nt := 7, hs := hs } xse
noncomputable def x1em := x1ij x2d
theorem x1en : x1yq call hs u x1em xse eNil = (j1 (xfx call hs u) 0) := by kernel_rfl
theorem xvf : FL x2d x6p := le1 (fn := Try.f107) (by kernel_rfl) (by kernel_rfl) (by kernel_rfl) (by kernel_rfl) (fun call hs t0 m => (congrFun (x1en call hs m.next) _).trans (by kernel_rfl)) (fun _ _ _ _ _ h => by unfold x6p at h; split at h <;> first | exact ⟨_, rfl⟩ | cases h)
noncomputable abbrev xsf : Fs → O2 := x1ih Try.prog [.tmp 4]
noncomputable abbrev x1yr := XK call { f := x7y, u := u, nt := 6, hs := hs } xsf
noncomputable def x1eo := x1ij x7y
theorem x1ep : x1yr call hs u x1eo xsf eNil = (j2 (xkn call hs u) 0 1) := by kernel_rfl
theorem xxi : FL x7y xdw := le2 (fn := Try.f108) (by kernel_rfl) (by kernel_rfl) (by kernel_rfl) (by kernel_rfl) (fun call hs t0 t1 m => (congrFun (x1ep call hs m.next) _).trans (by kernel_rfl)) (fun _ _ _ _ _ h => by unfold xdw at h; split at h <;> first | exact ⟨_, _, rfl⟩ | cases h)
noncomputable abbrev xsg : Fs → O2 := x1ih Try.prog [.tmp 2]
noncomputable abbrev x1ys := XK call { f := x7z, u := u, nt := 5, hs := hs } xsg
noncomputable def x1eq := x1ij x7z
theorem x1er : x1ys call hs u x1eq xsg eNil = (j1 (xko call hs u) 0) := by kernel_rfl
theorem xxj : FL x7z xdx := le1 (fn := Try.f109) (by kernel_rfl) (by kernel_rfl) (by kernel_rfl) (by kernel_rfl) (fun call hs t0 m => (congrFun (x1er call hs m.next) _).trans (by kernel_rfl)) (fun _ _ _ _ _ h => by unfold xdx at h; split at h <;> first | exact ⟨_, rfl⟩ | cases h)
noncomputable abbrev xsh : Fs → O2 := x1ih Try.prog [.tmp 3]
noncomputable abbrev x1yt := XK call { f := x80, u := u, nt := 13, hs := hs } xsh
noncomputable def x1es := x1ij x80
theorem x1et : x1yt call hs u x1es xsh eNil = (j2 (xkp call hs u) 0 1) := by kernel_rfl
theorem xxk : FL x80 xdy := le2 (fn := Try.f110) (by kernel_rfl) (by kernel_rfl) (by kernel_rfl) (by kernel_rfl) (fun call hs t0 t1 m => (congrFun (x1et call hs m.next) _).trans (by kernel_rfl)) (fun _ _ _ _ _ h => by unfold xdy at h; split at h <;> first | exact ⟨_, _, rfl⟩ | cases h)
noncomputable abbrev x90 : Fs → O2 := x1ih Try.prog [.tmp 4]
noncomputable abbrev x1or := XK call { f := x81, u := u, nt := 27, hs := hs } x90
noncomputable def xsi := x1ij x81
noncomputable def xi9 := nR xsi
noncomputable def x1eu := nL xi9
noncomputable def xia := nR xi9
noncomputable def x1ev := nL xia
noncomputable def x1ew := nR xia
theorem x1ex : x1or call hs u x1ew x90 eNil = (j1 (xb2 call hs u) 0) := by kernel_rfl
theorem x1ey : x1or call hs u x1ev (j1 (xb2 call hs u) 0) eNil = (j2 (xb3 call hs u) 0 1) := by kernel_rfl
theorem x1ez : x1or call hs u xia x90 eNil = (j2 (xb3 call hs u) 0 1) := sq2 (by kernel_rfl) (x1ex call hs u) (x1ey call hs u)
theorem x1f0 : x1or call hs u x1eu (j2 (xb3 call hs u) 0 1) eNil = (j2 (xfy call hs u) 0 1) := by kernel_rfl
theorem x1f1 : x1or call hs u xi9 x90 eNil = (j2 (xfy call hs u) 0 1) := sq2 (by kernel_rfl) (x1ez call hs u) (x1f0 call hs u)
theorem x1f2 : x1or call hs u xsi x90 eNil = (j2 (xkq call hs u) 0 1) := (sqN 1 (by kernel_rfl) (x1f1 call hs u)).trans (by kernel_rfl)
theorem xxl : FL x81 xdz := le2 (fn := Try.f111) (by kernel_rfl) (by kernel_rfl) (by kernel_rfl) (by kernel_rfl) (fun call hs t0 t1 m => (congrFun (x1f2 call hs m.next) _).trans (by kernel_rfl)) (fun _ _ _ _ _ h => by unfold xdz at h; split at h <;> first | exact ⟨_, _, rfl⟩ | cases h)
noncomputable abbrev xsj : Fs → O2 := x1ih Try.prog [.tmp 2]
noncomputable abbrev x1yu := XK call { f := x5e, u := u, nt := 7, hs := hs } xsj
noncomputable def x1f3 := x1ij x5e
theorem x1f4 : x1yu call hs u x1f3 xsj eNil = (j1 (xkr call hs u) 0) := by kernel_rfl
theorem xxm : FL x5e xe0 := le1 (fn := Try.f112) (by kernel_rfl) (by kernel_rfl) (by kernel_rfl) (by kernel_rfl) (fun call hs t0 m => (congrFun (x1f4 call hs m.next) _).trans (by kernel_rfl)) (fun _ _ _ _ _ h => by unfold xe0 at h; split at h <;> first | exact ⟨_, rfl⟩ | cases h)
noncomputable abbrev xch : Fs → O2 := x1ih Try.prog [.tmp 4]
noncomputable abbrev x1kj := XK call { f := x3j, u := u, nt := 45, hs := hs } xch
noncomputable def xsk := x1ij x3j
noncomputable def xib := nRs 3 xsk
noncomputable def xsl := nL xib
noncomputable def x1f5 := nR xib
noncomputable def xsm := nR xsl
noncomputable def xsn := nR xsm
noncomputable def xso := nR xsn
noncomputable def xic := nRs 2 xso
noncomputable def xsp := nL xic
noncomputable def x1f6 := nR xic
noncomputable def xsq := nR xsp
noncomputable def xid := nRs 4 xsq
noncomputable def xsr := nL xid
noncomputable def x1f7 := nR xid
noncomputable def xss := nR xsr
noncomputable def x1f8 := nR xss
theorem x1f9 : x1kj call hs u x1f5 xch eNil = (j1 (xh call hs u) 5) := by kernel_rfl
theorem x1fa (rec0 : AV → AV → AV → AV → AV → Mem → Nat → O2) : x1kj call hs u x1f6 (j5 rec0 1 5 6 14 15) (setE 0 (j1 (xh call hs u) 5) eNil) = (j5 (xp call hs u rec0) 1 5 6 14 15) := by kernel_rfl
theorem x1fb (rec0 : AV → AV → AV → AV → AV → Mem → Nat → O2) : x1kj call hs u x1f7 (j5 (xp call hs u rec0) 1 5 6 14 15) (setE 1 (j5 (xp call hs u rec0) 1 5 6 14 15) (setE 0 (j1 (xh call hs u) 5) eNil)) = (j5 (x43 call hs u rec0) 1 5 6 14 15) := by kernel_rfl
theorem x1fc (rec0 : AV → AV → AV → AV → AV → Mem → Nat → O2) (rec1 : AV → AV → AV → AV → AV → AV → Mem → Nat → O2) : x1kj call hs u x1f8 (j6 rec1 1 5 6 8 14 15) (setE 2 (j5 (x43 call hs u rec0) 1 5 6 14 15) (setE 1 (j5 (xp call hs u rec0) 1 5 6 14 15) (setE 0 (j1 (xh call hs u) 5) eNil))) = (j6 (x8p call hs u rec0 rec1) 1 5 6 8 14 15) := by kernel_rfl
theorem x1fd (rec0 : AV → AV → AV → AV → AV → Mem → Nat → O2) : x1kj call hs u xss (j5 (x43 call hs u rec0) 1 5 6 14 15) (setE 2 (j5 (x43 call hs u rec0) 1 5 6 14 15) (setE 1 (j5 (xp call hs u rec0) 1 5 6 14 15) (setE 0 (j1 (xh call hs u) 5) eNil))) = (j6 (x1n call hs u rec0 NN) 1 5 6 8 14 15) := lp (Ln := fun n => j6 (x1n call hs u rec0 n) 1 5 6 8 14 15) (by kernel_rfl) rfl fun n => (x1fc call hs u rec0 (x1n call hs u rec0 n)).trans (by kernel_rfl)
theorem x1fe (rec0 : AV → AV → AV → AV → AV → Mem → Nat → O2) : x1kj call hs u xsr (j5 (x43 call hs u rec0) 1 5 6 14 15) (setE 1 (j5 (xp call hs u rec0) 1 5 6 14 15) (setE 0 (j1 (xh call hs u) 5) eNil)) = (j6 (x1n call hs u rec0 NN) 1 5 6 8 14 15) := bk (by kernel_rfl) (x1fd call hs u rec0)
theorem x1ff (rec0 : AV → AV → AV → AV → AV → Mem → Nat → O2) : x1kj call hs u xid (j5 (xp call hs u rec0) 1 5 6 14 15) (setE 1 (j5 (xp call hs u rec0) 1 5 6 14 15) (setE 0 (j1 (xh call hs u) 5) eNil)) = (j6 (x1n call hs u rec0 NN) 1 5 6 8 14 15) := sq2 (by kernel_rfl) (x1fb call hs u rec0) (x1fe call hs u rec0)
theorem x1fg (rec0 : AV → AV → AV → AV → AV → Mem → Nat → O2) : x1kj call hs u xsq (j5 (xp call hs u rec0) 1 5 6 14 15) (setE 1 (j5 (xp call hs u rec0) 1 5 6 14 15) (setE 0 (j1 (xh call hs u) 5) eNil)) = (j5 (x64 call hs u rec0) 1 5 6 14 15) := (sqN 4 (by kernel_rfl) (x1ff call hs u rec0)).trans (by kernel_rfl)
theorem x1fh (rec0 : AV → AV → AV → AV → AV → Mem → Nat → O2) : x1kj call hs u xsp (j5 (xp call hs u rec0) 1 5 6 14 15) (setE 0 (j1 (xh call hs u) 5) eNil) = (j5 (x64 call hs u rec0) 1 5 6 14 15) := bk (by kernel_rfl) (x1fg call hs u rec0)
theorem x1fi (rec0 : AV → AV → AV → AV → AV → Mem → Nat → O2) : x1kj call hs u xic (j5 rec0 1 5 6 14 15) (setE 0 (j1 (xh call hs u) 5) eNil) = (j5 (x64 call hs u rec0) 1 5 6 14 15) := sq2 (by kernel_rfl) (x1fa call hs u rec0) (x1fh call hs u rec0)
theorem x1fj (rec0 : AV → AV → AV → AV → AV → Mem → Nat → O2) : x1kj call hs u xso (j5 rec0 1 5 6 14 15) (setE 0 (j1 (xh call hs u) 5) eNil) = (j5 (x8q call hs u rec0) 1 5 6 14 15) := (sqN 2 (by kernel_rfl) (x1fi call hs u rec0)).trans (by kernel_rfl)
theorem x1fk : x1kj call hs u xsn (j1 (xh call hs u) 5) (setE 0 (j1 (xh call hs u) 5) eNil) = (j5 (x1o call hs u NN) 1 5 6 14 15) := lp (Ln := fun n => j5 (x1o call hs u n) 1 5 6 14 15) (by kernel_rfl) rfl fun n => (x1fj call hs u (x1o call hs u n)).trans (by kernel_rfl)
theorem x1fl : x1kj call hs u xsm (j1 (xh call hs u) 5) eNil = (j5 (x1o call hs u NN) 1 5 6 14 15) := bk (by kernel_rfl) (x1fk call hs u)
theorem x1fm : x1kj call hs u xsl (j1 (xh call hs u) 5) eNil = (j3 (xb4 call hs u) 1 5 6) := (sqN 1 (by kernel_rfl) (x1fl call hs u)).trans (by kernel_rfl)
theorem x1fn : x1kj call hs u xib xch eNil = (j3 (xb4 call hs u) 1 5 6) := sq2 (by kernel_rfl) (x1f9 call hs u) (x1fm call hs u)
theorem x1fo : x1kj call hs u xsk xch eNil = (j2 (xfz call hs u) 0 1) := (sqN 3 (by kernel_rfl) (x1fn call hs u)).trans (by kernel_rfl)
theorem xxn : FL x3j x82 := le2 (fn := Try.f113) (by kernel_rfl) (by kernel_rfl) (by kernel_rfl) (by kernel_rfl) (fun call hs t0 t1 m => (congrFun (x1fo call hs m.next) _).trans (by kernel_rfl)) (fun _ _ _ _ _ h => by unfold x82 at h; split at h <;> first | exact ⟨_, _, rfl⟩ | cases h)
noncomputable abbrev x6h : Fs → O2 := x1ih Try.prog []
noncomputable abbrev x1qv := XK call { f := x2b, u := u, nt := 20, hs := hs } x6h
noncomputable def xst := x1ij x2b
noncomputable def xsu := nR xst
noncomputable def xsv := nR xsu
noncomputable def x1fp := nR xsv
theorem x1fq (rec0 : AV → AV → AV → AV → Mem → Nat → O2) : x1qv call hs u x1fp (j4 rec0 1 10 11 12) (setE 0 x6h eNil) = (j4 (xb5 call hs u rec0) 1 10 11 12) := by kernel_rfl
theorem x1fr : x1qv call hs u xsv x6h (setE 0 x6h eNil) = (j4 (x32 call hs u NN) 1 10 11 12) := lp (Ln := fun n => j4 (x32 call hs u n) 1 10 11 12) (by kernel_rfl) rfl fun n => (x1fq call hs u (x32 call hs u n)).trans (by kernel_rfl)
theorem x1fs : x1qv call hs u xsu x6h eNil = (j4 (x32 call hs u NN) 1 10 11 12) := bk (by kernel_rfl) (x1fr call hs u)
theorem x1ft : x1qv call hs u xst x6h eNil = (j3 (xb6 call hs u) 0 1 2) := (sqN 1 (by kernel_rfl) (x1fs call hs u)).trans (by kernel_rfl)
theorem xv9 : FL x2b x92 := le3 (fn := Try.f114) (by kernel_rfl) (by kernel_rfl) (by kernel_rfl) (by kernel_rfl) (fun call hs t0 t1 t2 m => (congrFun (x1ft call hs m.next) _).trans (by kernel_rfl)) (fun _ _ _ _ _ h => by unfold x92 at h; split at h <;> first | exact ⟨_, _, _, rfl⟩ | cases h)
noncomputable abbrev xd : Fs → O2 := x1ih Try.prog [.cell 4 xl4]
noncomputable abbrev x1kk := XK call { f := x19, u := u, nt := 139, hs := hs } xd
noncomputable abbrev x1vl := XK (R := Mem) call { f := x19, u := u, nt := 139, hs := hs } fNil
noncomputable def xsw := x1ij x19
noncomputable def xsx := nRs 4 xsw
noncomputable def xsy := nR xsx
noncomputable def xsz := nR xsy
noncomputable def xt0 := nR xsz
noncomputable def xie := nR xt0
noncomputable def xt1 := nL xie
noncomputable def xt2 := nR xie
noncomputable def xt3 := nRs 3 xt2
noncomputable def xci := nR xt3
noncomputable def x1fu := nL xci
noncomputable def x1fv := nR xci
noncomputable def xt4 := nR xt1
noncomputable def xt5 := nR xt4
noncomputable def xt6 := nR xt5
noncomputable def xif := nRs 2 xt6
noncomputable def x1fw := nL xif
noncomputable def x1fx := nR xif
theorem x1fy : x1vl call hs u x1fv (fun s => some s.m) eNil = (j4 (x65 call hs u) 2 5 7 10) := by kernel_rfl
theorem x1fz : x1vl call hs u x1fu (j4 (x65 call hs u) 2 5 7 10) eNil = (j4 (x4z call hs u) 2 5 7 87) := by kernel_rfl
theorem x1g0 (rec0 : AV → AV → AV → AV → Mem → Nat → O2) : x1kk call hs u xci (j4 rec0 2 4 5 6) (setE 4 (j4 rec0 2 4 5 6) (setE 1 (j4 rec0 2 4 5 6) (setE 0 xd eNil))) = (j6 (xb7 call hs u rec0) 2 4 5 6 7 86) := (rg (C := xci) (c := { f := x19, u := u, nt := 139, hs := hs }) (f := (.tmp 86)) (ps := #[87]) (by kernel_rfl) (fun u => x1fy call hs u) (fun u => x1fz call hs u)).trans (by kernel_rfl)
theorem x1g1 (rec0 : AV → AV → AV → AV → Mem → Nat → O2) : x1kk call hs u xt3 (j4 rec0 2 4 5 6) (setE 1 (j4 rec0 2 4 5 6) (setE 0 xd eNil)) = (j6 (xb7 call hs u rec0) 2 4 5 6 7 86) := bk (by kernel_rfl) (x1g0 call hs u rec0)
theorem x1g2 (rec0 : AV → AV → AV → AV → Mem → Nat → O2) : x1kk call hs u xt2 (j4 rec0 2 4 5 6) (setE 1 (j4 rec0 2 4 5 6) (setE 0 xd eNil)) = (j5 (xq call hs u rec0) 2 4 5 6 7) := (sqN 3 (by kernel_rfl) (x1g1 call hs u rec0)).trans (by kernel_rfl)
theorem x1g3 (rec0 : AV → AV → AV → AV → Mem → Nat → O2) (rec1 : AV → AV → AV → AV → AV → AV → AV → AV → Mem → Nat → O2) : x1kk call hs u x1fx (j8 rec1 2 4 5 6 7 47 48 49) (setE 2 (j5 (xq call hs u rec0) 2 4 5 6 7) (setE 1 (j4 rec0 2 4 5 6) (setE 0 xd eNil))) = (j8 (x33 call hs u rec0 rec1) 2 4 5 6 7 47 48 49) := by kernel_rfl
theorem x1g4 (rec0 : AV → AV → AV → AV → Mem → Nat → O2) (rec1 : AV → AV → AV → AV → AV → AV → AV → AV → Mem → Nat → O2) : x1kk call hs u x1fw (j8 (x33 call hs u rec0 rec1) 2 4 5 6 7 47 48 49) (setE 2 (j5 (xq call hs u rec0) 2 4 5 6 7) (setE 1 (j4 rec0 2 4 5 6) (setE 0 xd eNil))) = (j8 (x8r call hs u rec0 rec1) 2 4 5 6 7 47 48 49) := by kernel_rfl
theorem x1g5 (rec0 : AV → AV → AV → AV → Mem → Nat → O2) (rec1 : AV → AV → AV → AV → AV → AV → AV → AV → Mem → Nat → O2) : x1kk call hs u xif (j8 rec1 2 4 5 6 7 47 48 49) (setE 2 (j5 (xq call hs u rec0) 2 4 5 6 7) (setE 1 (j4 rec0 2 4 5 6) (setE 0 xd eNil))) = (j8 (x8r call hs u rec0 rec1) 2 4 5 6 7 47 48 49) := sq2 (by kernel_rfl) (x1g3 call hs u rec0 rec1) (x1g4 call hs u rec0 rec1)
theorem x1g6 (rec0 : AV → AV → AV → AV → Mem → Nat → O2) (rec1 : AV → AV → AV → AV → AV → AV → AV → AV → Mem → Nat → O2) : x1kk call hs u xt6 (j8 rec1 2 4 5 6 7 47 48 49) (setE 2 (j5 (xq call hs u rec0) 2 4 5 6 7) (setE 1 (j4 rec0 2 4 5 6) (setE 0 xd eNil))) = (j8 (x8s call hs u rec0 rec1) 2 4 5 6 7 47 48 49) := (sqN 2 (by kernel_rfl) (x1g5 call hs u rec0 rec1)).trans (by kernel_rfl)
theorem x1g7 (rec0 : AV → AV → AV → AV → Mem → Nat → O2) : x1kk call hs u xt5 (j5 (xq call hs u rec0) 2 4 5 6 7) (setE 2 (j5 (xq call hs u rec0) 2 4 5 6 7) (setE 1 (j4 rec0 2 4 5 6) (setE 0 xd eNil))) = (j8 (x29 call hs u rec0 NN) 2 4 5 6 7 47 48 49) := lp (Ln := fun n => j8 (x29 call hs u rec0 n) 2 4 5 6 7 47 48 49) (by kernel_rfl) rfl fun n => (x1g6 call hs u rec0 (x29 call hs u rec0 n)).trans (by kernel_rfl)
theorem x1g8 (rec0 : AV → AV → AV → AV → Mem → Nat → O2) : x1kk call hs u xt4 (j5 (xq call hs u rec0) 2 4 5 6 7) (setE 1 (j4 rec0 2 4 5 6) (setE 0 xd eNil)) = (j8 (x29 call hs u rec0 NN) 2 4 5 6 7 47 48 49) := bk (by kernel_rfl) (x1g7 call hs u rec0)
theorem x1g9 (rec0 : AV → AV → AV → AV → Mem → Nat → O2) : x1kk call hs u xt1 (j5 (xq call hs u rec0) 2 4 5 6 7) (setE 1 (j4 rec0 2 4 5 6) (setE 0 xd eNil)) = (j5 (xb8 call hs u rec0) 2 4 5 6 7) := (sqN 1 (by kernel_rfl) (x1g8 call hs u rec0)).trans (by kernel_rfl)
theorem x1ga (rec0 : AV → AV → AV → AV → Mem → Nat → O2) : x1kk call hs u xie (j4 rec0 2 4 5 6) (setE 1 (j4 rec0 2 4 5 6) (setE 0 xd eNil)) = (j5 (xb8 call hs u rec0) 2 4 5 6 7) := sq2 (by kernel_rfl) (x1g2 call hs u rec0) (x1g9 call hs u rec0)
theorem x1gb (rec0 : AV → AV → AV → AV → Mem → Nat → O2) : x1kk call hs u xt0 (j4 rec0 2 4 5 6) (setE 1 (j4 rec0 2 4 5 6) (setE 0 xd eNil)) = (j4 (xb9 call hs u rec0) 2 4 5 6) := (sqN 1 (by kernel_rfl) (x1ga call hs u rec0)).trans (by kernel_rfl)
theorem x1gc (rec0 : AV → AV → AV → AV → Mem → Nat → O2) : x1kk call hs u xsz (j4 rec0 2 4 5 6) (setE 0 xd eNil) = (j4 (xb9 call hs u rec0) 2 4 5 6) := bk (by kernel_rfl) (x1gb call hs u rec0)
theorem x1gd : x1kk call hs u xsy xd (setE 0 xd eNil) = (j4 (x15 call hs u NN) 2 4 5 6) := lp (Ln := fun n => j4 (x15 call hs u n) 2 4 5 6) (by kernel_rfl) rfl fun n => (x1gc call hs u (x15 call hs u n)).trans (by kernel_rfl)
theorem x1ge : x1kk call hs u xsx xd eNil = (j4 (x15 call hs u NN) 2 4 5 6) := bk (by kernel_rfl) (x1gd call hs u)
theorem x1gf : x1kk call hs u xsw xd eNil = (j2 (xg0 call hs u) 0 1) := (sqN 4 (by kernel_rfl) (x1ge call hs u)).trans (by kernel_rfl)
theorem xv7 : FL x19 x6k := le2 (fn := Try.f115) (by kernel_rfl) (by kernel_rfl) (by kernel_rfl) (by kernel_rfl) (fun call hs t0 t1 m => (congrFun (x1gf call hs m.next) _).trans (by kernel_rfl)) (fun _ _ _ _ _ h => by unfold x6k at h; split at h <;> first | exact ⟨_, _, rfl⟩ | cases h)
noncomputable abbrev x34 : Fs → O2 := x1ih Try.prog []
noncomputable abbrev x1o2 := XK call { f := x6n, u := u, nt := 53, hs := hs } x34
noncomputable def xt7 := x1ij x6n
noncomputable def xt8 := nR xt7
noncomputable def xt9 := nR xt8
noncomputable def xta := nR xt9
noncomputable def xig := nRs 2 xta
noncomputable def x1gg := nL xig
noncomputable def x1gh := nR xig
theorem x1gi (rec0 : AV → AV → AV → AV → AV → Mem → Nat → O2) : x1o2 call hs u x1gh (j5 rec0 0 1 3 9 10) (setE 0 x34 eNil) = (j5 (xba call hs u rec0) 0 1 3 9 10) := by kernel_rfl
theorem x1gj (rec0 : AV → AV → AV → AV → AV → Mem → Nat → O2) : x1o2 call hs u x1gg (j5 (xba call hs u rec0) 0 1 3 9 10) (setE 0 x34 eNil) = (j5 (xg1 call hs u rec0) 0 1 3 9 10) := by kernel_rfl
theorem x1gk (rec0 : AV → AV → AV → AV → AV → Mem → Nat → O2) : x1o2 call hs u xig (j5 rec0 0 1 3 9 10) (setE 0 x34 eNil) = (j5 (xg1 call hs u rec0) 0 1 3 9 10) := sq2 (by kernel_rfl) (x1gi call hs u rec0) (x1gj call hs u rec0)
theorem x1gl (rec0 : AV → AV → AV → AV → AV → Mem → Nat → O2) : x1o2 call hs u xta (j5 rec0 0 1 3 9 10) (setE 0 x34 eNil) = (j5 (xkt call hs u rec0) 0 1 3 9 10) := (sqN 2 (by kernel_rfl) (x1gk call hs u rec0)).trans (by kernel_rfl)
theorem x1gm : x1o2 call hs u xt9 x34 (setE 0 x34 eNil) = (j5 (x67 call hs u NN) 0 1 3 9 10) := lp (Ln := fun n => j5 (x67 call hs u n) 0 1 3 9 10) (by kernel_rfl) rfl fun n => (x1gl call hs u (x67 call hs u n)).trans (by kernel_rfl)
theorem x1gn : x1o2 call hs u xt8 x34 eNil = (j5 (x67 call hs u NN) 0 1 3 9 10) := bk (by kernel_rfl) (x1gm call hs u)
theorem x1go : x1o2 call hs u xt7 x34 eNil = (j4 (xku call hs u) 0 1 2 3) := (sqN 1 (by kernel_rfl) (x1gn call hs u)).trans (by kernel_rfl)
theorem xvb : FL x6n xcl := le4 (fn := Try.f116) (by kernel_rfl) (by kernel_rfl) (by kernel_rfl) (by kernel_rfl) (fun call hs t0 t1 t2 t3 m => (congrFun (x1go call hs m.next) _).trans (by kernel_rfl)) (fun _ _ _ _ _ h => by unfold xcl at h; split at h <;> first | exact ⟨_, _, _, _, rfl⟩ | cases h)
noncomputable abbrev xcj : Fs → O2 := x1ih Try.prog [.tmp 4]
noncomputable abbrev x1kx := XK call { f := x4l, u := u, nt := 73, hs := hs } xcj
noncomputable def xtb := x1ij x4l
noncomputable def xih := nRs 2 xtb
noncomputable def xtc := nL xih
noncomputable def x1gp := nR xih
noncomputable def xtd := nR xtc
noncomputable def xte := nR xtd
noncomputable def xtf := nR xte
noncomputable def xii := nR xtf
noncomputable def xtg := nL xii
noncomputable def x1gq := nR xii
noncomputable def xth := nR xtg
noncomputable def xij := nR xth
noncomputable def x1gr := nL xij
noncomputable def x1gs := nR xij
theorem x1gt : x1kx call hs u x1gp xcj eNil = (j1 (xr call hs u) 5) := by kernel_rfl
theorem x1gu (rec0 : AV → AV → AV → AV → Mem → Nat → O2) : x1kx call hs u x1gq (j4 rec0 1 2 5 6) (setE 0 (j1 (xr call hs u) 5) eNil) = (j4 (xy call hs u rec0) 1 2 5 6) := by kernel_rfl
theorem x1gv (rec0 : AV → AV → AV → AV → Mem → Nat → O2) : x1kx call hs u x1gs (j4 (xy call hs u rec0) 1 2 5 6) (setE 1 (j4 (xy call hs u rec0) 1 2 5 6) (setE 0 (j1 (xr call hs u) 5) eNil)) = (j5 (x50 call hs u rec0) 1 2 5 6 7) := by kernel_rfl
theorem x1gw (rec0 : AV → AV → AV → AV → Mem → Nat → O2) : x1kx call hs u x1gr (j5 (x50 call hs u rec0) 1 2 5 6 7) (setE 1 (j4 (xy call hs u rec0) 1 2 5 6) (setE 0 (j1 (xr call hs u) 5) eNil)) = (j5 (x68 call hs u rec0) 1 2 5 6 7) := by kernel_rfl
theorem x1gx (rec0 : AV → AV → AV → AV → Mem → Nat → O2) : x1kx call hs u xij (j4 (xy call hs u rec0) 1 2 5 6) (setE 1 (j4 (xy call hs u rec0) 1 2 5 6) (setE 0 (j1 (xr call hs u) 5) eNil)) = (j5 (x68 call hs u rec0) 1 2 5 6 7) := sq2 (by kernel_rfl) (x1gv call hs u rec0) (x1gw call hs u rec0)
theorem x1gy (rec0 : AV → AV → AV → AV → Mem → Nat → O2) : x1kx call hs u xth (j4 (xy call hs u rec0) 1 2 5 6) (setE 1 (j4 (xy call hs u rec0) 1 2 5 6) (setE 0 (j1 (xr call hs u) 5) eNil)) = (j4 (x8t call hs u rec0) 1 2 5 6) := (sqN 1 (by kernel_rfl) (x1gx call hs u rec0)).trans (by kernel_rfl)
theorem x1gz (rec0 : AV → AV → AV → AV → Mem → Nat → O2) : x1kx call hs u xtg (j4 (xy call hs u rec0) 1 2 5 6) (setE 0 (j1 (xr call hs u) 5) eNil) = (j4 (x8t call hs u rec0) 1 2 5 6) := bk (by kernel_rfl) (x1gy call hs u rec0)
theorem x1h0 (rec0 : AV → AV → AV → AV → Mem → Nat → O2) : x1kx call hs u xii (j4 rec0 1 2 5 6) (setE 0 (j1 (xr call hs u) 5) eNil) = (j4 (x8t call hs u rec0) 1 2 5 6) := sq2 (by kernel_rfl) (x1gu call hs u rec0) (x1gz call hs u rec0)
theorem x1h1 (rec0 : AV → AV → AV → AV → Mem → Nat → O2) : x1kx call hs u xtf (j4 rec0 1 2 5 6) (setE 0 (j1 (xr call hs u) 5) eNil) = (j4 (xbb call hs u rec0) 1 2 5 6) := (sqN 1 (by kernel_rfl) (x1h0 call hs u rec0)).trans (by kernel_rfl)
theorem x1h2 : x1kx call hs u xte (j1 (xr call hs u) 5) (setE 0 (j1 (xr call hs u) 5) eNil) = (j4 (x2a call hs u NN) 1 2 5 6) := lp (Ln := fun n => j4 (x2a call hs u n) 1 2 5 6) (by kernel_rfl) rfl fun n => (x1h1 call hs u (x2a call hs u n)).trans (by kernel_rfl)
theorem x1h3 : x1kx call hs u xtd (j1 (xr call hs u) 5) eNil = (j4 (x2a call hs u NN) 1 2 5 6) := bk (by kernel_rfl) (x1h2 call hs u)
theorem x1h4 : x1kx call hs u xtc (j1 (xr call hs u) 5) eNil = (j3 (xbc call hs u) 1 2 5) := (sqN 1 (by kernel_rfl) (x1h3 call hs u)).trans (by kernel_rfl)
theorem x1h5 : x1kx call hs u xih xcj eNil = (j3 (xbc call hs u) 1 2 5) := sq2 (by kernel_rfl) (x1gt call hs u) (x1h4 call hs u)
theorem x1h6 : x1kx call hs u xtb xcj eNil = (j2 (xg2 call hs u) 0 1) := (sqN 2 (by kernel_rfl) (x1h5 call hs u)).trans (by kernel_rfl)
theorem xxo : FL x4l x83 := le2 (fn := Try.f117) (by kernel_rfl) (by kernel_rfl) (by kernel_rfl) (by kernel_rfl) (fun call hs t0 t1 m => (congrFun (x1h6 call hs m.next) _).trans (by kernel_rfl)) (fun _ _ _ _ _ h => by unfold x83 at h; split at h <;> first | exact ⟨_, _, rfl⟩ | cases h)
noncomputable abbrev xti : Fs → O2 := x1ih Try.prog [.tmp 2]
noncomputable abbrev x1yv := XK call { f := x84, u := u, nt := 5, hs := hs } xti
noncomputable def x1h7 := x1ij x84
theorem x1h8 : x1yv call hs u x1h7 xti eNil = (j1 (xkv call hs u) 0) := by kernel_rfl
theorem xxp : FL x84 xe1 := le1 (fn := Try.f118) (by kernel_rfl) (by kernel_rfl) (by kernel_rfl) (by kernel_rfl) (fun call hs t0 m => (congrFun (x1h8 call hs m.next) _).trans (by kernel_rfl)) (fun _ _ _ _ _ h => by unfold xe1 at h; split at h <;> first | exact ⟨_, rfl⟩ | cases h)
noncomputable abbrev xj : Fs → O2 := x1ih Try.prog []
noncomputable abbrev x1ky := XK call { f := x85, u := u, nt := 55, hs := hs } xj
noncomputable def xtj := x1ij x85
noncomputable def xtk := nRs 2 xtj
noncomputable def xtl := nR xtk
noncomputable def xtm := nR xtl
noncomputable def xik := nRs 2 xtm
noncomputable def xtn := nL xik
noncomputable def x1h9 := nR xik
noncomputable def xto := nR xtn
noncomputable def xtp := nRs 2 xto
noncomputable def xtq := nR xtp
noncomputable def xtr := nR xtq
noncomputable def xil := nRs 2 xtr
noncomputable def x1ha := nL xil
noncomputable def x1hb := nR xil
theorem x1hc (rec0 : AV → AV → AV → AV → AV → AV → Mem → Nat → O2) : x1ky call hs u x1h9 (j6 rec0 0 1 2 4 9 10) (setE 0 xj eNil) = (j6 (xc call hs u rec0) 0 1 2 4 9 10) := by kernel_rfl
theorem x1hd (rec0 : AV → AV → AV → AV → AV → AV → Mem → Nat → O2) (rec1 : AV → AV → AV → AV → AV → AV → AV → AV → AV → AV → Mem → Nat → O2) : x1ky call hs u x1hb (j10 rec1 0 1 2 4 5 6 9 10 16 17) (setE 2 (j6 (xc call hs u rec0) 0 1 2 4 9 10) (setE 1 (j6 (xc call hs u rec0) 0 1 2 4 9 10) (setE 0 xj eNil))) = (j10 (xbd call hs u rec0 rec1) 0 1 2 4 5 6 9 10 16 17) := by kernel_rfl
theorem x1he (rec0 : AV → AV → AV → AV → AV → AV → Mem → Nat → O2) (rec1 : AV → AV → AV → AV → AV → AV → AV → AV → AV → AV → Mem → Nat → O2) : x1ky call hs u x1ha (j10 (xbd call hs u rec0 rec1) 0 1 2 4 5 6 9 10 16 17) (setE 2 (j6 (xc call hs u rec0) 0 1 2 4 9 10) (setE 1 (j6 (xc call hs u rec0) 0 1 2 4 9 10) (setE 0 xj eNil))) = (j10 (xg3 call hs u rec0 rec1) 0 1 2 4 5 6 9 10 16 17) := by kernel_rfl
theorem x1hf (rec0 : AV → AV → AV → AV → AV → AV → Mem → Nat → O2) (rec1 : AV → AV → AV → AV → AV → AV → AV → AV → AV → AV → Mem → Nat → O2) : x1ky call hs u xil (j10 rec1 0 1 2 4 5 6 9 10 16 17) (setE 2 (j6 (xc call hs u rec0) 0 1 2 4 9 10) (setE 1 (j6 (xc call hs u rec0) 0 1 2 4 9 10) (setE 0 xj eNil))) = (j10 (xg3 call hs u rec0 rec1) 0 1 2 4 5 6 9 10 16 17) := sq2 (by kernel_rfl) (x1hd call hs u rec0 rec1) (x1he call hs u rec0 rec1)
theorem x1hg (rec0 : AV → AV → AV → AV → AV → AV → Mem → Nat → O2) (rec1 : AV → AV → AV → AV → AV → AV → AV → AV → AV → AV → Mem → Nat → O2) : x1ky call hs u xtr (j10 rec1 0 1 2 4 5 6 9 10 16 17) (setE 2 (j6 (xc call hs u rec0) 0 1 2 4 9 10) (setE 1 (j6 (xc call hs u rec0) 0 1 2 4 9 10) (setE 0 xj eNil))) = (j10 (xkw call hs u rec0 rec1) 0 1 2 4 5 6 9 10 16 17) := (sqN 2 (by kernel_rfl) (x1hf call hs u rec0 rec1)).trans (by kernel_rfl)
theorem x1hh (rec0 : AV → AV → AV → AV → AV → AV → Mem → Nat → O2) : x1ky call hs u xtq (j6 (xc call hs u rec0) 0 1 2 4 9 10) (setE 2 (j6 (xc call hs u rec0) 0 1 2 4 9 10) (setE 1 (j6 (xc call hs u rec0) 0 1 2 4 9 10) (setE 0 xj eNil))) = (j10 (x69 call hs u rec0 NN) 0 1 2 4 5 6 9 10 16 17) := lp (Ln := fun n => j10 (x69 call hs u rec0 n) 0 1 2 4 5 6 9 10 16 17) (by kernel_rfl) rfl fun n => (x1hg call hs u rec0 (x69 call hs u rec0 n)).trans (by kernel_rfl)
theorem x1hi (rec0 : AV → AV → AV → AV → AV → AV → Mem → Nat → O2) : x1ky call hs u xtp (j6 (xc call hs u rec0) 0 1 2 4 9 10) (setE 1 (j6 (xc call hs u rec0) 0 1 2 4 9 10) (setE 0 xj eNil)) = (j10 (x69 call hs u rec0 NN) 0 1 2 4 5 6 9 10 16 17) := bk (by kernel_rfl) (x1hh call hs u rec0)
theorem x1hj (rec0 : AV → AV → AV → AV → AV → AV → Mem → Nat → O2) : x1ky call hs u xto (j6 (xc call hs u rec0) 0 1 2 4 9 10) (setE 1 (j6 (xc call hs u rec0) 0 1 2 4 9 10) (setE 0 xj eNil)) = (j6 (xbe call hs u rec0) 0 1 2 4 9 10) := (sqN 2 (by kernel_rfl) (x1hi call hs u rec0)).trans (by kernel_rfl)
theorem x1hk (rec0 : AV → AV → AV → AV → AV → AV → Mem → Nat → O2) : x1ky call hs u xtn (j6 (xc call hs u rec0) 0 1 2 4 9 10) (setE 0 xj eNil) = (j6 (xbe call hs u rec0) 0 1 2 4 9 10) := bk (by kernel_rfl) (x1hj call hs u rec0)
theorem x1hl (rec0 : AV → AV → AV → AV → AV → AV → Mem → Nat → O2) : x1ky call hs u xik (j6 rec0 0 1 2 4 9 10) (setE 0 xj eNil) = (j6 (xbe call hs u rec0) 0 1 2 4 9 10) := sq2 (by kernel_rfl) (x1hc call hs u rec0) (x1hk call hs u rec0)
theorem x1hm (rec0 : AV → AV → AV → AV → AV → AV → Mem → Nat → O2) : x1ky call hs u xtm (j6 rec0 0 1 2 4 9 10) (setE 0 xj eNil) = (j6 (xky call hs u rec0) 0 1 2 4 9 10) := (sqN 2 (by kernel_rfl) (x1hl call hs u rec0)).trans (by kernel_rfl)
theorem x1hn : x1ky call hs u xtl xj (setE 0 xj eNil) = (j6 (x6a call hs u NN) 0 1 2 4 9 10) := lp (Ln := fun n => j6 (x6a call hs u n) 0 1 2 4 9 10) (by kernel_rfl) rfl fun n => (x1hm call hs u (x6a call hs u n)).trans (by kernel_rfl)
theorem x1ho : x1ky call hs u xtk xj eNil = (j6 (x6a call hs u NN) 0 1 2 4 9 10) := bk (by kernel_rfl) (x1hn call hs u)
theorem x1hp : x1ky call hs u xtj xj eNil = (j3 (xkz call hs u) 0 1 2) := (sqN 2 (by kernel_rfl) (x1ho call hs u)).trans (by kernel_rfl)
theorem xxq : FL x85 xe2 := le3 (fn := Try.f120) (by kernel_rfl) (by kernel_rfl) (by kernel_rfl) (by kernel_rfl) (fun call hs t0 t1 t2 m => (congrFun (x1hp call hs m.next) _).trans (by kernel_rfl)) (fun _ _ _ _ _ h => by unfold xe2 at h; split at h <;> first | exact ⟨_, _, _, rfl⟩ | cases h)
noncomputable abbrev x46 : Fs → O2 := x1ih Try.prog [.tmp 4]
noncomputable abbrev x1lh := XK call { f := x1d, u := u, nt := 48, hs := hs } x46
noncomputable def xts := x1ij x1d
noncomputable def xim := nR xts
noncomputable def x1hq := nL xim
noncomputable def xtt := nR xim
noncomputable def xin := nR xtt
noncomputable def x1hr := nL xin
noncomputable def xtu := nR xin
noncomputable def xio := nRs 2 xtu
noncomputable def xtv := nL xio
noncomputable def x1hs := nR xio
noncomputable def xtw := nR xtv
noncomputable def x1ht := nR xtw
theorem x1hu : x1lh call hs u x1hs x46 eNil = (j1 (x44 call hs u) 7) := by kernel_rfl
theorem x1hv (rec0 : AV → AV → Mem → Nat → O2) : x1lh call hs u x1ht (j2 rec0 7 8) (setE 0 (j1 (x44 call hs u) 7) eNil) = (j2 (xbf call hs u rec0) 7 8) := by kernel_rfl
theorem x1hw : x1lh call hs u xtw (j1 (x44 call hs u) 7) (setE 0 (j1 (x44 call hs u) 7) eNil) = (j2 (x1p call hs u NN) 7 8) := lp (Ln := fun n => j2 (x1p call hs u n) 7 8) (by kernel_rfl) rfl fun n => (x1hv call hs u (x1p call hs u n)).trans (by kernel_rfl)
theorem x1hx : x1lh call hs u xtv (j1 (x44 call hs u) 7) eNil = (j2 (x1p call hs u NN) 7 8) := bk (by kernel_rfl) (x1hw call hs u)
theorem x1hy : x1lh call hs u xio x46 eNil = (j2 (x1p call hs u NN) 7 8) := sq2 (by kernel_rfl) (x1hu call hs u) (x1hx call hs u)
theorem x1hz : x1lh call hs u xtu x46 eNil = (j2 (xbg call hs u) 0 6) := (sqN 2 (by kernel_rfl) (x1hy call hs u)).trans (by kernel_rfl)
theorem x1i0 : x1lh call hs u x1hr (j2 (xbg call hs u) 0 6) eNil = (j3 (xbh call hs u) 0 5 6) := by kernel_rfl
theorem x1i1 : x1lh call hs u xin x46 eNil = (j3 (xbh call hs u) 0 5 6) := sq2 (by kernel_rfl) (x1hz call hs u) (x1i0 call hs u)
theorem x1i2 : x1lh call hs u xtt x46 eNil = (j2 (xbi call hs u) 0 1) := (sqN 1 (by kernel_rfl) (x1i1 call hs u)).trans (by kernel_rfl)
theorem x1i3 : x1lh call hs u x1hq (j2 (xbi call hs u) 0 1) eNil = (j2 (xbj call hs u) 0 1) := by kernel_rfl
theorem x1i4 : x1lh call hs u xim x46 eNil = (j2 (xbj call hs u) 0 1) := sq2 (by kernel_rfl) (x1i2 call hs u) (x1i3 call hs u)
theorem x1i5 : x1lh call hs u xts x46 eNil = (j2 (xg4 call hs u) 0 1) := (sqN 1 (by kernel_rfl) (x1i4 call hs u)).trans (by kernel_rfl)
theorem xxr : FL x1d x86 := le2 (fn := Try.f121) (by kernel_rfl) (by kernel_rfl) (by kernel_rfl) (by kernel_rfl) (fun call hs t0 t1 m => (congrFun (x1i5 call hs m.next) _).trans (by kernel_rfl)) (fun _ _ _ _ _ h => by unfold x86 at h; split at h <;> first | exact ⟨_, _, rfl⟩ | cases h)
noncomputable abbrev xtx : Fs → O2 := x1ih Try.prog []
noncomputable abbrev x1yw := XK call { f := x18, u := u, nt := 18, hs := hs } xtx
noncomputable def x1i6 := x1ij x18
theorem x1i7 : x1yw call hs u x1i6 xtx eNil = (j4 (x8u call hs u) 0 1 2 3) := by kernel_rfl
theorem xv6 : FL x18 x91 := le4 (fn := Try.f122) (by kernel_rfl) (by kernel_rfl) (by kernel_rfl) (by kernel_rfl) (fun call hs t0 t1 t2 t3 m => (congrFun (x1i7 call hs m.next) _).trans (by kernel_rfl)) (fun _ _ _ _ _ h => by unfold x91 at h; split at h <;> first | exact ⟨_, _, _, _, rfl⟩ | cases h)
noncomputable abbrev xty : Fs → O2 := x1ih Try.prog [.tmp 4]
noncomputable abbrev x1yx := XK call { f := x47, u := u, nt := 6, hs := hs } xty
noncomputable def x1i8 := x1ij x47
theorem x1i9 : x1yx call hs u x1i8 xty eNil = (j2 (xg5 call hs u) 0 1) := by kernel_rfl
theorem xv8 : FL x47 x6l := le2 (fn := Try.f123) (by kernel_rfl) (by kernel_rfl) (by kernel_rfl) (by kernel_rfl) (fun call hs t0 t1 m => (congrFun (x1i9 call hs m.next) _).trans (by kernel_rfl)) (fun _ _ _ _ _ h => by unfold x6l at h; split at h <;> first | exact ⟨_, _, rfl⟩ | cases h)
noncomputable abbrev xtz : Fs → O2 := x1ih Try.prog [.tmp 4, .tmp 5]
noncomputable abbrev x1yy := XK call { f := x4m, u := u, nt := 30, hs := hs } xtz
noncomputable def x1ia := x1ij x4m
theorem x1ib : x1yy call hs u x1ia xtz eNil = (j2 (xl0 call hs u) 0 1) := by kernel_rfl
theorem xxs : FL x4m xe3 := le2 (fn := Try.f125) (by kernel_rfl) (by kernel_rfl) (by kernel_rfl) (by kernel_rfl) (fun call hs t0 t1 m => (congrFun (x1ib call hs m.next) _).trans (by kernel_rfl)) (fun _ _ _ _ _ h => by unfold xe3 at h; split at h <;> first | exact ⟨_, _, rfl⟩ | cases h)
end Go.Ix
