import Derived.Test.YtljibmnhhdiakaaFxText0
import Derived.Test.YtljibmnhhdiakaaFxEnt
import Derived.Test.YtljibmnhhdiakaaFxRules
import Derived.Test.YtljibmnhhdiakaaFxProj
import Derived.ProofKit
set_option linter.unusedVariables false
namespace Go.Ix
open Go.Proofs
variable (call : x1ic) (hs : FHs) (u : Nat)
noncomputable abbrev xz : Fs → O2 := x1ih Try.prog []
noncomputable abbrev x1lt := XK call { f := x35, u := u, nt := 76, hs := hs } xz
noncomputable def xl6 := x1ij x35
noncomputable def xl7 := nR xl6
noncomputable def xl8 := nR xl7
noncomputable def xl9 := nR xl8
noncomputable def xg9 := nRs 2 xl9
noncomputable def xla := nL xg9
noncomputable def xxx := nR xg9
noncomputable def xlb := nR xla
noncomputable def xga := nRs 3 xlb
noncomputable def xxy := nL xga
noncomputable def xxz := nR xga
theorem xy0 (rec0 : AV → AV → AV → AV → AV → AV → Mem → Nat → O2) : x1lt call hs u xxx (j6 rec0 0 1 2 14 15 16) (setE 0 xz eNil) = (j6 (x16 call hs u rec0) 0 1 2 14 15 16) := by kernel_rfl
theorem xy1 (rec0 : AV → AV → AV → AV → AV → AV → Mem → Nat → O2) : x1lt call hs u xxz (j6 (x16 call hs u rec0) 0 1 2 14 15 16) (setE 1 (j6 (x16 call hs u rec0) 0 1 2 14 15 16) (setE 0 xz eNil)) = (j7 (x6b call hs u rec0) 0 1 2 7 14 15 16) := by kernel_rfl
theorem xy2 (rec0 : AV → AV → AV → AV → AV → AV → Mem → Nat → O2) : x1lt call hs u xxy (j7 (x6b call hs u rec0) 0 1 2 7 14 15 16) (setE 1 (j6 (x16 call hs u rec0) 0 1 2 14 15 16) (setE 0 xz eNil)) = (j9 (x6c call hs u rec0) 0 1 2 5 6 7 14 15 16) := by kernel_rfl
theorem xy3 (rec0 : AV → AV → AV → AV → AV → AV → Mem → Nat → O2) : x1lt call hs u xga (j6 (x16 call hs u rec0) 0 1 2 14 15 16) (setE 1 (j6 (x16 call hs u rec0) 0 1 2 14 15 16) (setE 0 xz eNil)) = (j9 (x6c call hs u rec0) 0 1 2 5 6 7 14 15 16) := sq2 (by kernel_rfl) (xy1 call hs u rec0) (xy2 call hs u rec0)
theorem xy4 (rec0 : AV → AV → AV → AV → AV → AV → Mem → Nat → O2) : x1lt call hs u xlb (j6 (x16 call hs u rec0) 0 1 2 14 15 16) (setE 1 (j6 (x16 call hs u rec0) 0 1 2 14 15 16) (setE 0 xz eNil)) = (j6 (x8v call hs u rec0) 0 1 2 14 15 16) := (sqN 3 (by kernel_rfl) (xy3 call hs u rec0)).trans (by kernel_rfl)
theorem xy5 (rec0 : AV → AV → AV → AV → AV → AV → Mem → Nat → O2) : x1lt call hs u xla (j6 (x16 call hs u rec0) 0 1 2 14 15 16) (setE 0 xz eNil) = (j6 (x8v call hs u rec0) 0 1 2 14 15 16) := bk (by kernel_rfl) (xy4 call hs u rec0)
theorem xy6 (rec0 : AV → AV → AV → AV → AV → AV → Mem → Nat → O2) : x1lt call hs u xg9 (j6 rec0 0 1 2 14 15 16) (setE 0 xz eNil) = (j6 (x8v call hs u rec0) 0 1 2 14 15 16) := sq2 (by kernel_rfl) (xy0 call hs u rec0) (xy5 call hs u rec0)
theorem xy7 (rec0 : AV → AV → AV → AV → AV → AV → Mem → Nat → O2) : x1lt call hs u xl9 (j6 rec0 0 1 2 14 15 16) (setE 0 xz eNil) = (j6 (xbk call hs u rec0) 0 1 2 14 15 16) := (sqN 2 (by kernel_rfl) (xy6 call hs u rec0)).trans (by kernel_rfl)
theorem xy8 : x1lt call hs u xl8 xz (setE 0 xz eNil) = (j6 (x17 call hs u NN) 0 1 2 14 15 16) := lp (Ln := fun n => j6 (x17 call hs u n) 0 1 2 14 15 16) (by kernel_rfl) rfl fun n => (xy7 call hs u (x17 call hs u n)).trans (by kernel_rfl)
theorem xy9 : x1lt call hs u xl7 xz eNil = (j6 (x17 call hs u NN) 0 1 2 14 15 16) := bk (by kernel_rfl) (xy8 call hs u)
theorem xya : x1lt call hs u xl6 xz eNil = (j3 (xg6 call hs u) 0 1 2) := (sqN 1 (by kernel_rfl) (xy9 call hs u)).trans (by kernel_rfl)
theorem xv4 : FL x35 x6i := le3 (fn := Try.f126) (by kernel_rfl) (by kernel_rfl) (by kernel_rfl) (by kernel_rfl) (fun call hs t0 t1 t2 m => (congrFun (xya call hs m.next) _).trans (by kernel_rfl)) (fun _ _ _ _ _ h => by unfold x6i at h; split at h <;> first | exact ⟨_, _, _, rfl⟩ | cases h)
noncomputable abbrev xlc : Fs → O2 := x1ih Try.prog [.tmp 4, .tmp 5]
noncomputable abbrev x1xm := XK call { f := x87, u := u, nt := 17, hs := hs } xlc
noncomputable def xyb := x1ij x87
theorem xyc : x1xm call hs u xyb xlc eNil = (j2 (xl1 call hs u) 0 1) := by kernel_rfl
theorem xxt : FL x87 xe4 := le2 (fn := Try.f127) (by kernel_rfl) (by kernel_rfl) (by kernel_rfl) (by kernel_rfl) (fun call hs t0 t1 m => (congrFun (xyc call hs m.next) _).trans (by kernel_rfl)) (fun _ _ _ _ _ h => by unfold xe4 at h; split at h <;> first | exact ⟨_, _, rfl⟩ | cases h)
noncomputable abbrev xld : Fs → O2 := x1ih Try.prog [.tmp 4, .tmp 5]
noncomputable abbrev x1xn := XK call { f := x6m, u := u, nt := 51, hs := hs } xld
noncomputable def xyd := x1ij x6m
theorem xye : x1xn call hs u xyd xld eNil = (j2 (xl2 call hs u) 0 1) := by kernel_rfl
theorem xva : FL x6m xck := le2 (fn := Try.f128) (by kernel_rfl) (by kernel_rfl) (by kernel_rfl) (by kernel_rfl) (fun call hs t0 t1 m => (congrFun (xye call hs m.next) _).trans (by kernel_rfl)) (fun _ _ _ _ _ h => by unfold xck at h; split at h <;> first | exact ⟨_, _, rfl⟩ | cases h)
end Go.Ix
