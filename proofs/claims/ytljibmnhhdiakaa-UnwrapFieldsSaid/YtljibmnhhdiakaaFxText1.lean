/- MADE BY PROGRAM (gen.py). What the code does, block by block. -/
import Derived.Test.YtljibmnhhdiakaaFxConst
set_option linter.unusedVariables false
namespace Go.Ix
open Go.Proofs

/- math/bits.Mul64 -/
noncomputable def xru (call : FCall) (hs : FHs) (u : Nat) (t0 t1 : AV) (m : Mem) (fc : Nat) : Option (AV × Mem) :=
  (sBin Try.prog .and x13 (.tmp 14) (.const (.int .u64 4294967295)) t0 (AV.sc (.int .u64 4294967295))).bind fun t15 =>
  (sBin Try.prog .shr x13 (.tmp 16) (.const (.int .u64 32)) t0 (AV.sc (.int .u64 32))).bind fun t17 =>
  (sBin Try.prog .and x13 (.tmp 18) (.const (.int .u64 4294967295)) t1 (AV.sc (.int .u64 4294967295))).bind fun t19 =>
  (sBin Try.prog .shr x13 (.tmp 20) (.const (.int .u64 32)) t1 (AV.sc (.int .u64 32))).bind fun t21 =>
  (sBin Try.prog .mul x13 (.tmp 22) (.tmp 23) t15 t19).bind fun t24 =>
  (sBin Try.prog .mul x13 (.tmp 25) (.tmp 26) t17 t19).bind fun t27 =>
  (sBin Try.prog .shr x13 (.tmp 28) (.const (.int .u64 32)) t24 (AV.sc (.int .u64 32))).bind fun t29 =>
  (sBin Try.prog .add x13 (.tmp 27) (.tmp 29) t27 t29).bind fun t30 =>
  (sBin Try.prog .and x13 (.tmp 31) (.const (.int .u64 4294967295)) t30 (AV.sc (.int .u64 4294967295))).bind fun t32 =>
  (sBin Try.prog .shr x13 (.tmp 33) (.const (.int .u64 32)) t30 (AV.sc (.int .u64 32))).bind fun t34 =>
  (sBin Try.prog .mul x13 (.tmp 36) (.tmp 37) t15 t21).bind fun t38 =>
  (sBin Try.prog .add x13 (.tmp 35) (.tmp 38) t32 t38).bind fun t39 =>
  (sBin Try.prog .mul x13 (.tmp 40) (.tmp 41) t17 t21).bind fun t42 =>
  (sBin Try.prog .add x13 (.tmp 42) (.tmp 43) t42 t34).bind fun t44 =>
  (sBin Try.prog .shr x13 (.tmp 45) (.const (.int .u64 32)) t39 (AV.sc (.int .u64 32))).bind fun t46 =>
  (sBin Try.prog .add x13 (.tmp 44) (.tmp 46) t44 t46).bind fun t47 =>
  (sBin Try.prog .mul x13 (.tmp 48) (.tmp 49) t0 t1).bind fun t50 =>
  some (AV.tup [t47, t50], m)
noncomputable def xat (call : FCall) (hs : FHs) (args : List AV) (m : Mem) : Option (AV × Mem) :=
  match args with
  | [t0, t1] => xru call hs m.next t0 t1 ⟨m.hp, m.next + 1⟩ 0
  | _ => none

end Go.Ix
