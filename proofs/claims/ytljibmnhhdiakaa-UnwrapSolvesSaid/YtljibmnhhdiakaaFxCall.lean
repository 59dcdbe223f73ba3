import Derived.Test.YtljibmnhhdiakaaFxText0
import Derived.Test.YtljibmnhhdiakaaFxEnt
import Derived.Test.YtljibmnhhdiakaaFxRules
namespace Go.Ix
open Go.Proofs
noncomputable def table : List (FuncId × FnT) := [
  (x35, x6i),
  (xb, x6j),
  (x18, x91),
  (x19, x6k),
  (x47, x6l),
  (x2b, x92),
  (x6m, xck),
  (x6n, xcl),
  (x48, xcm),
  (x2c, xcn),
  (x49, x6o),
  (x2d, x6p),
  (x36, x6q),
  (x1s, x6r),
  (x51, x6s),
  (x93, xco),
  (x94, xcp),
  (x95, xcq),
  (x96, xcr),
  (x1a, xcs),
  (x1t, x6t),
  (x1u, x6u),
  (xk, x52),
  (x1b, x6v),
  (x37, x6w),
  (x38, x6x),
  (x4a, x6y),
  (x4b, x6z),
  (x4c, x97),
  (x98, xct),
  (x99, xcu),
  (x70, xcv),
  (x53, xcw),
  (x9a, xcx),
  (x71, xcy),
  (x4d, xcz),
  (xa, x72),
  (x39, x73),
  (x4e, xd0),
  (xe, x74),
  (x75, xd1),
  (x76, xd2),
  (x4f, xd3),
  (x77, xd4),
  (x54, xd5),
  (x78, xd6),
  (x79, xd7),
  (x4g, x7a),
  (x7b, xd8),
  (x55, xd9),
  (x56, xda),
  (x1v, x7c),
  (x1w, x7d),
  (x1c, x9b),
  (x1x, x7e),
  (x3a, x7f),
  (x4h, x7g),
  (x3b, x7h),
  (x3c, xdb),
  (x57, xdc),
  (x58, xdd),
  (x59, xde),
  (x5a, xdf),
  (x5b, xdg),
  (x5c, xdh),
  (x3d, x7i),
  (x9c, xdi),
  (x3e, x9d),
  (x4i, xdj),
  (x7j, xdk),
  (x3f, x7k),
  (x4j, xdl),
  (x7l, xdm),
  (x7m, xdn),
  (x7n, xdo),
  (x7o, xdp),
  (x7p, xdq),
  (x7q, xdr),
  (x5d, xds),
  (x7r, xdt),
  (x7s, xdu),
  (x4k, x7t),
  (x7u, xdv),
  (x3g, x7v),
  (x3h, x7w),
  (x3i, x7x),
  (x7y, xdw),
  (x7z, xdx),
  (x80, xdy),
  (x81, xdz),
  (x5e, xe0),
  (x3j, x82),
  (x4l, x83),
  (x84, xe1),
  (x85, xe2),
  (x1d, x86),
  (x4m, xe3),
  (x87, xe4)]
noncomputable def x1id : Nat → x1ic
  | 0 => fun _ _ _ _ => none
  | d + 1 => fun hs f args m => look f table (x1id d) hs args m
theorem xu0 (d : Nat) (hs : FHs) (args : List AV) (m : Mem) : x1id (d + 1) hs x51 args m = x6s (x1id d) hs args m := by kernel_rfl
theorem xu1 (d : Nat) (hs : FHs) (args : List AV) (m : Mem) : x1id (d + 1) hs x1t args m = x6t (x1id d) hs args m := by kernel_rfl
theorem xip (d : Nat) (hs : FHs) (args : List AV) (m : Mem) : x1id (d + 1) hs x1u args m = x6u (x1id d) hs args m := by kernel_rfl
theorem xiq (d : Nat) (hs : FHs) (args : List AV) (m : Mem) : x1id (d + 1) hs xk args m = x52 (x1id d) hs args m := by kernel_rfl
theorem xu2 (d : Nat) (hs : FHs) (args : List AV) (m : Mem) : x1id (d + 1) hs x1b args m = x6v (x1id d) hs args m := by kernel_rfl
theorem xu3 (d : Nat) (hs : FHs) (args : List AV) (m : Mem) : x1id (d + 1) hs x37 args m = x6w (x1id d) hs args m := by kernel_rfl
theorem xu4 (d : Nat) (hs : FHs) (args : List AV) (m : Mem) : x1id (d + 1) hs x38 args m = x6x (x1id d) hs args m := by kernel_rfl
theorem xu5 (d : Nat) (hs : FHs) (args : List AV) (m : Mem) : x1id (d + 1) hs x4a args m = x6y (x1id d) hs args m := by kernel_rfl
theorem xu6 (d : Nat) (hs : FHs) (args : List AV) (m : Mem) : x1id (d + 1) hs x4b args m = x6z (x1id d) hs args m := by kernel_rfl
theorem xu7 (d : Nat) (hs : FHs) (args : List AV) (m : Mem) : x1id (d + 1) hs x4c args m = x97 (x1id d) hs args m := by kernel_rfl
theorem xu8 (d : Nat) (hs : FHs) (args : List AV) (m : Mem) : x1id (d + 1) hs xa args m = x72 (x1id d) hs args m := by kernel_rfl
theorem xu9 (d : Nat) (hs : FHs) (args : List AV) (m : Mem) : x1id (d + 1) hs x39 args m = x73 (x1id d) hs args m := by kernel_rfl
theorem xua (d : Nat) (hs : FHs) (args : List AV) (m : Mem) : x1id (d + 1) hs xe args m = x74 (x1id d) hs args m := by kernel_rfl
theorem xub (d : Nat) (hs : FHs) (args : List AV) (m : Mem) : x1id (d + 1) hs x4g args m = x7a (x1id d) hs args m := by kernel_rfl
theorem xuc (d : Nat) (hs : FHs) (args : List AV) (m : Mem) : x1id (d + 1) hs x1v args m = x7c (x1id d) hs args m := by kernel_rfl
theorem xud (d : Nat) (hs : FHs) (args : List AV) (m : Mem) : x1id (d + 1) hs x1w args m = x7d (x1id d) hs args m := by kernel_rfl
theorem xue (d : Nat) (hs : FHs) (args : List AV) (m : Mem) : x1id (d + 1) hs x1c args m = x9b (x1id d) hs args m := by kernel_rfl
theorem xuf (d : Nat) (hs : FHs) (args : List AV) (m : Mem) : x1id (d + 1) hs x1x args m = x7e (x1id d) hs args m := by kernel_rfl
theorem xug (d : Nat) (hs : FHs) (args : List AV) (m : Mem) : x1id (d + 1) hs x3a args m = x7f (x1id d) hs args m := by kernel_rfl
theorem xuh (d : Nat) (hs : FHs) (args : List AV) (m : Mem) : x1id (d + 1) hs x4h args m = x7g (x1id d) hs args m := by kernel_rfl
theorem xui (d : Nat) (hs : FHs) (args : List AV) (m : Mem) : x1id (d + 1) hs x3b args m = x7h (x1id d) hs args m := by kernel_rfl
theorem xuj (d : Nat) (hs : FHs) (args : List AV) (m : Mem) : x1id (d + 1) hs x3d args m = x7i (x1id d) hs args m := by kernel_rfl
theorem xuk (d : Nat) (hs : FHs) (args : List AV) (m : Mem) : x1id (d + 1) hs xb args m = x6j (x1id d) hs args m := by kernel_rfl
theorem xul (d : Nat) (hs : FHs) (args : List AV) (m : Mem) : x1id (d + 1) hs x3e args m = x9d (x1id d) hs args m := by kernel_rfl
theorem xum (d : Nat) (hs : FHs) (args : List AV) (m : Mem) : x1id (d + 1) hs x3f args m = x7k (x1id d) hs args m := by kernel_rfl
theorem xun (d : Nat) (hs : FHs) (args : List AV) (m : Mem) : x1id (d + 1) hs x49 args m = x6o (x1id d) hs args m := by kernel_rfl
theorem xuo (d : Nat) (hs : FHs) (args : List AV) (m : Mem) : x1id (d + 1) hs x4k args m = x7t (x1id d) hs args m := by kernel_rfl
theorem xup (d : Nat) (hs : FHs) (args : List AV) (m : Mem) : x1id (d + 1) hs x3g args m = x7v (x1id d) hs args m := by kernel_rfl
theorem xuq (d : Nat) (hs : FHs) (args : List AV) (m : Mem) : x1id (d + 1) hs x3h args m = x7w (x1id d) hs args m := by kernel_rfl
theorem xur (d : Nat) (hs : FHs) (args : List AV) (m : Mem) : x1id (d + 1) hs x36 args m = x6q (x1id d) hs args m := by kernel_rfl
theorem xus (d : Nat) (hs : FHs) (args : List AV) (m : Mem) : x1id (d + 1) hs x1s args m = x6r (x1id d) hs args m := by kernel_rfl
theorem xut (d : Nat) (hs : FHs) (args : List AV) (m : Mem) : x1id (d + 1) hs x3i args m = x7x (x1id d) hs args m := by kernel_rfl
theorem xuu (d : Nat) (hs : FHs) (args : List AV) (m : Mem) : x1id (d + 1) hs x2d args m = x6p (x1id d) hs args m := by kernel_rfl
theorem xuv (d : Nat) (hs : FHs) (args : List AV) (m : Mem) : x1id (d + 1) hs x3j args m = x82 (x1id d) hs args m := by kernel_rfl
theorem xuw (d : Nat) (hs : FHs) (args : List AV) (m : Mem) : x1id (d + 1) hs x2b args m = x92 (x1id d) hs args m := by kernel_rfl
theorem xux (d : Nat) (hs : FHs) (args : List AV) (m : Mem) : x1id (d + 1) hs x19 args m = x6k (x1id d) hs args m := by kernel_rfl
theorem xuy (d : Nat) (hs : FHs) (args : List AV) (m : Mem) : x1id (d + 1) hs x4l args m = x83 (x1id d) hs args m := by kernel_rfl
theorem xuz (d : Nat) (hs : FHs) (args : List AV) (m : Mem) : x1id (d + 1) hs x1d args m = x86 (x1id d) hs args m := by kernel_rfl
theorem xv0 (d : Nat) (hs : FHs) (args : List AV) (m : Mem) : x1id (d + 1) hs x18 args m = x91 (x1id d) hs args m := by kernel_rfl
theorem xv1 (d : Nat) (hs : FHs) (args : List AV) (m : Mem) : x1id (d + 1) hs x47 args m = x6l (x1id d) hs args m := by kernel_rfl
theorem xv2 (d : Nat) (hs : FHs) (args : List AV) (m : Mem) : x1id (d + 1) hs x35 args m = x6i (x1id d) hs args m := by kernel_rfl
end Go.Ix
