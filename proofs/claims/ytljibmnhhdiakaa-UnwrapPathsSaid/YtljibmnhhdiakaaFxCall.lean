import Derived.Test.YtljibmnhhdiakaaFxText0
import Derived.Test.YtljibmnhhdiakaaFxEnt
import Derived.Test.YtljibmnhhdiakaaFxRules
namespace Go.Ix
open Go.Proofs
noncomputable def table : List (FuncId × FnT) := [
  (x2y, x67),
  (xb, x68),
  (x19, x8m),
  (x1a, x69),
  (x3z, x6a),
  (x20, x8n),
  (x6b, xbz),
  (x6c, xc0),
  (x21, x6d),
  (xt, x6e),
  (x40, x6f),
  (x22, x6g),
  (x23, x4r),
  (x1p, x6h),
  (x8o, xc1),
  (x8p, xc2),
  (x4s, x6i),
  (x24, xc3),
  (x8q, xc4),
  (x6j, xc5),
  (x8r, xc6),
  (x6k, xc7),
  (x8s, xc8),
  (x8t, xc9),
  (x2z, x8u),
  (x30, x6l),
  (x6m, xca),
  (x25, x6n),
  (x26, x6o),
  (x1q, x6p),
  (x4t, xcb),
  (x6q, xcc),
  (x6r, xcd),
  (x41, xce),
  (x9, x6s),
  (x8v, xcf),
  (x1b, x4u),
  (x31, x8w),
  (x8x, xcg),
  (x32, x42),
  (x27, x6t),
  (x6u, xch),
  (x6v, xci),
  (x43, x6w),
  (x8y, xcj),
  (x6x, xck),
  (x6y, xcl),
  (x4v, xcm),
  (x4w, xcn),
  (x33, xco),
  (x34, xcp),
  (x1c, x8z),
  (x1r, x6z),
  (x70, xcq),
  (x1d, x71),
  (x35, x72),
  (x36, x73),
  (x37, x74),
  (x38, x75),
  (x28, x76),
  (x29, x77),
  (x39, x78),
  (x4x, xcr),
  (x3a, x90),
  (x44, xcs),
  (x79, xct),
  (x2a, x7a),
  (x7b, xcu),
  (x3b, x91),
  (x7c, xcv),
  (x45, x7d),
  (x46, x7e),
  (x7f, xcw),
  (x4y, xcx),
  (x7g, xcy),
  (x7h, xcz),
  (x4z, xd0),
  (x7i, xd1),
  (x7j, xd2),
  (x7k, xd3),
  (x3c, x7l),
  (x3d, x7m),
  (x47, x7n),
  (x48, x7o),
  (x3e, x7p),
  (x3f, x50),
  (x51, xd4),
  (x3g, x7q),
  (x7r, xd5),
  (x92, xd6),
  (x2b, x7s),
  (x1e, x7t),
  (x7u, xd7),
  (x49, xd8),
  (x7v, xd9)]
noncomputable def x1e6 : Nat → x1e5
  | 0 => fun _ _ _ _ => none
  | d + 1 => fun hs f args m => look f table (x1e6 d) hs args m
theorem xrn (d : Nat) (hs : FHs) (args : List AV) (m : Mem) : x1e6 (d + 1) hs x4s args m = x6i (x1e6 d) hs args m := by kernel_rfl
theorem xro (d : Nat) (hs : FHs) (args : List AV) (m : Mem) : x1e6 (d + 1) hs x2z args m = x8u (x1e6 d) hs args m := by kernel_rfl
theorem xrp (d : Nat) (hs : FHs) (args : List AV) (m : Mem) : x1e6 (d + 1) hs x30 args m = x6l (x1e6 d) hs args m := by kernel_rfl
theorem xrq (d : Nat) (hs : FHs) (args : List AV) (m : Mem) : x1e6 (d + 1) hs x25 args m = x6n (x1e6 d) hs args m := by kernel_rfl
theorem xrr (d : Nat) (hs : FHs) (args : List AV) (m : Mem) : x1e6 (d + 1) hs x26 args m = x6o (x1e6 d) hs args m := by kernel_rfl
theorem xrs (d : Nat) (hs : FHs) (args : List AV) (m : Mem) : x1e6 (d + 1) hs x1q args m = x6p (x1e6 d) hs args m := by kernel_rfl
theorem xrt (d : Nat) (hs : FHs) (args : List AV) (m : Mem) : x1e6 (d + 1) hs x9 args m = x6s (x1e6 d) hs args m := by kernel_rfl
theorem xhi (d : Nat) (hs : FHs) (args : List AV) (m : Mem) : x1e6 (d + 1) hs x1b args m = x4u (x1e6 d) hs args m := by kernel_rfl
theorem xru (d : Nat) (hs : FHs) (args : List AV) (m : Mem) : x1e6 (d + 1) hs x31 args m = x8w (x1e6 d) hs args m := by kernel_rfl
theorem xda (d : Nat) (hs : FHs) (args : List AV) (m : Mem) : x1e6 (d + 1) hs x32 args m = x42 (x1e6 d) hs args m := by kernel_rfl
theorem xrv (d : Nat) (hs : FHs) (args : List AV) (m : Mem) : x1e6 (d + 1) hs x27 args m = x6t (x1e6 d) hs args m := by kernel_rfl
theorem xrw (d : Nat) (hs : FHs) (args : List AV) (m : Mem) : x1e6 (d + 1) hs x43 args m = x6w (x1e6 d) hs args m := by kernel_rfl
theorem xrx (d : Nat) (hs : FHs) (args : List AV) (m : Mem) : x1e6 (d + 1) hs x1c args m = x8z (x1e6 d) hs args m := by kernel_rfl
theorem xry (d : Nat) (hs : FHs) (args : List AV) (m : Mem) : x1e6 (d + 1) hs x1r args m = x6z (x1e6 d) hs args m := by kernel_rfl
theorem xrz (d : Nat) (hs : FHs) (args : List AV) (m : Mem) : x1e6 (d + 1) hs x1d args m = x71 (x1e6 d) hs args m := by kernel_rfl
theorem xs0 (d : Nat) (hs : FHs) (args : List AV) (m : Mem) : x1e6 (d + 1) hs x35 args m = x72 (x1e6 d) hs args m := by kernel_rfl
theorem xs1 (d : Nat) (hs : FHs) (args : List AV) (m : Mem) : x1e6 (d + 1) hs x36 args m = x73 (x1e6 d) hs args m := by kernel_rfl
theorem xs2 (d : Nat) (hs : FHs) (args : List AV) (m : Mem) : x1e6 (d + 1) hs x37 args m = x74 (x1e6 d) hs args m := by kernel_rfl
theorem xs3 (d : Nat) (hs : FHs) (args : List AV) (m : Mem) : x1e6 (d + 1) hs x38 args m = x75 (x1e6 d) hs args m := by kernel_rfl
theorem xs4 (d : Nat) (hs : FHs) (args : List AV) (m : Mem) : x1e6 (d + 1) hs x28 args m = x76 (x1e6 d) hs args m := by kernel_rfl
theorem xs5 (d : Nat) (hs : FHs) (args : List AV) (m : Mem) : x1e6 (d + 1) hs x29 args m = x77 (x1e6 d) hs args m := by kernel_rfl
theorem xs6 (d : Nat) (hs : FHs) (args : List AV) (m : Mem) : x1e6 (d + 1) hs x39 args m = x78 (x1e6 d) hs args m := by kernel_rfl
theorem xs7 (d : Nat) (hs : FHs) (args : List AV) (m : Mem) : x1e6 (d + 1) hs xb args m = x68 (x1e6 d) hs args m := by kernel_rfl
theorem xs8 (d : Nat) (hs : FHs) (args : List AV) (m : Mem) : x1e6 (d + 1) hs x3a args m = x90 (x1e6 d) hs args m := by kernel_rfl
theorem xs9 (d : Nat) (hs : FHs) (args : List AV) (m : Mem) : x1e6 (d + 1) hs x2a args m = x7a (x1e6 d) hs args m := by kernel_rfl
theorem xsa (d : Nat) (hs : FHs) (args : List AV) (m : Mem) : x1e6 (d + 1) hs x3b args m = x91 (x1e6 d) hs args m := by kernel_rfl
theorem xsb (d : Nat) (hs : FHs) (args : List AV) (m : Mem) : x1e6 (d + 1) hs xt args m = x6e (x1e6 d) hs args m := by kernel_rfl
theorem xsc (d : Nat) (hs : FHs) (args : List AV) (m : Mem) : x1e6 (d + 1) hs x45 args m = x7d (x1e6 d) hs args m := by kernel_rfl
theorem xsd (d : Nat) (hs : FHs) (args : List AV) (m : Mem) : x1e6 (d + 1) hs x46 args m = x7e (x1e6 d) hs args m := by kernel_rfl
theorem xse (d : Nat) (hs : FHs) (args : List AV) (m : Mem) : x1e6 (d + 1) hs x21 args m = x6d (x1e6 d) hs args m := by kernel_rfl
theorem xsf (d : Nat) (hs : FHs) (args : List AV) (m : Mem) : x1e6 (d + 1) hs x40 args m = x6f (x1e6 d) hs args m := by kernel_rfl
theorem xsg (d : Nat) (hs : FHs) (args : List AV) (m : Mem) : x1e6 (d + 1) hs x3c args m = x7l (x1e6 d) hs args m := by kernel_rfl
theorem xhj (d : Nat) (hs : FHs) (args : List AV) (m : Mem) : x1e6 (d + 1) hs x23 args m = x4r (x1e6 d) hs args m := by kernel_rfl
theorem xsh (d : Nat) (hs : FHs) (args : List AV) (m : Mem) : x1e6 (d + 1) hs x1p args m = x6h (x1e6 d) hs args m := by kernel_rfl
theorem xsi (d : Nat) (hs : FHs) (args : List AV) (m : Mem) : x1e6 (d + 1) hs x3d args m = x7m (x1e6 d) hs args m := by kernel_rfl
theorem xsj (d : Nat) (hs : FHs) (args : List AV) (m : Mem) : x1e6 (d + 1) hs x22 args m = x6g (x1e6 d) hs args m := by kernel_rfl
theorem xsk (d : Nat) (hs : FHs) (args : List AV) (m : Mem) : x1e6 (d + 1) hs x47 args m = x7n (x1e6 d) hs args m := by kernel_rfl
theorem xsl (d : Nat) (hs : FHs) (args : List AV) (m : Mem) : x1e6 (d + 1) hs x48 args m = x7o (x1e6 d) hs args m := by kernel_rfl
theorem xsm (d : Nat) (hs : FHs) (args : List AV) (m : Mem) : x1e6 (d + 1) hs x3e args m = x7p (x1e6 d) hs args m := by kernel_rfl
theorem xhk (d : Nat) (hs : FHs) (args : List AV) (m : Mem) : x1e6 (d + 1) hs x3f args m = x50 (x1e6 d) hs args m := by kernel_rfl
theorem xsn (d : Nat) (hs : FHs) (args : List AV) (m : Mem) : x1e6 (d + 1) hs x3g args m = x7q (x1e6 d) hs args m := by kernel_rfl
theorem xso (d : Nat) (hs : FHs) (args : List AV) (m : Mem) : x1e6 (d + 1) hs x20 args m = x8n (x1e6 d) hs args m := by kernel_rfl
theorem xsp (d : Nat) (hs : FHs) (args : List AV) (m : Mem) : x1e6 (d + 1) hs x1a args m = x69 (x1e6 d) hs args m := by kernel_rfl
theorem xsq (d : Nat) (hs : FHs) (args : List AV) (m : Mem) : x1e6 (d + 1) hs x2b args m = x7s (x1e6 d) hs args m := by kernel_rfl
theorem xsr (d : Nat) (hs : FHs) (args : List AV) (m : Mem) : x1e6 (d + 1) hs x1e args m = x7t (x1e6 d) hs args m := by kernel_rfl
theorem xss (d : Nat) (hs : FHs) (args : List AV) (m : Mem) : x1e6 (d + 1) hs x19 args m = x8m (x1e6 d) hs args m := by kernel_rfl
theorem xst (d : Nat) (hs : FHs) (args : List AV) (m : Mem) : x1e6 (d + 1) hs x3z args m = x6a (x1e6 d) hs args m := by kernel_rfl
theorem xsu (d : Nat) (hs : FHs) (args : List AV) (m : Mem) : x1e6 (d + 1) hs x2y args m = x67 (x1e6 d) hs args m := by kernel_rfl
end Go.Ix
