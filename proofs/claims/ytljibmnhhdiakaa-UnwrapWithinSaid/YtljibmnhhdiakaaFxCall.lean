import Derived.Test.YtljibmnhhdiakaaFxText0
import Derived.Test.YtljibmnhhdiakaaFxRules
namespace Go.Ix
open Go.Proofs
noncomputable def table : List (FuncId × FnT) := [
  (xk, x6e),
  (x1e, x6f),
  (x2f, x80),
  (x8, x6g),
  (x4y, x6h),
  (x20, x81),
  (x5s, x82),
  (x1n, x83),
  (x21, x84),
  (x3o, x85),
  (x4z, x6i),
  (x50, x6j),
  (x19, x51),
  (x2r, x6k),
  (xe, x6l),
  (x5t, x6m),
  (x10, x6n),
  (x5u, x6o),
  (x2g, x86),
  (xy, x6p),
  (x2s, x6q),
  (x1f, x5v),
  (x2h, x6r),
  (x1g, x6s),
  (xl, x6t),
  (xp, x87),
  (x28, x52),
  (x1h, x88),
  (x15, x6u),
  (x2i, x6v),
  (x29, x5w),
  (x3z, x6w),
  (xj, x89),
  (x3p, x6x),
  (x1i, x6y),
  (x5x, x8a),
  (x53, x8b),
  (x22, x8c),
  (x40, x6z),
  (x2t, x70),
  (x9, x8d),
  (xz, x5y),
  (x11, x71),
  (xu, x8e),
  (x5z, x8f),
  (x60, x8g),
  (x61, x8h),
  (xd, x72),
  (x41, x73),
  (xr, x8i),
  (xh, x8j),
  (x1a, x8k),
  (x2j, x62),
  (x42, x74),
  (x63, x8l),
  (x16, x75),
  (xv, x8m),
  (x54, x76),
  (x64, x8n),
  (x1b, x77),
  (xi, x78),
  (x7, x79),
  (x65, x8o),
  (x66, x8p),
  (x1y, x67),
  (xa, x7a),
  (x2u, x7b),
  (xg, x8q),
  (xm, x7c),
  (x43, x8r),
  (x68, x8s)]
noncomputable def callE : Nat → FCall
  | 0 => fun _ _ _ _ => none
  | d + 1 => fun hs f args m => look f table (callE d) hs args m
theorem xsf (d : Nat) (hs : FHs) (args : List AV) (m : Mem) : callE (d + 1) hs xe args m = x6l (callE d) hs args m := by kernel_rfl
theorem xsg (d : Nat) (hs : FHs) (args : List AV) (m : Mem) : callE (d + 1) hs x5t args m = x6m (callE d) hs args m := by kernel_rfl
theorem xsh (d : Nat) (hs : FHs) (args : List AV) (m : Mem) : callE (d + 1) hs x10 args m = x6n (callE d) hs args m := by kernel_rfl
theorem xsi (d : Nat) (hs : FHs) (args : List AV) (m : Mem) : callE (d + 1) hs x5u args m = x6o (callE d) hs args m := by kernel_rfl
theorem x1da (d : Nat) (hs : FHs) (args : List AV) (m : Mem) : callE (d + 1) hs x2g args m = x86 (callE d) hs args m := by kernel_rfl
theorem xsj (d : Nat) (hs : FHs) (args : List AV) (m : Mem) : callE (d + 1) hs xy args m = x6p (callE d) hs args m := by kernel_rfl
theorem xk0 (d : Nat) (hs : FHs) (args : List AV) (m : Mem) : callE (d + 1) hs x2s args m = x6q (callE d) hs args m := by kernel_rfl
theorem xk1 (d : Nat) (hs : FHs) (args : List AV) (m : Mem) : callE (d + 1) hs x1f args m = x5v (callE d) hs args m := by kernel_rfl
theorem xsk (d : Nat) (hs : FHs) (args : List AV) (m : Mem) : callE (d + 1) hs x2h args m = x6r (callE d) hs args m := by kernel_rfl
theorem xsl (d : Nat) (hs : FHs) (args : List AV) (m : Mem) : callE (d + 1) hs x1g args m = x6s (callE d) hs args m := by kernel_rfl
theorem xsm (d : Nat) (hs : FHs) (args : List AV) (m : Mem) : callE (d + 1) hs xl args m = x6t (callE d) hs args m := by kernel_rfl
theorem x1db (d : Nat) (hs : FHs) (args : List AV) (m : Mem) : callE (d + 1) hs xp args m = x87 (callE d) hs args m := by kernel_rfl
theorem xbr (d : Nat) (hs : FHs) (args : List AV) (m : Mem) : callE (d + 1) hs x28 args m = x52 (callE d) hs args m := by kernel_rfl
theorem x1dc (d : Nat) (hs : FHs) (args : List AV) (m : Mem) : callE (d + 1) hs x1h args m = x88 (callE d) hs args m := by kernel_rfl
theorem xsn (d : Nat) (hs : FHs) (args : List AV) (m : Mem) : callE (d + 1) hs x15 args m = x6u (callE d) hs args m := by kernel_rfl
theorem xso (d : Nat) (hs : FHs) (args : List AV) (m : Mem) : callE (d + 1) hs x2i args m = x6v (callE d) hs args m := by kernel_rfl
theorem xk2 (d : Nat) (hs : FHs) (args : List AV) (m : Mem) : callE (d + 1) hs x29 args m = x5w (callE d) hs args m := by kernel_rfl
theorem xsp (d : Nat) (hs : FHs) (args : List AV) (m : Mem) : callE (d + 1) hs x3z args m = x6w (callE d) hs args m := by kernel_rfl
theorem x1dd (d : Nat) (hs : FHs) (args : List AV) (m : Mem) : callE (d + 1) hs xj args m = x89 (callE d) hs args m := by kernel_rfl
theorem xsq (d : Nat) (hs : FHs) (args : List AV) (m : Mem) : callE (d + 1) hs x3p args m = x6x (callE d) hs args m := by kernel_rfl
theorem xsr (d : Nat) (hs : FHs) (args : List AV) (m : Mem) : callE (d + 1) hs x1i args m = x6y (callE d) hs args m := by kernel_rfl
theorem x1de (d : Nat) (hs : FHs) (args : List AV) (m : Mem) : callE (d + 1) hs x5x args m = x8a (callE d) hs args m := by kernel_rfl
theorem x1df (d : Nat) (hs : FHs) (args : List AV) (m : Mem) : callE (d + 1) hs x53 args m = x8b (callE d) hs args m := by kernel_rfl
theorem x1dg (d : Nat) (hs : FHs) (args : List AV) (m : Mem) : callE (d + 1) hs x22 args m = x8c (callE d) hs args m := by kernel_rfl
theorem xss (d : Nat) (hs : FHs) (args : List AV) (m : Mem) : callE (d + 1) hs x40 args m = x6z (callE d) hs args m := by kernel_rfl
theorem xst (d : Nat) (hs : FHs) (args : List AV) (m : Mem) : callE (d + 1) hs x2t args m = x70 (callE d) hs args m := by kernel_rfl
theorem xsu (d : Nat) (hs : FHs) (args : List AV) (m : Mem) : callE (d + 1) hs x9 args m = x8d (callE d) hs args m := by kernel_rfl
theorem xk3 (d : Nat) (hs : FHs) (args : List AV) (m : Mem) : callE (d + 1) hs xz args m = x5y (callE d) hs args m := by kernel_rfl
theorem xsv (d : Nat) (hs : FHs) (args : List AV) (m : Mem) : callE (d + 1) hs x11 args m = x71 (callE d) hs args m := by kernel_rfl
theorem x1dh (d : Nat) (hs : FHs) (args : List AV) (m : Mem) : callE (d + 1) hs xu args m = x8e (callE d) hs args m := by kernel_rfl
theorem x1di (d : Nat) (hs : FHs) (args : List AV) (m : Mem) : callE (d + 1) hs x5z args m = x8f (callE d) hs args m := by kernel_rfl
theorem x1dj (d : Nat) (hs : FHs) (args : List AV) (m : Mem) : callE (d + 1) hs x60 args m = x8g (callE d) hs args m := by kernel_rfl
theorem x1dk (d : Nat) (hs : FHs) (args : List AV) (m : Mem) : callE (d + 1) hs x61 args m = x8h (callE d) hs args m := by kernel_rfl
theorem xsw (d : Nat) (hs : FHs) (args : List AV) (m : Mem) : callE (d + 1) hs xd args m = x72 (callE d) hs args m := by kernel_rfl
theorem xsx (d : Nat) (hs : FHs) (args : List AV) (m : Mem) : callE (d + 1) hs x41 args m = x73 (callE d) hs args m := by kernel_rfl
theorem xsy (d : Nat) (hs : FHs) (args : List AV) (m : Mem) : callE (d + 1) hs x1e args m = x6f (callE d) hs args m := by kernel_rfl
theorem xsz (d : Nat) (hs : FHs) (args : List AV) (m : Mem) : callE (d + 1) hs xr args m = x8i (callE d) hs args m := by kernel_rfl
theorem xt0 (d : Nat) (hs : FHs) (args : List AV) (m : Mem) : callE (d + 1) hs xh args m = x8j (callE d) hs args m := by kernel_rfl
theorem x1dl (d : Nat) (hs : FHs) (args : List AV) (m : Mem) : callE (d + 1) hs x1a args m = x8k (callE d) hs args m := by kernel_rfl
theorem xk4 (d : Nat) (hs : FHs) (args : List AV) (m : Mem) : callE (d + 1) hs x2j args m = x62 (callE d) hs args m := by kernel_rfl
theorem xt1 (d : Nat) (hs : FHs) (args : List AV) (m : Mem) : callE (d + 1) hs x42 args m = x74 (callE d) hs args m := by kernel_rfl
theorem x1dm (d : Nat) (hs : FHs) (args : List AV) (m : Mem) : callE (d + 1) hs x63 args m = x8l (callE d) hs args m := by kernel_rfl
theorem x1dn (d : Nat) (hs : FHs) (args : List AV) (m : Mem) : callE (d + 1) hs x3o args m = x85 (callE d) hs args m := by kernel_rfl
theorem xt2 (d : Nat) (hs : FHs) (args : List AV) (m : Mem) : callE (d + 1) hs x16 args m = x75 (callE d) hs args m := by kernel_rfl
theorem x1do (d : Nat) (hs : FHs) (args : List AV) (m : Mem) : callE (d + 1) hs x21 args m = x84 (callE d) hs args m := by kernel_rfl
theorem x1dp (d : Nat) (hs : FHs) (args : List AV) (m : Mem) : callE (d + 1) hs xv args m = x8m (callE d) hs args m := by kernel_rfl
theorem xt3 (d : Nat) (hs : FHs) (args : List AV) (m : Mem) : callE (d + 1) hs x4z args m = x6i (callE d) hs args m := by kernel_rfl
theorem xt4 (d : Nat) (hs : FHs) (args : List AV) (m : Mem) : callE (d + 1) hs x54 args m = x76 (callE d) hs args m := by kernel_rfl
theorem x1dq (d : Nat) (hs : FHs) (args : List AV) (m : Mem) : callE (d + 1) hs x64 args m = x8n (callE d) hs args m := by kernel_rfl
theorem xt5 (d : Nat) (hs : FHs) (args : List AV) (m : Mem) : callE (d + 1) hs x1b args m = x77 (callE d) hs args m := by kernel_rfl
theorem xt6 (d : Nat) (hs : FHs) (args : List AV) (m : Mem) : callE (d + 1) hs xi args m = x78 (callE d) hs args m := by kernel_rfl
theorem xbs (d : Nat) (hs : FHs) (args : List AV) (m : Mem) : callE (d + 1) hs x19 args m = x51 (callE d) hs args m := by kernel_rfl
theorem xt7 (d : Nat) (hs : FHs) (args : List AV) (m : Mem) : callE (d + 1) hs x2r args m = x6k (callE d) hs args m := by kernel_rfl
theorem xt8 (d : Nat) (hs : FHs) (args : List AV) (m : Mem) : callE (d + 1) hs x7 args m = x79 (callE d) hs args m := by kernel_rfl
theorem xt9 (d : Nat) (hs : FHs) (args : List AV) (m : Mem) : callE (d + 1) hs x50 args m = x6j (callE d) hs args m := by kernel_rfl
theorem x1dr (d : Nat) (hs : FHs) (args : List AV) (m : Mem) : callE (d + 1) hs x65 args m = x8o (callE d) hs args m := by kernel_rfl
theorem x1ds (d : Nat) (hs : FHs) (args : List AV) (m : Mem) : callE (d + 1) hs x66 args m = x8p (callE d) hs args m := by kernel_rfl
theorem xk5 (d : Nat) (hs : FHs) (args : List AV) (m : Mem) : callE (d + 1) hs x1y args m = x67 (callE d) hs args m := by kernel_rfl
theorem xta (d : Nat) (hs : FHs) (args : List AV) (m : Mem) : callE (d + 1) hs xa args m = x7a (callE d) hs args m := by kernel_rfl
theorem xtb (d : Nat) (hs : FHs) (args : List AV) (m : Mem) : callE (d + 1) hs x20 args m = x81 (callE d) hs args m := by kernel_rfl
theorem xtc (d : Nat) (hs : FHs) (args : List AV) (m : Mem) : callE (d + 1) hs x8 args m = x6g (callE d) hs args m := by kernel_rfl
theorem x1dt (d : Nat) (hs : FHs) (args : List AV) (m : Mem) : callE (d + 1) hs x1n args m = x83 (callE d) hs args m := by kernel_rfl
theorem xtd (d : Nat) (hs : FHs) (args : List AV) (m : Mem) : callE (d + 1) hs x2u args m = x7b (callE d) hs args m := by kernel_rfl
theorem x1du (d : Nat) (hs : FHs) (args : List AV) (m : Mem) : callE (d + 1) hs xg args m = x8q (callE d) hs args m := by kernel_rfl
theorem xte (d : Nat) (hs : FHs) (args : List AV) (m : Mem) : callE (d + 1) hs xm args m = x7c (callE d) hs args m := by kernel_rfl
theorem xtf (d : Nat) (hs : FHs) (args : List AV) (m : Mem) : callE (d + 1) hs x2f args m = x80 (callE d) hs args m := by kernel_rfl
theorem xtg (d : Nat) (hs : FHs) (args : List AV) (m : Mem) : callE (d + 1) hs x4y args m = x6h (callE d) hs args m := by kernel_rfl
theorem x1dv (d : Nat) (hs : FHs) (args : List AV) (m : Mem) : callE (d + 1) hs x43 args m = x8r (callE d) hs args m := by kernel_rfl
theorem xth (d : Nat) (hs : FHs) (args : List AV) (m : Mem) : callE (d + 1) hs xk args m = x6e (callE d) hs args m := by kernel_rfl
theorem x1dw (d : Nat) (hs : FHs) (args : List AV) (m : Mem) : callE (d + 1) hs x68 args m = x8s (callE d) hs args m := by kernel_rfl
theorem x1dx (d : Nat) (hs : FHs) (args : List AV) (m : Mem) : callE (d + 1) hs x5s args m = x82 (callE d) hs args m := by kernel_rfl
end Go.Ix
