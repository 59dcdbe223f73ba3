import Derived.Test.YtljibmnhhdiakaaFxText0
import Derived.Test.YtljibmnhhdiakaaFxRules
namespace Go.Ix
open Go.Proofs
noncomputable def table : List (FuncId × FnT) := [
  (xi, x6a),
  (x1c, x6b),
  (x2c, x7v),
  (x7, x6c),
  (x4t, x6d),
  (x1z, x7w),
  (x5n, x7x),
  (x1k, x7y),
  (x20, x7z),
  (x3l, x80),
  (x4u, x6e),
  (x4v, x6f),
  (x17, x4w),
  (x2m, x6g),
  (xd, x6h),
  (xz, x6i),
  (x5o, x6j),
  (x2n, x81),
  (xx, x6k),
  (x3m, x6l),
  (x1w, x5p),
  (x2d, x6m),
  (x1d, x6n),
  (xj, x6o),
  (xm, x82),
  (x5q, x83),
  (x1e, x84),
  (x1n, x6p),
  (x2o, x6q),
  (x2e, x5r),
  (x4x, x6r),
  (xh, x85),
  (x3n, x6s),
  (x1f, x6t),
  (x5s, x86),
  (x4y, x87),
  (x21, x88),
  (x3v, x6u),
  (x2p, x6v),
  (x8, x89),
  (xy, x5t),
  (x10, x6w),
  (xt, x8a),
  (x5u, x8b),
  (x5v, x8c),
  (x5w, x8d),
  (xc, x6x),
  (x3w, x6y),
  (xp, x8e),
  (xq, x8f),
  (x18, x8g),
  (x2f, x5x),
  (x3x, x6z),
  (x5y, x8h),
  (x14, x70),
  (xu, x8i),
  (x4z, x71),
  (x5z, x8j),
  (x19, x72),
  (xg, x73),
  (x6, x74),
  (x60, x8k),
  (x61, x8l),
  (x1x, x62),
  (x9, x75),
  (x2q, x76),
  (xf, x8m),
  (xk, x77),
  (x3y, x8n),
  (x63, x8o)]
noncomputable def callE : Nat → FCall
  | 0 => fun _ _ _ _ => none
  | d + 1 => fun hs f args m => look f table (callE d) hs args m
theorem xs8 (d : Nat) (hs : FHs) (args : List AV) (m : Mem) : callE (d + 1) hs xd args m = x6h (callE d) hs args m := by kernel_rfl
theorem xs9 (d : Nat) (hs : FHs) (args : List AV) (m : Mem) : callE (d + 1) hs xz args m = x6i (callE d) hs args m := by kernel_rfl
theorem xsa (d : Nat) (hs : FHs) (args : List AV) (m : Mem) : callE (d + 1) hs x5o args m = x6j (callE d) hs args m := by kernel_rfl
theorem x1cx (d : Nat) (hs : FHs) (args : List AV) (m : Mem) : callE (d + 1) hs x2n args m = x81 (callE d) hs args m := by kernel_rfl
theorem xsb (d : Nat) (hs : FHs) (args : List AV) (m : Mem) : callE (d + 1) hs xx args m = x6k (callE d) hs args m := by kernel_rfl
theorem xjs (d : Nat) (hs : FHs) (args : List AV) (m : Mem) : callE (d + 1) hs x3m args m = x6l (callE d) hs args m := by kernel_rfl
theorem xjt (d : Nat) (hs : FHs) (args : List AV) (m : Mem) : callE (d + 1) hs x1w args m = x5p (callE d) hs args m := by kernel_rfl
theorem xsc (d : Nat) (hs : FHs) (args : List AV) (m : Mem) : callE (d + 1) hs x2d args m = x6m (callE d) hs args m := by kernel_rfl
theorem xsd (d : Nat) (hs : FHs) (args : List AV) (m : Mem) : callE (d + 1) hs x1d args m = x6n (callE d) hs args m := by kernel_rfl
theorem xse (d : Nat) (hs : FHs) (args : List AV) (m : Mem) : callE (d + 1) hs xj args m = x6o (callE d) hs args m := by kernel_rfl
theorem x1cy (d : Nat) (hs : FHs) (args : List AV) (m : Mem) : callE (d + 1) hs xm args m = x82 (callE d) hs args m := by kernel_rfl
theorem x1cz (d : Nat) (hs : FHs) (args : List AV) (m : Mem) : callE (d + 1) hs x5q args m = x83 (callE d) hs args m := by kernel_rfl
theorem x1d0 (d : Nat) (hs : FHs) (args : List AV) (m : Mem) : callE (d + 1) hs x1e args m = x84 (callE d) hs args m := by kernel_rfl
theorem xsf (d : Nat) (hs : FHs) (args : List AV) (m : Mem) : callE (d + 1) hs x1n args m = x6p (callE d) hs args m := by kernel_rfl
theorem xsg (d : Nat) (hs : FHs) (args : List AV) (m : Mem) : callE (d + 1) hs x2o args m = x6q (callE d) hs args m := by kernel_rfl
theorem xju (d : Nat) (hs : FHs) (args : List AV) (m : Mem) : callE (d + 1) hs x2e args m = x5r (callE d) hs args m := by kernel_rfl
theorem xsh (d : Nat) (hs : FHs) (args : List AV) (m : Mem) : callE (d + 1) hs x4x args m = x6r (callE d) hs args m := by kernel_rfl
theorem x1d1 (d : Nat) (hs : FHs) (args : List AV) (m : Mem) : callE (d + 1) hs xh args m = x85 (callE d) hs args m := by kernel_rfl
theorem xsi (d : Nat) (hs : FHs) (args : List AV) (m : Mem) : callE (d + 1) hs x3n args m = x6s (callE d) hs args m := by kernel_rfl
theorem xsj (d : Nat) (hs : FHs) (args : List AV) (m : Mem) : callE (d + 1) hs x1f args m = x6t (callE d) hs args m := by kernel_rfl
theorem x1d2 (d : Nat) (hs : FHs) (args : List AV) (m : Mem) : callE (d + 1) hs x5s args m = x86 (callE d) hs args m := by kernel_rfl
theorem x1d3 (d : Nat) (hs : FHs) (args : List AV) (m : Mem) : callE (d + 1) hs x4y args m = x87 (callE d) hs args m := by kernel_rfl
theorem x1d4 (d : Nat) (hs : FHs) (args : List AV) (m : Mem) : callE (d + 1) hs x21 args m = x88 (callE d) hs args m := by kernel_rfl
theorem xsk (d : Nat) (hs : FHs) (args : List AV) (m : Mem) : callE (d + 1) hs x3v args m = x6u (callE d) hs args m := by kernel_rfl
theorem xsl (d : Nat) (hs : FHs) (args : List AV) (m : Mem) : callE (d + 1) hs x2p args m = x6v (callE d) hs args m := by kernel_rfl
theorem xsm (d : Nat) (hs : FHs) (args : List AV) (m : Mem) : callE (d + 1) hs x8 args m = x89 (callE d) hs args m := by kernel_rfl
theorem xjv (d : Nat) (hs : FHs) (args : List AV) (m : Mem) : callE (d + 1) hs xy args m = x5t (callE d) hs args m := by kernel_rfl
theorem xsn (d : Nat) (hs : FHs) (args : List AV) (m : Mem) : callE (d + 1) hs x10 args m = x6w (callE d) hs args m := by kernel_rfl
theorem x1d5 (d : Nat) (hs : FHs) (args : List AV) (m : Mem) : callE (d + 1) hs xt args m = x8a (callE d) hs args m := by kernel_rfl
theorem x1d6 (d : Nat) (hs : FHs) (args : List AV) (m : Mem) : callE (d + 1) hs x5u args m = x8b (callE d) hs args m := by kernel_rfl
theorem x1d7 (d : Nat) (hs : FHs) (args : List AV) (m : Mem) : callE (d + 1) hs x5v args m = x8c (callE d) hs args m := by kernel_rfl
theorem x1d8 (d : Nat) (hs : FHs) (args : List AV) (m : Mem) : callE (d + 1) hs x5w args m = x8d (callE d) hs args m := by kernel_rfl
theorem xso (d : Nat) (hs : FHs) (args : List AV) (m : Mem) : callE (d + 1) hs xc args m = x6x (callE d) hs args m := by kernel_rfl
theorem xsp (d : Nat) (hs : FHs) (args : List AV) (m : Mem) : callE (d + 1) hs x3w args m = x6y (callE d) hs args m := by kernel_rfl
theorem xsq (d : Nat) (hs : FHs) (args : List AV) (m : Mem) : callE (d + 1) hs x1c args m = x6b (callE d) hs args m := by kernel_rfl
theorem xsr (d : Nat) (hs : FHs) (args : List AV) (m : Mem) : callE (d + 1) hs xp args m = x8e (callE d) hs args m := by kernel_rfl
theorem x1d9 (d : Nat) (hs : FHs) (args : List AV) (m : Mem) : callE (d + 1) hs xq args m = x8f (callE d) hs args m := by kernel_rfl
theorem x1da (d : Nat) (hs : FHs) (args : List AV) (m : Mem) : callE (d + 1) hs x18 args m = x8g (callE d) hs args m := by kernel_rfl
theorem xjw (d : Nat) (hs : FHs) (args : List AV) (m : Mem) : callE (d + 1) hs x2f args m = x5x (callE d) hs args m := by kernel_rfl
theorem xss (d : Nat) (hs : FHs) (args : List AV) (m : Mem) : callE (d + 1) hs x3x args m = x6z (callE d) hs args m := by kernel_rfl
theorem x1db (d : Nat) (hs : FHs) (args : List AV) (m : Mem) : callE (d + 1) hs x5y args m = x8h (callE d) hs args m := by kernel_rfl
theorem x1dc (d : Nat) (hs : FHs) (args : List AV) (m : Mem) : callE (d + 1) hs x3l args m = x80 (callE d) hs args m := by kernel_rfl
theorem xst (d : Nat) (hs : FHs) (args : List AV) (m : Mem) : callE (d + 1) hs x14 args m = x70 (callE d) hs args m := by kernel_rfl
theorem x1dd (d : Nat) (hs : FHs) (args : List AV) (m : Mem) : callE (d + 1) hs x20 args m = x7z (callE d) hs args m := by kernel_rfl
theorem x1de (d : Nat) (hs : FHs) (args : List AV) (m : Mem) : callE (d + 1) hs xu args m = x8i (callE d) hs args m := by kernel_rfl
theorem xsu (d : Nat) (hs : FHs) (args : List AV) (m : Mem) : callE (d + 1) hs x4u args m = x6e (callE d) hs args m := by kernel_rfl
theorem xsv (d : Nat) (hs : FHs) (args : List AV) (m : Mem) : callE (d + 1) hs x4z args m = x71 (callE d) hs args m := by kernel_rfl
theorem x1df (d : Nat) (hs : FHs) (args : List AV) (m : Mem) : callE (d + 1) hs x5z args m = x8j (callE d) hs args m := by kernel_rfl
theorem xsw (d : Nat) (hs : FHs) (args : List AV) (m : Mem) : callE (d + 1) hs x19 args m = x72 (callE d) hs args m := by kernel_rfl
theorem xsx (d : Nat) (hs : FHs) (args : List AV) (m : Mem) : callE (d + 1) hs xg args m = x73 (callE d) hs args m := by kernel_rfl
theorem xbj (d : Nat) (hs : FHs) (args : List AV) (m : Mem) : callE (d + 1) hs x17 args m = x4w (callE d) hs args m := by kernel_rfl
theorem xsy (d : Nat) (hs : FHs) (args : List AV) (m : Mem) : callE (d + 1) hs x2m args m = x6g (callE d) hs args m := by kernel_rfl
theorem xsz (d : Nat) (hs : FHs) (args : List AV) (m : Mem) : callE (d + 1) hs x6 args m = x74 (callE d) hs args m := by kernel_rfl
theorem xt0 (d : Nat) (hs : FHs) (args : List AV) (m : Mem) : callE (d + 1) hs x4v args m = x6f (callE d) hs args m := by kernel_rfl
theorem x1dg (d : Nat) (hs : FHs) (args : List AV) (m : Mem) : callE (d + 1) hs x60 args m = x8k (callE d) hs args m := by kernel_rfl
theorem x1dh (d : Nat) (hs : FHs) (args : List AV) (m : Mem) : callE (d + 1) hs x61 args m = x8l (callE d) hs args m := by kernel_rfl
theorem xjx (d : Nat) (hs : FHs) (args : List AV) (m : Mem) : callE (d + 1) hs x1x args m = x62 (callE d) hs args m := by kernel_rfl
theorem xt1 (d : Nat) (hs : FHs) (args : List AV) (m : Mem) : callE (d + 1) hs x9 args m = x75 (callE d) hs args m := by kernel_rfl
theorem xt2 (d : Nat) (hs : FHs) (args : List AV) (m : Mem) : callE (d + 1) hs x1z args m = x7w (callE d) hs args m := by kernel_rfl
theorem xt3 (d : Nat) (hs : FHs) (args : List AV) (m : Mem) : callE (d + 1) hs x7 args m = x6c (callE d) hs args m := by kernel_rfl
theorem x1di (d : Nat) (hs : FHs) (args : List AV) (m : Mem) : callE (d + 1) hs x1k args m = x7y (callE d) hs args m := by kernel_rfl
theorem xt4 (d : Nat) (hs : FHs) (args : List AV) (m : Mem) : callE (d + 1) hs x2q args m = x76 (callE d) hs args m := by kernel_rfl
theorem x1dj (d : Nat) (hs : FHs) (args : List AV) (m : Mem) : callE (d + 1) hs xf args m = x8m (callE d) hs args m := by kernel_rfl
theorem xt5 (d : Nat) (hs : FHs) (args : List AV) (m : Mem) : callE (d + 1) hs xk args m = x77 (callE d) hs args m := by kernel_rfl
theorem xt6 (d : Nat) (hs : FHs) (args : List AV) (m : Mem) : callE (d + 1) hs x2c args m = x7v (callE d) hs args m := by kernel_rfl
theorem xt7 (d : Nat) (hs : FHs) (args : List AV) (m : Mem) : callE (d + 1) hs x4t args m = x6d (callE d) hs args m := by kernel_rfl
theorem x1dk (d : Nat) (hs : FHs) (args : List AV) (m : Mem) : callE (d + 1) hs x3y args m = x8n (callE d) hs args m := by kernel_rfl
theorem xt8 (d : Nat) (hs : FHs) (args : List AV) (m : Mem) : callE (d + 1) hs xi args m = x6a (callE d) hs args m := by kernel_rfl
theorem x1dl (d : Nat) (hs : FHs) (args : List AV) (m : Mem) : callE (d + 1) hs x63 args m = x8o (callE d) hs args m := by kernel_rfl
theorem x1dm (d : Nat) (hs : FHs) (args : List AV) (m : Mem) : callE (d + 1) hs x5n args m = x7x (callE d) hs args m := by kernel_rfl
end Go.Ix
