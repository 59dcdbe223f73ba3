/- MADE BY PROGRAM (gen.py). What the code does, block by block. -/
import Derived.Test.YtljibmnhhdiakaaFxText0
import Derived.Test.YtljibmnhhdiakaaFxText1
import Derived.Test.YtljibmnhhdiakaaFxRules
namespace Go.Ix
open Go.Proofs
noncomputable def table : List (FuncId × FnT) := [
  (xq, xao),
  (x1l, x86),
  (x72, xap),
  (x8, xaq),
  (x73, xar),
  (x39, xas),
  (x74, xat),
  (x20, xau),
  (x24, x87),
  (x27, x88),
  (x4o, x89),
  (x49, x8a),
  (x1r, x75),
  (x76, xav),
  (x77, x8b),
  (x18, x8c),
  (x12, x8d),
  (x3a, xaw),
  (x1m, x8e),
  (x78, xax),
  (x62, x79),
  (x63, x8f),
  (x21, x8g),
  (xl, x8h),
  (x64, x7a),
  (x3b, x8i),
  (xh, x8j),
  (xk, x8k),
  (x1n, x65),
  (x6, x8l),
  (x7b, xay),
  (x1h, x8m),
  (x1i, x8n),
  (x66, x8o),
  (x3c, x7c),
  (xm, xaz),
  (xd, x67),
  (x3d, x8p),
  (x68, x8q),
  (xx, x7d),
  (x69, x8r),
  (x4p, x8s),
  (xy, x7e),
  (x1o, x8t),
  (x1s, x8u),
  (x15, x8v),
  (x7f, xb0),
  (x6a, xb1),
  (x2g, xb2),
  (x3e, x8w),
  (x4a, x8x),
  (xa, xb3),
  (x19, x8y),
  (x1a, x8z),
  (xr, x90),
  (x4q, x91),
  (x22, x92),
  (x4r, x93),
  (x4s, x94),
  (x4b, x95),
  (xi, x96),
  (x4t, x97),
  (x4u, x98),
  (xz, xb4),
  (xv, xb5),
  (x1p, xb6),
  (x3f, x7g),
  (x4v, x99),
  (x7h, xb7),
  (x6b, x9a),
  (x6c, x9b),
  (x6d, x9c),
  (x4c, x7i),
  (x4w, x7j),
  (xt, x9d),
  (x4d, x9e),
  (x6e, x9f),
  (x28, x9g),
  (x4x, x9h),
  (x7k, xb8),
  (x1q, x9i),
  (xn, xb9),
  (x7, xba),
  (x6f, x9j),
  (x6g, x9k),
  (x4y, x9l),
  (x29, x7l),
  (x4z, x9m),
  (xb, xbb),
  (xo, x7m),
  (xg, x9n),
  (x10, xbc),
  (x6h, x9o),
  (x7n, xbd),
  (x7o, xbe)]
noncomputable def callE : Nat → FCall
  | 0 => fun _ _ _ _ => none
  | d + 1 => fun hs f args m => look f table (callE d) hs args m
theorem x11m (d : Nat) (hs : FHs) (args : List AV) (m : Mem) : callE (d + 1) hs x77 args m = x8b (callE d) hs args m := by kernel_rfl
theorem x11n (d : Nat) (hs : FHs) (args : List AV) (m : Mem) : callE (d + 1) hs x18 args m = x8c (callE d) hs args m := by kernel_rfl
theorem x11o (d : Nat) (hs : FHs) (args : List AV) (m : Mem) : callE (d + 1) hs x12 args m = x8d (callE d) hs args m := by kernel_rfl
theorem x1tk (d : Nat) (hs : FHs) (args : List AV) (m : Mem) : callE (d + 1) hs x3a args m = xaw (callE d) hs args m := by kernel_rfl
theorem x11p (d : Nat) (hs : FHs) (args : List AV) (m : Mem) : callE (d + 1) hs x1m args m = x8e (callE d) hs args m := by kernel_rfl
theorem x1tl (d : Nat) (hs : FHs) (args : List AV) (m : Mem) : callE (d + 1) hs x78 args m = xax (callE d) hs args m := by kernel_rfl
theorem xqa (d : Nat) (hs : FHs) (args : List AV) (m : Mem) : callE (d + 1) hs x62 args m = x79 (callE d) hs args m := by kernel_rfl
theorem x11q (d : Nat) (hs : FHs) (args : List AV) (m : Mem) : callE (d + 1) hs x63 args m = x8f (callE d) hs args m := by kernel_rfl
theorem x11r (d : Nat) (hs : FHs) (args : List AV) (m : Mem) : callE (d + 1) hs x21 args m = x8g (callE d) hs args m := by kernel_rfl
theorem x11s (d : Nat) (hs : FHs) (args : List AV) (m : Mem) : callE (d + 1) hs xl args m = x8h (callE d) hs args m := by kernel_rfl
theorem xqb (d : Nat) (hs : FHs) (args : List AV) (m : Mem) : callE (d + 1) hs x64 args m = x7a (callE d) hs args m := by kernel_rfl
theorem x11t (d : Nat) (hs : FHs) (args : List AV) (m : Mem) : callE (d + 1) hs x3b args m = x8i (callE d) hs args m := by kernel_rfl
theorem x11u (d : Nat) (hs : FHs) (args : List AV) (m : Mem) : callE (d + 1) hs xh args m = x8j (callE d) hs args m := by kernel_rfl
theorem x11v (d : Nat) (hs : FHs) (args : List AV) (m : Mem) : callE (d + 1) hs xk args m = x8k (callE d) hs args m := by kernel_rfl
theorem xf7 (d : Nat) (hs : FHs) (args : List AV) (m : Mem) : callE (d + 1) hs x1n args m = x65 (callE d) hs args m := by kernel_rfl
theorem x11w (d : Nat) (hs : FHs) (args : List AV) (m : Mem) : callE (d + 1) hs x6 args m = x8l (callE d) hs args m := by kernel_rfl
theorem x1tm (d : Nat) (hs : FHs) (args : List AV) (m : Mem) : callE (d + 1) hs x7b args m = xay (callE d) hs args m := by kernel_rfl
theorem x11x (d : Nat) (hs : FHs) (args : List AV) (m : Mem) : callE (d + 1) hs x1h args m = x8m (callE d) hs args m := by kernel_rfl
theorem x11y (d : Nat) (hs : FHs) (args : List AV) (m : Mem) : callE (d + 1) hs x1i args m = x8n (callE d) hs args m := by kernel_rfl
theorem x11z (d : Nat) (hs : FHs) (args : List AV) (m : Mem) : callE (d + 1) hs x66 args m = x8o (callE d) hs args m := by kernel_rfl
theorem xqc (d : Nat) (hs : FHs) (args : List AV) (m : Mem) : callE (d + 1) hs x3c args m = x7c (callE d) hs args m := by kernel_rfl
theorem x1tn (d : Nat) (hs : FHs) (args : List AV) (m : Mem) : callE (d + 1) hs xm args m = xaz (callE d) hs args m := by kernel_rfl
theorem xf8 (d : Nat) (hs : FHs) (args : List AV) (m : Mem) : callE (d + 1) hs xd args m = x67 (callE d) hs args m := by kernel_rfl
theorem x120 (d : Nat) (hs : FHs) (args : List AV) (m : Mem) : callE (d + 1) hs x3d args m = x8p (callE d) hs args m := by kernel_rfl
theorem x121 (d : Nat) (hs : FHs) (args : List AV) (m : Mem) : callE (d + 1) hs x68 args m = x8q (callE d) hs args m := by kernel_rfl
theorem xqd (d : Nat) (hs : FHs) (args : List AV) (m : Mem) : callE (d + 1) hs xx args m = x7d (callE d) hs args m := by kernel_rfl
theorem x122 (d : Nat) (hs : FHs) (args : List AV) (m : Mem) : callE (d + 1) hs x69 args m = x8r (callE d) hs args m := by kernel_rfl
theorem x123 (d : Nat) (hs : FHs) (args : List AV) (m : Mem) : callE (d + 1) hs x4p args m = x8s (callE d) hs args m := by kernel_rfl
theorem xqe (d : Nat) (hs : FHs) (args : List AV) (m : Mem) : callE (d + 1) hs xy args m = x7e (callE d) hs args m := by kernel_rfl
theorem x124 (d : Nat) (hs : FHs) (args : List AV) (m : Mem) : callE (d + 1) hs x1o args m = x8t (callE d) hs args m := by kernel_rfl
theorem x125 (d : Nat) (hs : FHs) (args : List AV) (m : Mem) : callE (d + 1) hs x1s args m = x8u (callE d) hs args m := by kernel_rfl
theorem x126 (d : Nat) (hs : FHs) (args : List AV) (m : Mem) : callE (d + 1) hs x15 args m = x8v (callE d) hs args m := by kernel_rfl
theorem x1to (d : Nat) (hs : FHs) (args : List AV) (m : Mem) : callE (d + 1) hs x7f args m = xb0 (callE d) hs args m := by kernel_rfl
theorem x1tp (d : Nat) (hs : FHs) (args : List AV) (m : Mem) : callE (d + 1) hs x6a args m = xb1 (callE d) hs args m := by kernel_rfl
theorem x1tq (d : Nat) (hs : FHs) (args : List AV) (m : Mem) : callE (d + 1) hs x2g args m = xb2 (callE d) hs args m := by kernel_rfl
theorem x127 (d : Nat) (hs : FHs) (args : List AV) (m : Mem) : callE (d + 1) hs x3e args m = x8w (callE d) hs args m := by kernel_rfl
theorem x128 (d : Nat) (hs : FHs) (args : List AV) (m : Mem) : callE (d + 1) hs x4a args m = x8x (callE d) hs args m := by kernel_rfl
theorem x1tr (d : Nat) (hs : FHs) (args : List AV) (m : Mem) : callE (d + 1) hs xa args m = xb3 (callE d) hs args m := by kernel_rfl
theorem x129 (d : Nat) (hs : FHs) (args : List AV) (m : Mem) : callE (d + 1) hs x19 args m = x8y (callE d) hs args m := by kernel_rfl
theorem x12a (d : Nat) (hs : FHs) (args : List AV) (m : Mem) : callE (d + 1) hs x1a args m = x8z (callE d) hs args m := by kernel_rfl
theorem x12b (d : Nat) (hs : FHs) (args : List AV) (m : Mem) : callE (d + 1) hs xr args m = x90 (callE d) hs args m := by kernel_rfl
theorem x12c (d : Nat) (hs : FHs) (args : List AV) (m : Mem) : callE (d + 1) hs x4q args m = x91 (callE d) hs args m := by kernel_rfl
theorem x12d (d : Nat) (hs : FHs) (args : List AV) (m : Mem) : callE (d + 1) hs x22 args m = x92 (callE d) hs args m := by kernel_rfl
theorem x12e (d : Nat) (hs : FHs) (args : List AV) (m : Mem) : callE (d + 1) hs x4r args m = x93 (callE d) hs args m := by kernel_rfl
theorem x12f (d : Nat) (hs : FHs) (args : List AV) (m : Mem) : callE (d + 1) hs x4s args m = x94 (callE d) hs args m := by kernel_rfl
theorem x12g (d : Nat) (hs : FHs) (args : List AV) (m : Mem) : callE (d + 1) hs x4b args m = x95 (callE d) hs args m := by kernel_rfl
theorem x12h (d : Nat) (hs : FHs) (args : List AV) (m : Mem) : callE (d + 1) hs xi args m = x96 (callE d) hs args m := by kernel_rfl
theorem x12i (d : Nat) (hs : FHs) (args : List AV) (m : Mem) : callE (d + 1) hs x4t args m = x97 (callE d) hs args m := by kernel_rfl
theorem x12j (d : Nat) (hs : FHs) (args : List AV) (m : Mem) : callE (d + 1) hs x4u args m = x98 (callE d) hs args m := by kernel_rfl
theorem x12k (d : Nat) (hs : FHs) (args : List AV) (m : Mem) : callE (d + 1) hs x1l args m = x86 (callE d) hs args m := by kernel_rfl
theorem x1ts (d : Nat) (hs : FHs) (args : List AV) (m : Mem) : callE (d + 1) hs xz args m = xb4 (callE d) hs args m := by kernel_rfl
theorem x1tt (d : Nat) (hs : FHs) (args : List AV) (m : Mem) : callE (d + 1) hs xv args m = xb5 (callE d) hs args m := by kernel_rfl
theorem x1tu (d : Nat) (hs : FHs) (args : List AV) (m : Mem) : callE (d + 1) hs x1p args m = xb6 (callE d) hs args m := by kernel_rfl
theorem xqf (d : Nat) (hs : FHs) (args : List AV) (m : Mem) : callE (d + 1) hs x3f args m = x7g (callE d) hs args m := by kernel_rfl
theorem x12l (d : Nat) (hs : FHs) (args : List AV) (m : Mem) : callE (d + 1) hs x4v args m = x99 (callE d) hs args m := by kernel_rfl
theorem x1tv (d : Nat) (hs : FHs) (args : List AV) (m : Mem) : callE (d + 1) hs x7h args m = xb7 (callE d) hs args m := by kernel_rfl
theorem x12m (d : Nat) (hs : FHs) (args : List AV) (m : Mem) : callE (d + 1) hs x27 args m = x88 (callE d) hs args m := by kernel_rfl
theorem x12n (d : Nat) (hs : FHs) (args : List AV) (m : Mem) : callE (d + 1) hs x6b args m = x9a (callE d) hs args m := by kernel_rfl
theorem x12o (d : Nat) (hs : FHs) (args : List AV) (m : Mem) : callE (d + 1) hs x6c args m = x9b (callE d) hs args m := by kernel_rfl
theorem x12p (d : Nat) (hs : FHs) (args : List AV) (m : Mem) : callE (d + 1) hs x24 args m = x87 (callE d) hs args m := by kernel_rfl
theorem x12q (d : Nat) (hs : FHs) (args : List AV) (m : Mem) : callE (d + 1) hs x6d args m = x9c (callE d) hs args m := by kernel_rfl
theorem xqg (d : Nat) (hs : FHs) (args : List AV) (m : Mem) : callE (d + 1) hs x4c args m = x7i (callE d) hs args m := by kernel_rfl
theorem xqh (d : Nat) (hs : FHs) (args : List AV) (m : Mem) : callE (d + 1) hs x4w args m = x7j (callE d) hs args m := by kernel_rfl
theorem x12r (d : Nat) (hs : FHs) (args : List AV) (m : Mem) : callE (d + 1) hs xt args m = x9d (callE d) hs args m := by kernel_rfl
theorem x12s (d : Nat) (hs : FHs) (args : List AV) (m : Mem) : callE (d + 1) hs x4d args m = x9e (callE d) hs args m := by kernel_rfl
theorem x12t (d : Nat) (hs : FHs) (args : List AV) (m : Mem) : callE (d + 1) hs x4o args m = x89 (callE d) hs args m := by kernel_rfl
theorem x12u (d : Nat) (hs : FHs) (args : List AV) (m : Mem) : callE (d + 1) hs x6e args m = x9f (callE d) hs args m := by kernel_rfl
theorem x12v (d : Nat) (hs : FHs) (args : List AV) (m : Mem) : callE (d + 1) hs x28 args m = x9g (callE d) hs args m := by kernel_rfl
theorem x12w (d : Nat) (hs : FHs) (args : List AV) (m : Mem) : callE (d + 1) hs x4x args m = x9h (callE d) hs args m := by kernel_rfl
theorem x1tw (d : Nat) (hs : FHs) (args : List AV) (m : Mem) : callE (d + 1) hs x7k args m = xb8 (callE d) hs args m := by kernel_rfl
theorem x12x (d : Nat) (hs : FHs) (args : List AV) (m : Mem) : callE (d + 1) hs x1q args m = x9i (callE d) hs args m := by kernel_rfl
theorem x1tx (d : Nat) (hs : FHs) (args : List AV) (m : Mem) : callE (d + 1) hs xn args m = xb9 (callE d) hs args m := by kernel_rfl
theorem xqi (d : Nat) (hs : FHs) (args : List AV) (m : Mem) : callE (d + 1) hs x1r args m = x75 (callE d) hs args m := by kernel_rfl
theorem x1ty (d : Nat) (hs : FHs) (args : List AV) (m : Mem) : callE (d + 1) hs x76 args m = xav (callE d) hs args m := by kernel_rfl
theorem x1tz (d : Nat) (hs : FHs) (args : List AV) (m : Mem) : callE (d + 1) hs x7 args m = xba (callE d) hs args m := by kernel_rfl
theorem x12y (d : Nat) (hs : FHs) (args : List AV) (m : Mem) : callE (d + 1) hs x49 args m = x8a (callE d) hs args m := by kernel_rfl
theorem x12z (d : Nat) (hs : FHs) (args : List AV) (m : Mem) : callE (d + 1) hs x6f args m = x9j (callE d) hs args m := by kernel_rfl
theorem x130 (d : Nat) (hs : FHs) (args : List AV) (m : Mem) : callE (d + 1) hs x6g args m = x9k (callE d) hs args m := by kernel_rfl
theorem x131 (d : Nat) (hs : FHs) (args : List AV) (m : Mem) : callE (d + 1) hs x4y args m = x9l (callE d) hs args m := by kernel_rfl
theorem xqj (d : Nat) (hs : FHs) (args : List AV) (m : Mem) : callE (d + 1) hs x29 args m = x7l (callE d) hs args m := by kernel_rfl
theorem x132 (d : Nat) (hs : FHs) (args : List AV) (m : Mem) : callE (d + 1) hs x4z args m = x9m (callE d) hs args m := by kernel_rfl
theorem x1u0 (d : Nat) (hs : FHs) (args : List AV) (m : Mem) : callE (d + 1) hs xb args m = xbb (callE d) hs args m := by kernel_rfl
theorem x1u1 (d : Nat) (hs : FHs) (args : List AV) (m : Mem) : callE (d + 1) hs x39 args m = xas (callE d) hs args m := by kernel_rfl
theorem x1u2 (d : Nat) (hs : FHs) (args : List AV) (m : Mem) : callE (d + 1) hs x8 args m = xaq (callE d) hs args m := by kernel_rfl
theorem x1u3 (d : Nat) (hs : FHs) (args : List AV) (m : Mem) : callE (d + 1) hs x20 args m = xau (callE d) hs args m := by kernel_rfl
theorem xqk (d : Nat) (hs : FHs) (args : List AV) (m : Mem) : callE (d + 1) hs xo args m = x7m (callE d) hs args m := by kernel_rfl
theorem x133 (d : Nat) (hs : FHs) (args : List AV) (m : Mem) : callE (d + 1) hs xg args m = x9n (callE d) hs args m := by kernel_rfl
theorem x1u4 (d : Nat) (hs : FHs) (args : List AV) (m : Mem) : callE (d + 1) hs x10 args m = xbc (callE d) hs args m := by kernel_rfl
theorem x1u5 (d : Nat) (hs : FHs) (args : List AV) (m : Mem) : callE (d + 1) hs x72 args m = xap (callE d) hs args m := by kernel_rfl
theorem x1u6 (d : Nat) (hs : FHs) (args : List AV) (m : Mem) : callE (d + 1) hs x73 args m = xar (callE d) hs args m := by kernel_rfl
theorem x134 (d : Nat) (hs : FHs) (args : List AV) (m : Mem) : callE (d + 1) hs x6h args m = x9o (callE d) hs args m := by kernel_rfl
theorem x1u7 (d : Nat) (hs : FHs) (args : List AV) (m : Mem) : callE (d + 1) hs x7n args m = xbd (callE d) hs args m := by kernel_rfl
theorem x1u8 (d : Nat) (hs : FHs) (args : List AV) (m : Mem) : callE (d + 1) hs xq args m = xao (callE d) hs args m := by kernel_rfl
theorem x1u9 (d : Nat) (hs : FHs) (args : List AV) (m : Mem) : callE (d + 1) hs x7o args m = xbe (callE d) hs args m := by kernel_rfl
theorem x1ua (d : Nat) (hs : FHs) (args : List AV) (m : Mem) : callE (d + 1) hs x74 args m = xat (callE d) hs args m := by kernel_rfl
end Go.Ix
