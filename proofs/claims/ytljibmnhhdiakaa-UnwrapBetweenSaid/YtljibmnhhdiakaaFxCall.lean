import Derived.Test.YtljibmnhhdiakaaFxText0
import Derived.Test.YtljibmnhhdiakaaFxText1
import Derived.Test.YtljibmnhhdiakaaFxEnt
import Derived.Test.YtljibmnhhdiakaaFxRules
namespace Go.Ix
open Go.Proofs
noncomputable def table:List (FuncId×FnT):=[
 (x3n,x74),
 (xg,x75),
 (x15,x9q),
 (x1c,x76),
 (x4p,x77),
 (x2p,x9r),
 (x78,xde),
 (x2q,x9s),
 (x4q,xdf),
 (x2r,xdg),
 (x4r,x79),
 (x2s,x7a),
 (x3o,x7b),
 (x25,x7c),
 (x5e,x7d),
 (x9t,xdh),
 (x9u,xdi),
 (x9v,xdj),
 (x9w,xdk),
 (x9x,xdl),
 (x1d,xdm),
 (x26,x7e),
 (x2t,x9y),
 (xc,x5f),
 (x1m,x7f),
 (x7g,xdn),
 (x7h,xdo),
 (x9z,xdp),
 (xa0,xdq),
 (xa1,xdr),
 (xa2,xds),
 (x7i,xdt),
 (x5g,xdu),
 (xa3,xdv),
 (xu,x4s),
 (x2u,x5h),
 (x27,x7j),
 (x3p,x7k),
 (x5,x7l),
 (x3q,x7m),
 (x28,x7n),
 (x3r,xdw),
 (xh,x7o),
 (x5i,xdx),
 (x7p,xdy),
 (x4t,xdz),
 (x7q,xe0),
 (x5j,xe1),
 (x7r,xe2),
 (x7s,xe3),
 (x7t,xe4),
 (x7u,xe5),
 (x5k,xe6),
 (x5l,xe7),
 (x29,x7v),
 (x1n,x7w),
 (x11,xa4),
 (x2a,x7x),
 (x3s,x7y),
 (x7z,xe8),
 (x2v,x80),
 (x3t,xe9),
 (x5m,xea),
 (x5n,xeb),
 (x5o,xec),
 (x5p,xed),
 (x5q,xee),
 (x5r,xef),
 (x3u,x81),
 (xa5,xeg),
 (x3v,xa6),
 (x12,xa7),
 (x2w,xa8),
 (x3w,x82),
 (x3x,x83),
 (x4u,xeh),
 (x84,xei),
 (x85,xej),
 (x86,xek),
 (x87,xel),
 (x88,xem),
 (x89,xen),
 (x5s,xeo),
 (x8a,xep),
 (x8b,xeq),
 (x8c,xer),
 (x8d,xes),
 (x3y,x8e),
 (x3z,x8f),
 (x40,x8g),
 (x8h,xet),
 (x8i,xeu),
 (x8j,xev),
 (x8k,xew),
 (x5t,xex),
 (x41,x8l),
 (x42,x8m),
 (x8n,xey),
 (x8o,xez),
 (x1o,x8p),
 (x4v,xf0),
 (x8q,xf1)]
noncomputable def x1lp:Nat→x1lo
 | 0=>fun _ _ _ _=>none
 | d+1=>fun hs f args m=>look f table (x1lp d) hs args m
theorem xvv (d:Nat) (hs:FHs) (args:List AV) (m:Mem):x1lp (d+1) hs x5e args m=x7d (x1lp d) hs args m:=by kernel_rfl
theorem xvw (d:Nat) (hs:FHs) (args:List AV) (m:Mem):x1lp (d+1) hs x26 args m=x7e (x1lp d) hs args m:=by kernel_rfl
theorem xvx (d:Nat) (hs:FHs) (args:List AV) (m:Mem):x1lp (d+1) hs x2t args m=x9y (x1lp d) hs args m:=by kernel_rfl
theorem xjr (d:Nat) (hs:FHs) (args:List AV) (m:Mem):x1lp (d+1) hs xc args m=x5f (x1lp d) hs args m:=by kernel_rfl
theorem xvy (d:Nat) (hs:FHs) (args:List AV) (m:Mem):x1lp (d+1) hs x1m args m=x7f (x1lp d) hs args m:=by kernel_rfl
theorem xf2 (d:Nat) (hs:FHs) (args:List AV) (m:Mem):x1lp (d+1) hs xu args m=x4s (x1lp d) hs args m:=by kernel_rfl
theorem xjs (d:Nat) (hs:FHs) (args:List AV) (m:Mem):x1lp (d+1) hs x2u args m=x5h (x1lp d) hs args m:=by kernel_rfl
theorem xvz (d:Nat) (hs:FHs) (args:List AV) (m:Mem):x1lp (d+1) hs x27 args m=x7j (x1lp d) hs args m:=by kernel_rfl
theorem xw0 (d:Nat) (hs:FHs) (args:List AV) (m:Mem):x1lp (d+1) hs x3p args m=x7k (x1lp d) hs args m:=by kernel_rfl
theorem xw1 (d:Nat) (hs:FHs) (args:List AV) (m:Mem):x1lp (d+1) hs x5 args m=x7l (x1lp d) hs args m:=by kernel_rfl
theorem xw2 (d:Nat) (hs:FHs) (args:List AV) (m:Mem):x1lp (d+1) hs x3q args m=x7m (x1lp d) hs args m:=by kernel_rfl
theorem xw3 (d:Nat) (hs:FHs) (args:List AV) (m:Mem):x1lp (d+1) hs x28 args m=x7n (x1lp d) hs args m:=by kernel_rfl
theorem xw4 (d:Nat) (hs:FHs) (args:List AV) (m:Mem):x1lp (d+1) hs xh args m=x7o (x1lp d) hs args m:=by kernel_rfl
theorem xw5 (d:Nat) (hs:FHs) (args:List AV) (m:Mem):x1lp (d+1) hs x29 args m=x7v (x1lp d) hs args m:=by kernel_rfl
theorem xw6 (d:Nat) (hs:FHs) (args:List AV) (m:Mem):x1lp (d+1) hs x1n args m=x7w (x1lp d) hs args m:=by kernel_rfl
theorem xw7 (d:Nat) (hs:FHs) (args:List AV) (m:Mem):x1lp (d+1) hs x11 args m=xa4 (x1lp d) hs args m:=by kernel_rfl
theorem xw8 (d:Nat) (hs:FHs) (args:List AV) (m:Mem):x1lp (d+1) hs x2a args m=x7x (x1lp d) hs args m:=by kernel_rfl
theorem xw9 (d:Nat) (hs:FHs) (args:List AV) (m:Mem):x1lp (d+1) hs x3s args m=x7y (x1lp d) hs args m:=by kernel_rfl
theorem xwa (d:Nat) (hs:FHs) (args:List AV) (m:Mem):x1lp (d+1) hs x2v args m=x80 (x1lp d) hs args m:=by kernel_rfl
theorem xwb (d:Nat) (hs:FHs) (args:List AV) (m:Mem):x1lp (d+1) hs x3u args m=x81 (x1lp d) hs args m:=by kernel_rfl
theorem xwc (d:Nat) (hs:FHs) (args:List AV) (m:Mem):x1lp (d+1) hs xg args m=x75 (x1lp d) hs args m:=by kernel_rfl
theorem xwd (d:Nat) (hs:FHs) (args:List AV) (m:Mem):x1lp (d+1) hs x3v args m=xa6 (x1lp d) hs args m:=by kernel_rfl
theorem xwe (d:Nat) (hs:FHs) (args:List AV) (m:Mem):x1lp (d+1) hs x12 args m=xa7 (x1lp d) hs args m:=by kernel_rfl
theorem xwf (d:Nat) (hs:FHs) (args:List AV) (m:Mem):x1lp (d+1) hs x2w args m=xa8 (x1lp d) hs args m:=by kernel_rfl
theorem xwg (d:Nat) (hs:FHs) (args:List AV) (m:Mem):x1lp (d+1) hs x3w args m=x82 (x1lp d) hs args m:=by kernel_rfl
theorem xwh (d:Nat) (hs:FHs) (args:List AV) (m:Mem):x1lp (d+1) hs x3x args m=x83 (x1lp d) hs args m:=by kernel_rfl
theorem xwi (d:Nat) (hs:FHs) (args:List AV) (m:Mem):x1lp (d+1) hs x4r args m=x79 (x1lp d) hs args m:=by kernel_rfl
theorem xwj (d:Nat) (hs:FHs) (args:List AV) (m:Mem):x1lp (d+1) hs x3y args m=x8e (x1lp d) hs args m:=by kernel_rfl
theorem xwk (d:Nat) (hs:FHs) (args:List AV) (m:Mem):x1lp (d+1) hs x3z args m=x8f (x1lp d) hs args m:=by kernel_rfl
theorem xwl (d:Nat) (hs:FHs) (args:List AV) (m:Mem):x1lp (d+1) hs x3o args m=x7b (x1lp d) hs args m:=by kernel_rfl
theorem xwm (d:Nat) (hs:FHs) (args:List AV) (m:Mem):x1lp (d+1) hs x25 args m=x7c (x1lp d) hs args m:=by kernel_rfl
theorem xwn (d:Nat) (hs:FHs) (args:List AV) (m:Mem):x1lp (d+1) hs x40 args m=x8g (x1lp d) hs args m:=by kernel_rfl
theorem xwo (d:Nat) (hs:FHs) (args:List AV) (m:Mem):x1lp (d+1) hs x2s args m=x7a (x1lp d) hs args m:=by kernel_rfl
theorem xwp (d:Nat) (hs:FHs) (args:List AV) (m:Mem):x1lp (d+1) hs x41 args m=x8l (x1lp d) hs args m:=by kernel_rfl
theorem xwq (d:Nat) (hs:FHs) (args:List AV) (m:Mem):x1lp (d+1) hs x2p args m=x9r (x1lp d) hs args m:=by kernel_rfl
theorem xwr (d:Nat) (hs:FHs) (args:List AV) (m:Mem):x1lp (d+1) hs x1c args m=x76 (x1lp d) hs args m:=by kernel_rfl
theorem xws (d:Nat) (hs:FHs) (args:List AV) (m:Mem):x1lp (d+1) hs x2q args m=x9s (x1lp d) hs args m:=by kernel_rfl
theorem xwt (d:Nat) (hs:FHs) (args:List AV) (m:Mem):x1lp (d+1) hs x42 args m=x8m (x1lp d) hs args m:=by kernel_rfl
theorem xwu (d:Nat) (hs:FHs) (args:List AV) (m:Mem):x1lp (d+1) hs x1o args m=x8p (x1lp d) hs args m:=by kernel_rfl
theorem xwv (d:Nat) (hs:FHs) (args:List AV) (m:Mem):x1lp (d+1) hs x15 args m=x9q (x1lp d) hs args m:=by kernel_rfl
theorem xww (d:Nat) (hs:FHs) (args:List AV) (m:Mem):x1lp (d+1) hs x4p args m=x77 (x1lp d) hs args m:=by kernel_rfl
theorem xwx (d:Nat) (hs:FHs) (args:List AV) (m:Mem):x1lp (d+1) hs x3n args m=x74 (x1lp d) hs args m:=by kernel_rfl
end Go.Ix
