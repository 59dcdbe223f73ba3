import Derived.Test.YtjdlceelbnaneaaFxText0
import Derived.Test.YtjdlceelbnaneaaFxEnt
import Derived.Test.YtjdlceelbnaneaaFxRules
namespace Go.Ix
open Go.Proofs
noncomputable def table:List (FuncId×FnT):=[(x1n,x3e),(x9,x3f),(xu,x3g),(xg,x3h),(xv,x3i),(xw,x3j),(xj,x3k),(xx,x3l),(xk,x22),(xy,x3m),(xl,x3n),(xm,x3o),(xz,x3p),(x10,x3q),(x11,x3r),(xn,x3s),(xa,x3t),(x12,x3u),(x13,x3v),(x14,x3w),(x15,x3x),(x16,x3y),(x17,x3z),(x18,x1o),(x19,x40),(x1a,x41),(xe,x42),(x1b,x43),(x1c,x44),(x1d,x45),(xo,x46),(x1e,x47),(xp,x48),(xq,x49),(xr,x4a),(xh,x4b)]
noncomputable def whole(f:FuncId):FnT:=λcall hs args m=>x9g Try.prog pol NN call hs f args m
noncomputable def x6z:Nat->x71
 |0=>λ_ _ _ _=>none
 |d+1=>λhs f args m=>look (whole f) f table (x6z d) hs args m
theorem x4y(d:Nat)(hs:FHs)(args:List AV)(m:Mem):x6z (d+1) hs x1n args m=x3e (x6z d) hs args m:=by kernel_rfl
theorem x4z(d:Nat)(hs:FHs)(args:List AV)(m:Mem):x6z (d+1) hs x9 args m=x3f (x6z d) hs args m:=by kernel_rfl
theorem x50(d:Nat)(hs:FHs)(args:List AV)(m:Mem):x6z (d+1) hs xu args m=x3g (x6z d) hs args m:=by kernel_rfl
theorem x51(d:Nat)(hs:FHs)(args:List AV)(m:Mem):x6z (d+1) hs xg args m=x3h (x6z d) hs args m:=by kernel_rfl
theorem x52(d:Nat)(hs:FHs)(args:List AV)(m:Mem):x6z (d+1) hs xv args m=x3i (x6z d) hs args m:=by kernel_rfl
theorem x53(d:Nat)(hs:FHs)(args:List AV)(m:Mem):x6z (d+1) hs xw args m=x3j (x6z d) hs args m:=by kernel_rfl
theorem x54(d:Nat)(hs:FHs)(args:List AV)(m:Mem):x6z (d+1) hs xj args m=x3k (x6z d) hs args m:=by kernel_rfl
theorem x55(d:Nat)(hs:FHs)(args:List AV)(m:Mem):x6z (d+1) hs xx args m=x3l (x6z d) hs args m:=by kernel_rfl
theorem x4v(d:Nat)(hs:FHs)(args:List AV)(m:Mem):x6z (d+1) hs xk args m=x22 (x6z d) hs args m:=by kernel_rfl
theorem x56(d:Nat)(hs:FHs)(args:List AV)(m:Mem):x6z (d+1) hs xy args m=x3m (x6z d) hs args m:=by kernel_rfl
theorem x57(d:Nat)(hs:FHs)(args:List AV)(m:Mem):x6z (d+1) hs xl args m=x3n (x6z d) hs args m:=by kernel_rfl
theorem x58(d:Nat)(hs:FHs)(args:List AV)(m:Mem):x6z (d+1) hs xm args m=x3o (x6z d) hs args m:=by kernel_rfl
theorem x59(d:Nat)(hs:FHs)(args:List AV)(m:Mem):x6z (d+1) hs xz args m=x3p (x6z d) hs args m:=by kernel_rfl
theorem x5a(d:Nat)(hs:FHs)(args:List AV)(m:Mem):x6z (d+1) hs x10 args m=x3q (x6z d) hs args m:=by kernel_rfl
theorem x5b(d:Nat)(hs:FHs)(args:List AV)(m:Mem):x6z (d+1) hs x11 args m=x3r (x6z d) hs args m:=by kernel_rfl
theorem x5c(d:Nat)(hs:FHs)(args:List AV)(m:Mem):x6z (d+1) hs xn args m=x3s (x6z d) hs args m:=by kernel_rfl
theorem x5d(d:Nat)(hs:FHs)(args:List AV)(m:Mem):x6z (d+1) hs xa args m=x3t (x6z d) hs args m:=by kernel_rfl
theorem x5e(d:Nat)(hs:FHs)(args:List AV)(m:Mem):x6z (d+1) hs x12 args m=x3u (x6z d) hs args m:=by kernel_rfl
theorem x5f(d:Nat)(hs:FHs)(args:List AV)(m:Mem):x6z (d+1) hs x13 args m=x3v (x6z d) hs args m:=by kernel_rfl
theorem x5g(d:Nat)(hs:FHs)(args:List AV)(m:Mem):x6z (d+1) hs x14 args m=x3w (x6z d) hs args m:=by kernel_rfl
theorem x5h(d:Nat)(hs:FHs)(args:List AV)(m:Mem):x6z (d+1) hs x15 args m=x3x (x6z d) hs args m:=by kernel_rfl
theorem x5i(d:Nat)(hs:FHs)(args:List AV)(m:Mem):x6z (d+1) hs x16 args m=x3y (x6z d) hs args m:=by kernel_rfl
theorem x5j(d:Nat)(hs:FHs)(args:List AV)(m:Mem):x6z (d+1) hs x17 args m=x3z (x6z d) hs args m:=by kernel_rfl
theorem x4c(d:Nat)(hs:FHs)(args:List AV)(m:Mem):x6z (d+1) hs x18 args m=x1o (x6z d) hs args m:=by kernel_rfl
theorem x5k(d:Nat)(hs:FHs)(args:List AV)(m:Mem):x6z (d+1) hs x19 args m=x40 (x6z d) hs args m:=by kernel_rfl
theorem x5l(d:Nat)(hs:FHs)(args:List AV)(m:Mem):x6z (d+1) hs x1a args m=x41 (x6z d) hs args m:=by kernel_rfl
theorem x5m(d:Nat)(hs:FHs)(args:List AV)(m:Mem):x6z (d+1) hs xe args m=x42 (x6z d) hs args m:=by kernel_rfl
theorem x5n(d:Nat)(hs:FHs)(args:List AV)(m:Mem):x6z (d+1) hs x1b args m=x43 (x6z d) hs args m:=by kernel_rfl
theorem x5o(d:Nat)(hs:FHs)(args:List AV)(m:Mem):x6z (d+1) hs x1c args m=x44 (x6z d) hs args m:=by kernel_rfl
theorem x5p(d:Nat)(hs:FHs)(args:List AV)(m:Mem):x6z (d+1) hs x1d args m=x45 (x6z d) hs args m:=by kernel_rfl
theorem x5q(d:Nat)(hs:FHs)(args:List AV)(m:Mem):x6z (d+1) hs xo args m=x46 (x6z d) hs args m:=by kernel_rfl
theorem x5r(d:Nat)(hs:FHs)(args:List AV)(m:Mem):x6z (d+1) hs x1e args m=x47 (x6z d) hs args m:=by kernel_rfl
theorem x5s(d:Nat)(hs:FHs)(args:List AV)(m:Mem):x6z (d+1) hs xp args m=x48 (x6z d) hs args m:=by kernel_rfl
theorem x5t(d:Nat)(hs:FHs)(args:List AV)(m:Mem):x6z (d+1) hs xq args m=x49 (x6z d) hs args m:=by kernel_rfl
theorem x5u(d:Nat)(hs:FHs)(args:List AV)(m:Mem):x6z (d+1) hs xr args m=x4a (x6z d) hs args m:=by kernel_rfl
theorem x5v(d:Nat)(hs:FHs)(args:List AV)(m:Mem):x6z (d+1) hs xh args m=x4b (x6z d) hs args m:=by kernel_rfl
end Go.Ix
