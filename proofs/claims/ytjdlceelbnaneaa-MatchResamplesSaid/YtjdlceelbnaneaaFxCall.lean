import Derived.Test.YtjdlceelbnaneaaFxText0
import Derived.Test.YtjdlceelbnaneaaFxEnt
import Derived.Test.YtjdlceelbnaneaaFxRules
namespace Go.Ix
open Go.Proofs
noncomputable def table:List (FuncId×FnT):=[(x2b,x4u),(xe,x4v),(x19,x4w),(xr,x4x),(xh,x4y),(x1a,x4z),(x1b,x50),(xt,x51),(x1c,x52),(x1d,x53),(x1e,x54),(xu,x55),(x1f,x56),(xv,x57),(x1g,x58),(x1h,x59),(xw,x2v),(x1i,x5a),(x1j,x5b),(x1k,x5c),(x1l,x5d),(xg,x5e),(x1m,x5f),(x1n,x5g),(x1o,x5h),(x1p,x5i),(xx,x5j),(x1q,x5k),(x1r,x5l),(x1s,x5m),(x1t,x5n),(xn,x5o),(x1u,x2c),(xy,x5p),(x1v,x5q),(x1w,x5r),(xo,x5s),(x1x,x5t),(x1y,x5u),(x1z,x5v),(xz,x5w),(x20,x5x),(x10,x5y),(x11,x5z),(x12,x60),(xp,x61)]
noncomputable def whole(f:FuncId):FnT:=λcall hs args m=>xcm Try.prog pol NN call hs f args m
noncomputable def x9u:Nat->x9w
 |0=>λ_ _ _ _=>none
 |d+1=>λhs f args m=>look (whole f) f table (x9u d) hs args m
theorem x76(d:Nat)(hs:FHs)(args:List AV)(m:Mem):x9u (d+1) hs x2b args m=x4u (x9u d) hs args m:=by kernel_rfl
theorem x77(d:Nat)(hs:FHs)(args:List AV)(m:Mem):x9u (d+1) hs xe args m=x4v (x9u d) hs args m:=by kernel_rfl
theorem x78(d:Nat)(hs:FHs)(args:List AV)(m:Mem):x9u (d+1) hs x19 args m=x4w (x9u d) hs args m:=by kernel_rfl
theorem x79(d:Nat)(hs:FHs)(args:List AV)(m:Mem):x9u (d+1) hs xr args m=x4x (x9u d) hs args m:=by kernel_rfl
theorem x7a(d:Nat)(hs:FHs)(args:List AV)(m:Mem):x9u (d+1) hs xh args m=x4y (x9u d) hs args m:=by kernel_rfl
theorem x7b(d:Nat)(hs:FHs)(args:List AV)(m:Mem):x9u (d+1) hs x1a args m=x4z (x9u d) hs args m:=by kernel_rfl
theorem x7c(d:Nat)(hs:FHs)(args:List AV)(m:Mem):x9u (d+1) hs x1b args m=x50 (x9u d) hs args m:=by kernel_rfl
theorem x7d(d:Nat)(hs:FHs)(args:List AV)(m:Mem):x9u (d+1) hs xt args m=x51 (x9u d) hs args m:=by kernel_rfl
theorem x7e(d:Nat)(hs:FHs)(args:List AV)(m:Mem):x9u (d+1) hs x1c args m=x52 (x9u d) hs args m:=by kernel_rfl
theorem x7f(d:Nat)(hs:FHs)(args:List AV)(m:Mem):x9u (d+1) hs x1d args m=x53 (x9u d) hs args m:=by kernel_rfl
theorem x7g(d:Nat)(hs:FHs)(args:List AV)(m:Mem):x9u (d+1) hs x1e args m=x54 (x9u d) hs args m:=by kernel_rfl
theorem x7h(d:Nat)(hs:FHs)(args:List AV)(m:Mem):x9u (d+1) hs xu args m=x55 (x9u d) hs args m:=by kernel_rfl
theorem x7i(d:Nat)(hs:FHs)(args:List AV)(m:Mem):x9u (d+1) hs x1f args m=x56 (x9u d) hs args m:=by kernel_rfl
theorem x7j(d:Nat)(hs:FHs)(args:List AV)(m:Mem):x9u (d+1) hs xv args m=x57 (x9u d) hs args m:=by kernel_rfl
theorem x7k(d:Nat)(hs:FHs)(args:List AV)(m:Mem):x9u (d+1) hs x1g args m=x58 (x9u d) hs args m:=by kernel_rfl
theorem x7l(d:Nat)(hs:FHs)(args:List AV)(m:Mem):x9u (d+1) hs x1h args m=x59 (x9u d) hs args m:=by kernel_rfl
theorem x72(d:Nat)(hs:FHs)(args:List AV)(m:Mem):x9u (d+1) hs xw args m=x2v (x9u d) hs args m:=by kernel_rfl
theorem x7m(d:Nat)(hs:FHs)(args:List AV)(m:Mem):x9u (d+1) hs x1i args m=x5a (x9u d) hs args m:=by kernel_rfl
theorem x7n(d:Nat)(hs:FHs)(args:List AV)(m:Mem):x9u (d+1) hs x1j args m=x5b (x9u d) hs args m:=by kernel_rfl
theorem x7o(d:Nat)(hs:FHs)(args:List AV)(m:Mem):x9u (d+1) hs x1k args m=x5c (x9u d) hs args m:=by kernel_rfl
theorem x7p(d:Nat)(hs:FHs)(args:List AV)(m:Mem):x9u (d+1) hs x1l args m=x5d (x9u d) hs args m:=by kernel_rfl
theorem x7q(d:Nat)(hs:FHs)(args:List AV)(m:Mem):x9u (d+1) hs xg args m=x5e (x9u d) hs args m:=by kernel_rfl
theorem x7r(d:Nat)(hs:FHs)(args:List AV)(m:Mem):x9u (d+1) hs x1m args m=x5f (x9u d) hs args m:=by kernel_rfl
theorem x7s(d:Nat)(hs:FHs)(args:List AV)(m:Mem):x9u (d+1) hs x1n args m=x5g (x9u d) hs args m:=by kernel_rfl
theorem x7t(d:Nat)(hs:FHs)(args:List AV)(m:Mem):x9u (d+1) hs x1o args m=x5h (x9u d) hs args m:=by kernel_rfl
theorem x7u(d:Nat)(hs:FHs)(args:List AV)(m:Mem):x9u (d+1) hs x1p args m=x5i (x9u d) hs args m:=by kernel_rfl
theorem x7v(d:Nat)(hs:FHs)(args:List AV)(m:Mem):x9u (d+1) hs xx args m=x5j (x9u d) hs args m:=by kernel_rfl
theorem x7w(d:Nat)(hs:FHs)(args:List AV)(m:Mem):x9u (d+1) hs x1q args m=x5k (x9u d) hs args m:=by kernel_rfl
theorem x7x(d:Nat)(hs:FHs)(args:List AV)(m:Mem):x9u (d+1) hs x1r args m=x5l (x9u d) hs args m:=by kernel_rfl
theorem x7y(d:Nat)(hs:FHs)(args:List AV)(m:Mem):x9u (d+1) hs x1s args m=x5m (x9u d) hs args m:=by kernel_rfl
theorem x7z(d:Nat)(hs:FHs)(args:List AV)(m:Mem):x9u (d+1) hs x1t args m=x5n (x9u d) hs args m:=by kernel_rfl
theorem x80(d:Nat)(hs:FHs)(args:List AV)(m:Mem):x9u (d+1) hs xn args m=x5o (x9u d) hs args m:=by kernel_rfl
theorem x62(d:Nat)(hs:FHs)(args:List AV)(m:Mem):x9u (d+1) hs x1u args m=x2c (x9u d) hs args m:=by kernel_rfl
theorem x81(d:Nat)(hs:FHs)(args:List AV)(m:Mem):x9u (d+1) hs xy args m=x5p (x9u d) hs args m:=by kernel_rfl
theorem x82(d:Nat)(hs:FHs)(args:List AV)(m:Mem):x9u (d+1) hs x1v args m=x5q (x9u d) hs args m:=by kernel_rfl
theorem x83(d:Nat)(hs:FHs)(args:List AV)(m:Mem):x9u (d+1) hs x1w args m=x5r (x9u d) hs args m:=by kernel_rfl
theorem x84(d:Nat)(hs:FHs)(args:List AV)(m:Mem):x9u (d+1) hs xo args m=x5s (x9u d) hs args m:=by kernel_rfl
theorem x85(d:Nat)(hs:FHs)(args:List AV)(m:Mem):x9u (d+1) hs x1x args m=x5t (x9u d) hs args m:=by kernel_rfl
theorem x86(d:Nat)(hs:FHs)(args:List AV)(m:Mem):x9u (d+1) hs x1y args m=x5u (x9u d) hs args m:=by kernel_rfl
theorem x87(d:Nat)(hs:FHs)(args:List AV)(m:Mem):x9u (d+1) hs x1z args m=x5v (x9u d) hs args m:=by kernel_rfl
theorem x88(d:Nat)(hs:FHs)(args:List AV)(m:Mem):x9u (d+1) hs xz args m=x5w (x9u d) hs args m:=by kernel_rfl
theorem x89(d:Nat)(hs:FHs)(args:List AV)(m:Mem):x9u (d+1) hs x20 args m=x5x (x9u d) hs args m:=by kernel_rfl
theorem x8a(d:Nat)(hs:FHs)(args:List AV)(m:Mem):x9u (d+1) hs x10 args m=x5y (x9u d) hs args m:=by kernel_rfl
theorem x8b(d:Nat)(hs:FHs)(args:List AV)(m:Mem):x9u (d+1) hs x11 args m=x5z (x9u d) hs args m:=by kernel_rfl
theorem x8c(d:Nat)(hs:FHs)(args:List AV)(m:Mem):x9u (d+1) hs x12 args m=x60 (x9u d) hs args m:=by kernel_rfl
theorem x8d(d:Nat)(hs:FHs)(args:List AV)(m:Mem):x9u (d+1) hs xp args m=x61 (x9u d) hs args m:=by kernel_rfl
end Go.Ix
