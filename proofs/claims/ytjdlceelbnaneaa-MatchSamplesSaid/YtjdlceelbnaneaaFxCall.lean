import Derived.Test.YtjdlceelbnaneaaFxText0
import Derived.Test.YtjdlceelbnaneaaFxEnt
import Derived.Test.YtjdlceelbnaneaaFxRules
namespace Go.Ix
open Go.Proofs
noncomputable def table:List (FuncId×FnT):=[(x1t,x3o),(x7,x3p),(xm,x3q),(x9,x3r),(x10,x3s),(x11,x3t),(xg,x3u),(xn,x3v),(x12,x3w),(xh,x3x),(x13,x3y),(xo,x3z),(xp,x40),(x14,x41),(x15,x42),(xa,x43),(x16,x44),(x17,x45),(x18,x46),(x19,x47),(xq,x48),(x1a,x49),(x1b,x4a),(xi,x4b),(x1c,x1u),(xr,x4c),(x1d,x4d),(x1e,x4e),(x1f,x4f),(x1g,x4g),(x1h,x4h),(x1i,x4i),(xt,x4j),(x1j,x4k),(xu,x4l),(xv,x4m),(xw,x4n),(xj,x4o)]
noncomputable def whole(f:FuncId):FnT:=λcall hs args m=>xa9 Try.prog pol NN call hs f args m
noncomputable def x7o:Nat->x7q
 |0=>λ_ _ _ _=>none
 |d+1=>λhs f args m=>look (whole f) f table (x7o d) hs args m
theorem x5h(d:Nat)(hs:FHs)(args:List AV)(m:Mem):x7o (d+1) hs x1t args m=x3o (x7o d) hs args m:=by kernel_rfl
theorem x5i(d:Nat)(hs:FHs)(args:List AV)(m:Mem):x7o (d+1) hs x7 args m=x3p (x7o d) hs args m:=by kernel_rfl
theorem x5j(d:Nat)(hs:FHs)(args:List AV)(m:Mem):x7o (d+1) hs xm args m=x3q (x7o d) hs args m:=by kernel_rfl
theorem x5k(d:Nat)(hs:FHs)(args:List AV)(m:Mem):x7o (d+1) hs x9 args m=x3r (x7o d) hs args m:=by kernel_rfl
theorem x5l(d:Nat)(hs:FHs)(args:List AV)(m:Mem):x7o (d+1) hs x10 args m=x3s (x7o d) hs args m:=by kernel_rfl
theorem x5m(d:Nat)(hs:FHs)(args:List AV)(m:Mem):x7o (d+1) hs x11 args m=x3t (x7o d) hs args m:=by kernel_rfl
theorem x5n(d:Nat)(hs:FHs)(args:List AV)(m:Mem):x7o (d+1) hs xg args m=x3u (x7o d) hs args m:=by kernel_rfl
theorem x5o(d:Nat)(hs:FHs)(args:List AV)(m:Mem):x7o (d+1) hs xn args m=x3v (x7o d) hs args m:=by kernel_rfl
theorem x5p(d:Nat)(hs:FHs)(args:List AV)(m:Mem):x7o (d+1) hs x12 args m=x3w (x7o d) hs args m:=by kernel_rfl
theorem x5q(d:Nat)(hs:FHs)(args:List AV)(m:Mem):x7o (d+1) hs xh args m=x3x (x7o d) hs args m:=by kernel_rfl
theorem x5r(d:Nat)(hs:FHs)(args:List AV)(m:Mem):x7o (d+1) hs x13 args m=x3y (x7o d) hs args m:=by kernel_rfl
theorem x5s(d:Nat)(hs:FHs)(args:List AV)(m:Mem):x7o (d+1) hs xo args m=x3z (x7o d) hs args m:=by kernel_rfl
theorem x5t(d:Nat)(hs:FHs)(args:List AV)(m:Mem):x7o (d+1) hs xp args m=x40 (x7o d) hs args m:=by kernel_rfl
theorem x5u(d:Nat)(hs:FHs)(args:List AV)(m:Mem):x7o (d+1) hs x14 args m=x41 (x7o d) hs args m:=by kernel_rfl
theorem x5v(d:Nat)(hs:FHs)(args:List AV)(m:Mem):x7o (d+1) hs x15 args m=x42 (x7o d) hs args m:=by kernel_rfl
theorem x5w(d:Nat)(hs:FHs)(args:List AV)(m:Mem):x7o (d+1) hs xa args m=x43 (x7o d) hs args m:=by kernel_rfl
theorem x5x(d:Nat)(hs:FHs)(args:List AV)(m:Mem):x7o (d+1) hs x16 args m=x44 (x7o d) hs args m:=by kernel_rfl
theorem x5y(d:Nat)(hs:FHs)(args:List AV)(m:Mem):x7o (d+1) hs x17 args m=x45 (x7o d) hs args m:=by kernel_rfl
theorem x5z(d:Nat)(hs:FHs)(args:List AV)(m:Mem):x7o (d+1) hs x18 args m=x46 (x7o d) hs args m:=by kernel_rfl
theorem x60(d:Nat)(hs:FHs)(args:List AV)(m:Mem):x7o (d+1) hs x19 args m=x47 (x7o d) hs args m:=by kernel_rfl
theorem x61(d:Nat)(hs:FHs)(args:List AV)(m:Mem):x7o (d+1) hs xq args m=x48 (x7o d) hs args m:=by kernel_rfl
theorem x62(d:Nat)(hs:FHs)(args:List AV)(m:Mem):x7o (d+1) hs x1a args m=x49 (x7o d) hs args m:=by kernel_rfl
theorem x63(d:Nat)(hs:FHs)(args:List AV)(m:Mem):x7o (d+1) hs x1b args m=x4a (x7o d) hs args m:=by kernel_rfl
theorem x64(d:Nat)(hs:FHs)(args:List AV)(m:Mem):x7o (d+1) hs xi args m=x4b (x7o d) hs args m:=by kernel_rfl
theorem x4p(d:Nat)(hs:FHs)(args:List AV)(m:Mem):x7o (d+1) hs x1c args m=x1u (x7o d) hs args m:=by kernel_rfl
theorem x65(d:Nat)(hs:FHs)(args:List AV)(m:Mem):x7o (d+1) hs xr args m=x4c (x7o d) hs args m:=by kernel_rfl
theorem x66(d:Nat)(hs:FHs)(args:List AV)(m:Mem):x7o (d+1) hs x1d args m=x4d (x7o d) hs args m:=by kernel_rfl
theorem x67(d:Nat)(hs:FHs)(args:List AV)(m:Mem):x7o (d+1) hs x1e args m=x4e (x7o d) hs args m:=by kernel_rfl
theorem x68(d:Nat)(hs:FHs)(args:List AV)(m:Mem):x7o (d+1) hs x1f args m=x4f (x7o d) hs args m:=by kernel_rfl
theorem x69(d:Nat)(hs:FHs)(args:List AV)(m:Mem):x7o (d+1) hs x1g args m=x4g (x7o d) hs args m:=by kernel_rfl
theorem x6a(d:Nat)(hs:FHs)(args:List AV)(m:Mem):x7o (d+1) hs x1h args m=x4h (x7o d) hs args m:=by kernel_rfl
theorem x6b(d:Nat)(hs:FHs)(args:List AV)(m:Mem):x7o (d+1) hs x1i args m=x4i (x7o d) hs args m:=by kernel_rfl
theorem x6c(d:Nat)(hs:FHs)(args:List AV)(m:Mem):x7o (d+1) hs xt args m=x4j (x7o d) hs args m:=by kernel_rfl
theorem x6d(d:Nat)(hs:FHs)(args:List AV)(m:Mem):x7o (d+1) hs x1j args m=x4k (x7o d) hs args m:=by kernel_rfl
theorem x6e(d:Nat)(hs:FHs)(args:List AV)(m:Mem):x7o (d+1) hs xu args m=x4l (x7o d) hs args m:=by kernel_rfl
theorem x6f(d:Nat)(hs:FHs)(args:List AV)(m:Mem):x7o (d+1) hs xv args m=x4m (x7o d) hs args m:=by kernel_rfl
theorem x6g(d:Nat)(hs:FHs)(args:List AV)(m:Mem):x7o (d+1) hs xw args m=x4n (x7o d) hs args m:=by kernel_rfl
theorem x6h(d:Nat)(hs:FHs)(args:List AV)(m:Mem):x7o (d+1) hs xj args m=x4o (x7o d) hs args m:=by kernel_rfl
end Go.Ix
