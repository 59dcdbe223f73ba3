import Derived.Test.YtjdlceelbnaneaaFxText0
import Derived.Test.YtjdlceelbnaneaaFxEnt
import Derived.Test.YtjdlceelbnaneaaFxRules
namespace Go.Ix
open Go.Proofs
noncomputable def table:List (FuncId×FnT):=[(x1w,x3t),(x7,x3u),(xw,x3v),(xx,x3w),(xj,x3x),(xy,x3y),(xz,x3z),(x10,x40),(x11,x41),(x12,x42),(xk,x43),(x13,x44),(x14,x45),(xc,x46),(x15,x47),(x16,x48),(x17,x49),(x18,x4a),(x19,x4b),(x1a,x4c),(x1b,x4d),(x1c,x4e),(xg,x4f),(x1d,x1x),(xl,x4g),(x1e,x4h),(x1f,x4i),(xh,x4j),(x1g,x4k),(x1h,x4l),(x1i,x4m),(xm,x4n),(x1j,x4o),(xn,x4p),(xo,x4q),(xp,x4r),(xi,x4s)]
noncomputable def whole(f:FuncId):FnT:=λcall hs args m=>xao Try.prog pol NN call hs f args m
noncomputable def x80:Nat->x82
 |0=>λ_ _ _ _=>none
 |d+1=>λhs f args m=>look (whole f) f table (x80 d) hs args m
theorem x5r(d:Nat)(hs:FHs)(args:List AV)(m:Mem):x80 (d+1) hs x1w args m=x3t (x80 d) hs args m:=by kernel_rfl
theorem x5s(d:Nat)(hs:FHs)(args:List AV)(m:Mem):x80 (d+1) hs x7 args m=x3u (x80 d) hs args m:=by kernel_rfl
theorem x5t(d:Nat)(hs:FHs)(args:List AV)(m:Mem):x80 (d+1) hs xw args m=x3v (x80 d) hs args m:=by kernel_rfl
theorem x5u(d:Nat)(hs:FHs)(args:List AV)(m:Mem):x80 (d+1) hs xx args m=x3w (x80 d) hs args m:=by kernel_rfl
theorem x5v(d:Nat)(hs:FHs)(args:List AV)(m:Mem):x80 (d+1) hs xj args m=x3x (x80 d) hs args m:=by kernel_rfl
theorem x5w(d:Nat)(hs:FHs)(args:List AV)(m:Mem):x80 (d+1) hs xy args m=x3y (x80 d) hs args m:=by kernel_rfl
theorem x5x(d:Nat)(hs:FHs)(args:List AV)(m:Mem):x80 (d+1) hs xz args m=x3z (x80 d) hs args m:=by kernel_rfl
theorem x5y(d:Nat)(hs:FHs)(args:List AV)(m:Mem):x80 (d+1) hs x10 args m=x40 (x80 d) hs args m:=by kernel_rfl
theorem x5z(d:Nat)(hs:FHs)(args:List AV)(m:Mem):x80 (d+1) hs x11 args m=x41 (x80 d) hs args m:=by kernel_rfl
theorem x60(d:Nat)(hs:FHs)(args:List AV)(m:Mem):x80 (d+1) hs x12 args m=x42 (x80 d) hs args m:=by kernel_rfl
theorem x61(d:Nat)(hs:FHs)(args:List AV)(m:Mem):x80 (d+1) hs xk args m=x43 (x80 d) hs args m:=by kernel_rfl
theorem x62(d:Nat)(hs:FHs)(args:List AV)(m:Mem):x80 (d+1) hs x13 args m=x44 (x80 d) hs args m:=by kernel_rfl
theorem x63(d:Nat)(hs:FHs)(args:List AV)(m:Mem):x80 (d+1) hs x14 args m=x45 (x80 d) hs args m:=by kernel_rfl
theorem x64(d:Nat)(hs:FHs)(args:List AV)(m:Mem):x80 (d+1) hs xc args m=x46 (x80 d) hs args m:=by kernel_rfl
theorem x65(d:Nat)(hs:FHs)(args:List AV)(m:Mem):x80 (d+1) hs x15 args m=x47 (x80 d) hs args m:=by kernel_rfl
theorem x66(d:Nat)(hs:FHs)(args:List AV)(m:Mem):x80 (d+1) hs x16 args m=x48 (x80 d) hs args m:=by kernel_rfl
theorem x67(d:Nat)(hs:FHs)(args:List AV)(m:Mem):x80 (d+1) hs x17 args m=x49 (x80 d) hs args m:=by kernel_rfl
theorem x68(d:Nat)(hs:FHs)(args:List AV)(m:Mem):x80 (d+1) hs x18 args m=x4a (x80 d) hs args m:=by kernel_rfl
theorem x69(d:Nat)(hs:FHs)(args:List AV)(m:Mem):x80 (d+1) hs x19 args m=x4b (x80 d) hs args m:=by kernel_rfl
theorem x6a(d:Nat)(hs:FHs)(args:List AV)(m:Mem):x80 (d+1) hs x1a args m=x4c (x80 d) hs args m:=by kernel_rfl
theorem x6b(d:Nat)(hs:FHs)(args:List AV)(m:Mem):x80 (d+1) hs x1b args m=x4d (x80 d) hs args m:=by kernel_rfl
theorem x6c(d:Nat)(hs:FHs)(args:List AV)(m:Mem):x80 (d+1) hs x1c args m=x4e (x80 d) hs args m:=by kernel_rfl
theorem x6d(d:Nat)(hs:FHs)(args:List AV)(m:Mem):x80 (d+1) hs xg args m=x4f (x80 d) hs args m:=by kernel_rfl
theorem x4t(d:Nat)(hs:FHs)(args:List AV)(m:Mem):x80 (d+1) hs x1d args m=x1x (x80 d) hs args m:=by kernel_rfl
theorem x6e(d:Nat)(hs:FHs)(args:List AV)(m:Mem):x80 (d+1) hs xl args m=x4g (x80 d) hs args m:=by kernel_rfl
theorem x6f(d:Nat)(hs:FHs)(args:List AV)(m:Mem):x80 (d+1) hs x1e args m=x4h (x80 d) hs args m:=by kernel_rfl
theorem x6g(d:Nat)(hs:FHs)(args:List AV)(m:Mem):x80 (d+1) hs x1f args m=x4i (x80 d) hs args m:=by kernel_rfl
theorem x6h(d:Nat)(hs:FHs)(args:List AV)(m:Mem):x80 (d+1) hs xh args m=x4j (x80 d) hs args m:=by kernel_rfl
theorem x6i(d:Nat)(hs:FHs)(args:List AV)(m:Mem):x80 (d+1) hs x1g args m=x4k (x80 d) hs args m:=by kernel_rfl
theorem x6j(d:Nat)(hs:FHs)(args:List AV)(m:Mem):x80 (d+1) hs x1h args m=x4l (x80 d) hs args m:=by kernel_rfl
theorem x6k(d:Nat)(hs:FHs)(args:List AV)(m:Mem):x80 (d+1) hs x1i args m=x4m (x80 d) hs args m:=by kernel_rfl
theorem x6l(d:Nat)(hs:FHs)(args:List AV)(m:Mem):x80 (d+1) hs xm args m=x4n (x80 d) hs args m:=by kernel_rfl
theorem x6m(d:Nat)(hs:FHs)(args:List AV)(m:Mem):x80 (d+1) hs x1j args m=x4o (x80 d) hs args m:=by kernel_rfl
theorem x6n(d:Nat)(hs:FHs)(args:List AV)(m:Mem):x80 (d+1) hs xn args m=x4p (x80 d) hs args m:=by kernel_rfl
theorem x6o(d:Nat)(hs:FHs)(args:List AV)(m:Mem):x80 (d+1) hs xo args m=x4q (x80 d) hs args m:=by kernel_rfl
theorem x6p(d:Nat)(hs:FHs)(args:List AV)(m:Mem):x80 (d+1) hs xp args m=x4r (x80 d) hs args m:=by kernel_rfl
theorem x6q(d:Nat)(hs:FHs)(args:List AV)(m:Mem):x80 (d+1) hs xi args m=x4s (x80 d) hs args m:=by kernel_rfl
end Go.Ix
