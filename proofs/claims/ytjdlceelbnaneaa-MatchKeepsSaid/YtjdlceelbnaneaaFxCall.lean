import Derived.Test.YtjdlceelbnaneaaFxText0
import Derived.Test.YtjdlceelbnaneaaFxEnt
import Derived.Test.YtjdlceelbnaneaaFxRules
namespace Go.Ix
open Go.Proofs
noncomputable def table:List (FuncId×FnT):=[(x1f,x2w),(x8,x2x),(xh,x2y),(xe,x1o),(xu,x2z),(xi,x30),(xv,x31),(xw,x1g),(xx,x32),(xj,x33),(xy,x34),(xz,x1p),(xa,x35),(xk,x36),(xl,x37),(x10,x38),(xm,x39),(x11,x3a),(x12,x3b),(xf,x3c),(x13,x3d),(xn,x3e),(x14,x3f),(xo,x3g),(x15,x3h),(xp,x3i),(x16,x3j)]
noncomputable def whole(f:FuncId):FnT:=λcall hs args m=>x8q Try.prog pol NN call hs f args m
noncomputable def x6e:Nat->x6f
 |0=>λ_ _ _ _=>none
 |d+1=>λhs f args m=>look (whole f) f table (x6e d) hs args m
theorem x4o(d:Nat)(hs:FHs)(args:List AV)(m:Mem):x6e (d+1) hs x1f args m=x2w (x6e d) hs args m:=by kernel_rfl
theorem x4p(d:Nat)(hs:FHs)(args:List AV)(m:Mem):x6e (d+1) hs x8 args m=x2x (x6e d) hs args m:=by kernel_rfl
theorem x4q(d:Nat)(hs:FHs)(args:List AV)(m:Mem):x6e (d+1) hs xh args m=x2y (x6e d) hs args m:=by kernel_rfl
theorem x4i(d:Nat)(hs:FHs)(args:List AV)(m:Mem):x6e (d+1) hs xe args m=x1o (x6e d) hs args m:=by kernel_rfl
theorem x4r(d:Nat)(hs:FHs)(args:List AV)(m:Mem):x6e (d+1) hs xu args m=x2z (x6e d) hs args m:=by kernel_rfl
theorem x4s(d:Nat)(hs:FHs)(args:List AV)(m:Mem):x6e (d+1) hs xi args m=x30 (x6e d) hs args m:=by kernel_rfl
theorem x4t(d:Nat)(hs:FHs)(args:List AV)(m:Mem):x6e (d+1) hs xv args m=x31 (x6e d) hs args m:=by kernel_rfl
theorem x3k(d:Nat)(hs:FHs)(args:List AV)(m:Mem):x6e (d+1) hs xw args m=x1g (x6e d) hs args m:=by kernel_rfl
theorem x4u(d:Nat)(hs:FHs)(args:List AV)(m:Mem):x6e (d+1) hs xx args m=x32 (x6e d) hs args m:=by kernel_rfl
theorem x4v(d:Nat)(hs:FHs)(args:List AV)(m:Mem):x6e (d+1) hs xj args m=x33 (x6e d) hs args m:=by kernel_rfl
theorem x4w(d:Nat)(hs:FHs)(args:List AV)(m:Mem):x6e (d+1) hs xy args m=x34 (x6e d) hs args m:=by kernel_rfl
theorem x4j(d:Nat)(hs:FHs)(args:List AV)(m:Mem):x6e (d+1) hs xz args m=x1p (x6e d) hs args m:=by kernel_rfl
theorem x4x(d:Nat)(hs:FHs)(args:List AV)(m:Mem):x6e (d+1) hs xa args m=x35 (x6e d) hs args m:=by kernel_rfl
theorem x4y(d:Nat)(hs:FHs)(args:List AV)(m:Mem):x6e (d+1) hs xk args m=x36 (x6e d) hs args m:=by kernel_rfl
theorem x4z(d:Nat)(hs:FHs)(args:List AV)(m:Mem):x6e (d+1) hs xl args m=x37 (x6e d) hs args m:=by kernel_rfl
theorem x50(d:Nat)(hs:FHs)(args:List AV)(m:Mem):x6e (d+1) hs x10 args m=x38 (x6e d) hs args m:=by kernel_rfl
theorem x51(d:Nat)(hs:FHs)(args:List AV)(m:Mem):x6e (d+1) hs xm args m=x39 (x6e d) hs args m:=by kernel_rfl
theorem x52(d:Nat)(hs:FHs)(args:List AV)(m:Mem):x6e (d+1) hs x11 args m=x3a (x6e d) hs args m:=by kernel_rfl
theorem x53(d:Nat)(hs:FHs)(args:List AV)(m:Mem):x6e (d+1) hs x12 args m=x3b (x6e d) hs args m:=by kernel_rfl
theorem x54(d:Nat)(hs:FHs)(args:List AV)(m:Mem):x6e (d+1) hs xf args m=x3c (x6e d) hs args m:=by kernel_rfl
theorem x55(d:Nat)(hs:FHs)(args:List AV)(m:Mem):x6e (d+1) hs x13 args m=x3d (x6e d) hs args m:=by kernel_rfl
theorem x56(d:Nat)(hs:FHs)(args:List AV)(m:Mem):x6e (d+1) hs xn args m=x3e (x6e d) hs args m:=by kernel_rfl
theorem x57(d:Nat)(hs:FHs)(args:List AV)(m:Mem):x6e (d+1) hs x14 args m=x3f (x6e d) hs args m:=by kernel_rfl
theorem x58(d:Nat)(hs:FHs)(args:List AV)(m:Mem):x6e (d+1) hs xo args m=x3g (x6e d) hs args m:=by kernel_rfl
theorem x59(d:Nat)(hs:FHs)(args:List AV)(m:Mem):x6e (d+1) hs x15 args m=x3h (x6e d) hs args m:=by kernel_rfl
theorem x5a(d:Nat)(hs:FHs)(args:List AV)(m:Mem):x6e (d+1) hs xp args m=x3i (x6e d) hs args m:=by kernel_rfl
theorem x5b(d:Nat)(hs:FHs)(args:List AV)(m:Mem):x6e (d+1) hs x16 args m=x3j (x6e d) hs args m:=by kernel_rfl
end Go.Ix
