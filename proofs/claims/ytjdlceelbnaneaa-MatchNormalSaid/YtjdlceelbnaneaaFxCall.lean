import Derived.Test.YtjdlceelbnaneaaFxText0
import Derived.Test.YtjdlceelbnaneaaFxEnt
import Derived.Test.YtjdlceelbnaneaaFxRules
namespace Go.Ix
open Go.Proofs
noncomputable def table:List (FuncId×FnT):=[(x1e,x2t),(x6,x2u),(xu,x2v),(xh,x2w),(xv,x1u),(xw,x2x),(xm,x2y),(xa,x2z),(xx,x30),(xy,x31),(xb,x32),(xz,x33),(x10,x34),(x11,x35),(x12,x36),(x13,x37),(x14,x38),(xn,x39),(xi,x3a)]
noncomputable def whole(f:FuncId):FnT:=λcall hs args m=>x7u Try.prog pol NN call hs f args m
noncomputable def x59:Nat->x5a
 |0=>λ_ _ _ _=>none
 |d+1=>λhs f args m=>look (whole f) f table (x59 d) hs args m
theorem x44(d:Nat)(hs:FHs)(args:List AV)(m:Mem):x59 (d+1) hs x1e args m=x2t (x59 d) hs args m:=by kernel_rfl
theorem x45(d:Nat)(hs:FHs)(args:List AV)(m:Mem):x59 (d+1) hs x6 args m=x2u (x59 d) hs args m:=by kernel_rfl
theorem x46(d:Nat)(hs:FHs)(args:List AV)(m:Mem):x59 (d+1) hs xu args m=x2v (x59 d) hs args m:=by kernel_rfl
theorem x47(d:Nat)(hs:FHs)(args:List AV)(m:Mem):x59 (d+1) hs xh args m=x2w (x59 d) hs args m:=by kernel_rfl
theorem x40(d:Nat)(hs:FHs)(args:List AV)(m:Mem):x59 (d+1) hs xv args m=x1u (x59 d) hs args m:=by kernel_rfl
theorem x48(d:Nat)(hs:FHs)(args:List AV)(m:Mem):x59 (d+1) hs xw args m=x2x (x59 d) hs args m:=by kernel_rfl
theorem x49(d:Nat)(hs:FHs)(args:List AV)(m:Mem):x59 (d+1) hs xm args m=x2y (x59 d) hs args m:=by kernel_rfl
theorem x4a(d:Nat)(hs:FHs)(args:List AV)(m:Mem):x59 (d+1) hs xa args m=x2z (x59 d) hs args m:=by kernel_rfl
theorem x4b(d:Nat)(hs:FHs)(args:List AV)(m:Mem):x59 (d+1) hs xx args m=x30 (x59 d) hs args m:=by kernel_rfl
theorem x4c(d:Nat)(hs:FHs)(args:List AV)(m:Mem):x59 (d+1) hs xy args m=x31 (x59 d) hs args m:=by kernel_rfl
theorem x4d(d:Nat)(hs:FHs)(args:List AV)(m:Mem):x59 (d+1) hs xb args m=x32 (x59 d) hs args m:=by kernel_rfl
theorem x4e(d:Nat)(hs:FHs)(args:List AV)(m:Mem):x59 (d+1) hs xz args m=x33 (x59 d) hs args m:=by kernel_rfl
theorem x4f(d:Nat)(hs:FHs)(args:List AV)(m:Mem):x59 (d+1) hs x10 args m=x34 (x59 d) hs args m:=by kernel_rfl
theorem x4g(d:Nat)(hs:FHs)(args:List AV)(m:Mem):x59 (d+1) hs x11 args m=x35 (x59 d) hs args m:=by kernel_rfl
theorem x4h(d:Nat)(hs:FHs)(args:List AV)(m:Mem):x59 (d+1) hs x12 args m=x36 (x59 d) hs args m:=by kernel_rfl
theorem x4i(d:Nat)(hs:FHs)(args:List AV)(m:Mem):x59 (d+1) hs x13 args m=x37 (x59 d) hs args m:=by kernel_rfl
theorem x4j(d:Nat)(hs:FHs)(args:List AV)(m:Mem):x59 (d+1) hs x14 args m=x38 (x59 d) hs args m:=by kernel_rfl
theorem x4k(d:Nat)(hs:FHs)(args:List AV)(m:Mem):x59 (d+1) hs xn args m=x39 (x59 d) hs args m:=by kernel_rfl
theorem x4l(d:Nat)(hs:FHs)(args:List AV)(m:Mem):x59 (d+1) hs xi args m=x3a (x59 d) hs args m:=by kernel_rfl
end Go.Ix
