import Derived.Test.YtjdlceelbnaneaaFxText0
import Derived.Test.YtjdlceelbnaneaaFxEnt
import Derived.Test.YtjdlceelbnaneaaFxRules
namespace Go.Ix
open Go.Proofs
noncomputable def table:List (FuncId×FnT):=[(x1w,x3z),(xd,x40),(xt,x41),(x16,x42),(x17,x43),(xu,x2i),(x18,x44),(x19,x45),(x1a,x46),(x1b,x47),(x1c,x48),(x1d,x49),(xz,x4a),(x10,x4b),(x1e,x4c),(x1f,x4d),(x11,x4e),(xe,x4f),(xv,x4g),(x12,x4h),(x1g,x4i),(xj,x2j),(x1h,x4j),(x1i,x4k),(x13,x4l),(xw,x4m)]
noncomputable def whole(f:FuncId):FnT:=λcall hs args m=>xaj Try.prog pol NN call hs f args m
noncomputable def x7q:Nat->x7r
 |0=>λ_ _ _ _=>none
 |d+1=>λhs f args m=>look (whole f) f table (x7q d) hs args m
theorem x64(d:Nat)(hs:FHs)(args:List AV)(m:Mem):x7q (d+1) hs x1w args m=x3z (x7q d) hs args m:=by kernel_rfl
theorem x65(d:Nat)(hs:FHs)(args:List AV)(m:Mem):x7q (d+1) hs xd args m=x40 (x7q d) hs args m:=by kernel_rfl
theorem x66(d:Nat)(hs:FHs)(args:List AV)(m:Mem):x7q (d+1) hs xt args m=x41 (x7q d) hs args m:=by kernel_rfl
theorem x67(d:Nat)(hs:FHs)(args:List AV)(m:Mem):x7q (d+1) hs x16 args m=x42 (x7q d) hs args m:=by kernel_rfl
theorem x68(d:Nat)(hs:FHs)(args:List AV)(m:Mem):x7q (d+1) hs x17 args m=x43 (x7q d) hs args m:=by kernel_rfl
theorem x5x(d:Nat)(hs:FHs)(args:List AV)(m:Mem):x7q (d+1) hs xu args m=x2i (x7q d) hs args m:=by kernel_rfl
theorem x69(d:Nat)(hs:FHs)(args:List AV)(m:Mem):x7q (d+1) hs x18 args m=x44 (x7q d) hs args m:=by kernel_rfl
theorem x6a(d:Nat)(hs:FHs)(args:List AV)(m:Mem):x7q (d+1) hs x19 args m=x45 (x7q d) hs args m:=by kernel_rfl
theorem x6b(d:Nat)(hs:FHs)(args:List AV)(m:Mem):x7q (d+1) hs x1a args m=x46 (x7q d) hs args m:=by kernel_rfl
theorem x6c(d:Nat)(hs:FHs)(args:List AV)(m:Mem):x7q (d+1) hs x1b args m=x47 (x7q d) hs args m:=by kernel_rfl
theorem x6d(d:Nat)(hs:FHs)(args:List AV)(m:Mem):x7q (d+1) hs x1c args m=x48 (x7q d) hs args m:=by kernel_rfl
theorem x6e(d:Nat)(hs:FHs)(args:List AV)(m:Mem):x7q (d+1) hs x1d args m=x49 (x7q d) hs args m:=by kernel_rfl
theorem x6f(d:Nat)(hs:FHs)(args:List AV)(m:Mem):x7q (d+1) hs xz args m=x4a (x7q d) hs args m:=by kernel_rfl
theorem x6g(d:Nat)(hs:FHs)(args:List AV)(m:Mem):x7q (d+1) hs x10 args m=x4b (x7q d) hs args m:=by kernel_rfl
theorem x6h(d:Nat)(hs:FHs)(args:List AV)(m:Mem):x7q (d+1) hs x1e args m=x4c (x7q d) hs args m:=by kernel_rfl
theorem x6i(d:Nat)(hs:FHs)(args:List AV)(m:Mem):x7q (d+1) hs x1f args m=x4d (x7q d) hs args m:=by kernel_rfl
theorem x6j(d:Nat)(hs:FHs)(args:List AV)(m:Mem):x7q (d+1) hs x11 args m=x4e (x7q d) hs args m:=by kernel_rfl
theorem x6k(d:Nat)(hs:FHs)(args:List AV)(m:Mem):x7q (d+1) hs xe args m=x4f (x7q d) hs args m:=by kernel_rfl
theorem x6l(d:Nat)(hs:FHs)(args:List AV)(m:Mem):x7q (d+1) hs xv args m=x4g (x7q d) hs args m:=by kernel_rfl
theorem x6m(d:Nat)(hs:FHs)(args:List AV)(m:Mem):x7q (d+1) hs x12 args m=x4h (x7q d) hs args m:=by kernel_rfl
theorem x6n(d:Nat)(hs:FHs)(args:List AV)(m:Mem):x7q (d+1) hs x1g args m=x4i (x7q d) hs args m:=by kernel_rfl
theorem x5y(d:Nat)(hs:FHs)(args:List AV)(m:Mem):x7q (d+1) hs xj args m=x2j (x7q d) hs args m:=by kernel_rfl
theorem x6o(d:Nat)(hs:FHs)(args:List AV)(m:Mem):x7q (d+1) hs x1h args m=x4j (x7q d) hs args m:=by kernel_rfl
theorem x6p(d:Nat)(hs:FHs)(args:List AV)(m:Mem):x7q (d+1) hs x1i args m=x4k (x7q d) hs args m:=by kernel_rfl
theorem x6q(d:Nat)(hs:FHs)(args:List AV)(m:Mem):x7q (d+1) hs x13 args m=x4l (x7q d) hs args m:=by kernel_rfl
theorem x6r(d:Nat)(hs:FHs)(args:List AV)(m:Mem):x7q (d+1) hs xw args m=x4m (x7q d) hs args m:=by kernel_rfl
end Go.Ix
