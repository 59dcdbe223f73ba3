import Derived.Test.YtjdlceelbnaneaaFxText0
import Derived.Test.YtjdlceelbnaneaaFxEnt
import Derived.Test.YtjdlceelbnaneaaFxRules
namespace Go.Ix
open Go.Proofs
noncomputable def table:List (FuncId×FnT):=[(xk,x13),(x9,x14),(xf,x15),(xb,x16),(xg,x17),(xc,x18),(xh,x19),(xa,x1a),(xi,x1b),(xj,x1c),(xd,x1d)]
noncomputable def whole(f:FuncId):FnT:=λcall hs args m=>x49 Try.prog pol NN call hs f args m
noncomputable def x2l:Nat->x2i
 |0=>λ_ _ _ _=>none
 |d+1=>λhs f args m=>look (whole f) f table (x2l d) hs args m
theorem x1r(d:Nat)(hs:FHs)(args:List AV)(m:Mem):x2l (d+1) hs xk args m=x13 (x2l d) hs args m:=by kernel_rfl
theorem x1s(d:Nat)(hs:FHs)(args:List AV)(m:Mem):x2l (d+1) hs x9 args m=x14 (x2l d) hs args m:=by kernel_rfl
theorem x1t(d:Nat)(hs:FHs)(args:List AV)(m:Mem):x2l (d+1) hs xf args m=x15 (x2l d) hs args m:=by kernel_rfl
theorem x1u(d:Nat)(hs:FHs)(args:List AV)(m:Mem):x2l (d+1) hs xb args m=x16 (x2l d) hs args m:=by kernel_rfl
theorem x1v(d:Nat)(hs:FHs)(args:List AV)(m:Mem):x2l (d+1) hs xg args m=x17 (x2l d) hs args m:=by kernel_rfl
theorem x1w(d:Nat)(hs:FHs)(args:List AV)(m:Mem):x2l (d+1) hs xc args m=x18 (x2l d) hs args m:=by kernel_rfl
theorem x1x(d:Nat)(hs:FHs)(args:List AV)(m:Mem):x2l (d+1) hs xh args m=x19 (x2l d) hs args m:=by kernel_rfl
theorem x1y(d:Nat)(hs:FHs)(args:List AV)(m:Mem):x2l (d+1) hs xa args m=x1a (x2l d) hs args m:=by kernel_rfl
theorem x1z(d:Nat)(hs:FHs)(args:List AV)(m:Mem):x2l (d+1) hs xi args m=x1b (x2l d) hs args m:=by kernel_rfl
theorem x20(d:Nat)(hs:FHs)(args:List AV)(m:Mem):x2l (d+1) hs xj args m=x1c (x2l d) hs args m:=by kernel_rfl
theorem x21(d:Nat)(hs:FHs)(args:List AV)(m:Mem):x2l (d+1) hs xd args m=x1d (x2l d) hs args m:=by kernel_rfl
end Go.Ix
