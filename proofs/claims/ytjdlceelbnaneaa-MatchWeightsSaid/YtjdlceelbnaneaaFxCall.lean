import Derived.Test.YtjdlceelbnaneaaFxText0
import Derived.Test.YtjdlceelbnaneaaFxEnt
import Derived.Test.YtjdlceelbnaneaaFxRules
namespace Go.Ix
open Go.Proofs
noncomputable def table:List (FuncId×FnT):=[(x6,xf),(x1,xg),(x2,x9),(x4,xh),(x3,xi),(x5,xj)]
noncomputable def whole(f:FuncId):FnT:=λcall hs args m=>x33 Try.prog pol NN call hs f args m
noncomputable def x1v:Nat->x1h
 |0=>λ_ _ _ _=>none
 |d+1=>λhs f args m=>look (whole f) f table (x1v d) hs args m
theorem xx(d:Nat)(hs:FHs)(args:List AV)(m:Mem):x1v (d+1) hs x6 args m=xf (x1v d) hs args m:=by kernel_rfl
theorem xy(d:Nat)(hs:FHs)(args:List AV)(m:Mem):x1v (d+1) hs x1 args m=xg (x1v d) hs args m:=by kernel_rfl
theorem xn(d:Nat)(hs:FHs)(args:List AV)(m:Mem):x1v (d+1) hs x2 args m=x9 (x1v d) hs args m:=by kernel_rfl
theorem xz(d:Nat)(hs:FHs)(args:List AV)(m:Mem):x1v (d+1) hs x4 args m=xh (x1v d) hs args m:=by kernel_rfl
theorem x10(d:Nat)(hs:FHs)(args:List AV)(m:Mem):x1v (d+1) hs x3 args m=xi (x1v d) hs args m:=by kernel_rfl
theorem x11(d:Nat)(hs:FHs)(args:List AV)(m:Mem):x1v (d+1) hs x5 args m=xj (x1v d) hs args m:=by kernel_rfl
end Go.Ix
