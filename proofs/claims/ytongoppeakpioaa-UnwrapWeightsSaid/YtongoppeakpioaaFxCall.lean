import Derived.Test.YtongoppeakpioaaFxText0
import Derived.Test.YtongoppeakpioaaFxEnt
import Derived.Test.YtongoppeakpioaaFxRules
namespace Go.Ix
open Go.Proofs
noncomputable def table:List (FuncId×FnT):=[(xd,x1w),(xz,x1x),(xn,x1y),(xo,x1z),(xe,x20),(xf,x21),(xg,x22),(xh,x23),(xp,x24),(xi,x25),(xq,x26),(xr,x27),(xb,x28),(xj,x29)]
noncomputable def whole(f:FuncId):FnT:=λcall hs args m=>x6d Try.prog pol NN call hs f args m
noncomputable def x3q:Nat->x3p
 |0=>λ_ _ _ _=>none
 |d+1=>λhs f args m=>look (whole f) f table (x3q d) hs args m
theorem x2t(d:Nat)(hs:FHs)(args:List AV)(m:Mem):x3q (d+1) hs xz args m=x1x (x3q d) hs args m:=by kernel_rfl
theorem x2u(d:Nat)(hs:FHs)(args:List AV)(m:Mem):x3q (d+1) hs xn args m=x1y (x3q d) hs args m:=by kernel_rfl
theorem x2v(d:Nat)(hs:FHs)(args:List AV)(m:Mem):x3q (d+1) hs xo args m=x1z (x3q d) hs args m:=by kernel_rfl
theorem x2w(d:Nat)(hs:FHs)(args:List AV)(m:Mem):x3q (d+1) hs xe args m=x20 (x3q d) hs args m:=by kernel_rfl
theorem x2x(d:Nat)(hs:FHs)(args:List AV)(m:Mem):x3q (d+1) hs xf args m=x21 (x3q d) hs args m:=by kernel_rfl
theorem x2y(d:Nat)(hs:FHs)(args:List AV)(m:Mem):x3q (d+1) hs xg args m=x22 (x3q d) hs args m:=by kernel_rfl
theorem x2z(d:Nat)(hs:FHs)(args:List AV)(m:Mem):x3q (d+1) hs xh args m=x23 (x3q d) hs args m:=by kernel_rfl
theorem x30(d:Nat)(hs:FHs)(args:List AV)(m:Mem):x3q (d+1) hs xp args m=x24 (x3q d) hs args m:=by kernel_rfl
theorem x31(d:Nat)(hs:FHs)(args:List AV)(m:Mem):x3q (d+1) hs xi args m=x25 (x3q d) hs args m:=by kernel_rfl
theorem x32(d:Nat)(hs:FHs)(args:List AV)(m:Mem):x3q (d+1) hs xq args m=x26 (x3q d) hs args m:=by kernel_rfl
theorem x33(d:Nat)(hs:FHs)(args:List AV)(m:Mem):x3q (d+1) hs xd args m=x1w (x3q d) hs args m:=by kernel_rfl
theorem x34(d:Nat)(hs:FHs)(args:List AV)(m:Mem):x3q (d+1) hs xr args m=x27 (x3q d) hs args m:=by kernel_rfl
theorem x35(d:Nat)(hs:FHs)(args:List AV)(m:Mem):x3q (d+1) hs xb args m=x28 (x3q d) hs args m:=by kernel_rfl
theorem x36(d:Nat)(hs:FHs)(args:List AV)(m:Mem):x3q (d+1) hs xj args m=x29 (x3q d) hs args m:=by kernel_rfl
end Go.Ix
