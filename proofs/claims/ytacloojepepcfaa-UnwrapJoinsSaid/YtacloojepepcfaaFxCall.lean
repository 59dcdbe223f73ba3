import Derived.Test.YtacloojepepcfaaFxText0
import Derived.Test.YtacloojepepcfaaFxEnt
import Derived.Test.YtacloojepepcfaaFxRules
namespace Go.Ix
open Go.Proofs
noncomputable def table:List (FuncId×FnT):=[(xe,x3p),(xc,x3q),(x12,x3r),(x1r,x3s),(xh,x25),(xa,x3t),(xb,x3u),(xq,x3v),(xr,x3w),(xi,x26),(xj,x3x),(x13,x3y),(xk,x3z),(x9,x40),(xt,x41),(x14,x27),(xl,x42),(xu,x43),(xd,x44),(x15,x45),(xm,x46),(xf,x47),(x16,x48),(xv,x65),(x17,x49),(xn,x4a),(x18,x4b),(xw,x4c),(x19,x4d)]
noncomputable def whole(f:FuncId):FnT:=λcall hs args m=>xbg Try.prog pol NN call hs f args m
noncomputable def x7v:Nat->x7w
 |0=>λ_ _ _ _=>none
 |d+1=>λhs f args m=>look (whole f) f table (x7v d) hs args m
theorem x6a(d:Nat)(hs:FHs)(args:List AV)(m:Mem):x7v (d+1) hs x1r args m=x3s (x7v d) hs args m:=by kernel_rfl
theorem x66(d:Nat)(hs:FHs)(args:List AV)(m:Mem):x7v (d+1) hs xh args m=x25 (x7v d) hs args m:=by kernel_rfl
theorem x6b(d:Nat)(hs:FHs)(args:List AV)(m:Mem):x7v (d+1) hs xa args m=x3t (x7v d) hs args m:=by kernel_rfl
theorem x6c(d:Nat)(hs:FHs)(args:List AV)(m:Mem):x7v (d+1) hs xb args m=x3u (x7v d) hs args m:=by kernel_rfl
theorem x6d(d:Nat)(hs:FHs)(args:List AV)(m:Mem):x7v (d+1) hs xq args m=x3v (x7v d) hs args m:=by kernel_rfl
theorem x6e(d:Nat)(hs:FHs)(args:List AV)(m:Mem):x7v (d+1) hs xr args m=x3w (x7v d) hs args m:=by kernel_rfl
theorem x67(d:Nat)(hs:FHs)(args:List AV)(m:Mem):x7v (d+1) hs xi args m=x26 (x7v d) hs args m:=by kernel_rfl
theorem x6f(d:Nat)(hs:FHs)(args:List AV)(m:Mem):x7v (d+1) hs xj args m=x3x (x7v d) hs args m:=by kernel_rfl
theorem x6g(d:Nat)(hs:FHs)(args:List AV)(m:Mem):x7v (d+1) hs x13 args m=x3y (x7v d) hs args m:=by kernel_rfl
theorem x6h(d:Nat)(hs:FHs)(args:List AV)(m:Mem):x7v (d+1) hs xk args m=x3z (x7v d) hs args m:=by kernel_rfl
theorem x6i(d:Nat)(hs:FHs)(args:List AV)(m:Mem):x7v (d+1) hs x9 args m=x40 (x7v d) hs args m:=by kernel_rfl
theorem x6j(d:Nat)(hs:FHs)(args:List AV)(m:Mem):x7v (d+1) hs xe args m=x3p (x7v d) hs args m:=by kernel_rfl
theorem x6k(d:Nat)(hs:FHs)(args:List AV)(m:Mem):x7v (d+1) hs xt args m=x41 (x7v d) hs args m:=by kernel_rfl
theorem x68(d:Nat)(hs:FHs)(args:List AV)(m:Mem):x7v (d+1) hs x14 args m=x27 (x7v d) hs args m:=by kernel_rfl
theorem x6l(d:Nat)(hs:FHs)(args:List AV)(m:Mem):x7v (d+1) hs xl args m=x42 (x7v d) hs args m:=by kernel_rfl
theorem x6m(d:Nat)(hs:FHs)(args:List AV)(m:Mem):x7v (d+1) hs xu args m=x43 (x7v d) hs args m:=by kernel_rfl
theorem x6n(d:Nat)(hs:FHs)(args:List AV)(m:Mem):x7v (d+1) hs xd args m=x44 (x7v d) hs args m:=by kernel_rfl
theorem x6o(d:Nat)(hs:FHs)(args:List AV)(m:Mem):x7v (d+1) hs x15 args m=x45 (x7v d) hs args m:=by kernel_rfl
theorem x6p(d:Nat)(hs:FHs)(args:List AV)(m:Mem):x7v (d+1) hs xm args m=x46 (x7v d) hs args m:=by kernel_rfl
theorem x6q(d:Nat)(hs:FHs)(args:List AV)(m:Mem):x7v (d+1) hs xf args m=x47 (x7v d) hs args m:=by kernel_rfl
theorem x6r(d:Nat)(hs:FHs)(args:List AV)(m:Mem):x7v (d+1) hs x16 args m=x48 (x7v d) hs args m:=by kernel_rfl
theorem x6s(d:Nat)(hs:FHs)(args:List AV)(m:Mem):x7v (d+1) hs xv args m=x65 (x7v d) hs args m:=by kernel_rfl
theorem x6t(d:Nat)(hs:FHs)(args:List AV)(m:Mem):x7v (d+1) hs xc args m=x3q (x7v d) hs args m:=by kernel_rfl
theorem x6u(d:Nat)(hs:FHs)(args:List AV)(m:Mem):x7v (d+1) hs x17 args m=x49 (x7v d) hs args m:=by kernel_rfl
theorem x6v(d:Nat)(hs:FHs)(args:List AV)(m:Mem):x7v (d+1) hs xn args m=x4a (x7v d) hs args m:=by kernel_rfl
theorem x6w(d:Nat)(hs:FHs)(args:List AV)(m:Mem):x7v (d+1) hs x18 args m=x4b (x7v d) hs args m:=by kernel_rfl
theorem x6x(d:Nat)(hs:FHs)(args:List AV)(m:Mem):x7v (d+1) hs xw args m=x4c (x7v d) hs args m:=by kernel_rfl
theorem x6y(d:Nat)(hs:FHs)(args:List AV)(m:Mem):x7v (d+1) hs x12 args m=x3r (x7v d) hs args m:=by kernel_rfl
theorem x6z(d:Nat)(hs:FHs)(args:List AV)(m:Mem):x7v (d+1) hs x19 args m=x4d (x7v d) hs args m:=by kernel_rfl
end Go.Ix
