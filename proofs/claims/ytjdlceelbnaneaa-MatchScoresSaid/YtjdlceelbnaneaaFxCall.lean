import Derived.Test.YtjdlceelbnaneaaFxText0
import Derived.Test.YtjdlceelbnaneaaFxEnt
import Derived.Test.YtjdlceelbnaneaaFxRules
namespace Go.Ix
open Go.Proofs
noncomputable def table:List (FuncId×FnT):=[(x23,x48),(x15,x49),(xr,x4a),(xj,x4b),(x16,x4c),(x17,x4d),(xc,x4e),(x18,x4f),(xt,x4g),(xu,x4h),(xv,x4i),(xw,x4j),(x19,x4k),(x1a,x4l),(x1b,x4m),(x1c,x4n),(xx,x2k),(x1d,x4o),(x1e,x4p),(xk,x4q),(x1f,x4r),(xe,x4s),(x1g,x4t),(x1h,x4u),(x1i,x4v),(xy,x4w),(xd,x2l),(xz,x4x),(x1j,x4y),(xl,x4z),(x1k,x50),(x1l,x51),(x1m,x24),(x1n,x52),(x1o,x53),(xf,x54),(x1p,x55),(x1q,x56),(x1r,x57),(x10,x58),(x1s,x59),(x11,x5a),(x12,x5b),(x13,x5c),(xm,x5d)]
noncomputable def whole(f:FuncId):FnT:=λcall hs args m=>xbk Try.prog pol NN call hs f args m
noncomputable def x8w:Nat->x8y
 |0=>λ_ _ _ _=>none
 |d+1=>λhs f args m=>look (whole f) f table (x8w d) hs args m
theorem x6d(d:Nat)(hs:FHs)(args:List AV)(m:Mem):x8w (d+1) hs x23 args m=x48 (x8w d) hs args m:=by kernel_rfl
theorem x6e(d:Nat)(hs:FHs)(args:List AV)(m:Mem):x8w (d+1) hs x15 args m=x49 (x8w d) hs args m:=by kernel_rfl
theorem x6f(d:Nat)(hs:FHs)(args:List AV)(m:Mem):x8w (d+1) hs xr args m=x4a (x8w d) hs args m:=by kernel_rfl
theorem x6g(d:Nat)(hs:FHs)(args:List AV)(m:Mem):x8w (d+1) hs xj args m=x4b (x8w d) hs args m:=by kernel_rfl
theorem x6h(d:Nat)(hs:FHs)(args:List AV)(m:Mem):x8w (d+1) hs x16 args m=x4c (x8w d) hs args m:=by kernel_rfl
theorem x6i(d:Nat)(hs:FHs)(args:List AV)(m:Mem):x8w (d+1) hs x17 args m=x4d (x8w d) hs args m:=by kernel_rfl
theorem x6j(d:Nat)(hs:FHs)(args:List AV)(m:Mem):x8w (d+1) hs xc args m=x4e (x8w d) hs args m:=by kernel_rfl
theorem x6k(d:Nat)(hs:FHs)(args:List AV)(m:Mem):x8w (d+1) hs x18 args m=x4f (x8w d) hs args m:=by kernel_rfl
theorem x6l(d:Nat)(hs:FHs)(args:List AV)(m:Mem):x8w (d+1) hs xt args m=x4g (x8w d) hs args m:=by kernel_rfl
theorem x6m(d:Nat)(hs:FHs)(args:List AV)(m:Mem):x8w (d+1) hs xu args m=x4h (x8w d) hs args m:=by kernel_rfl
theorem x6n(d:Nat)(hs:FHs)(args:List AV)(m:Mem):x8w (d+1) hs xv args m=x4i (x8w d) hs args m:=by kernel_rfl
theorem x6o(d:Nat)(hs:FHs)(args:List AV)(m:Mem):x8w (d+1) hs xw args m=x4j (x8w d) hs args m:=by kernel_rfl
theorem x6p(d:Nat)(hs:FHs)(args:List AV)(m:Mem):x8w (d+1) hs x19 args m=x4k (x8w d) hs args m:=by kernel_rfl
theorem x6q(d:Nat)(hs:FHs)(args:List AV)(m:Mem):x8w (d+1) hs x1a args m=x4l (x8w d) hs args m:=by kernel_rfl
theorem x6r(d:Nat)(hs:FHs)(args:List AV)(m:Mem):x8w (d+1) hs x1b args m=x4m (x8w d) hs args m:=by kernel_rfl
theorem x6s(d:Nat)(hs:FHs)(args:List AV)(m:Mem):x8w (d+1) hs x1c args m=x4n (x8w d) hs args m:=by kernel_rfl
theorem x62(d:Nat)(hs:FHs)(args:List AV)(m:Mem):x8w (d+1) hs xx args m=x2k (x8w d) hs args m:=by kernel_rfl
theorem x6t(d:Nat)(hs:FHs)(args:List AV)(m:Mem):x8w (d+1) hs x1d args m=x4o (x8w d) hs args m:=by kernel_rfl
theorem x6u(d:Nat)(hs:FHs)(args:List AV)(m:Mem):x8w (d+1) hs x1e args m=x4p (x8w d) hs args m:=by kernel_rfl
theorem x6v(d:Nat)(hs:FHs)(args:List AV)(m:Mem):x8w (d+1) hs xk args m=x4q (x8w d) hs args m:=by kernel_rfl
theorem x6w(d:Nat)(hs:FHs)(args:List AV)(m:Mem):x8w (d+1) hs x1f args m=x4r (x8w d) hs args m:=by kernel_rfl
theorem x6x(d:Nat)(hs:FHs)(args:List AV)(m:Mem):x8w (d+1) hs xe args m=x4s (x8w d) hs args m:=by kernel_rfl
theorem x6y(d:Nat)(hs:FHs)(args:List AV)(m:Mem):x8w (d+1) hs x1g args m=x4t (x8w d) hs args m:=by kernel_rfl
theorem x6z(d:Nat)(hs:FHs)(args:List AV)(m:Mem):x8w (d+1) hs x1h args m=x4u (x8w d) hs args m:=by kernel_rfl
theorem x70(d:Nat)(hs:FHs)(args:List AV)(m:Mem):x8w (d+1) hs x1i args m=x4v (x8w d) hs args m:=by kernel_rfl
theorem x71(d:Nat)(hs:FHs)(args:List AV)(m:Mem):x8w (d+1) hs xy args m=x4w (x8w d) hs args m:=by kernel_rfl
theorem x63(d:Nat)(hs:FHs)(args:List AV)(m:Mem):x8w (d+1) hs xd args m=x2l (x8w d) hs args m:=by kernel_rfl
theorem x72(d:Nat)(hs:FHs)(args:List AV)(m:Mem):x8w (d+1) hs xz args m=x4x (x8w d) hs args m:=by kernel_rfl
theorem x73(d:Nat)(hs:FHs)(args:List AV)(m:Mem):x8w (d+1) hs x1j args m=x4y (x8w d) hs args m:=by kernel_rfl
theorem x74(d:Nat)(hs:FHs)(args:List AV)(m:Mem):x8w (d+1) hs xl args m=x4z (x8w d) hs args m:=by kernel_rfl
theorem x75(d:Nat)(hs:FHs)(args:List AV)(m:Mem):x8w (d+1) hs x1k args m=x50 (x8w d) hs args m:=by kernel_rfl
theorem x76(d:Nat)(hs:FHs)(args:List AV)(m:Mem):x8w (d+1) hs x1l args m=x51 (x8w d) hs args m:=by kernel_rfl
theorem x5e(d:Nat)(hs:FHs)(args:List AV)(m:Mem):x8w (d+1) hs x1m args m=x24 (x8w d) hs args m:=by kernel_rfl
theorem x77(d:Nat)(hs:FHs)(args:List AV)(m:Mem):x8w (d+1) hs x1n args m=x52 (x8w d) hs args m:=by kernel_rfl
theorem x78(d:Nat)(hs:FHs)(args:List AV)(m:Mem):x8w (d+1) hs x1o args m=x53 (x8w d) hs args m:=by kernel_rfl
theorem x79(d:Nat)(hs:FHs)(args:List AV)(m:Mem):x8w (d+1) hs xf args m=x54 (x8w d) hs args m:=by kernel_rfl
theorem x7a(d:Nat)(hs:FHs)(args:List AV)(m:Mem):x8w (d+1) hs x1p args m=x55 (x8w d) hs args m:=by kernel_rfl
theorem x7b(d:Nat)(hs:FHs)(args:List AV)(m:Mem):x8w (d+1) hs x1q args m=x56 (x8w d) hs args m:=by kernel_rfl
theorem x7c(d:Nat)(hs:FHs)(args:List AV)(m:Mem):x8w (d+1) hs x1r args m=x57 (x8w d) hs args m:=by kernel_rfl
theorem x7d(d:Nat)(hs:FHs)(args:List AV)(m:Mem):x8w (d+1) hs x10 args m=x58 (x8w d) hs args m:=by kernel_rfl
theorem x7e(d:Nat)(hs:FHs)(args:List AV)(m:Mem):x8w (d+1) hs x1s args m=x59 (x8w d) hs args m:=by kernel_rfl
theorem x7f(d:Nat)(hs:FHs)(args:List AV)(m:Mem):x8w (d+1) hs x11 args m=x5a (x8w d) hs args m:=by kernel_rfl
theorem x7g(d:Nat)(hs:FHs)(args:List AV)(m:Mem):x8w (d+1) hs x12 args m=x5b (x8w d) hs args m:=by kernel_rfl
theorem x7h(d:Nat)(hs:FHs)(args:List AV)(m:Mem):x8w (d+1) hs x13 args m=x5c (x8w d) hs args m:=by kernel_rfl
theorem x7i(d:Nat)(hs:FHs)(args:List AV)(m:Mem):x8w (d+1) hs xm args m=x5d (x8w d) hs args m:=by kernel_rfl
end Go.Ix
