import Derived.Test.YtjdlceelbnaneaaFxText0
import Derived.Test.YtjdlceelbnaneaaFxEnt
import Derived.Test.YtjdlceelbnaneaaFxRules
namespace Go.Ix
open Go.Proofs
noncomputable def table:List (FuncId×FnT):=[(xy,x4d),(x2b,x4e),(x1m,x4f),(x1n,x4g),(xo,x4h),(xz,x4i),(x10,x4j),(x11,x4k),(x12,x4l),(x13,x4m),(x14,x4n),(x15,x4o),(x1o,x4p),(x16,x4q),(x17,x4r),(xl,x2t),(x18,x4s),(xd,x4t),(xp,x4u),(x1p,x4v),(x19,x4w),(xc,x2u),(x1a,x4x),(x1q,x4y),(xq,x4z),(x1r,x50),(x1s,x51),(x1t,x52),(x1u,x2c),(xf,x53),(xb,x54),(xm,x55),(x1v,x56),(x1b,x57),(x1w,x58),(x1x,x59),(x1y,x5a),(x1c,x5b),(x1d,x5c),(x1e,x5d),(x1z,x5e),(x1f,x5f),(x1g,x5g),(x1h,x5h),(xt,x5i)]
noncomputable def whole(f:FuncId):FnT:=λcall hs args m=>xbs Try.prog pol NN call hs f args m
noncomputable def x98:Nat->x9a
 |0=>λ_ _ _ _=>none
 |d+1=>λhs f args m=>look (whole f) f table (x98 d) hs args m
theorem x6p(d:Nat)(hs:FHs)(args:List AV)(m:Mem):x98 (d+1) hs x2b args m=x4e (x98 d) hs args m:=by kernel_rfl
theorem x6q(d:Nat)(hs:FHs)(args:List AV)(m:Mem):x98 (d+1) hs x1m args m=x4f (x98 d) hs args m:=by kernel_rfl
theorem x6r(d:Nat)(hs:FHs)(args:List AV)(m:Mem):x98 (d+1) hs x1n args m=x4g (x98 d) hs args m:=by kernel_rfl
theorem x6s(d:Nat)(hs:FHs)(args:List AV)(m:Mem):x98 (d+1) hs xo args m=x4h (x98 d) hs args m:=by kernel_rfl
theorem x6t(d:Nat)(hs:FHs)(args:List AV)(m:Mem):x98 (d+1) hs xz args m=x4i (x98 d) hs args m:=by kernel_rfl
theorem x6u(d:Nat)(hs:FHs)(args:List AV)(m:Mem):x98 (d+1) hs x10 args m=x4j (x98 d) hs args m:=by kernel_rfl
theorem x6v(d:Nat)(hs:FHs)(args:List AV)(m:Mem):x98 (d+1) hs x11 args m=x4k (x98 d) hs args m:=by kernel_rfl
theorem x6w(d:Nat)(hs:FHs)(args:List AV)(m:Mem):x98 (d+1) hs x12 args m=x4l (x98 d) hs args m:=by kernel_rfl
theorem x6x(d:Nat)(hs:FHs)(args:List AV)(m:Mem):x98 (d+1) hs x13 args m=x4m (x98 d) hs args m:=by kernel_rfl
theorem x6y(d:Nat)(hs:FHs)(args:List AV)(m:Mem):x98 (d+1) hs x14 args m=x4n (x98 d) hs args m:=by kernel_rfl
theorem x6z(d:Nat)(hs:FHs)(args:List AV)(m:Mem):x98 (d+1) hs x15 args m=x4o (x98 d) hs args m:=by kernel_rfl
theorem x70(d:Nat)(hs:FHs)(args:List AV)(m:Mem):x98 (d+1) hs x1o args m=x4p (x98 d) hs args m:=by kernel_rfl
theorem x71(d:Nat)(hs:FHs)(args:List AV)(m:Mem):x98 (d+1) hs x16 args m=x4q (x98 d) hs args m:=by kernel_rfl
theorem x72(d:Nat)(hs:FHs)(args:List AV)(m:Mem):x98 (d+1) hs x17 args m=x4r (x98 d) hs args m:=by kernel_rfl
theorem x6f(d:Nat)(hs:FHs)(args:List AV)(m:Mem):x98 (d+1) hs xl args m=x2t (x98 d) hs args m:=by kernel_rfl
theorem x73(d:Nat)(hs:FHs)(args:List AV)(m:Mem):x98 (d+1) hs x18 args m=x4s (x98 d) hs args m:=by kernel_rfl
theorem x74(d:Nat)(hs:FHs)(args:List AV)(m:Mem):x98 (d+1) hs xd args m=x4t (x98 d) hs args m:=by kernel_rfl
theorem x75(d:Nat)(hs:FHs)(args:List AV)(m:Mem):x98 (d+1) hs xp args m=x4u (x98 d) hs args m:=by kernel_rfl
theorem x76(d:Nat)(hs:FHs)(args:List AV)(m:Mem):x98 (d+1) hs x1p args m=x4v (x98 d) hs args m:=by kernel_rfl
theorem x77(d:Nat)(hs:FHs)(args:List AV)(m:Mem):x98 (d+1) hs x19 args m=x4w (x98 d) hs args m:=by kernel_rfl
theorem x6g(d:Nat)(hs:FHs)(args:List AV)(m:Mem):x98 (d+1) hs xc args m=x2u (x98 d) hs args m:=by kernel_rfl
theorem x78(d:Nat)(hs:FHs)(args:List AV)(m:Mem):x98 (d+1) hs x1a args m=x4x (x98 d) hs args m:=by kernel_rfl
theorem x79(d:Nat)(hs:FHs)(args:List AV)(m:Mem):x98 (d+1) hs x1q args m=x4y (x98 d) hs args m:=by kernel_rfl
theorem x7a(d:Nat)(hs:FHs)(args:List AV)(m:Mem):x98 (d+1) hs xq args m=x4z (x98 d) hs args m:=by kernel_rfl
theorem x7b(d:Nat)(hs:FHs)(args:List AV)(m:Mem):x98 (d+1) hs x1r args m=x50 (x98 d) hs args m:=by kernel_rfl
theorem x7c(d:Nat)(hs:FHs)(args:List AV)(m:Mem):x98 (d+1) hs x1s args m=x51 (x98 d) hs args m:=by kernel_rfl
theorem x7d(d:Nat)(hs:FHs)(args:List AV)(m:Mem):x98 (d+1) hs x1t args m=x52 (x98 d) hs args m:=by kernel_rfl
theorem x5j(d:Nat)(hs:FHs)(args:List AV)(m:Mem):x98 (d+1) hs x1u args m=x2c (x98 d) hs args m:=by kernel_rfl
theorem x7e(d:Nat)(hs:FHs)(args:List AV)(m:Mem):x98 (d+1) hs xf args m=x53 (x98 d) hs args m:=by kernel_rfl
theorem x7f(d:Nat)(hs:FHs)(args:List AV)(m:Mem):x98 (d+1) hs xb args m=x54 (x98 d) hs args m:=by kernel_rfl
theorem x7g(d:Nat)(hs:FHs)(args:List AV)(m:Mem):x98 (d+1) hs xm args m=x55 (x98 d) hs args m:=by kernel_rfl
theorem x7h(d:Nat)(hs:FHs)(args:List AV)(m:Mem):x98 (d+1) hs x1v args m=x56 (x98 d) hs args m:=by kernel_rfl
theorem x7i(d:Nat)(hs:FHs)(args:List AV)(m:Mem):x98 (d+1) hs x1b args m=x57 (x98 d) hs args m:=by kernel_rfl
theorem x7j(d:Nat)(hs:FHs)(args:List AV)(m:Mem):x98 (d+1) hs x1w args m=x58 (x98 d) hs args m:=by kernel_rfl
theorem x7k(d:Nat)(hs:FHs)(args:List AV)(m:Mem):x98 (d+1) hs x1x args m=x59 (x98 d) hs args m:=by kernel_rfl
theorem x7l(d:Nat)(hs:FHs)(args:List AV)(m:Mem):x98 (d+1) hs x1y args m=x5a (x98 d) hs args m:=by kernel_rfl
theorem x7m(d:Nat)(hs:FHs)(args:List AV)(m:Mem):x98 (d+1) hs xy args m=x4d (x98 d) hs args m:=by kernel_rfl
theorem x7n(d:Nat)(hs:FHs)(args:List AV)(m:Mem):x98 (d+1) hs x1c args m=x5b (x98 d) hs args m:=by kernel_rfl
theorem x7o(d:Nat)(hs:FHs)(args:List AV)(m:Mem):x98 (d+1) hs x1d args m=x5c (x98 d) hs args m:=by kernel_rfl
theorem x7p(d:Nat)(hs:FHs)(args:List AV)(m:Mem):x98 (d+1) hs x1e args m=x5d (x98 d) hs args m:=by kernel_rfl
theorem x7q(d:Nat)(hs:FHs)(args:List AV)(m:Mem):x98 (d+1) hs x1z args m=x5e (x98 d) hs args m:=by kernel_rfl
theorem x7r(d:Nat)(hs:FHs)(args:List AV)(m:Mem):x98 (d+1) hs x1f args m=x5f (x98 d) hs args m:=by kernel_rfl
theorem x7s(d:Nat)(hs:FHs)(args:List AV)(m:Mem):x98 (d+1) hs x1g args m=x5g (x98 d) hs args m:=by kernel_rfl
theorem x7t(d:Nat)(hs:FHs)(args:List AV)(m:Mem):x98 (d+1) hs x1h args m=x5h (x98 d) hs args m:=by kernel_rfl
theorem x7u(d:Nat)(hs:FHs)(args:List AV)(m:Mem):x98 (d+1) hs xt args m=x5i (x98 d) hs args m:=by kernel_rfl
end Go.Ix
