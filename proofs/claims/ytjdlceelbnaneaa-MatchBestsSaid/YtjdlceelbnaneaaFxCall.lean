import Derived.Test.YtjdlceelbnaneaaFxText0
import Derived.Test.YtjdlceelbnaneaaFxEnt
import Derived.Test.YtjdlceelbnaneaaFxRules
namespace Go.Ix
open Go.Proofs
noncomputable def table:List (FuncId×FnT):=[(x11,x5t),(x2x,x5u),(x1p,x5v),(x12,x5w),(x1q,x5x),(x1r,x5y),(xe,x5z),(x13,x3k),(x1s,x60),(xm,x61),(x1t,x62),(x14,x63),(x15,x64),(x16,x65),(x17,x66),(x18,x67),(x1u,x68),(x1v,x69),(x1w,x6a),(x1x,x6b),(xn,x3l),(x1y,x6c),(x1z,x6d),(xo,x6e),(x20,x6f),(xg,x6g),(xp,x6h),(x21,x6i),(x22,x6j),(x23,x6k),(x19,x6l),(xf,x3m),(x1a,x6m),(x24,x6n),(xq,x6o),(x25,x6p),(x26,x6q),(x27,x6r),(x28,x2y),(x29,x6s),(x2a,x6t),(xh,x6u),(xc,x6v),(xl,x6w),(x2b,x6x),(x1b,x6y),(x2c,x6z),(x2d,x70),(x2e,x71),(x2f,x72),(x1c,x73),(x1d,x74),(x1e,x75),(x2g,x76),(x1f,x77),(x1g,x78),(x1h,x79),(x1i,x7a),(xr,x7b)]
noncomputable def whole(f:FuncId):FnT:=λcall hs args m=>xep Try.prog pol NN call hs f args m
noncomputable def xby:Nat->xc0
 |0=>λ_ _ _ _=>none
 |d+1=>λhs f args m=>look (whole f) f table (xby d) hs args m
theorem x8o(d:Nat)(hs:FHs)(args:List AV)(m:Mem):xby (d+1) hs x2x args m=x5u (xby d) hs args m:=by kernel_rfl
theorem x8p(d:Nat)(hs:FHs)(args:List AV)(m:Mem):xby (d+1) hs x1p args m=x5v (xby d) hs args m:=by kernel_rfl
theorem x8q(d:Nat)(hs:FHs)(args:List AV)(m:Mem):xby (d+1) hs x12 args m=x5w (xby d) hs args m:=by kernel_rfl
theorem x8r(d:Nat)(hs:FHs)(args:List AV)(m:Mem):xby (d+1) hs x1q args m=x5x (xby d) hs args m:=by kernel_rfl
theorem x8s(d:Nat)(hs:FHs)(args:List AV)(m:Mem):xby (d+1) hs x1r args m=x5y (xby d) hs args m:=by kernel_rfl
theorem x8t(d:Nat)(hs:FHs)(args:List AV)(m:Mem):xby (d+1) hs xe args m=x5z (xby d) hs args m:=by kernel_rfl
theorem x8d(d:Nat)(hs:FHs)(args:List AV)(m:Mem):xby (d+1) hs x13 args m=x3k (xby d) hs args m:=by kernel_rfl
theorem x8u(d:Nat)(hs:FHs)(args:List AV)(m:Mem):xby (d+1) hs x1s args m=x60 (xby d) hs args m:=by kernel_rfl
theorem x8v(d:Nat)(hs:FHs)(args:List AV)(m:Mem):xby (d+1) hs xm args m=x61 (xby d) hs args m:=by kernel_rfl
theorem x8w(d:Nat)(hs:FHs)(args:List AV)(m:Mem):xby (d+1) hs x1t args m=x62 (xby d) hs args m:=by kernel_rfl
theorem x8x(d:Nat)(hs:FHs)(args:List AV)(m:Mem):xby (d+1) hs x14 args m=x63 (xby d) hs args m:=by kernel_rfl
theorem x8y(d:Nat)(hs:FHs)(args:List AV)(m:Mem):xby (d+1) hs x15 args m=x64 (xby d) hs args m:=by kernel_rfl
theorem x8z(d:Nat)(hs:FHs)(args:List AV)(m:Mem):xby (d+1) hs x16 args m=x65 (xby d) hs args m:=by kernel_rfl
theorem x90(d:Nat)(hs:FHs)(args:List AV)(m:Mem):xby (d+1) hs x17 args m=x66 (xby d) hs args m:=by kernel_rfl
theorem x91(d:Nat)(hs:FHs)(args:List AV)(m:Mem):xby (d+1) hs x18 args m=x67 (xby d) hs args m:=by kernel_rfl
theorem x92(d:Nat)(hs:FHs)(args:List AV)(m:Mem):xby (d+1) hs x1u args m=x68 (xby d) hs args m:=by kernel_rfl
theorem x93(d:Nat)(hs:FHs)(args:List AV)(m:Mem):xby (d+1) hs x1v args m=x69 (xby d) hs args m:=by kernel_rfl
theorem x94(d:Nat)(hs:FHs)(args:List AV)(m:Mem):xby (d+1) hs x1w args m=x6a (xby d) hs args m:=by kernel_rfl
theorem x95(d:Nat)(hs:FHs)(args:List AV)(m:Mem):xby (d+1) hs x1x args m=x6b (xby d) hs args m:=by kernel_rfl
theorem x8e(d:Nat)(hs:FHs)(args:List AV)(m:Mem):xby (d+1) hs xn args m=x3l (xby d) hs args m:=by kernel_rfl
theorem x96(d:Nat)(hs:FHs)(args:List AV)(m:Mem):xby (d+1) hs x1y args m=x6c (xby d) hs args m:=by kernel_rfl
theorem x97(d:Nat)(hs:FHs)(args:List AV)(m:Mem):xby (d+1) hs x1z args m=x6d (xby d) hs args m:=by kernel_rfl
theorem x98(d:Nat)(hs:FHs)(args:List AV)(m:Mem):xby (d+1) hs xo args m=x6e (xby d) hs args m:=by kernel_rfl
theorem x99(d:Nat)(hs:FHs)(args:List AV)(m:Mem):xby (d+1) hs x20 args m=x6f (xby d) hs args m:=by kernel_rfl
theorem x9a(d:Nat)(hs:FHs)(args:List AV)(m:Mem):xby (d+1) hs xg args m=x6g (xby d) hs args m:=by kernel_rfl
theorem x9b(d:Nat)(hs:FHs)(args:List AV)(m:Mem):xby (d+1) hs xp args m=x6h (xby d) hs args m:=by kernel_rfl
theorem x9c(d:Nat)(hs:FHs)(args:List AV)(m:Mem):xby (d+1) hs x21 args m=x6i (xby d) hs args m:=by kernel_rfl
theorem x9d(d:Nat)(hs:FHs)(args:List AV)(m:Mem):xby (d+1) hs x22 args m=x6j (xby d) hs args m:=by kernel_rfl
theorem x9e(d:Nat)(hs:FHs)(args:List AV)(m:Mem):xby (d+1) hs x23 args m=x6k (xby d) hs args m:=by kernel_rfl
theorem x9f(d:Nat)(hs:FHs)(args:List AV)(m:Mem):xby (d+1) hs x19 args m=x6l (xby d) hs args m:=by kernel_rfl
theorem x8f(d:Nat)(hs:FHs)(args:List AV)(m:Mem):xby (d+1) hs xf args m=x3m (xby d) hs args m:=by kernel_rfl
theorem x9g(d:Nat)(hs:FHs)(args:List AV)(m:Mem):xby (d+1) hs x1a args m=x6m (xby d) hs args m:=by kernel_rfl
theorem x9h(d:Nat)(hs:FHs)(args:List AV)(m:Mem):xby (d+1) hs x24 args m=x6n (xby d) hs args m:=by kernel_rfl
theorem x9i(d:Nat)(hs:FHs)(args:List AV)(m:Mem):xby (d+1) hs xq args m=x6o (xby d) hs args m:=by kernel_rfl
theorem x9j(d:Nat)(hs:FHs)(args:List AV)(m:Mem):xby (d+1) hs x25 args m=x6p (xby d) hs args m:=by kernel_rfl
theorem x9k(d:Nat)(hs:FHs)(args:List AV)(m:Mem):xby (d+1) hs x26 args m=x6q (xby d) hs args m:=by kernel_rfl
theorem x9l(d:Nat)(hs:FHs)(args:List AV)(m:Mem):xby (d+1) hs x27 args m=x6r (xby d) hs args m:=by kernel_rfl
theorem x7c(d:Nat)(hs:FHs)(args:List AV)(m:Mem):xby (d+1) hs x28 args m=x2y (xby d) hs args m:=by kernel_rfl
theorem x9m(d:Nat)(hs:FHs)(args:List AV)(m:Mem):xby (d+1) hs x29 args m=x6s (xby d) hs args m:=by kernel_rfl
theorem x9n(d:Nat)(hs:FHs)(args:List AV)(m:Mem):xby (d+1) hs x2a args m=x6t (xby d) hs args m:=by kernel_rfl
theorem x9o(d:Nat)(hs:FHs)(args:List AV)(m:Mem):xby (d+1) hs xh args m=x6u (xby d) hs args m:=by kernel_rfl
theorem x9p(d:Nat)(hs:FHs)(args:List AV)(m:Mem):xby (d+1) hs xc args m=x6v (xby d) hs args m:=by kernel_rfl
theorem x9q(d:Nat)(hs:FHs)(args:List AV)(m:Mem):xby (d+1) hs xl args m=x6w (xby d) hs args m:=by kernel_rfl
theorem x9r(d:Nat)(hs:FHs)(args:List AV)(m:Mem):xby (d+1) hs x2b args m=x6x (xby d) hs args m:=by kernel_rfl
theorem x9s(d:Nat)(hs:FHs)(args:List AV)(m:Mem):xby (d+1) hs x1b args m=x6y (xby d) hs args m:=by kernel_rfl
theorem x9t(d:Nat)(hs:FHs)(args:List AV)(m:Mem):xby (d+1) hs x2c args m=x6z (xby d) hs args m:=by kernel_rfl
theorem x9u(d:Nat)(hs:FHs)(args:List AV)(m:Mem):xby (d+1) hs x2d args m=x70 (xby d) hs args m:=by kernel_rfl
theorem x9v(d:Nat)(hs:FHs)(args:List AV)(m:Mem):xby (d+1) hs x2e args m=x71 (xby d) hs args m:=by kernel_rfl
theorem x9w(d:Nat)(hs:FHs)(args:List AV)(m:Mem):xby (d+1) hs x2f args m=x72 (xby d) hs args m:=by kernel_rfl
theorem x9x(d:Nat)(hs:FHs)(args:List AV)(m:Mem):xby (d+1) hs x11 args m=x5t (xby d) hs args m:=by kernel_rfl
theorem x9y(d:Nat)(hs:FHs)(args:List AV)(m:Mem):xby (d+1) hs x1c args m=x73 (xby d) hs args m:=by kernel_rfl
theorem x9z(d:Nat)(hs:FHs)(args:List AV)(m:Mem):xby (d+1) hs x1d args m=x74 (xby d) hs args m:=by kernel_rfl
theorem xa0(d:Nat)(hs:FHs)(args:List AV)(m:Mem):xby (d+1) hs x1e args m=x75 (xby d) hs args m:=by kernel_rfl
theorem xa1(d:Nat)(hs:FHs)(args:List AV)(m:Mem):xby (d+1) hs x2g args m=x76 (xby d) hs args m:=by kernel_rfl
theorem xa2(d:Nat)(hs:FHs)(args:List AV)(m:Mem):xby (d+1) hs x1f args m=x77 (xby d) hs args m:=by kernel_rfl
theorem xa3(d:Nat)(hs:FHs)(args:List AV)(m:Mem):xby (d+1) hs x1g args m=x78 (xby d) hs args m:=by kernel_rfl
theorem xa4(d:Nat)(hs:FHs)(args:List AV)(m:Mem):xby (d+1) hs x1h args m=x79 (xby d) hs args m:=by kernel_rfl
theorem xa5(d:Nat)(hs:FHs)(args:List AV)(m:Mem):xby (d+1) hs x1i args m=x7a (xby d) hs args m:=by kernel_rfl
theorem xa6(d:Nat)(hs:FHs)(args:List AV)(m:Mem):xby (d+1) hs xr args m=x7b (xby d) hs args m:=by kernel_rfl
end Go.Ix
