import Derived.Test.YtklcdahoajabmaaFxText0
import Derived.Test.YtklcdahoajabmaaFxEnt
import Derived.Test.YtklcdahoajabmaaFxRules
namespace Go.Ix
open Go.Proofs
noncomputable def table:List (FuncId×FnT):=[(x13,x5z),(x2z,x60),(xm,x61),(x1r,x62),(x1s,x63),(xf,x64),(x14,x65),(x15,x66),(x16,x3m),(x1t,x67),(x1u,x68),(xn,x69),(x17,x6a),(x1v,x6b),(x1w,x6c),(x1x,x6d),(x1y,x6e),(xr,x6f),(x1z,x6g),(xc,x6h),(x20,x6i),(x21,x6j),(x22,x6k),(x23,x6l),(x18,x6m),(xt,x6n),(xo,x3n),(x19,x6o),(xu,x6p),(x24,x6q),(xv,x6r),(x25,x6s),(x26,x6t),(x27,x6u),(x28,x6v),(x29,x6w),(x1a,x6x),(x2a,x6y),(x1b,x6z),(x2b,x70),(xe,x3o),(xw,x71),(x2c,x72),(x2d,x73),(xh,x74),(x1c,x30),(x2e,x75),(xx,x76),(xy,x77),(x1d,x78),(x1e,x79),(x1f,x7a),(xz,x7b),(xd,x7c),(xp,x7d),(x2f,x7e),(x1g,x7f),(x2g,x7g),(x1h,x7h),(x1i,x7i),(x1j,x7j),(x1k,x7k)]
noncomputable def whole(f:FuncId):FnT:=λcall hs args m=>xfw Try.prog pol NN call hs f args m
noncomputable def xcu:Nat->xcw
 |0=>λ_ _ _ _=>none
 |d+1=>λhs f args m=>look (whole f) f table (xcu d) hs args m
theorem x98(d:Nat)(hs:FHs)(args:List AV)(m:Mem):xcu (d+1) hs x2z args m=x60 (xcu d) hs args m:=by kernel_rfl
theorem x99(d:Nat)(hs:FHs)(args:List AV)(m:Mem):xcu (d+1) hs xm args m=x61 (xcu d) hs args m:=by kernel_rfl
theorem x9a(d:Nat)(hs:FHs)(args:List AV)(m:Mem):xcu (d+1) hs x1r args m=x62 (xcu d) hs args m:=by kernel_rfl
theorem x9b(d:Nat)(hs:FHs)(args:List AV)(m:Mem):xcu (d+1) hs x1s args m=x63 (xcu d) hs args m:=by kernel_rfl
theorem x9c(d:Nat)(hs:FHs)(args:List AV)(m:Mem):xcu (d+1) hs xf args m=x64 (xcu d) hs args m:=by kernel_rfl
theorem x9d(d:Nat)(hs:FHs)(args:List AV)(m:Mem):xcu (d+1) hs x14 args m=x65 (xcu d) hs args m:=by kernel_rfl
theorem x9e(d:Nat)(hs:FHs)(args:List AV)(m:Mem):xcu (d+1) hs x15 args m=x66 (xcu d) hs args m:=by kernel_rfl
theorem x8z(d:Nat)(hs:FHs)(args:List AV)(m:Mem):xcu (d+1) hs x16 args m=x3m (xcu d) hs args m:=by kernel_rfl
theorem x9f(d:Nat)(hs:FHs)(args:List AV)(m:Mem):xcu (d+1) hs x1t args m=x67 (xcu d) hs args m:=by kernel_rfl
theorem x9g(d:Nat)(hs:FHs)(args:List AV)(m:Mem):xcu (d+1) hs x1u args m=x68 (xcu d) hs args m:=by kernel_rfl
theorem x9h(d:Nat)(hs:FHs)(args:List AV)(m:Mem):xcu (d+1) hs xn args m=x69 (xcu d) hs args m:=by kernel_rfl
theorem x9i(d:Nat)(hs:FHs)(args:List AV)(m:Mem):xcu (d+1) hs x17 args m=x6a (xcu d) hs args m:=by kernel_rfl
theorem x9j(d:Nat)(hs:FHs)(args:List AV)(m:Mem):xcu (d+1) hs x1v args m=x6b (xcu d) hs args m:=by kernel_rfl
theorem x9k(d:Nat)(hs:FHs)(args:List AV)(m:Mem):xcu (d+1) hs x1w args m=x6c (xcu d) hs args m:=by kernel_rfl
theorem x9l(d:Nat)(hs:FHs)(args:List AV)(m:Mem):xcu (d+1) hs x1x args m=x6d (xcu d) hs args m:=by kernel_rfl
theorem x9m(d:Nat)(hs:FHs)(args:List AV)(m:Mem):xcu (d+1) hs x1y args m=x6e (xcu d) hs args m:=by kernel_rfl
theorem x9n(d:Nat)(hs:FHs)(args:List AV)(m:Mem):xcu (d+1) hs xr args m=x6f (xcu d) hs args m:=by kernel_rfl
theorem x9o(d:Nat)(hs:FHs)(args:List AV)(m:Mem):xcu (d+1) hs x1z args m=x6g (xcu d) hs args m:=by kernel_rfl
theorem x9p(d:Nat)(hs:FHs)(args:List AV)(m:Mem):xcu (d+1) hs xc args m=x6h (xcu d) hs args m:=by kernel_rfl
theorem x9q(d:Nat)(hs:FHs)(args:List AV)(m:Mem):xcu (d+1) hs x20 args m=x6i (xcu d) hs args m:=by kernel_rfl
theorem x9r(d:Nat)(hs:FHs)(args:List AV)(m:Mem):xcu (d+1) hs x21 args m=x6j (xcu d) hs args m:=by kernel_rfl
theorem x9s(d:Nat)(hs:FHs)(args:List AV)(m:Mem):xcu (d+1) hs x22 args m=x6k (xcu d) hs args m:=by kernel_rfl
theorem x9t(d:Nat)(hs:FHs)(args:List AV)(m:Mem):xcu (d+1) hs x23 args m=x6l (xcu d) hs args m:=by kernel_rfl
theorem x9u(d:Nat)(hs:FHs)(args:List AV)(m:Mem):xcu (d+1) hs x18 args m=x6m (xcu d) hs args m:=by kernel_rfl
theorem x9v(d:Nat)(hs:FHs)(args:List AV)(m:Mem):xcu (d+1) hs xt args m=x6n (xcu d) hs args m:=by kernel_rfl
theorem x90(d:Nat)(hs:FHs)(args:List AV)(m:Mem):xcu (d+1) hs xo args m=x3n (xcu d) hs args m:=by kernel_rfl
theorem x9w(d:Nat)(hs:FHs)(args:List AV)(m:Mem):xcu (d+1) hs x19 args m=x6o (xcu d) hs args m:=by kernel_rfl
theorem x9x(d:Nat)(hs:FHs)(args:List AV)(m:Mem):xcu (d+1) hs xu args m=x6p (xcu d) hs args m:=by kernel_rfl
theorem x9y(d:Nat)(hs:FHs)(args:List AV)(m:Mem):xcu (d+1) hs x24 args m=x6q (xcu d) hs args m:=by kernel_rfl
theorem x9z(d:Nat)(hs:FHs)(args:List AV)(m:Mem):xcu (d+1) hs xv args m=x6r (xcu d) hs args m:=by kernel_rfl
theorem xa0(d:Nat)(hs:FHs)(args:List AV)(m:Mem):xcu (d+1) hs x25 args m=x6s (xcu d) hs args m:=by kernel_rfl
theorem xa1(d:Nat)(hs:FHs)(args:List AV)(m:Mem):xcu (d+1) hs x26 args m=x6t (xcu d) hs args m:=by kernel_rfl
theorem xa2(d:Nat)(hs:FHs)(args:List AV)(m:Mem):xcu (d+1) hs x27 args m=x6u (xcu d) hs args m:=by kernel_rfl
theorem xa3(d:Nat)(hs:FHs)(args:List AV)(m:Mem):xcu (d+1) hs x28 args m=x6v (xcu d) hs args m:=by kernel_rfl
theorem xa4(d:Nat)(hs:FHs)(args:List AV)(m:Mem):xcu (d+1) hs x29 args m=x6w (xcu d) hs args m:=by kernel_rfl
theorem xa5(d:Nat)(hs:FHs)(args:List AV)(m:Mem):xcu (d+1) hs x1a args m=x6x (xcu d) hs args m:=by kernel_rfl
theorem xa6(d:Nat)(hs:FHs)(args:List AV)(m:Mem):xcu (d+1) hs x2a args m=x6y (xcu d) hs args m:=by kernel_rfl
theorem xa7(d:Nat)(hs:FHs)(args:List AV)(m:Mem):xcu (d+1) hs x1b args m=x6z (xcu d) hs args m:=by kernel_rfl
theorem xa8(d:Nat)(hs:FHs)(args:List AV)(m:Mem):xcu (d+1) hs x2b args m=x70 (xcu d) hs args m:=by kernel_rfl
theorem x91(d:Nat)(hs:FHs)(args:List AV)(m:Mem):xcu (d+1) hs xe args m=x3o (xcu d) hs args m:=by kernel_rfl
theorem xa9(d:Nat)(hs:FHs)(args:List AV)(m:Mem):xcu (d+1) hs xw args m=x71 (xcu d) hs args m:=by kernel_rfl
theorem xaa(d:Nat)(hs:FHs)(args:List AV)(m:Mem):xcu (d+1) hs x2c args m=x72 (xcu d) hs args m:=by kernel_rfl
theorem xab(d:Nat)(hs:FHs)(args:List AV)(m:Mem):xcu (d+1) hs x2d args m=x73 (xcu d) hs args m:=by kernel_rfl
theorem xac(d:Nat)(hs:FHs)(args:List AV)(m:Mem):xcu (d+1) hs xh args m=x74 (xcu d) hs args m:=by kernel_rfl
theorem x7l(d:Nat)(hs:FHs)(args:List AV)(m:Mem):xcu (d+1) hs x1c args m=x30 (xcu d) hs args m:=by kernel_rfl
theorem xad(d:Nat)(hs:FHs)(args:List AV)(m:Mem):xcu (d+1) hs x2e args m=x75 (xcu d) hs args m:=by kernel_rfl
theorem xae(d:Nat)(hs:FHs)(args:List AV)(m:Mem):xcu (d+1) hs xx args m=x76 (xcu d) hs args m:=by kernel_rfl
theorem xaf(d:Nat)(hs:FHs)(args:List AV)(m:Mem):xcu (d+1) hs xy args m=x77 (xcu d) hs args m:=by kernel_rfl
theorem xag(d:Nat)(hs:FHs)(args:List AV)(m:Mem):xcu (d+1) hs x1d args m=x78 (xcu d) hs args m:=by kernel_rfl
theorem xah(d:Nat)(hs:FHs)(args:List AV)(m:Mem):xcu (d+1) hs x1e args m=x79 (xcu d) hs args m:=by kernel_rfl
theorem xai(d:Nat)(hs:FHs)(args:List AV)(m:Mem):xcu (d+1) hs x1f args m=x7a (xcu d) hs args m:=by kernel_rfl
theorem xaj(d:Nat)(hs:FHs)(args:List AV)(m:Mem):xcu (d+1) hs xz args m=x7b (xcu d) hs args m:=by kernel_rfl
theorem xak(d:Nat)(hs:FHs)(args:List AV)(m:Mem):xcu (d+1) hs xd args m=x7c (xcu d) hs args m:=by kernel_rfl
theorem xal(d:Nat)(hs:FHs)(args:List AV)(m:Mem):xcu (d+1) hs xp args m=x7d (xcu d) hs args m:=by kernel_rfl
theorem xam(d:Nat)(hs:FHs)(args:List AV)(m:Mem):xcu (d+1) hs x2f args m=x7e (xcu d) hs args m:=by kernel_rfl
theorem xan(d:Nat)(hs:FHs)(args:List AV)(m:Mem):xcu (d+1) hs x1g args m=x7f (xcu d) hs args m:=by kernel_rfl
theorem xao(d:Nat)(hs:FHs)(args:List AV)(m:Mem):xcu (d+1) hs x2g args m=x7g (xcu d) hs args m:=by kernel_rfl
theorem xap(d:Nat)(hs:FHs)(args:List AV)(m:Mem):xcu (d+1) hs x1h args m=x7h (xcu d) hs args m:=by kernel_rfl
theorem xaq(d:Nat)(hs:FHs)(args:List AV)(m:Mem):xcu (d+1) hs x13 args m=x5z (xcu d) hs args m:=by kernel_rfl
theorem xar(d:Nat)(hs:FHs)(args:List AV)(m:Mem):xcu (d+1) hs x1i args m=x7i (xcu d) hs args m:=by kernel_rfl
theorem xas(d:Nat)(hs:FHs)(args:List AV)(m:Mem):xcu (d+1) hs x1j args m=x7j (xcu d) hs args m:=by kernel_rfl
theorem xat(d:Nat)(hs:FHs)(args:List AV)(m:Mem):xcu (d+1) hs x1k args m=x7k (xcu d) hs args m:=by kernel_rfl
end Go.Ix
