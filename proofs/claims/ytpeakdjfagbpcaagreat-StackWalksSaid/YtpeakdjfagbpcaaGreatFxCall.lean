import Derived.Test.YtpeakdjfagbpcaaGreatFxText0
import Derived.Test.YtpeakdjfagbpcaaGreatFxText1
import Derived.Test.YtpeakdjfagbpcaaGreatFxEnt
import Derived.Test.YtpeakdjfagbpcaaGreatFxRules
namespace Go.Ix
open Go.Proofs
noncomputable def table:List (FuncId×FnT):=[(x7z,xzr),(x27,xzs),(x80,xzt),(x2r,xzu),(x81,xzv),(x82,xzw),(x83,xzx),(x84,xzy),(x85,xzz),(x86,x100),(x4z,x101),(x87,x102),(xbc,x103),(x50,xbd),(x2s,x104),(x88,x105),(xz,xbe),(x2t,x106),(x89,x107),(x28,xbf),(x8a,x108),(x8b,x109),(x3t,xbg),(xbh,x10a),(x29,xbi),(xbj,x10b),(x2u,xbk),(xbl,x10c),(x8c,x10d),(x8d,x10e),(x2v,xbm),(x2w,xbn),(x3u,xbo),(x8e,x10f),(x8f,x10g),(x51,x10h),(x52,x10i),(x3v,x10j),(x2x,x10k),(xo,xbp),(x53,x10l),(x54,x10m),(x8g,x10n),(x2a,xbq),(x19,xbr),(x3w,xbs),(x1v,xbt),(x3x,x10o),(x3y,x10p),(x8h,x10q),(x8i,x10r),(x55,x10s),(x3z,xbu),(x56,x10t),(x40,x10u),(x57,x10v),(x8j,x10w),(x8k,x10x),(x58,x10y),(x2y,xbv),(x41,xbw),(x59,x10z),(x8l,x110),(x8m,x111),(x42,x112),(x8n,x113),(x43,xbx),(x44,xby),(xk,xbz),(x45,xc0),(x8o,x114),(x46,x115),(x8p,x116),(x5a,x117),(x8q,x118),(x5b,x119),(x8r,x11a),(x8s,x11b),(x8t,x11c),(x8u,x11d),(x8v,x11e),(x47,xc1),(x8w,x11f),(x8x,x11g),(x8y,x11h),(x5c,x11i),(x8z,x11j),(x90,x11k),(x91,x11l),(x92,x11m),(x48,x11n),(x5d,x11o),(x93,x11p),(x5e,x11q),(x5f,x11r),(x2z,x11s),(x94,x11t),(x95,x11u),(x96,x11v),(x97,x11w),(x98,x11x),(x99,x11y),(xf,x11z),(x9a,x120),(x9b,x121),(x9c,x122),(x9d,x123),(x9e,x124),(x9f,x125),(x5g,x126),(x9g,x127),(x9h,x128),(x49,x129),(x5h,x12a),(x5i,x12b),(x9i,x12c),(x4a,x12d),(x4b,x12e)]
noncomputable def x1x3:Nat->x1wy
 |0=>fun _ _ _ _=>none
 |d+1=>fun hs f args m=>look f table (x1x3 d) hs args m
theorem x12f(d:Nat)(hs:FHs)(args:List AV)(m:Mem):x1x3 (d+1) hs x50 args m=xbd (x1x3 d) hs args m:=by kernel_rfl
theorem x12g(d:Nat)(hs:FHs)(args:List AV)(m:Mem):x1x3 (d+1) hs xz args m=xbe (x1x3 d) hs args m:=by kernel_rfl
theorem x12h(d:Nat)(hs:FHs)(args:List AV)(m:Mem):x1x3 (d+1) hs x28 args m=xbf (x1x3 d) hs args m:=by kernel_rfl
theorem x12i(d:Nat)(hs:FHs)(args:List AV)(m:Mem):x1x3 (d+1) hs x3t args m=xbg (x1x3 d) hs args m:=by kernel_rfl
theorem x12j(d:Nat)(hs:FHs)(args:List AV)(m:Mem):x1x3 (d+1) hs x29 args m=xbi (x1x3 d) hs args m:=by kernel_rfl
theorem x12k(d:Nat)(hs:FHs)(args:List AV)(m:Mem):x1x3 (d+1) hs x2u args m=xbk (x1x3 d) hs args m:=by kernel_rfl
theorem x12l(d:Nat)(hs:FHs)(args:List AV)(m:Mem):x1x3 (d+1) hs x2v args m=xbm (x1x3 d) hs args m:=by kernel_rfl
theorem x12m(d:Nat)(hs:FHs)(args:List AV)(m:Mem):x1x3 (d+1) hs x2w args m=xbn (x1x3 d) hs args m:=by kernel_rfl
theorem x12n(d:Nat)(hs:FHs)(args:List AV)(m:Mem):x1x3 (d+1) hs x3u args m=xbo (x1x3 d) hs args m:=by kernel_rfl
theorem x12o(d:Nat)(hs:FHs)(args:List AV)(m:Mem):x1x3 (d+1) hs xo args m=xbp (x1x3 d) hs args m:=by kernel_rfl
theorem x12p(d:Nat)(hs:FHs)(args:List AV)(m:Mem):x1x3 (d+1) hs x2a args m=xbq (x1x3 d) hs args m:=by kernel_rfl
theorem x12q(d:Nat)(hs:FHs)(args:List AV)(m:Mem):x1x3 (d+1) hs x19 args m=xbr (x1x3 d) hs args m:=by kernel_rfl
theorem x12r(d:Nat)(hs:FHs)(args:List AV)(m:Mem):x1x3 (d+1) hs x3w args m=xbs (x1x3 d) hs args m:=by kernel_rfl
theorem x12s(d:Nat)(hs:FHs)(args:List AV)(m:Mem):x1x3 (d+1) hs x1v args m=xbt (x1x3 d) hs args m:=by kernel_rfl
theorem x12t(d:Nat)(hs:FHs)(args:List AV)(m:Mem):x1x3 (d+1) hs x3z args m=xbu (x1x3 d) hs args m:=by kernel_rfl
theorem x12u(d:Nat)(hs:FHs)(args:List AV)(m:Mem):x1x3 (d+1) hs x2y args m=xbv (x1x3 d) hs args m:=by kernel_rfl
theorem x12v(d:Nat)(hs:FHs)(args:List AV)(m:Mem):x1x3 (d+1) hs x41 args m=xbw (x1x3 d) hs args m:=by kernel_rfl
theorem x12w(d:Nat)(hs:FHs)(args:List AV)(m:Mem):x1x3 (d+1) hs x43 args m=xbx (x1x3 d) hs args m:=by kernel_rfl
theorem x12x(d:Nat)(hs:FHs)(args:List AV)(m:Mem):x1x3 (d+1) hs x44 args m=xby (x1x3 d) hs args m:=by kernel_rfl
theorem x12y(d:Nat)(hs:FHs)(args:List AV)(m:Mem):x1x3 (d+1) hs xk args m=xbz (x1x3 d) hs args m:=by kernel_rfl
theorem x12z(d:Nat)(hs:FHs)(args:List AV)(m:Mem):x1x3 (d+1) hs x45 args m=xc0 (x1x3 d) hs args m:=by kernel_rfl
theorem x130(d:Nat)(hs:FHs)(args:List AV)(m:Mem):x1x3 (d+1) hs x47 args m=xc1 (x1x3 d) hs args m:=by kernel_rfl
end Go.Ix
