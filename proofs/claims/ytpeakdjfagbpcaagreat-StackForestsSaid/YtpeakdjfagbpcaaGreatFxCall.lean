import Derived.Test.YtpeakdjfagbpcaaGreatFxText0
import Derived.Test.YtpeakdjfagbpcaaGreatFxText1
import Derived.Test.YtpeakdjfagbpcaaGreatFxEnt
import Derived.Test.YtpeakdjfagbpcaaGreatFxRules
namespace Go.Ix
open Go.Proofs
noncomputable def table:List (FuncId×FnT):=[(x7o,xys),(x26,xyt),(x7p,xyu),(x34,xyv),(x7q,xyw),(x7r,xyx),(x7s,xyy),(x7t,xyz),(x7u,xz0),(x7v,xz1),(x56,xz2),(x7w,xz3),(xbe,xz4),(x57,xbf),(x35,xz5),(x7x,xz6),(xz,xbg),(x36,xz7),(x7y,xz8),(x27,xbh),(x7z,xz9),(x80,xza),(x41,xbi),(x37,xbj),(x38,xbk),(x42,x81),(x43,xbl),(x39,xbm),(x82,xzb),(x83,xzc),(x84,xzd),(x44,xbn),(x58,xze),(x59,xzf),(x45,xzg),(x1q,xbo),(xr,xbp),(x5a,xzh),(x5b,xzi),(x85,xzj),(x28,xbq),(x15,xbr),(x46,xbs),(x29,xbt),(x1r,xbu),(x1s,xbv),(x3a,xbw),(x2a,xbx),(x3b,xby),(x47,xbz),(x2b,xc0),(x48,xzk),(x5c,xzl),(x86,xzm),(x87,xzn),(x3c,xc1),(x88,xzo),(x5d,xzp),(x89,xzq),(x8a,xzr),(x49,xzs),(x8b,xzt),(x4a,xc2),(x4b,xc3),(xk,xc4),(x4c,xc5),(x4d,xc6),(x2c,xc7),(x8c,xzu),(x5e,xzv),(x8d,xzw),(x5f,xzx),(x8e,xzy),(x8f,xzz),(x8g,x100),(x8h,x101),(x8i,x102),(x4e,xc8),(x8j,x103),(x8k,x104),(x8l,x105),(x5g,x106),(x8m,x107),(x8n,x108),(x8o,x109),(x8p,x10a),(x4f,x10b),(x5h,x10c),(x8q,x10d),(x5i,x10e),(x5j,x10f),(x3d,x10g),(x8r,x10h),(x8s,x10i),(x8t,x10j),(x8u,x10k),(x8v,x10l),(x8w,x10m),(xg,x10n),(x8x,x10o),(x8y,x10p),(x8z,x10q),(x90,x10r),(x91,x10s),(x92,x10t),(x5k,x10u),(x93,x10v),(x94,x10w),(x4g,x10x),(x5l,x10y),(x5m,x10z),(x95,x110),(x4h,x111),(x4i,x112)]
noncomputable def x1uu:Nat->x1uq
 |0=>fun _ _ _ _=>none
 |d+1=>fun hs f args m=>look f table (x1uu d) hs args m
theorem x113(d:Nat)(hs:FHs)(args:List AV)(m:Mem):x1uu (d+1) hs x57 args m=xbf (x1uu d) hs args m:=by kernel_rfl
theorem x114(d:Nat)(hs:FHs)(args:List AV)(m:Mem):x1uu (d+1) hs xz args m=xbg (x1uu d) hs args m:=by kernel_rfl
theorem x115(d:Nat)(hs:FHs)(args:List AV)(m:Mem):x1uu (d+1) hs x27 args m=xbh (x1uu d) hs args m:=by kernel_rfl
theorem x116(d:Nat)(hs:FHs)(args:List AV)(m:Mem):x1uu (d+1) hs x41 args m=xbi (x1uu d) hs args m:=by kernel_rfl
theorem x117(d:Nat)(hs:FHs)(args:List AV)(m:Mem):x1uu (d+1) hs x37 args m=xbj (x1uu d) hs args m:=by kernel_rfl
theorem x118(d:Nat)(hs:FHs)(args:List AV)(m:Mem):x1uu (d+1) hs x38 args m=xbk (x1uu d) hs args m:=by kernel_rfl
theorem xis(d:Nat)(hs:FHs)(args:List AV)(m:Mem):x1uu (d+1) hs x42 args m=x81 (x1uu d) hs args m:=by kernel_rfl
theorem x119(d:Nat)(hs:FHs)(args:List AV)(m:Mem):x1uu (d+1) hs x43 args m=xbl (x1uu d) hs args m:=by kernel_rfl
theorem x11a(d:Nat)(hs:FHs)(args:List AV)(m:Mem):x1uu (d+1) hs x39 args m=xbm (x1uu d) hs args m:=by kernel_rfl
theorem x11b(d:Nat)(hs:FHs)(args:List AV)(m:Mem):x1uu (d+1) hs x44 args m=xbn (x1uu d) hs args m:=by kernel_rfl
theorem x11c(d:Nat)(hs:FHs)(args:List AV)(m:Mem):x1uu (d+1) hs x1q args m=xbo (x1uu d) hs args m:=by kernel_rfl
theorem x11d(d:Nat)(hs:FHs)(args:List AV)(m:Mem):x1uu (d+1) hs xr args m=xbp (x1uu d) hs args m:=by kernel_rfl
theorem x11e(d:Nat)(hs:FHs)(args:List AV)(m:Mem):x1uu (d+1) hs x28 args m=xbq (x1uu d) hs args m:=by kernel_rfl
theorem x11f(d:Nat)(hs:FHs)(args:List AV)(m:Mem):x1uu (d+1) hs x15 args m=xbr (x1uu d) hs args m:=by kernel_rfl
theorem x11g(d:Nat)(hs:FHs)(args:List AV)(m:Mem):x1uu (d+1) hs x46 args m=xbs (x1uu d) hs args m:=by kernel_rfl
theorem x11h(d:Nat)(hs:FHs)(args:List AV)(m:Mem):x1uu (d+1) hs x29 args m=xbt (x1uu d) hs args m:=by kernel_rfl
theorem x11i(d:Nat)(hs:FHs)(args:List AV)(m:Mem):x1uu (d+1) hs x1r args m=xbu (x1uu d) hs args m:=by kernel_rfl
theorem x11j(d:Nat)(hs:FHs)(args:List AV)(m:Mem):x1uu (d+1) hs x1s args m=xbv (x1uu d) hs args m:=by kernel_rfl
theorem x11k(d:Nat)(hs:FHs)(args:List AV)(m:Mem):x1uu (d+1) hs x3a args m=xbw (x1uu d) hs args m:=by kernel_rfl
theorem x11l(d:Nat)(hs:FHs)(args:List AV)(m:Mem):x1uu (d+1) hs x2a args m=xbx (x1uu d) hs args m:=by kernel_rfl
theorem x11m(d:Nat)(hs:FHs)(args:List AV)(m:Mem):x1uu (d+1) hs x3b args m=xby (x1uu d) hs args m:=by kernel_rfl
theorem x11n(d:Nat)(hs:FHs)(args:List AV)(m:Mem):x1uu (d+1) hs x47 args m=xbz (x1uu d) hs args m:=by kernel_rfl
theorem x11o(d:Nat)(hs:FHs)(args:List AV)(m:Mem):x1uu (d+1) hs x2b args m=xc0 (x1uu d) hs args m:=by kernel_rfl
theorem x11p(d:Nat)(hs:FHs)(args:List AV)(m:Mem):x1uu (d+1) hs x3c args m=xc1 (x1uu d) hs args m:=by kernel_rfl
theorem x11q(d:Nat)(hs:FHs)(args:List AV)(m:Mem):x1uu (d+1) hs x4a args m=xc2 (x1uu d) hs args m:=by kernel_rfl
theorem x11r(d:Nat)(hs:FHs)(args:List AV)(m:Mem):x1uu (d+1) hs x4b args m=xc3 (x1uu d) hs args m:=by kernel_rfl
theorem x11s(d:Nat)(hs:FHs)(args:List AV)(m:Mem):x1uu (d+1) hs xk args m=xc4 (x1uu d) hs args m:=by kernel_rfl
theorem x11t(d:Nat)(hs:FHs)(args:List AV)(m:Mem):x1uu (d+1) hs x4c args m=xc5 (x1uu d) hs args m:=by kernel_rfl
theorem x11u(d:Nat)(hs:FHs)(args:List AV)(m:Mem):x1uu (d+1) hs x4d args m=xc6 (x1uu d) hs args m:=by kernel_rfl
theorem x11v(d:Nat)(hs:FHs)(args:List AV)(m:Mem):x1uu (d+1) hs x2c args m=xc7 (x1uu d) hs args m:=by kernel_rfl
theorem x11w(d:Nat)(hs:FHs)(args:List AV)(m:Mem):x1uu (d+1) hs x4e args m=xc8 (x1uu d) hs args m:=by kernel_rfl
end Go.Ix
