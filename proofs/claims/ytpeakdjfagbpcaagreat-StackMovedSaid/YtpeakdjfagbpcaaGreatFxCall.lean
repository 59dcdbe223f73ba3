import Derived.Test.YtpeakdjfagbpcaaGreatFxText0
import Derived.Test.YtpeakdjfagbpcaaGreatFxText1
import Derived.Test.YtpeakdjfagbpcaaGreatFxEnt
import Derived.Test.YtpeakdjfagbpcaaGreatFxRules
namespace Go.Ix
open Go.Proofs
noncomputable def table:List (FuncId×FnT):=[(x7y,x108),(x2b,x109),(x7z,x10a),(x32,x10b),(x80,x10c),(x81,x10d),(x82,x10e),(x83,x10f),(x84,x10g),(x85,x10h),(x33,xbo),(x86,x10i),(xbp,x10j),(x56,xbq),(x34,x10k),(x87,x10l),(xy,xbr),(x1b,xbs),(x88,x10m),(x2c,xbt),(x89,x10n),(x8a,x10o),(x3z,xbu),(xbv,x10p),(x1z,xbw),(x2d,x8b),(x40,xbx),(xby,x10q),(x20,xbz),(x35,xc0),(x8c,x10r),(x8d,x10s),(x8e,x10t),(x8f,x10u),(x57,x10v),(x58,x10w),(x41,x10x),(x36,x10y),(xr,xc1),(x59,x10z),(x5a,x110),(x8g,x111),(x2e,xc2),(x1c,xc3),(x42,xc4),(x21,xc5),(x43,x112),(x44,x113),(x8h,x114),(x8i,x115),(x5b,x116),(x45,xc6),(x5c,x117),(x1d,xc7),(x37,xc8),(x5d,x118),(x8j,x119),(xc9,x11a),(x8k,x11b),(x5e,x11c),(x8l,x11d),(x5f,x11e),(x8m,x11f),(x8n,x11g),(x46,x11h),(x8o,x11i),(x47,xca),(x48,xcb),(xn,xcc),(x49,xcd),(x8p,x11j),(x4a,x11k),(x8q,x11l),(x5g,x11m),(x8r,x11n),(x5h,x11o),(x8s,x11p),(x8t,x11q),(x8u,x11r),(x8v,x11s),(x8w,x11t),(x4b,xce),(x8x,x11u),(x8y,x11v),(x8z,x11w),(x5i,x11x),(x90,x11y),(x91,x11z),(x92,x120),(x93,x121),(x4c,x122),(x5j,x123),(x94,x124),(x5k,x125),(x5l,x126),(x38,x127),(x95,x128),(x96,x129),(x97,x12a),(x98,x12b),(x99,x12c),(x9a,x12d),(xi,x12e),(x9b,x12f),(x9c,x12g),(x9d,x12h),(x9e,x12i),(x9f,x12j),(x9g,x12k),(x5m,x12l),(x9h,x12m),(x9i,x12n),(x4d,x12o),(x5n,x12p),(x5o,x12q),(x9j,x12r),(x4e,x12s),(x4f,x12t)]
noncomputable def x1xv:Nat->x1xq
 |0=>fun _ _ _ _=>none
 |d+1=>fun hs f args m=>look f table (x1xv d) hs args m
theorem x12u(d:Nat)(hs:FHs)(args:List AV)(m:Mem):x1xv (d+1) hs x56 args m=xbq (x1xv d) hs args m:=by kernel_rfl
theorem x12v(d:Nat)(hs:FHs)(args:List AV)(m:Mem):x1xv (d+1) hs xy args m=xbr (x1xv d) hs args m:=by kernel_rfl
theorem x12w(d:Nat)(hs:FHs)(args:List AV)(m:Mem):x1xv (d+1) hs x1b args m=xbs (x1xv d) hs args m:=by kernel_rfl
theorem x12x(d:Nat)(hs:FHs)(args:List AV)(m:Mem):x1xv (d+1) hs x2c args m=xbt (x1xv d) hs args m:=by kernel_rfl
theorem x12y(d:Nat)(hs:FHs)(args:List AV)(m:Mem):x1xv (d+1) hs x3z args m=xbu (x1xv d) hs args m:=by kernel_rfl
theorem x12z(d:Nat)(hs:FHs)(args:List AV)(m:Mem):x1xv (d+1) hs x1z args m=xbw (x1xv d) hs args m:=by kernel_rfl
theorem xj7(d:Nat)(hs:FHs)(args:List AV)(m:Mem):x1xv (d+1) hs x2d args m=x8b (x1xv d) hs args m:=by kernel_rfl
theorem x130(d:Nat)(hs:FHs)(args:List AV)(m:Mem):x1xv (d+1) hs x40 args m=xbx (x1xv d) hs args m:=by kernel_rfl
theorem x131(d:Nat)(hs:FHs)(args:List AV)(m:Mem):x1xv (d+1) hs x20 args m=xbz (x1xv d) hs args m:=by kernel_rfl
theorem x132(d:Nat)(hs:FHs)(args:List AV)(m:Mem):x1xv (d+1) hs x35 args m=xc0 (x1xv d) hs args m:=by kernel_rfl
theorem x133(d:Nat)(hs:FHs)(args:List AV)(m:Mem):x1xv (d+1) hs xr args m=xc1 (x1xv d) hs args m:=by kernel_rfl
theorem x134(d:Nat)(hs:FHs)(args:List AV)(m:Mem):x1xv (d+1) hs x2e args m=xc2 (x1xv d) hs args m:=by kernel_rfl
theorem x135(d:Nat)(hs:FHs)(args:List AV)(m:Mem):x1xv (d+1) hs x1c args m=xc3 (x1xv d) hs args m:=by kernel_rfl
theorem x136(d:Nat)(hs:FHs)(args:List AV)(m:Mem):x1xv (d+1) hs x42 args m=xc4 (x1xv d) hs args m:=by kernel_rfl
theorem x137(d:Nat)(hs:FHs)(args:List AV)(m:Mem):x1xv (d+1) hs x21 args m=xc5 (x1xv d) hs args m:=by kernel_rfl
theorem x138(d:Nat)(hs:FHs)(args:List AV)(m:Mem):x1xv (d+1) hs x45 args m=xc6 (x1xv d) hs args m:=by kernel_rfl
theorem x139(d:Nat)(hs:FHs)(args:List AV)(m:Mem):x1xv (d+1) hs x1d args m=xc7 (x1xv d) hs args m:=by kernel_rfl
theorem x13a(d:Nat)(hs:FHs)(args:List AV)(m:Mem):x1xv (d+1) hs x37 args m=xc8 (x1xv d) hs args m:=by kernel_rfl
theorem x13b(d:Nat)(hs:FHs)(args:List AV)(m:Mem):x1xv (d+1) hs x47 args m=xca (x1xv d) hs args m:=by kernel_rfl
theorem x13c(d:Nat)(hs:FHs)(args:List AV)(m:Mem):x1xv (d+1) hs x48 args m=xcb (x1xv d) hs args m:=by kernel_rfl
theorem x13d(d:Nat)(hs:FHs)(args:List AV)(m:Mem):x1xv (d+1) hs xn args m=xcc (x1xv d) hs args m:=by kernel_rfl
theorem x13e(d:Nat)(hs:FHs)(args:List AV)(m:Mem):x1xv (d+1) hs x49 args m=xcd (x1xv d) hs args m:=by kernel_rfl
theorem x13f(d:Nat)(hs:FHs)(args:List AV)(m:Mem):x1xv (d+1) hs x33 args m=xbo (x1xv d) hs args m:=by kernel_rfl
theorem x13g(d:Nat)(hs:FHs)(args:List AV)(m:Mem):x1xv (d+1) hs x4b args m=xce (x1xv d) hs args m:=by kernel_rfl
end Go.Ix
