import Derived.Test.YtaoalekmhjclnaaGreatDoorFxText0
import Derived.Test.YtaoalekmhjclnaaGreatDoorFxText1
import Derived.Test.YtaoalekmhjclnaaGreatDoorFxEnt
import Derived.Test.YtaoalekmhjclnaaGreatDoorFxRules
namespace Go.Ix
open Go.Proofs
noncomputable def table:List (FuncId×FnT):=[(x4r,xut),(x38,xae),(x26,xuu),(x4s,xuv),(x4t,xuw),(x1c,xaf),(x10,xag),(xu,xah),(x11,xai),(x1d,x4u),(xv,x39),(x1e,xaj),(x1f,xak),(x1g,xal),(x27,xam),(x4v,xux),(x3a,xuy),(x3b,xuz),(x4w,xv0),(x4x,xv1),(x4y,xv2),(xc,xan),(x28,xv3),(xi,xao),(x4z,xv4),(x3c,xv5),(xw,xl9),(x29,xv6),(x50,xv7),(x51,xv8),(x52,xv9),(x53,xva),(x54,xvb),(xd,xap),(xe,xaq),(x12,xar),(xn,xas),(x13,xat),(x14,xau),(x2a,xav),(x15,xaw),(x2b,xax),(x1h,xla),(x1i,xay),(x55,xvc),(x56,xvd),(x3d,xve),(x3e,xvf),(x3f,xvg),(x57,xvh),(x58,xvi),(x59,xvj),(x1j,xaz),(x3g,xvk),(x2c,xvl),(x3h,xvm),(xh,xvn),(x5a,xvo),(x5b,xvp),(x5c,xvq),(x5d,xvr),(x5e,xvs),(x2d,xb0),(x5f,xvt),(x3i,xvu),(x3j,xvv),(x3k,xvw),(x5g,xvx),(x5h,xvy),(x5i,xvz),(x3l,xw0),(x5j,xw1),(x5k,xw2),(xx,xw3),(x1k,xw4),(x5l,xw5),(x5m,xw6),(x5n,xw7),(x1l,xb1),(xy,xb2),(x5o,xw8),(x5p,xw9),(x5q,xwa),(x5r,xwb),(x3m,xwc),(x16,xwd),(x5s,xwe),(x5t,xwf),(x3n,xwg),(x1m,xwh),(x2e,xwi),(x5u,xwj),(x3o,xwk),(x5v,xwl),(x2f,xwm),(x5w,xwn),(x5x,xwo),(x2g,xb3),(x5y,xwp),(xz,xwq),(x5z,xwr),(x3p,xws),(x60,xwt),(x61,xwu),(x62,xwv),(x1n,xww),(x63,xwx),(x64,xwy),(x65,xwz),(x66,xx0),(x67,xx1),(x3q,xx2),(x68,xx3),(x69,xx4),(x6a,xx5),(x6b,xx6),(x3r,xx7),(x17,xb4),(x6c,xx8),(x3s,xx9),(x6d,xxa),(x3t,xxb),(x6e,xxc),(x6f,xxd),(x6g,xxe),(x6h,xxf),(x3u,xxg),(x3v,xxh),(x6i,xxi),(x3w,xxj),(x6j,xxk),(x6k,xxl),(x3x,xxm),(x6l,xxn),(x6m,xxo),(x6n,xxp),(x6o,xxq),(x6p,xxr),(x3y,xxs),(x6q,xxt),(x6r,xxu),(x6s,xxv),(xb5,xxw),(xb6,xxx),(xb7,xxy),(x6t,xxz),(x6u,xy0),(x6v,xy1),(x6w,xy2),(x6x,xy3),(x6y,xy4),(x3z,xy5),(x2h,xy6),(x40,xy7),(x6z,xy8),(x70,xy9),(x71,xya),(x72,xyb),(x73,xyc),(x74,xyd),(x41,xye),(x75,xyf),(x76,xyg),(x77,xyh),(x78,xyi),(x42,xyj),(x1o,xyk),(x79,xyl),(x7a,xym),(x7b,xyn),(x7c,xyo),(x7d,xyp),(x7e,xyq),(xa,xyr),(x7f,xys),(x7g,xyt),(x7h,xyu),(x43,xyv),(x7i,xyw),(x1p,xyx),(x44,xyy),(x7j,xyz),(x7k,xz0),(x7l,xz1),(x7m,xz2),(x7n,xz3),(x7o,xz4),(x7p,xz5),(x45,xz6),(x7q,xz7),(x7r,xz8),(x2i,xz9),(x46,xza),(x47,xzb),(xb,xzc),(x7s,xzd),(x7t,xze),(x7u,xzf),(x7v,xzg),(x7w,xzh),(x2j,xzi),(x2k,xzj),(x7x,xzk),(x7y,xzl)]
noncomputable def whole(f:FuncId):FnT:=λcall hs args m=>x1b2 Tryz.prog pol NN call hs f args m
noncomputable def x17h:Nat->x17c
 |0=>λ_ _ _ _=>none
 |d+1=>λhs f args m=>look (whole f) f table (x17h d) hs args m
theorem xzm(d:Nat)(hs:FHs)(args:List AV)(m:Mem):x17h (d+1) hs x38 args m=xae (x17h d) hs args m:=by kernel_rfl
theorem xzn(d:Nat)(hs:FHs)(args:List AV)(m:Mem):x17h (d+1) hs x1c args m=xaf (x17h d) hs args m:=by kernel_rfl
theorem xzo(d:Nat)(hs:FHs)(args:List AV)(m:Mem):x17h (d+1) hs x10 args m=xag (x17h d) hs args m:=by kernel_rfl
theorem xzp(d:Nat)(hs:FHs)(args:List AV)(m:Mem):x17h (d+1) hs xu args m=xah (x17h d) hs args m:=by kernel_rfl
theorem xzq(d:Nat)(hs:FHs)(args:List AV)(m:Mem):x17h (d+1) hs x11 args m=xai (x17h d) hs args m:=by kernel_rfl
theorem xlb(d:Nat)(hs:FHs)(args:List AV)(m:Mem):x17h (d+1) hs x1d args m=x4u (x17h d) hs args m:=by kernel_rfl
theorem xb8(d:Nat)(hs:FHs)(args:List AV)(m:Mem):x17h (d+1) hs xv args m=x39 (x17h d) hs args m:=by kernel_rfl
theorem xzr(d:Nat)(hs:FHs)(args:List AV)(m:Mem):x17h (d+1) hs x1e args m=xaj (x17h d) hs args m:=by kernel_rfl
theorem xzs(d:Nat)(hs:FHs)(args:List AV)(m:Mem):x17h (d+1) hs x1f args m=xak (x17h d) hs args m:=by kernel_rfl
theorem xzt(d:Nat)(hs:FHs)(args:List AV)(m:Mem):x17h (d+1) hs x1g args m=xal (x17h d) hs args m:=by kernel_rfl
theorem xzu(d:Nat)(hs:FHs)(args:List AV)(m:Mem):x17h (d+1) hs x27 args m=xam (x17h d) hs args m:=by kernel_rfl
theorem xzv(d:Nat)(hs:FHs)(args:List AV)(m:Mem):x17h (d+1) hs xc args m=xan (x17h d) hs args m:=by kernel_rfl
theorem xzw(d:Nat)(hs:FHs)(args:List AV)(m:Mem):x17h (d+1) hs xi args m=xao (x17h d) hs args m:=by kernel_rfl
theorem xzx(d:Nat)(hs:FHs)(args:List AV)(m:Mem):x17h (d+1) hs xw args m=xl9 (x17h d) hs args m:=by kernel_rfl
theorem xzy(d:Nat)(hs:FHs)(args:List AV)(m:Mem):x17h (d+1) hs xd args m=xap (x17h d) hs args m:=by kernel_rfl
theorem xzz(d:Nat)(hs:FHs)(args:List AV)(m:Mem):x17h (d+1) hs xe args m=xaq (x17h d) hs args m:=by kernel_rfl
theorem x100(d:Nat)(hs:FHs)(args:List AV)(m:Mem):x17h (d+1) hs x12 args m=xar (x17h d) hs args m:=by kernel_rfl
theorem x101(d:Nat)(hs:FHs)(args:List AV)(m:Mem):x17h (d+1) hs xn args m=xas (x17h d) hs args m:=by kernel_rfl
theorem x102(d:Nat)(hs:FHs)(args:List AV)(m:Mem):x17h (d+1) hs x13 args m=xat (x17h d) hs args m:=by kernel_rfl
theorem x103(d:Nat)(hs:FHs)(args:List AV)(m:Mem):x17h (d+1) hs x14 args m=xau (x17h d) hs args m:=by kernel_rfl
theorem x104(d:Nat)(hs:FHs)(args:List AV)(m:Mem):x17h (d+1) hs x2a args m=xav (x17h d) hs args m:=by kernel_rfl
theorem x105(d:Nat)(hs:FHs)(args:List AV)(m:Mem):x17h (d+1) hs x15 args m=xaw (x17h d) hs args m:=by kernel_rfl
theorem x106(d:Nat)(hs:FHs)(args:List AV)(m:Mem):x17h (d+1) hs x2b args m=xax (x17h d) hs args m:=by kernel_rfl
theorem x107(d:Nat)(hs:FHs)(args:List AV)(m:Mem):x17h (d+1) hs x1h args m=xla (x17h d) hs args m:=by kernel_rfl
theorem x108(d:Nat)(hs:FHs)(args:List AV)(m:Mem):x17h (d+1) hs x1i args m=xay (x17h d) hs args m:=by kernel_rfl
theorem x109(d:Nat)(hs:FHs)(args:List AV)(m:Mem):x17h (d+1) hs x1j args m=xaz (x17h d) hs args m:=by kernel_rfl
theorem x10a(d:Nat)(hs:FHs)(args:List AV)(m:Mem):x17h (d+1) hs x2d args m=xb0 (x17h d) hs args m:=by kernel_rfl
theorem x10b(d:Nat)(hs:FHs)(args:List AV)(m:Mem):x17h (d+1) hs x1l args m=xb1 (x17h d) hs args m:=by kernel_rfl
theorem x10c(d:Nat)(hs:FHs)(args:List AV)(m:Mem):x17h (d+1) hs xy args m=xb2 (x17h d) hs args m:=by kernel_rfl
theorem x10d(d:Nat)(hs:FHs)(args:List AV)(m:Mem):x17h (d+1) hs x2g args m=xb3 (x17h d) hs args m:=by kernel_rfl
theorem x10e(d:Nat)(hs:FHs)(args:List AV)(m:Mem):x17h (d+1) hs x17 args m=xb4 (x17h d) hs args m:=by kernel_rfl
end Go.Ix
