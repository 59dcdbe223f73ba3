import Derived.Test.YtaoalekmhjclnaaGreatDoorFxText0
import Derived.Test.YtaoalekmhjclnaaGreatDoorFxText1
import Derived.Test.YtaoalekmhjclnaaGreatDoorFxEnt
import Derived.Test.YtaoalekmhjclnaaGreatDoorFxRules
namespace Go.Ix
open Go.Proofs
noncomputable def table:List (FuncId×FnT):=[(x44,xt1),(x2s,x96),(x23,xt2),(x45,xt3),(x46,xt4),(x17,x97),(x18,x98),(xl,x99),(xt,x9a),(x11,x47),(x19,x9b),(x1a,x9c),(xu,x48),(x1b,x9d),(x1c,x9e),(x1d,x9f),(x49,xt5),(x2t,xt6),(x2u,xt7),(x4a,xt8),(x4b,xt9),(x4c,xta),(xc,x9g),(x24,xtb),(xh,x9h),(x4d,xtc),(x2v,xtd),(xv,xjh),(x25,xte),(x4e,xtf),(x4f,xtg),(x4g,xth),(x4h,xti),(x4i,xtj),(xd,x9i),(xf,x9j),(x12,x9k),(xm,x9l),(xw,x9m),(x1e,x9n),(x26,x9o),(x1f,xji),(xn,x9p),(x27,x9q),(x13,x9r),(x4j,xtk),(x4k,xtl),(x2w,xtm),(x2x,xtn),(x2y,xto),(x4l,xtp),(x4m,xtq),(x4n,xtr),(x1g,x9s),(x2z,xts),(x28,xtt),(x30,xtu),(xg,xtv),(x4o,xtw),(x4p,xtx),(x4q,xty),(x4r,xtz),(x4s,xu0),(x4t,xu1),(x31,xu2),(x32,xu3),(x33,xu4),(x4u,xu5),(x4v,xu6),(x4w,xu7),(x34,xu8),(x4x,xu9),(x4y,xua),(xx,xub),(x1h,xuc),(x4z,xud),(x50,xue),(x51,xuf),(x52,xug),(x53,xuh),(x54,xui),(x55,xuj),(x35,xuk),(x14,xul),(x56,xum),(x57,xun),(x36,xuo),(x1i,xup),(x29,xuq),(x58,xur),(x37,xus),(x59,xut),(x2a,xuu),(x5a,xuv),(x5b,xuw),(x5c,xux),(xy,xuy),(x5d,xuz),(x38,xv0),(x5e,xv1),(x5f,xv2),(x5g,xv3),(x1j,xv4),(x5h,xv5),(x5i,xv6),(x5j,xv7),(x5k,xv8),(x5l,xv9),(x39,xva),(x5m,xvb),(x5n,xvc),(x5o,xvd),(x5p,xve),(x3a,xvf),(x5q,xvg),(x3b,xvh),(x5r,xvi),(x3c,xvj),(x5s,xvk),(x5t,xvl),(x5u,xvm),(x5v,xvn),(x3d,xvo),(x3e,xvp),(x5w,xvq),(x3f,xvr),(x5x,xvs),(x5y,xvt),(x3g,xvu),(x5z,xvv),(x60,xvw),(x61,xvx),(x62,xvy),(x63,xvz),(x3h,xw0),(x64,xw1),(x65,xw2),(x66,xw3),(x9t,xw4),(x9u,xw5),(x9v,xw6),(x67,xw7),(x68,xw8),(x69,xw9),(x6a,xwa),(x6b,xwb),(x6c,xwc),(x3i,xwd),(x2b,xwe),(x3j,xwf),(x6d,xwg),(x6e,xwh),(x6f,xwi),(x6g,xwj),(x6h,xwk),(x6i,xwl),(x3k,xwm),(x6j,xwn),(x6k,xwo),(x6l,xwp),(x6m,xwq),(x3l,xwr),(x1k,xws),(x6n,xwt),(x6o,xwu),(x6p,xwv),(x6q,xww),(x6r,xwx),(x6s,xwy),(xb,xwz),(x6t,xx0),(x6u,xx1),(x6v,xx2),(x3m,xx3),(x6w,xx4),(x1l,xx5),(x3n,xx6),(x6x,xx7),(x6y,xx8),(x6z,xx9),(x70,xxa),(x71,xxb),(x72,xxc),(x73,xxd),(x3o,xxe),(x74,xxf),(x75,xxg),(x2c,xxh),(x3p,xxi),(x3q,xxj),(xe,xxk),(x76,xxl),(x77,xxm),(x78,xxn),(x79,xxo),(x7a,xxp),(x2d,xxq),(x2e,xxr),(x7b,xxs),(x7c,xxt)]
noncomputable def whole(f:FuncId):FnT:=λcall hs args m=>x18y Tryz.prog pol NN call hs f args m
noncomputable def x15i:Nat->x15d
 |0=>λ_ _ _ _=>none
 |d+1=>λhs f args m=>look (whole f) f table (x15i d) hs args m
theorem xxu(d:Nat)(hs:FHs)(args:List AV)(m:Mem):x15i (d+1) hs x2s args m=x96 (x15i d) hs args m:=by kernel_rfl
theorem xxv(d:Nat)(hs:FHs)(args:List AV)(m:Mem):x15i (d+1) hs x17 args m=x97 (x15i d) hs args m:=by kernel_rfl
theorem xxw(d:Nat)(hs:FHs)(args:List AV)(m:Mem):x15i (d+1) hs x18 args m=x98 (x15i d) hs args m:=by kernel_rfl
theorem xxx(d:Nat)(hs:FHs)(args:List AV)(m:Mem):x15i (d+1) hs xl args m=x99 (x15i d) hs args m:=by kernel_rfl
theorem xxy(d:Nat)(hs:FHs)(args:List AV)(m:Mem):x15i (d+1) hs xt args m=x9a (x15i d) hs args m:=by kernel_rfl
theorem xjj(d:Nat)(hs:FHs)(args:List AV)(m:Mem):x15i (d+1) hs x11 args m=x47 (x15i d) hs args m:=by kernel_rfl
theorem xxz(d:Nat)(hs:FHs)(args:List AV)(m:Mem):x15i (d+1) hs x19 args m=x9b (x15i d) hs args m:=by kernel_rfl
theorem xy0(d:Nat)(hs:FHs)(args:List AV)(m:Mem):x15i (d+1) hs x1a args m=x9c (x15i d) hs args m:=by kernel_rfl
theorem xjk(d:Nat)(hs:FHs)(args:List AV)(m:Mem):x15i (d+1) hs xu args m=x48 (x15i d) hs args m:=by kernel_rfl
theorem xy1(d:Nat)(hs:FHs)(args:List AV)(m:Mem):x15i (d+1) hs x1b args m=x9d (x15i d) hs args m:=by kernel_rfl
theorem xy2(d:Nat)(hs:FHs)(args:List AV)(m:Mem):x15i (d+1) hs x1c args m=x9e (x15i d) hs args m:=by kernel_rfl
theorem xy3(d:Nat)(hs:FHs)(args:List AV)(m:Mem):x15i (d+1) hs x1d args m=x9f (x15i d) hs args m:=by kernel_rfl
theorem xy4(d:Nat)(hs:FHs)(args:List AV)(m:Mem):x15i (d+1) hs xc args m=x9g (x15i d) hs args m:=by kernel_rfl
theorem xy5(d:Nat)(hs:FHs)(args:List AV)(m:Mem):x15i (d+1) hs xh args m=x9h (x15i d) hs args m:=by kernel_rfl
theorem xy6(d:Nat)(hs:FHs)(args:List AV)(m:Mem):x15i (d+1) hs xv args m=xjh (x15i d) hs args m:=by kernel_rfl
theorem xy7(d:Nat)(hs:FHs)(args:List AV)(m:Mem):x15i (d+1) hs xd args m=x9i (x15i d) hs args m:=by kernel_rfl
theorem xy8(d:Nat)(hs:FHs)(args:List AV)(m:Mem):x15i (d+1) hs xf args m=x9j (x15i d) hs args m:=by kernel_rfl
theorem xy9(d:Nat)(hs:FHs)(args:List AV)(m:Mem):x15i (d+1) hs x12 args m=x9k (x15i d) hs args m:=by kernel_rfl
theorem xya(d:Nat)(hs:FHs)(args:List AV)(m:Mem):x15i (d+1) hs xm args m=x9l (x15i d) hs args m:=by kernel_rfl
theorem xyb(d:Nat)(hs:FHs)(args:List AV)(m:Mem):x15i (d+1) hs xw args m=x9m (x15i d) hs args m:=by kernel_rfl
theorem xyc(d:Nat)(hs:FHs)(args:List AV)(m:Mem):x15i (d+1) hs x1e args m=x9n (x15i d) hs args m:=by kernel_rfl
theorem xyd(d:Nat)(hs:FHs)(args:List AV)(m:Mem):x15i (d+1) hs x26 args m=x9o (x15i d) hs args m:=by kernel_rfl
theorem xye(d:Nat)(hs:FHs)(args:List AV)(m:Mem):x15i (d+1) hs x1f args m=xji (x15i d) hs args m:=by kernel_rfl
theorem xyf(d:Nat)(hs:FHs)(args:List AV)(m:Mem):x15i (d+1) hs xn args m=x9p (x15i d) hs args m:=by kernel_rfl
theorem xyg(d:Nat)(hs:FHs)(args:List AV)(m:Mem):x15i (d+1) hs x27 args m=x9q (x15i d) hs args m:=by kernel_rfl
theorem xyh(d:Nat)(hs:FHs)(args:List AV)(m:Mem):x15i (d+1) hs x13 args m=x9r (x15i d) hs args m:=by kernel_rfl
theorem xyi(d:Nat)(hs:FHs)(args:List AV)(m:Mem):x15i (d+1) hs x1g args m=x9s (x15i d) hs args m:=by kernel_rfl
end Go.Ix
