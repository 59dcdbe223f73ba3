import Derived.Test.YtibmppgmjbpdmaaGreatDoorFxText0
import Derived.Test.YtibmppgmjbpdmaaGreatDoorFxText1
import Derived.Test.YtibmppgmjbpdmaaGreatDoorFxEnt
import Derived.Test.YtibmppgmjbpdmaaGreatDoorFxRules
namespace Go.Ix
open Go.Proofs
noncomputable def table:List (FuncId×FnT):=[(x4d,xu6),(x2y,x9m),(x1t,xu7),(x1u,x9n),(xr,x4e),(x19,x9o),(x1v,x9p),(x1a,x9q),(x1b,x9r),(x1w,x9s),(x1x,x9t),(x1y,x9u),(x1z,x9v),(x4f,xu8),(x2z,xu9),(x30,xua),(x4g,xub),(x4h,xuc),(x4i,xud),(x4j,xue),(x1c,xkg),(x20,x9w),(xk,x9x),(xx,x9y),(xm,x9z),(xh,xa0),(x1d,xa1),(xy,xa2),(xz,xa3),(x1e,xa4),(x21,xa5),(x22,xa6),(x4k,xuf),(x4l,xug),(x31,xuh),(x32,xui),(x33,xuj),(x4m,xuk),(x4n,xul),(x4o,xum),(x4p,xun),(xt,xa7),(x23,xa8),(x24,xa9),(x25,xaa),(xab,xuo),(x1f,xac),(x26,xad),(x4q,xup),(x34,xuq),(x35,xur),(x36,xus),(x4r,xut),(x4s,xuu),(x4t,xuv),(x4u,xuw),(x4v,xux),(x4w,xuy),(x4x,xuz),(x4y,xv0),(x4z,xv1),(xi,xv2),(x50,xv3),(x10,xae),(x27,xaf),(x11,x51),(x52,xv4),(x12,xag),(x53,xv5),(x54,xv6),(x55,xv7),(x56,xv8),(x37,xv9),(x13,xva),(x28,xvb),(x1g,xvc),(x57,xvd),(x38,xve),(x1h,xvf),(x29,xvg),(x58,xvh),(x59,xvi),(x5a,xvj),(x5b,xvk),(x39,xvl),(x2a,xvm),(x5c,xvn),(x3a,xvo),(x5d,xvp),(x5e,xvq),(x5f,xvr),(x5g,xvs),(x2b,xvt),(x14,xvu),(x5h,xvv),(x5i,xvw),(x5j,xvx),(x5k,xvy),(x5l,xvz),(x5m,xw0),(x5n,xw1),(xu,xw2),(x5o,xw3),(x3b,xw4),(x5p,xw5),(x3c,xw6),(x2c,xw7),(x3d,xw8),(xj,xw9),(x5q,xwa),(x5r,xwb),(x1i,xwc),(x5s,xwd),(x5t,xwe),(x5u,xwf),(x5v,xwg),(x5w,xwh),(x3e,xwi),(x5x,xwj),(x5y,xwk),(x5z,xwl),(x60,xwm),(x61,xwn),(x62,xwo),(x63,xwp),(x64,xwq),(x3f,xwr),(x65,xws),(x66,xwt),(x67,xwu),(x68,xwv),(x3g,xww),(x69,xwx),(x3h,xwy),(x6a,xwz),(x6b,xx0),(x6c,xx1),(x6d,xx2),(x3i,xx3),(x3j,xx4),(x6e,xx5),(xv,xx6),(x1j,xx7),(x6f,xx8),(x6g,xx9),(x3k,xxa),(x6h,xxb),(x6i,xxc),(x6j,xxd),(x6k,xxe),(x6l,xxf),(x6m,xxg),(x6n,xxh),(x3l,xxi),(x6o,xxj),(x6p,xxk),(x6q,xxl),(x6r,xxm),(x6s,xxn),(xah,xxo),(xai,xxp),(x6t,xxq),(x6u,xxr),(x6v,xxs),(x6w,xxt),(x6x,xxu),(x3m,xxv),(x2d,xxw),(x3n,xxx),(x6y,xxy),(x6z,xxz),(x70,xy0),(x71,xy1),(x72,xy2),(x3o,xy3),(x73,xy4),(x74,xy5),(x75,xy6),(x76,xy7),(x3p,xy8),(x1k,xy9),(x77,xya),(x78,xyb),(x79,xyc),(x7a,xyd),(x7b,xye),(x7c,xyf),(xc,xyg),(x7d,xyh),(x7e,xyi),(x7f,xyj),(x7g,xyk),(x1l,xyl),(x3q,xym),(x7h,xyn),(x7i,xyo),(x7j,xyp),(x3r,xyq),(x7k,xyr),(x7l,xys),(x2e,xyt),(x3s,xyu),(x3t,xyv),(xf,xyw),(x7m,xyx),(x2f,xyy),(x2g,xyz)]
noncomputable def whole(f:FuncId):FnT:=λcall hs args m=>x1ai Tryz.prog pol NN call hs f args m
noncomputable def x16z:Nat->x16u
 |0=>λ_ _ _ _=>none
 |d+1=>λhs f args m=>look (whole f) f table (x16z d) hs args m
theorem xz0(d:Nat)(hs:FHs)(args:List AV)(m:Mem):x16z (d+1) hs x2y args m=x9m (x16z d) hs args m:=by kernel_rfl
theorem xz1(d:Nat)(hs:FHs)(args:List AV)(m:Mem):x16z (d+1) hs x1u args m=x9n (x16z d) hs args m:=by kernel_rfl
theorem xkh(d:Nat)(hs:FHs)(args:List AV)(m:Mem):x16z (d+1) hs xr args m=x4e (x16z d) hs args m:=by kernel_rfl
theorem xz2(d:Nat)(hs:FHs)(args:List AV)(m:Mem):x16z (d+1) hs x19 args m=x9o (x16z d) hs args m:=by kernel_rfl
theorem xz3(d:Nat)(hs:FHs)(args:List AV)(m:Mem):x16z (d+1) hs x1v args m=x9p (x16z d) hs args m:=by kernel_rfl
theorem xz4(d:Nat)(hs:FHs)(args:List AV)(m:Mem):x16z (d+1) hs x1a args m=x9q (x16z d) hs args m:=by kernel_rfl
theorem xz5(d:Nat)(hs:FHs)(args:List AV)(m:Mem):x16z (d+1) hs x1b args m=x9r (x16z d) hs args m:=by kernel_rfl
theorem xz6(d:Nat)(hs:FHs)(args:List AV)(m:Mem):x16z (d+1) hs x1w args m=x9s (x16z d) hs args m:=by kernel_rfl
theorem xz7(d:Nat)(hs:FHs)(args:List AV)(m:Mem):x16z (d+1) hs x1x args m=x9t (x16z d) hs args m:=by kernel_rfl
theorem xz8(d:Nat)(hs:FHs)(args:List AV)(m:Mem):x16z (d+1) hs x1y args m=x9u (x16z d) hs args m:=by kernel_rfl
theorem xz9(d:Nat)(hs:FHs)(args:List AV)(m:Mem):x16z (d+1) hs x1z args m=x9v (x16z d) hs args m:=by kernel_rfl
theorem xza(d:Nat)(hs:FHs)(args:List AV)(m:Mem):x16z (d+1) hs x1c args m=xkg (x16z d) hs args m:=by kernel_rfl
theorem xzb(d:Nat)(hs:FHs)(args:List AV)(m:Mem):x16z (d+1) hs x20 args m=x9w (x16z d) hs args m:=by kernel_rfl
theorem xzc(d:Nat)(hs:FHs)(args:List AV)(m:Mem):x16z (d+1) hs xk args m=x9x (x16z d) hs args m:=by kernel_rfl
theorem xzd(d:Nat)(hs:FHs)(args:List AV)(m:Mem):x16z (d+1) hs xx args m=x9y (x16z d) hs args m:=by kernel_rfl
theorem xze(d:Nat)(hs:FHs)(args:List AV)(m:Mem):x16z (d+1) hs xm args m=x9z (x16z d) hs args m:=by kernel_rfl
theorem xzf(d:Nat)(hs:FHs)(args:List AV)(m:Mem):x16z (d+1) hs xh args m=xa0 (x16z d) hs args m:=by kernel_rfl
theorem xzg(d:Nat)(hs:FHs)(args:List AV)(m:Mem):x16z (d+1) hs x1d args m=xa1 (x16z d) hs args m:=by kernel_rfl
theorem xzh(d:Nat)(hs:FHs)(args:List AV)(m:Mem):x16z (d+1) hs xy args m=xa2 (x16z d) hs args m:=by kernel_rfl
theorem xzi(d:Nat)(hs:FHs)(args:List AV)(m:Mem):x16z (d+1) hs xz args m=xa3 (x16z d) hs args m:=by kernel_rfl
theorem xzj(d:Nat)(hs:FHs)(args:List AV)(m:Mem):x16z (d+1) hs x1e args m=xa4 (x16z d) hs args m:=by kernel_rfl
theorem xzk(d:Nat)(hs:FHs)(args:List AV)(m:Mem):x16z (d+1) hs x21 args m=xa5 (x16z d) hs args m:=by kernel_rfl
theorem xzl(d:Nat)(hs:FHs)(args:List AV)(m:Mem):x16z (d+1) hs x22 args m=xa6 (x16z d) hs args m:=by kernel_rfl
theorem xzm(d:Nat)(hs:FHs)(args:List AV)(m:Mem):x16z (d+1) hs xt args m=xa7 (x16z d) hs args m:=by kernel_rfl
theorem xzn(d:Nat)(hs:FHs)(args:List AV)(m:Mem):x16z (d+1) hs x23 args m=xa8 (x16z d) hs args m:=by kernel_rfl
theorem xzo(d:Nat)(hs:FHs)(args:List AV)(m:Mem):x16z (d+1) hs x24 args m=xa9 (x16z d) hs args m:=by kernel_rfl
theorem xzp(d:Nat)(hs:FHs)(args:List AV)(m:Mem):x16z (d+1) hs x25 args m=xaa (x16z d) hs args m:=by kernel_rfl
theorem xzq(d:Nat)(hs:FHs)(args:List AV)(m:Mem):x16z (d+1) hs x1f args m=xac (x16z d) hs args m:=by kernel_rfl
theorem xzr(d:Nat)(hs:FHs)(args:List AV)(m:Mem):x16z (d+1) hs x26 args m=xad (x16z d) hs args m:=by kernel_rfl
theorem xzs(d:Nat)(hs:FHs)(args:List AV)(m:Mem):x16z (d+1) hs x10 args m=xae (x16z d) hs args m:=by kernel_rfl
theorem xzt(d:Nat)(hs:FHs)(args:List AV)(m:Mem):x16z (d+1) hs x27 args m=xaf (x16z d) hs args m:=by kernel_rfl
theorem xki(d:Nat)(hs:FHs)(args:List AV)(m:Mem):x16z (d+1) hs x11 args m=x51 (x16z d) hs args m:=by kernel_rfl
theorem xzu(d:Nat)(hs:FHs)(args:List AV)(m:Mem):x16z (d+1) hs x12 args m=xag (x16z d) hs args m:=by kernel_rfl
end Go.Ix
