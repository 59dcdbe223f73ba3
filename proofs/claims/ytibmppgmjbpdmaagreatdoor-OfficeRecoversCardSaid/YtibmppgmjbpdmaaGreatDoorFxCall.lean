import Derived.Test.YtibmppgmjbpdmaaGreatDoorFxText0
import Derived.Test.YtibmppgmjbpdmaaGreatDoorFxText1
import Derived.Test.YtibmppgmjbpdmaaGreatDoorFxEnt
import Derived.Test.YtibmppgmjbpdmaaGreatDoorFxRules
namespace Go.Ix
open Go.Proofs
noncomputable def table:List (FuncId×FnT):=[(x3q,xsg),(x2e,x8g),(x1l,xsh),(x1m,x8h),(xp,x8i),(xw,x8j),(x3r,xsi),(x1n,x8k),(x1o,x8l),(x1p,x8m),(x15,x8n),(x3s,xsj),(x2f,xsk),(x2g,xsl),(x3t,xsm),(x3u,xsn),(x3v,xso),(x3w,xsp),(x16,xio),(x1q,x8o),(xi,x8p),(xx,x8q),(xk,x8r),(x17,x8s),(x3x,xsq),(x3y,xsr),(x3z,xss),(x2h,xst),(x2i,xsu),(x2j,xsv),(x40,xsw),(x41,xsx),(x42,xsy),(x43,xsz),(xq,x8t),(x1r,x8u),(x1s,x8v),(x1t,x8w),(x8x,xt0),(x18,x8y),(x44,xt1),(x2k,xt2),(x2l,xt3),(x2m,xt4),(x45,xt5),(x46,xt6),(x47,xt7),(x48,xt8),(x49,xt9),(x4a,xta),(x4b,xtb),(x4c,xtc),(x4d,xtd),(xg,xte),(x4e,xtf),(xy,x8z),(x1u,x90),(xz,x4f),(x4g,xtg),(x10,x91),(x4h,xth),(x4i,xti),(x4j,xtj),(x4k,xtk),(x2n,xtl),(x11,xtm),(x1v,xtn),(x19,xto),(x4l,xtp),(x2o,xtq),(x1a,xtr),(x1w,xts),(x4m,xtt),(x4n,xtu),(x4o,xtv),(x4p,xtw),(x2p,xtx),(x1x,xty),(x4q,xtz),(x2q,xu0),(x4r,xu1),(x4s,xu2),(x4t,xu3),(x4u,xu4),(x1y,xu5),(x12,xu6),(x4v,xu7),(x4w,xu8),(x4x,xu9),(x4y,xua),(x4z,xub),(x50,xuc),(x51,xud),(xr,xue),(x52,xuf),(x2r,xug),(x53,xuh),(x2s,xui),(x1z,xuj),(x2t,xuk),(xh,xul),(x54,xum),(x55,xun),(x1b,xuo),(x56,xup),(x57,xuq),(x58,xur),(x59,xus),(x5a,xut),(x2u,xuu),(x5b,xuv),(x5c,xuw),(x5d,xux),(x5e,xuy),(x5f,xuz),(x5g,xv0),(x5h,xv1),(x5i,xv2),(x2v,xv3),(x5j,xv4),(x5k,xv5),(x5l,xv6),(x5m,xv7),(x2w,xv8),(x5n,xv9),(x2x,xva),(x5o,xvb),(x5p,xvc),(x5q,xvd),(x5r,xve),(x2y,xvf),(x2z,xvg),(x5s,xvh),(xt,xvi),(x1c,xvj),(x5t,xvk),(x5u,xvl),(x30,xvm),(x5v,xvn),(x5w,xvo),(x5x,xvp),(x5y,xvq),(x5z,xvr),(x60,xvs),(x61,xvt),(x31,xvu),(x62,xvv),(x63,xvw),(x64,xvx),(x65,xvy),(x66,xvz),(x92,xw0),(x93,xw1),(x67,xw2),(x68,xw3),(x69,xw4),(x6a,xw5),(x6b,xw6),(x32,xw7),(x20,xw8),(x33,xw9),(x6c,xwa),(x6d,xwb),(x6e,xwc),(x6f,xwd),(x6g,xwe),(x34,xwf),(x6h,xwg),(x6i,xwh),(x6j,xwi),(x6k,xwj),(x35,xwk),(x1d,xwl),(x6l,xwm),(x6m,xwn),(x6n,xwo),(x6o,xwp),(x6p,xwq),(x6q,xwr),(xd,xws),(x6r,xwt),(x6s,xwu),(x6t,xwv),(x6u,xww),(x1e,xwx),(x36,xwy),(x6v,xwz),(x6w,xx0),(x6x,xx1),(x37,xx2),(x6y,xx3),(x6z,xx4),(x21,xx5),(x38,xx6),(x39,xx7),(xf,xx8),(x70,xx9),(x22,xxa),(x23,xxb)]
noncomputable def whole(f:FuncId):FnT:=λcall hs args m=>x18c Tryz.prog pol NN call hs f args m
noncomputable def x14z:Nat->x14p
 |0=>λ_ _ _ _=>none
 |d+1=>λhs f args m=>look (whole f) f table (x14z d) hs args m
theorem xxc(d:Nat)(hs:FHs)(args:List AV)(m:Mem):x14z (d+1) hs x2e args m=x8g (x14z d) hs args m:=by kernel_rfl
theorem xxd(d:Nat)(hs:FHs)(args:List AV)(m:Mem):x14z (d+1) hs x1m args m=x8h (x14z d) hs args m:=by kernel_rfl
theorem xxe(d:Nat)(hs:FHs)(args:List AV)(m:Mem):x14z (d+1) hs xp args m=x8i (x14z d) hs args m:=by kernel_rfl
theorem xxf(d:Nat)(hs:FHs)(args:List AV)(m:Mem):x14z (d+1) hs xw args m=x8j (x14z d) hs args m:=by kernel_rfl
theorem xxg(d:Nat)(hs:FHs)(args:List AV)(m:Mem):x14z (d+1) hs x1n args m=x8k (x14z d) hs args m:=by kernel_rfl
theorem xxh(d:Nat)(hs:FHs)(args:List AV)(m:Mem):x14z (d+1) hs x1o args m=x8l (x14z d) hs args m:=by kernel_rfl
theorem xxi(d:Nat)(hs:FHs)(args:List AV)(m:Mem):x14z (d+1) hs x1p args m=x8m (x14z d) hs args m:=by kernel_rfl
theorem xxj(d:Nat)(hs:FHs)(args:List AV)(m:Mem):x14z (d+1) hs x15 args m=x8n (x14z d) hs args m:=by kernel_rfl
theorem xxk(d:Nat)(hs:FHs)(args:List AV)(m:Mem):x14z (d+1) hs x16 args m=xio (x14z d) hs args m:=by kernel_rfl
theorem xxl(d:Nat)(hs:FHs)(args:List AV)(m:Mem):x14z (d+1) hs x1q args m=x8o (x14z d) hs args m:=by kernel_rfl
theorem xxm(d:Nat)(hs:FHs)(args:List AV)(m:Mem):x14z (d+1) hs xi args m=x8p (x14z d) hs args m:=by kernel_rfl
theorem xxn(d:Nat)(hs:FHs)(args:List AV)(m:Mem):x14z (d+1) hs xx args m=x8q (x14z d) hs args m:=by kernel_rfl
theorem xxo(d:Nat)(hs:FHs)(args:List AV)(m:Mem):x14z (d+1) hs xk args m=x8r (x14z d) hs args m:=by kernel_rfl
theorem xxp(d:Nat)(hs:FHs)(args:List AV)(m:Mem):x14z (d+1) hs x17 args m=x8s (x14z d) hs args m:=by kernel_rfl
theorem xxq(d:Nat)(hs:FHs)(args:List AV)(m:Mem):x14z (d+1) hs xq args m=x8t (x14z d) hs args m:=by kernel_rfl
theorem xxr(d:Nat)(hs:FHs)(args:List AV)(m:Mem):x14z (d+1) hs x1r args m=x8u (x14z d) hs args m:=by kernel_rfl
theorem xxs(d:Nat)(hs:FHs)(args:List AV)(m:Mem):x14z (d+1) hs x1s args m=x8v (x14z d) hs args m:=by kernel_rfl
theorem xxt(d:Nat)(hs:FHs)(args:List AV)(m:Mem):x14z (d+1) hs x1t args m=x8w (x14z d) hs args m:=by kernel_rfl
theorem xxu(d:Nat)(hs:FHs)(args:List AV)(m:Mem):x14z (d+1) hs x18 args m=x8y (x14z d) hs args m:=by kernel_rfl
theorem xxv(d:Nat)(hs:FHs)(args:List AV)(m:Mem):x14z (d+1) hs xy args m=x8z (x14z d) hs args m:=by kernel_rfl
theorem xxw(d:Nat)(hs:FHs)(args:List AV)(m:Mem):x14z (d+1) hs x1u args m=x90 (x14z d) hs args m:=by kernel_rfl
theorem xip(d:Nat)(hs:FHs)(args:List AV)(m:Mem):x14z (d+1) hs xz args m=x4f (x14z d) hs args m:=by kernel_rfl
theorem xxx(d:Nat)(hs:FHs)(args:List AV)(m:Mem):x14z (d+1) hs x10 args m=x91 (x14z d) hs args m:=by kernel_rfl
end Go.Ix
