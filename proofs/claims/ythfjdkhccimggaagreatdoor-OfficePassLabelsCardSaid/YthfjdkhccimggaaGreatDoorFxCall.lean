import Derived.Test.YthfjdkhccimggaaGreatDoorFxText0
import Derived.Test.YthfjdkhccimggaaGreatDoorFxText1
import Derived.Test.YthfjdkhccimggaaGreatDoorFxEnt
import Derived.Test.YthfjdkhccimggaaGreatDoorFxRules
namespace Go.Ix
open Go.Proofs
noncomputable def table:List (FuncId×FnT):=[(x3s,xs8),(x2i,x8m),(x1x,xs9),(x3t,xsa),(x3u,xsb),(x3v,xsc),(x13,x8n),(x14,x8o),(xv,x8p),(x15,x3w),(x16,x8q),(x17,x8r),(xw,x8s),(x18,x8t),(x19,xip),(x3x,xsd),(xe,x8u),(x3y,xse),(x2j,xsf),(x2k,xsg),(x3z,xsh),(x40,xsi),(x41,xsj),(x2l,xsk),(x2m,xsl),(x2n,xsm),(xb,x8v),(x1y,xsn),(xh,x8w),(x42,xso),(x2o,xsp),(xq,xiq),(x1z,xsq),(x43,xsr),(x44,xss),(x45,xst),(x46,xsu),(x47,xsv),(xx,x8x),(xy,x8y),(x20,x8z),(x1a,x90),(x1b,x91),(x48,xsw),(x49,xsx),(xf,x92),(xz,x93),(xl,x94),(x4a,xsy),(x1c,xsz),(x4b,xt0),(x1d,x95),(x4c,xt1),(x4d,xt2),(x4e,xt3),(x2p,xt4),(x4f,xt5),(x2q,xt6),(x2r,xt7),(x2s,xt8),(x4g,xt9),(x2t,xta),(x21,xtb),(x2u,xtc),(xg,xtd),(x4h,xte),(x4i,xtf),(x4j,xtg),(x4k,xth),(x4l,xti),(x22,xtj),(x2v,xtk),(x4m,xtl),(x4n,xtm),(x2w,xtn),(x23,xto),(x4o,xtp),(x2x,xtq),(x4p,xtr),(x4q,xts),(x96,xtt),(x4r,xtu),(x24,xtv),(x4s,xtw),(x4t,xtx),(x4u,xty),(x2y,xtz),(x10,xu0),(x4v,xu1),(xr,xu2),(x1e,xu3),(x4w,xu4),(x4x,xu5),(x4y,xu6),(x4z,xu7),(x50,xu8),(x51,xu9),(x52,xua),(x53,xub),(x54,xuc),(xa,xud),(x55,xue),(x56,xuf),(x57,xug),(x2z,xuh),(x58,xui),(x1f,xuj),(x59,xuk),(x5a,xul),(x5b,xum),(x5c,xun),(x5d,xuo),(x30,xup),(x5e,xuq),(x5f,xur),(x5g,xus),(x5h,xut),(x31,xuu),(x32,xuv),(x5i,xuw),(x5j,xux),(xt,xuy),(x5k,xuz),(x33,xv0),(x5l,xv1),(x5m,xv2),(x5n,xv3),(x34,xv4),(x5o,xv5),(x5p,xv6),(x25,xv7),(x35,xv8),(x36,xv9),(x5q,xva),(x37,xvb),(x5r,xvc),(x5s,xvd),(x5t,xve),(x5u,xvf),(x5v,xvg),(x5w,xvh),(x5x,xvi),(x5y,xvj),(x5z,xvk),(x38,xvl),(x60,xvm),(x39,xvn),(x61,xvo),(x62,xvp),(x63,xvq),(x64,xvr),(x3a,xvs),(x3b,xvt),(x26,xvu),(x97,xvv),(x98,xvw),(x65,xvx),(x66,xvy),(x67,xvz),(x68,xw0),(x69,xw1),(x6a,xw2),(x6b,xw3),(x6c,xw4),(x6d,xw5),(x6e,xw6),(x6f,xw7),(x3c,xw8),(x6g,xw9),(x6h,xwa),(x6i,xwb),(x6j,xwc),(x6k,xwd),(x6l,xwe),(x6m,xwf),(x3d,xwg),(x6n,xwh),(x6o,xwi),(x6p,xwj),(x6q,xwk),(x6r,xwl),(x3e,xwm),(x6s,xwn),(x1g,xwo),(x3f,xwp),(x6t,xwq),(x6u,xwr),(x6v,xws),(x6w,xwt),(x3g,xwu),(x1h,xwv),(xc,xww),(x6x,xwx),(x6y,xwy),(x6z,xwz),(x27,xx0)]
noncomputable def whole(f:FuncId):FnT:=λcall hs args m=>x17o Tryz.prog pol NN call hs f args m
noncomputable def x14k:Nat->x14d
 |0=>λ_ _ _ _=>none
 |d+1=>λhs f args m=>look (whole f) f table (x14k d) hs args m
theorem xx1(d:Nat)(hs:FHs)(args:List AV)(m:Mem):x14k (d+1) hs x2i args m=x8m (x14k d) hs args m:=by kernel_rfl
theorem xx2(d:Nat)(hs:FHs)(args:List AV)(m:Mem):x14k (d+1) hs x13 args m=x8n (x14k d) hs args m:=by kernel_rfl
theorem xx3(d:Nat)(hs:FHs)(args:List AV)(m:Mem):x14k (d+1) hs x14 args m=x8o (x14k d) hs args m:=by kernel_rfl
theorem xx4(d:Nat)(hs:FHs)(args:List AV)(m:Mem):x14k (d+1) hs xv args m=x8p (x14k d) hs args m:=by kernel_rfl
theorem xir(d:Nat)(hs:FHs)(args:List AV)(m:Mem):x14k (d+1) hs x15 args m=x3w (x14k d) hs args m:=by kernel_rfl
theorem xx5(d:Nat)(hs:FHs)(args:List AV)(m:Mem):x14k (d+1) hs x16 args m=x8q (x14k d) hs args m:=by kernel_rfl
theorem xx6(d:Nat)(hs:FHs)(args:List AV)(m:Mem):x14k (d+1) hs x17 args m=x8r (x14k d) hs args m:=by kernel_rfl
theorem xx7(d:Nat)(hs:FHs)(args:List AV)(m:Mem):x14k (d+1) hs xw args m=x8s (x14k d) hs args m:=by kernel_rfl
theorem xx8(d:Nat)(hs:FHs)(args:List AV)(m:Mem):x14k (d+1) hs x18 args m=x8t (x14k d) hs args m:=by kernel_rfl
theorem xx9(d:Nat)(hs:FHs)(args:List AV)(m:Mem):x14k (d+1) hs x19 args m=xip (x14k d) hs args m:=by kernel_rfl
theorem xxa(d:Nat)(hs:FHs)(args:List AV)(m:Mem):x14k (d+1) hs xe args m=x8u (x14k d) hs args m:=by kernel_rfl
theorem xxb(d:Nat)(hs:FHs)(args:List AV)(m:Mem):x14k (d+1) hs xb args m=x8v (x14k d) hs args m:=by kernel_rfl
theorem xxc(d:Nat)(hs:FHs)(args:List AV)(m:Mem):x14k (d+1) hs xh args m=x8w (x14k d) hs args m:=by kernel_rfl
theorem xxd(d:Nat)(hs:FHs)(args:List AV)(m:Mem):x14k (d+1) hs xq args m=xiq (x14k d) hs args m:=by kernel_rfl
theorem xxe(d:Nat)(hs:FHs)(args:List AV)(m:Mem):x14k (d+1) hs xx args m=x8x (x14k d) hs args m:=by kernel_rfl
theorem xxf(d:Nat)(hs:FHs)(args:List AV)(m:Mem):x14k (d+1) hs xy args m=x8y (x14k d) hs args m:=by kernel_rfl
theorem xxg(d:Nat)(hs:FHs)(args:List AV)(m:Mem):x14k (d+1) hs x20 args m=x8z (x14k d) hs args m:=by kernel_rfl
theorem xxh(d:Nat)(hs:FHs)(args:List AV)(m:Mem):x14k (d+1) hs x1a args m=x90 (x14k d) hs args m:=by kernel_rfl
theorem xxi(d:Nat)(hs:FHs)(args:List AV)(m:Mem):x14k (d+1) hs x1b args m=x91 (x14k d) hs args m:=by kernel_rfl
theorem xxj(d:Nat)(hs:FHs)(args:List AV)(m:Mem):x14k (d+1) hs xf args m=x92 (x14k d) hs args m:=by kernel_rfl
theorem xxk(d:Nat)(hs:FHs)(args:List AV)(m:Mem):x14k (d+1) hs xz args m=x93 (x14k d) hs args m:=by kernel_rfl
theorem xxl(d:Nat)(hs:FHs)(args:List AV)(m:Mem):x14k (d+1) hs xl args m=x94 (x14k d) hs args m:=by kernel_rfl
theorem xxm(d:Nat)(hs:FHs)(args:List AV)(m:Mem):x14k (d+1) hs x1d args m=x95 (x14k d) hs args m:=by kernel_rfl
end Go.Ix
