import Derived.Test.YtbcmiinhjgbkdaaGreatDoorFxText0
import Derived.Test.YtbcmiinhjgbkdaaGreatDoorFxText1
import Derived.Test.YtbcmiinhjgbkdaaGreatDoorFxEnt
import Derived.Test.YtbcmiinhjgbkdaaGreatDoorFxRules
namespace Go.Ix
open Go.Proofs
noncomputable def table:List (FuncId×FnT):=[(x4a,xqt),(x11,xqu),(x4b,xqv),(x39,xqw),(x4c,xqx),(x4d,xqy),(x4e,xqz),(x4f,xr0),(x4g,xr1),(x4h,xr2),(x3a,xr3),(x4i,xr4),(x3b,x8u),(x1z,xr5),(x20,x8v),(x12,x8w),(xp,x8x),(x1g,x8y),(x13,x8z),(x14,x90),(x21,x91),(x1h,x92),(x1i,x93),(x4j,xr6),(x3c,xr7),(x4k,xr8),(x22,xr9),(x4l,xra),(x4m,xrb),(x1j,xrc),(x1k,x94),(xm,x95),(xq,x96),(xr,x97),(x1l,x98),(xv,x99),(x1m,xik),(x23,x9a),(x24,x9b),(xw,x9c),(x25,x9d),(xt,x9e),(x15,x9f),(x1n,x9g),(x3d,xrd),(x4n,xre),(x3e,xrf),(x4o,xrg),(x3f,xrh),(x3g,xri),(x3h,xrj),(x4p,xrk),(x4q,xrl),(x26,x9h),(x27,x9i),(xi,x9j),(x16,x9k),(x9l,xrm),(x9m,xrn),(x28,x9n),(xx,x9o),(x29,x9p),(x2a,x9q),(x2b,x9r),(xn,x9s),(x2c,x9t),(xu,x9u),(x4r,xro),(x4s,xrp),(x2d,xrq),(x3i,xrr),(x3j,xrs),(x4t,xrt),(x4u,xru),(x3k,xrv),(x3l,xrw),(x4v,xrx),(x2e,xry),(x4w,xrz),(x4x,xs0),(x4y,xs1),(x4z,xs2),(x50,xs3),(x2f,x9v),(x51,xs4),(x52,xs5),(x17,x9w),(x2g,x9x),(x2h,x9y),(x2i,x9z),(x53,xs6),(x3m,xs7),(x2j,xs8),(x3n,xs9),(x54,xsa),(x55,xsb),(x56,xsc),(x57,xsd),(x58,xse),(x59,xsf),(x5a,xsg),(x5b,xsh),(x3o,xsi),(x5c,xsj),(x5d,xsk),(x5e,xsl),(x5f,xsm),(x5g,xsn),(x2k,xa0),(x1o,xa1),(xa2,xso),(xa3,xsp),(x2l,xa4),(x3p,xsq),(x1p,xsr),(x5h,xss),(x5i,xst),(x5j,xsu),(x5k,xsv),(x5l,xsw),(x5m,xsx),(xg,xsy),(x5n,xsz),(x5o,xt0),(x5p,xt1),(x3q,xt2),(x5q,xt3),(x3r,xt4),(x5r,xt5),(x5s,xt6),(x5t,xt7),(x5u,xt8),(x3s,xt9),(x5v,xta),(x2m,xa5),(x5w,xtb),(x5x,xtc),(x5y,xtd),(x5z,xte),(x60,xtf),(x2n,xa6),(x61,xtg),(x3t,xth),(x62,xti),(x63,xtj),(x2o,xtk),(x3u,xtl),(x3v,xtm),(x64,xtn),(x65,xto),(x66,xtp),(x67,xtq),(x68,xtr),(x69,xts),(x6a,xtt),(x1q,xtu),(x3w,xtv),(x2p,xtw),(x2q,xtx),(x6b,xty),(x6c,xtz),(xj,xu0),(x6d,xu1)]
noncomputable def whole(f:FuncId):FnT:=λcall hs args m=>x14u Tryz.prog pol NN call hs f args m
noncomputable def x10p:Nat->x10m
 |0=>λ_ _ _ _=>none
 |d+1=>λhs f args m=>look (whole f) f table (x10p d) hs args m
theorem xu2(d:Nat)(hs:FHs)(args:List AV)(m:Mem):x10p (d+1) hs x3b args m=x8u (x10p d) hs args m:=by kernel_rfl
theorem xu3(d:Nat)(hs:FHs)(args:List AV)(m:Mem):x10p (d+1) hs x20 args m=x8v (x10p d) hs args m:=by kernel_rfl
theorem xu4(d:Nat)(hs:FHs)(args:List AV)(m:Mem):x10p (d+1) hs x12 args m=x8w (x10p d) hs args m:=by kernel_rfl
theorem xu5(d:Nat)(hs:FHs)(args:List AV)(m:Mem):x10p (d+1) hs xp args m=x8x (x10p d) hs args m:=by kernel_rfl
theorem xu6(d:Nat)(hs:FHs)(args:List AV)(m:Mem):x10p (d+1) hs x1g args m=x8y (x10p d) hs args m:=by kernel_rfl
theorem xu7(d:Nat)(hs:FHs)(args:List AV)(m:Mem):x10p (d+1) hs x13 args m=x8z (x10p d) hs args m:=by kernel_rfl
theorem xu8(d:Nat)(hs:FHs)(args:List AV)(m:Mem):x10p (d+1) hs x14 args m=x90 (x10p d) hs args m:=by kernel_rfl
theorem xu9(d:Nat)(hs:FHs)(args:List AV)(m:Mem):x10p (d+1) hs x21 args m=x91 (x10p d) hs args m:=by kernel_rfl
theorem xua(d:Nat)(hs:FHs)(args:List AV)(m:Mem):x10p (d+1) hs x1h args m=x92 (x10p d) hs args m:=by kernel_rfl
theorem xub(d:Nat)(hs:FHs)(args:List AV)(m:Mem):x10p (d+1) hs x1i args m=x93 (x10p d) hs args m:=by kernel_rfl
theorem xuc(d:Nat)(hs:FHs)(args:List AV)(m:Mem):x10p (d+1) hs x1k args m=x94 (x10p d) hs args m:=by kernel_rfl
theorem xud(d:Nat)(hs:FHs)(args:List AV)(m:Mem):x10p (d+1) hs xm args m=x95 (x10p d) hs args m:=by kernel_rfl
theorem xue(d:Nat)(hs:FHs)(args:List AV)(m:Mem):x10p (d+1) hs xq args m=x96 (x10p d) hs args m:=by kernel_rfl
theorem xuf(d:Nat)(hs:FHs)(args:List AV)(m:Mem):x10p (d+1) hs xr args m=x97 (x10p d) hs args m:=by kernel_rfl
theorem xug(d:Nat)(hs:FHs)(args:List AV)(m:Mem):x10p (d+1) hs x1l args m=x98 (x10p d) hs args m:=by kernel_rfl
theorem xuh(d:Nat)(hs:FHs)(args:List AV)(m:Mem):x10p (d+1) hs xv args m=x99 (x10p d) hs args m:=by kernel_rfl
theorem xui(d:Nat)(hs:FHs)(args:List AV)(m:Mem):x10p (d+1) hs x1m args m=xik (x10p d) hs args m:=by kernel_rfl
theorem xuj(d:Nat)(hs:FHs)(args:List AV)(m:Mem):x10p (d+1) hs x23 args m=x9a (x10p d) hs args m:=by kernel_rfl
theorem xuk(d:Nat)(hs:FHs)(args:List AV)(m:Mem):x10p (d+1) hs x24 args m=x9b (x10p d) hs args m:=by kernel_rfl
theorem xul(d:Nat)(hs:FHs)(args:List AV)(m:Mem):x10p (d+1) hs xw args m=x9c (x10p d) hs args m:=by kernel_rfl
theorem xum(d:Nat)(hs:FHs)(args:List AV)(m:Mem):x10p (d+1) hs x25 args m=x9d (x10p d) hs args m:=by kernel_rfl
theorem xun(d:Nat)(hs:FHs)(args:List AV)(m:Mem):x10p (d+1) hs xt args m=x9e (x10p d) hs args m:=by kernel_rfl
theorem xuo(d:Nat)(hs:FHs)(args:List AV)(m:Mem):x10p (d+1) hs x15 args m=x9f (x10p d) hs args m:=by kernel_rfl
theorem xup(d:Nat)(hs:FHs)(args:List AV)(m:Mem):x10p (d+1) hs x1n args m=x9g (x10p d) hs args m:=by kernel_rfl
theorem xuq(d:Nat)(hs:FHs)(args:List AV)(m:Mem):x10p (d+1) hs x26 args m=x9h (x10p d) hs args m:=by kernel_rfl
theorem xur(d:Nat)(hs:FHs)(args:List AV)(m:Mem):x10p (d+1) hs x27 args m=x9i (x10p d) hs args m:=by kernel_rfl
theorem xus(d:Nat)(hs:FHs)(args:List AV)(m:Mem):x10p (d+1) hs xi args m=x9j (x10p d) hs args m:=by kernel_rfl
theorem xut(d:Nat)(hs:FHs)(args:List AV)(m:Mem):x10p (d+1) hs x16 args m=x9k (x10p d) hs args m:=by kernel_rfl
theorem xuu(d:Nat)(hs:FHs)(args:List AV)(m:Mem):x10p (d+1) hs x28 args m=x9n (x10p d) hs args m:=by kernel_rfl
theorem xuv(d:Nat)(hs:FHs)(args:List AV)(m:Mem):x10p (d+1) hs xx args m=x9o (x10p d) hs args m:=by kernel_rfl
theorem xuw(d:Nat)(hs:FHs)(args:List AV)(m:Mem):x10p (d+1) hs x29 args m=x9p (x10p d) hs args m:=by kernel_rfl
theorem xux(d:Nat)(hs:FHs)(args:List AV)(m:Mem):x10p (d+1) hs x2a args m=x9q (x10p d) hs args m:=by kernel_rfl
theorem xuy(d:Nat)(hs:FHs)(args:List AV)(m:Mem):x10p (d+1) hs x2b args m=x9r (x10p d) hs args m:=by kernel_rfl
theorem xuz(d:Nat)(hs:FHs)(args:List AV)(m:Mem):x10p (d+1) hs xn args m=x9s (x10p d) hs args m:=by kernel_rfl
theorem xv0(d:Nat)(hs:FHs)(args:List AV)(m:Mem):x10p (d+1) hs x2c args m=x9t (x10p d) hs args m:=by kernel_rfl
theorem xv1(d:Nat)(hs:FHs)(args:List AV)(m:Mem):x10p (d+1) hs xu args m=x9u (x10p d) hs args m:=by kernel_rfl
theorem xv2(d:Nat)(hs:FHs)(args:List AV)(m:Mem):x10p (d+1) hs x2f args m=x9v (x10p d) hs args m:=by kernel_rfl
theorem xv3(d:Nat)(hs:FHs)(args:List AV)(m:Mem):x10p (d+1) hs x17 args m=x9w (x10p d) hs args m:=by kernel_rfl
theorem xv4(d:Nat)(hs:FHs)(args:List AV)(m:Mem):x10p (d+1) hs x2g args m=x9x (x10p d) hs args m:=by kernel_rfl
theorem xv5(d:Nat)(hs:FHs)(args:List AV)(m:Mem):x10p (d+1) hs x2h args m=x9y (x10p d) hs args m:=by kernel_rfl
theorem xv6(d:Nat)(hs:FHs)(args:List AV)(m:Mem):x10p (d+1) hs x2i args m=x9z (x10p d) hs args m:=by kernel_rfl
theorem xv7(d:Nat)(hs:FHs)(args:List AV)(m:Mem):x10p (d+1) hs x2k args m=xa0 (x10p d) hs args m:=by kernel_rfl
theorem xv8(d:Nat)(hs:FHs)(args:List AV)(m:Mem):x10p (d+1) hs x1o args m=xa1 (x10p d) hs args m:=by kernel_rfl
theorem xv9(d:Nat)(hs:FHs)(args:List AV)(m:Mem):x10p (d+1) hs x2l args m=xa4 (x10p d) hs args m:=by kernel_rfl
theorem xva(d:Nat)(hs:FHs)(args:List AV)(m:Mem):x10p (d+1) hs x2m args m=xa5 (x10p d) hs args m:=by kernel_rfl
theorem xvb(d:Nat)(hs:FHs)(args:List AV)(m:Mem):x10p (d+1) hs x2n args m=xa6 (x10p d) hs args m:=by kernel_rfl
end Go.Ix
