import Derived.Test.YtgediplphidhpaaGreatFxText0
import Derived.Test.YtgediplphidhpaaGreatFxEnt
import Derived.Test.YtgediplphidhpaaGreatFxRules
namespace Go.Ix
open Go.Proofs
noncomputable def table:List (FuncId×FnT):=[(x1g,xcq),(x5t,xcr),(x3j,xcs),(x26,xct),(x27,x7r),(x3k,xcu),(x3l,xcv),(x3m,xcw),(x28,xcx),(x3n,xcy),(x3o,xcz),(x29,xd0),(x2a,xd1),(x2b,x5u),(x2c,xd2),(x2d,xd3),(x2e,xd4),(x2f,xd5),(x2g,xd6),(x2h,xd7),(xf,xd8),(x3p,x7s),(x2i,xd9),(x2j,x7t),(x1h,xda),(x2k,xdb),(x2l,xdc),(x3q,xdd),(x3r,xde),(x1i,x7u),(xo,xdf),(x3s,xdg),(x3t,xdh),(x3u,xdi),(x2m,x5v),(x2n,xdj),(x3v,xdk),(xh,x7v),(x2o,xdl),(x3w,xdm),(x3x,xdn),(x3y,x7w),(x3z,xdo),(x1j,xdp),(x40,xdq),(x41,xdr),(xy,xds),(x1k,xdt),(x42,xdu),(x43,xdv),(x2p,xdw),(x44,xdx),(x45,xdy),(x2q,xdz),(x1l,xe0),(x46,xe1),(x47,xe2),(x1m,xe3),(x2r,x5w),(x2s,xe4),(x48,xe5),(x49,x7x),(x1n,xe6),(x4a,xe7),(x4b,xe8),(x4c,xe9),(xt,xea),(x2t,xeb),(x1o,xec),(x2u,xed),(xz,xee),(xp,xef),(x18,xeg),(x4d,xeh),(x2v,xei),(x4e,xej),(x4f,xek),(x4g,xel),(x1p,xem),(x4h,xen),(x4i,xeo),(x2w,xep),(x4j,xeq),(x2x,xer),(x2y,xes),(x2z,xet),(x4k,xeu),(x4l,xev),(x30,xew),(x31,xex),(x32,xey),(x33,xez),(x1q,xf0)]
noncomputable def whole(f:FuncId):FnT:=λcall hs args m=>xsa Tryz.prog pol NN call hs f args m
noncomputable def xnt:Nat->xnv
 |0=>λ_ _ _ _=>none
 |d+1=>λhs f args m=>look (whole f) f table (xnt d) hs args m
theorem xil(d:Nat)(hs:FHs)(args:List AV)(m:Mem):xnt (d+1) hs x5t args m=xcr (xnt d) hs args m:=by kernel_rfl
theorem xim(d:Nat)(hs:FHs)(args:List AV)(m:Mem):xnt (d+1) hs x3j args m=xcs (xnt d) hs args m:=by kernel_rfl
theorem xin(d:Nat)(hs:FHs)(args:List AV)(m:Mem):xnt (d+1) hs x26 args m=xct (xnt d) hs args m:=by kernel_rfl
theorem xi2(d:Nat)(hs:FHs)(args:List AV)(m:Mem):xnt (d+1) hs x27 args m=x7r (xnt d) hs args m:=by kernel_rfl
theorem xio(d:Nat)(hs:FHs)(args:List AV)(m:Mem):xnt (d+1) hs x3k args m=xcu (xnt d) hs args m:=by kernel_rfl
theorem xip(d:Nat)(hs:FHs)(args:List AV)(m:Mem):xnt (d+1) hs x3l args m=xcv (xnt d) hs args m:=by kernel_rfl
theorem xiq(d:Nat)(hs:FHs)(args:List AV)(m:Mem):xnt (d+1) hs x3m args m=xcw (xnt d) hs args m:=by kernel_rfl
theorem xir(d:Nat)(hs:FHs)(args:List AV)(m:Mem):xnt (d+1) hs x28 args m=xcx (xnt d) hs args m:=by kernel_rfl
theorem xis(d:Nat)(hs:FHs)(args:List AV)(m:Mem):xnt (d+1) hs x3n args m=xcy (xnt d) hs args m:=by kernel_rfl
theorem xit(d:Nat)(hs:FHs)(args:List AV)(m:Mem):xnt (d+1) hs x3o args m=xcz (xnt d) hs args m:=by kernel_rfl
theorem xiu(d:Nat)(hs:FHs)(args:List AV)(m:Mem):xnt (d+1) hs x29 args m=xd0 (xnt d) hs args m:=by kernel_rfl
theorem xiv(d:Nat)(hs:FHs)(args:List AV)(m:Mem):xnt (d+1) hs x2a args m=xd1 (xnt d) hs args m:=by kernel_rfl
theorem xf1(d:Nat)(hs:FHs)(args:List AV)(m:Mem):xnt (d+1) hs x2b args m=x5u (xnt d) hs args m:=by kernel_rfl
theorem xiw(d:Nat)(hs:FHs)(args:List AV)(m:Mem):xnt (d+1) hs x2c args m=xd2 (xnt d) hs args m:=by kernel_rfl
theorem xix(d:Nat)(hs:FHs)(args:List AV)(m:Mem):xnt (d+1) hs x2d args m=xd3 (xnt d) hs args m:=by kernel_rfl
theorem xiy(d:Nat)(hs:FHs)(args:List AV)(m:Mem):xnt (d+1) hs x2e args m=xd4 (xnt d) hs args m:=by kernel_rfl
theorem xiz(d:Nat)(hs:FHs)(args:List AV)(m:Mem):xnt (d+1) hs x2f args m=xd5 (xnt d) hs args m:=by kernel_rfl
theorem xj0(d:Nat)(hs:FHs)(args:List AV)(m:Mem):xnt (d+1) hs x2g args m=xd6 (xnt d) hs args m:=by kernel_rfl
theorem xj1(d:Nat)(hs:FHs)(args:List AV)(m:Mem):xnt (d+1) hs x2h args m=xd7 (xnt d) hs args m:=by kernel_rfl
theorem xj2(d:Nat)(hs:FHs)(args:List AV)(m:Mem):xnt (d+1) hs xf args m=xd8 (xnt d) hs args m:=by kernel_rfl
theorem xi3(d:Nat)(hs:FHs)(args:List AV)(m:Mem):xnt (d+1) hs x3p args m=x7s (xnt d) hs args m:=by kernel_rfl
theorem xj3(d:Nat)(hs:FHs)(args:List AV)(m:Mem):xnt (d+1) hs x2i args m=xd9 (xnt d) hs args m:=by kernel_rfl
theorem xi4(d:Nat)(hs:FHs)(args:List AV)(m:Mem):xnt (d+1) hs x2j args m=x7t (xnt d) hs args m:=by kernel_rfl
theorem xj4(d:Nat)(hs:FHs)(args:List AV)(m:Mem):xnt (d+1) hs x1h args m=xda (xnt d) hs args m:=by kernel_rfl
theorem xj5(d:Nat)(hs:FHs)(args:List AV)(m:Mem):xnt (d+1) hs x2k args m=xdb (xnt d) hs args m:=by kernel_rfl
theorem xj6(d:Nat)(hs:FHs)(args:List AV)(m:Mem):xnt (d+1) hs x2l args m=xdc (xnt d) hs args m:=by kernel_rfl
theorem xj7(d:Nat)(hs:FHs)(args:List AV)(m:Mem):xnt (d+1) hs x3q args m=xdd (xnt d) hs args m:=by kernel_rfl
theorem xj8(d:Nat)(hs:FHs)(args:List AV)(m:Mem):xnt (d+1) hs x3r args m=xde (xnt d) hs args m:=by kernel_rfl
theorem xi5(d:Nat)(hs:FHs)(args:List AV)(m:Mem):xnt (d+1) hs x1i args m=x7u (xnt d) hs args m:=by kernel_rfl
theorem xj9(d:Nat)(hs:FHs)(args:List AV)(m:Mem):xnt (d+1) hs xo args m=xdf (xnt d) hs args m:=by kernel_rfl
theorem xja(d:Nat)(hs:FHs)(args:List AV)(m:Mem):xnt (d+1) hs x3s args m=xdg (xnt d) hs args m:=by kernel_rfl
theorem xjb(d:Nat)(hs:FHs)(args:List AV)(m:Mem):xnt (d+1) hs x3t args m=xdh (xnt d) hs args m:=by kernel_rfl
theorem xjc(d:Nat)(hs:FHs)(args:List AV)(m:Mem):xnt (d+1) hs x3u args m=xdi (xnt d) hs args m:=by kernel_rfl
theorem xf2(d:Nat)(hs:FHs)(args:List AV)(m:Mem):xnt (d+1) hs x2m args m=x5v (xnt d) hs args m:=by kernel_rfl
theorem xjd(d:Nat)(hs:FHs)(args:List AV)(m:Mem):xnt (d+1) hs x2n args m=xdj (xnt d) hs args m:=by kernel_rfl
theorem xje(d:Nat)(hs:FHs)(args:List AV)(m:Mem):xnt (d+1) hs x3v args m=xdk (xnt d) hs args m:=by kernel_rfl
theorem xi6(d:Nat)(hs:FHs)(args:List AV)(m:Mem):xnt (d+1) hs xh args m=x7v (xnt d) hs args m:=by kernel_rfl
theorem xjf(d:Nat)(hs:FHs)(args:List AV)(m:Mem):xnt (d+1) hs x2o args m=xdl (xnt d) hs args m:=by kernel_rfl
theorem xjg(d:Nat)(hs:FHs)(args:List AV)(m:Mem):xnt (d+1) hs x3w args m=xdm (xnt d) hs args m:=by kernel_rfl
theorem xjh(d:Nat)(hs:FHs)(args:List AV)(m:Mem):xnt (d+1) hs x3x args m=xdn (xnt d) hs args m:=by kernel_rfl
theorem xi7(d:Nat)(hs:FHs)(args:List AV)(m:Mem):xnt (d+1) hs x3y args m=x7w (xnt d) hs args m:=by kernel_rfl
theorem xji(d:Nat)(hs:FHs)(args:List AV)(m:Mem):xnt (d+1) hs x3z args m=xdo (xnt d) hs args m:=by kernel_rfl
theorem xjj(d:Nat)(hs:FHs)(args:List AV)(m:Mem):xnt (d+1) hs x1j args m=xdp (xnt d) hs args m:=by kernel_rfl
theorem xjk(d:Nat)(hs:FHs)(args:List AV)(m:Mem):xnt (d+1) hs x40 args m=xdq (xnt d) hs args m:=by kernel_rfl
theorem xjl(d:Nat)(hs:FHs)(args:List AV)(m:Mem):xnt (d+1) hs x41 args m=xdr (xnt d) hs args m:=by kernel_rfl
theorem xjm(d:Nat)(hs:FHs)(args:List AV)(m:Mem):xnt (d+1) hs xy args m=xds (xnt d) hs args m:=by kernel_rfl
theorem xjn(d:Nat)(hs:FHs)(args:List AV)(m:Mem):xnt (d+1) hs x1k args m=xdt (xnt d) hs args m:=by kernel_rfl
theorem xjo(d:Nat)(hs:FHs)(args:List AV)(m:Mem):xnt (d+1) hs x42 args m=xdu (xnt d) hs args m:=by kernel_rfl
theorem xjp(d:Nat)(hs:FHs)(args:List AV)(m:Mem):xnt (d+1) hs x43 args m=xdv (xnt d) hs args m:=by kernel_rfl
theorem xjq(d:Nat)(hs:FHs)(args:List AV)(m:Mem):xnt (d+1) hs x2p args m=xdw (xnt d) hs args m:=by kernel_rfl
theorem xjr(d:Nat)(hs:FHs)(args:List AV)(m:Mem):xnt (d+1) hs x44 args m=xdx (xnt d) hs args m:=by kernel_rfl
theorem xjs(d:Nat)(hs:FHs)(args:List AV)(m:Mem):xnt (d+1) hs x45 args m=xdy (xnt d) hs args m:=by kernel_rfl
theorem xjt(d:Nat)(hs:FHs)(args:List AV)(m:Mem):xnt (d+1) hs x2q args m=xdz (xnt d) hs args m:=by kernel_rfl
theorem xju(d:Nat)(hs:FHs)(args:List AV)(m:Mem):xnt (d+1) hs x1l args m=xe0 (xnt d) hs args m:=by kernel_rfl
theorem xjv(d:Nat)(hs:FHs)(args:List AV)(m:Mem):xnt (d+1) hs x46 args m=xe1 (xnt d) hs args m:=by kernel_rfl
theorem xjw(d:Nat)(hs:FHs)(args:List AV)(m:Mem):xnt (d+1) hs x47 args m=xe2 (xnt d) hs args m:=by kernel_rfl
theorem xjx(d:Nat)(hs:FHs)(args:List AV)(m:Mem):xnt (d+1) hs x1m args m=xe3 (xnt d) hs args m:=by kernel_rfl
theorem xf3(d:Nat)(hs:FHs)(args:List AV)(m:Mem):xnt (d+1) hs x2r args m=x5w (xnt d) hs args m:=by kernel_rfl
theorem xjy(d:Nat)(hs:FHs)(args:List AV)(m:Mem):xnt (d+1) hs x2s args m=xe4 (xnt d) hs args m:=by kernel_rfl
theorem xjz(d:Nat)(hs:FHs)(args:List AV)(m:Mem):xnt (d+1) hs x48 args m=xe5 (xnt d) hs args m:=by kernel_rfl
theorem xk0(d:Nat)(hs:FHs)(args:List AV)(m:Mem):xnt (d+1) hs x1g args m=xcq (xnt d) hs args m:=by kernel_rfl
theorem xi8(d:Nat)(hs:FHs)(args:List AV)(m:Mem):xnt (d+1) hs x49 args m=x7x (xnt d) hs args m:=by kernel_rfl
theorem xk1(d:Nat)(hs:FHs)(args:List AV)(m:Mem):xnt (d+1) hs x1n args m=xe6 (xnt d) hs args m:=by kernel_rfl
theorem xk2(d:Nat)(hs:FHs)(args:List AV)(m:Mem):xnt (d+1) hs x4a args m=xe7 (xnt d) hs args m:=by kernel_rfl
theorem xk3(d:Nat)(hs:FHs)(args:List AV)(m:Mem):xnt (d+1) hs x4b args m=xe8 (xnt d) hs args m:=by kernel_rfl
theorem xk4(d:Nat)(hs:FHs)(args:List AV)(m:Mem):xnt (d+1) hs x4c args m=xe9 (xnt d) hs args m:=by kernel_rfl
theorem xk5(d:Nat)(hs:FHs)(args:List AV)(m:Mem):xnt (d+1) hs xt args m=xea (xnt d) hs args m:=by kernel_rfl
theorem xk6(d:Nat)(hs:FHs)(args:List AV)(m:Mem):xnt (d+1) hs x2t args m=xeb (xnt d) hs args m:=by kernel_rfl
theorem xk7(d:Nat)(hs:FHs)(args:List AV)(m:Mem):xnt (d+1) hs x1o args m=xec (xnt d) hs args m:=by kernel_rfl
theorem xk8(d:Nat)(hs:FHs)(args:List AV)(m:Mem):xnt (d+1) hs x2u args m=xed (xnt d) hs args m:=by kernel_rfl
theorem xk9(d:Nat)(hs:FHs)(args:List AV)(m:Mem):xnt (d+1) hs xz args m=xee (xnt d) hs args m:=by kernel_rfl
theorem xka(d:Nat)(hs:FHs)(args:List AV)(m:Mem):xnt (d+1) hs xp args m=xef (xnt d) hs args m:=by kernel_rfl
theorem xkb(d:Nat)(hs:FHs)(args:List AV)(m:Mem):xnt (d+1) hs x18 args m=xeg (xnt d) hs args m:=by kernel_rfl
theorem xkc(d:Nat)(hs:FHs)(args:List AV)(m:Mem):xnt (d+1) hs x4d args m=xeh (xnt d) hs args m:=by kernel_rfl
theorem xkd(d:Nat)(hs:FHs)(args:List AV)(m:Mem):xnt (d+1) hs x2v args m=xei (xnt d) hs args m:=by kernel_rfl
theorem xke(d:Nat)(hs:FHs)(args:List AV)(m:Mem):xnt (d+1) hs x4e args m=xej (xnt d) hs args m:=by kernel_rfl
theorem xkf(d:Nat)(hs:FHs)(args:List AV)(m:Mem):xnt (d+1) hs x4f args m=xek (xnt d) hs args m:=by kernel_rfl
theorem xkg(d:Nat)(hs:FHs)(args:List AV)(m:Mem):xnt (d+1) hs x4g args m=xel (xnt d) hs args m:=by kernel_rfl
theorem xkh(d:Nat)(hs:FHs)(args:List AV)(m:Mem):xnt (d+1) hs x1p args m=xem (xnt d) hs args m:=by kernel_rfl
theorem xki(d:Nat)(hs:FHs)(args:List AV)(m:Mem):xnt (d+1) hs x4h args m=xen (xnt d) hs args m:=by kernel_rfl
theorem xkj(d:Nat)(hs:FHs)(args:List AV)(m:Mem):xnt (d+1) hs x4i args m=xeo (xnt d) hs args m:=by kernel_rfl
theorem xkk(d:Nat)(hs:FHs)(args:List AV)(m:Mem):xnt (d+1) hs x2w args m=xep (xnt d) hs args m:=by kernel_rfl
theorem xkl(d:Nat)(hs:FHs)(args:List AV)(m:Mem):xnt (d+1) hs x4j args m=xeq (xnt d) hs args m:=by kernel_rfl
theorem xkm(d:Nat)(hs:FHs)(args:List AV)(m:Mem):xnt (d+1) hs x2x args m=xer (xnt d) hs args m:=by kernel_rfl
theorem xkn(d:Nat)(hs:FHs)(args:List AV)(m:Mem):xnt (d+1) hs x2y args m=xes (xnt d) hs args m:=by kernel_rfl
theorem xko(d:Nat)(hs:FHs)(args:List AV)(m:Mem):xnt (d+1) hs x2z args m=xet (xnt d) hs args m:=by kernel_rfl
theorem xkp(d:Nat)(hs:FHs)(args:List AV)(m:Mem):xnt (d+1) hs x4k args m=xeu (xnt d) hs args m:=by kernel_rfl
theorem xkq(d:Nat)(hs:FHs)(args:List AV)(m:Mem):xnt (d+1) hs x4l args m=xev (xnt d) hs args m:=by kernel_rfl
theorem xkr(d:Nat)(hs:FHs)(args:List AV)(m:Mem):xnt (d+1) hs x30 args m=xew (xnt d) hs args m:=by kernel_rfl
theorem xks(d:Nat)(hs:FHs)(args:List AV)(m:Mem):xnt (d+1) hs x31 args m=xex (xnt d) hs args m:=by kernel_rfl
theorem xkt(d:Nat)(hs:FHs)(args:List AV)(m:Mem):xnt (d+1) hs x32 args m=xey (xnt d) hs args m:=by kernel_rfl
theorem xku(d:Nat)(hs:FHs)(args:List AV)(m:Mem):xnt (d+1) hs x33 args m=xez (xnt d) hs args m:=by kernel_rfl
theorem xkv(d:Nat)(hs:FHs)(args:List AV)(m:Mem):xnt (d+1) hs x1q args m=xf0 (xnt d) hs args m:=by kernel_rfl
end Go.Ix
