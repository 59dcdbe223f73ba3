import Derived.Test.YtdcffnlnagmbhaaGreatDoorFxText0
import Derived.Test.YtdcffnlnagmbhaaGreatDoorFxEnt
import Derived.Test.YtdcffnlnagmbhaaGreatDoorFxRules
namespace Go.Ix
open Go.Proofs
noncomputable def table:List (FuncId×FnT):=[(x2i,xhm),(x2j,x6g),(x1r,xhn),(x19,x6h),(x1a,x6i),(xz,x6j),(x10,x6k),(x1b,x6l),(x1c,x6m),(x1d,x6n),(x1e,x6o),(x1f,x6p),(x1g,x6q),(x3h,xho),(x2k,xhp),(x3i,xhq),(x3j,xhr),(x3k,xhs),(x3l,xht),(x3m,xhu),(x1s,xhv),(x3n,xhw),(x1h,x6r),(x1t,xhx),(xt,x6s),(x1i,x6t),(x1u,x6u),(xu,x6v),(x1j,x6w),(xp,x6x),(x2l,xhy),(x2m,xhz),(x2n,xi0),(x2o,xi1),(xe,x6y),(x3o,xi2),(x3p,xi3),(x3q,xi4),(x3r,xi5),(x2p,xi6),(x1v,xi7),(x2q,xi8),(x3s,xi9),(x3t,xia),(x1k,x6z),(x1w,x70),(x11,x71),(x12,x72),(x13,x73),(x1x,x74),(x2r,xib),(x3u,xic),(x14,xid),(x2s,xie),(x1y,xif),(x1z,xig),(x3v,xih),(x3w,xii),(x20,xij),(x2t,xik),(x2u,xil),(x21,xim),(x2v,xin),(x3x,xio),(x22,xip),(x2w,xiq),(x2x,xir),(x75,xis),(x76,xit),(x77,xiu),(x78,xiv),(x1l,xcr),(x79,xiw),(x7a,xix),(x23,x7b),(x24,x7c),(x3y,xiy),(xq,xiz),(x2y,xj0),(x3z,xj1),(x2z,xj2),(x40,xj3),(x41,xj4),(x42,xj5),(x43,xj6),(x44,xj7),(x45,xj8),(xw,x7d),(x46,xj9),(x25,x7e),(x47,xja),(x48,xjb),(x49,xjc),(x4a,xjd),(x4b,xje),(x26,x7f),(x30,xjf),(x31,xjg),(x32,xjh),(x4c,xji),(x4d,xjj),(x4e,xjk),(x4f,xjl),(x4g,xjm),(x4h,xjn),(x27,x7g),(x4i,xjo),(x1m,xjp),(x33,xjq),(x34,xjr),(x4j,xjs),(x4k,xjt),(x28,xju),(x4l,xjv),(x4m,xjw),(x4n,xjx),(x4o,xjy),(x4p,xjz),(x1n,x7h),(x4q,xk0),(x4r,xk1),(xn,xk2),(x4s,xk3),(x4t,xk4),(x4u,xk5),(x4v,xk6),(x4w,xk7),(x4x,xk8)]
noncomputable def whole(f:FuncId):FnT:=λcall hs args m=>xsl Tryz.prog pol NN call hs f args m
noncomputable def xpc:Nat->xpb
 |0=>λ_ _ _ _=>none
 |d+1=>λhs f args m=>look (whole f) f table (xpc d) hs args m
theorem xk9(d:Nat)(hs:FHs)(args:List AV)(m:Mem):xpc (d+1) hs x2j args m=x6g (xpc d) hs args m:=by kernel_rfl
theorem xka(d:Nat)(hs:FHs)(args:List AV)(m:Mem):xpc (d+1) hs x19 args m=x6h (xpc d) hs args m:=by kernel_rfl
theorem xkb(d:Nat)(hs:FHs)(args:List AV)(m:Mem):xpc (d+1) hs x1a args m=x6i (xpc d) hs args m:=by kernel_rfl
theorem xkc(d:Nat)(hs:FHs)(args:List AV)(m:Mem):xpc (d+1) hs xz args m=x6j (xpc d) hs args m:=by kernel_rfl
theorem xkd(d:Nat)(hs:FHs)(args:List AV)(m:Mem):xpc (d+1) hs x10 args m=x6k (xpc d) hs args m:=by kernel_rfl
theorem xke(d:Nat)(hs:FHs)(args:List AV)(m:Mem):xpc (d+1) hs x1b args m=x6l (xpc d) hs args m:=by kernel_rfl
theorem xkf(d:Nat)(hs:FHs)(args:List AV)(m:Mem):xpc (d+1) hs x1c args m=x6m (xpc d) hs args m:=by kernel_rfl
theorem xkg(d:Nat)(hs:FHs)(args:List AV)(m:Mem):xpc (d+1) hs x1d args m=x6n (xpc d) hs args m:=by kernel_rfl
theorem xkh(d:Nat)(hs:FHs)(args:List AV)(m:Mem):xpc (d+1) hs x1e args m=x6o (xpc d) hs args m:=by kernel_rfl
theorem xki(d:Nat)(hs:FHs)(args:List AV)(m:Mem):xpc (d+1) hs x1f args m=x6p (xpc d) hs args m:=by kernel_rfl
theorem xkj(d:Nat)(hs:FHs)(args:List AV)(m:Mem):xpc (d+1) hs x1g args m=x6q (xpc d) hs args m:=by kernel_rfl
theorem xkk(d:Nat)(hs:FHs)(args:List AV)(m:Mem):xpc (d+1) hs x1h args m=x6r (xpc d) hs args m:=by kernel_rfl
theorem xkl(d:Nat)(hs:FHs)(args:List AV)(m:Mem):xpc (d+1) hs xt args m=x6s (xpc d) hs args m:=by kernel_rfl
theorem xkm(d:Nat)(hs:FHs)(args:List AV)(m:Mem):xpc (d+1) hs x1i args m=x6t (xpc d) hs args m:=by kernel_rfl
theorem xkn(d:Nat)(hs:FHs)(args:List AV)(m:Mem):xpc (d+1) hs x1u args m=x6u (xpc d) hs args m:=by kernel_rfl
theorem xko(d:Nat)(hs:FHs)(args:List AV)(m:Mem):xpc (d+1) hs xu args m=x6v (xpc d) hs args m:=by kernel_rfl
theorem xkp(d:Nat)(hs:FHs)(args:List AV)(m:Mem):xpc (d+1) hs x1j args m=x6w (xpc d) hs args m:=by kernel_rfl
theorem xkq(d:Nat)(hs:FHs)(args:List AV)(m:Mem):xpc (d+1) hs xp args m=x6x (xpc d) hs args m:=by kernel_rfl
theorem xkr(d:Nat)(hs:FHs)(args:List AV)(m:Mem):xpc (d+1) hs xe args m=x6y (xpc d) hs args m:=by kernel_rfl
theorem xks(d:Nat)(hs:FHs)(args:List AV)(m:Mem):xpc (d+1) hs x1k args m=x6z (xpc d) hs args m:=by kernel_rfl
theorem xkt(d:Nat)(hs:FHs)(args:List AV)(m:Mem):xpc (d+1) hs x1w args m=x70 (xpc d) hs args m:=by kernel_rfl
theorem xku(d:Nat)(hs:FHs)(args:List AV)(m:Mem):xpc (d+1) hs x11 args m=x71 (xpc d) hs args m:=by kernel_rfl
theorem xkv(d:Nat)(hs:FHs)(args:List AV)(m:Mem):xpc (d+1) hs x12 args m=x72 (xpc d) hs args m:=by kernel_rfl
theorem xkw(d:Nat)(hs:FHs)(args:List AV)(m:Mem):xpc (d+1) hs x13 args m=x73 (xpc d) hs args m:=by kernel_rfl
theorem xkx(d:Nat)(hs:FHs)(args:List AV)(m:Mem):xpc (d+1) hs x1x args m=x74 (xpc d) hs args m:=by kernel_rfl
theorem xky(d:Nat)(hs:FHs)(args:List AV)(m:Mem):xpc (d+1) hs x1l args m=xcr (xpc d) hs args m:=by kernel_rfl
theorem xkz(d:Nat)(hs:FHs)(args:List AV)(m:Mem):xpc (d+1) hs x23 args m=x7b (xpc d) hs args m:=by kernel_rfl
theorem xl0(d:Nat)(hs:FHs)(args:List AV)(m:Mem):xpc (d+1) hs x24 args m=x7c (xpc d) hs args m:=by kernel_rfl
theorem xl1(d:Nat)(hs:FHs)(args:List AV)(m:Mem):xpc (d+1) hs xw args m=x7d (xpc d) hs args m:=by kernel_rfl
theorem xl2(d:Nat)(hs:FHs)(args:List AV)(m:Mem):xpc (d+1) hs x25 args m=x7e (xpc d) hs args m:=by kernel_rfl
theorem xl3(d:Nat)(hs:FHs)(args:List AV)(m:Mem):xpc (d+1) hs x26 args m=x7f (xpc d) hs args m:=by kernel_rfl
theorem xl4(d:Nat)(hs:FHs)(args:List AV)(m:Mem):xpc (d+1) hs x27 args m=x7g (xpc d) hs args m:=by kernel_rfl
theorem xl5(d:Nat)(hs:FHs)(args:List AV)(m:Mem):xpc (d+1) hs x1n args m=x7h (xpc d) hs args m:=by kernel_rfl
end Go.Ix
