import Derived.Test.YtacloojepepcfaaGreatDoorFxText0
import Derived.Test.YtacloojepepcfaaGreatDoorFxText1
import Derived.Test.YtacloojepepcfaaGreatDoorFxEnt
import Derived.Test.YtacloojepepcfaaGreatDoorFxRules
namespace Go.Ix
open Go.Proofs
noncomputable def table:List (FuncId×FnT):=[(x3v,xi9),(xi,x78),(xk,xdn),(x2v,xia),(x3w,xib),(xz,xdo),(x3x,xic),(x3y,xid),(x2w,xie),(x1f,xif),(x3z,xig),(x40,xih),(x2x,xii),(x41,xij),(x2y,x79),(x1z,xik),(xr,x7a),(xt,x42),(x20,x43),(x21,x7b),(x10,x7c),(x22,x7d),(x1g,x7e),(x1h,x7f),(x11,x2z),(x12,x7g),(x1i,x7h),(x44,xil),(x30,xim),(x45,xin),(x46,xio),(x31,xip),(x47,xiq),(x1j,x7i),(x13,x7j),(x14,xdp),(xl,x7k),(xm,x7l),(x1k,x7m),(x23,x7n),(x1l,x7o),(x15,x7p),(x16,x7q),(x24,x7r),(x1m,x7s),(x1n,xir),(x32,xis),(x25,xit),(x33,xiu),(x34,xiv),(x48,xiw),(x49,xix),(x4a,xiy),(x4b,xiz),(x1o,x7t),(x7u,xj0),(x7v,xj1),(x7w,xj2),(x7x,xj3),(x26,x7y),(x1p,xdq),(x7z,xj4),(x80,xj5),(x27,x81),(xo,x82),(x4c,xj6),(x4d,xj7),(x4e,xj8),(x4f,xj9),(x4g,xja),(x35,xjb),(x4h,xjc),(xu,x83),(x4i,xjd),(x4j,xje),(xv,x84),(x4k,xjf),(x28,x85),(x4l,xjg),(x4m,xjh),(x4n,xji),(x4o,xjj),(x4p,xjk),(x29,x86),(x4q,xjl),(x4r,xjm),(x4s,xjn),(x4t,xjo),(x2a,xjp),(x4u,xjq),(x4v,xjr),(x4w,xjs),(x4x,xjt),(x4y,xju),(x2b,x87),(x4z,xjv),(x1q,xjw),(x36,xjx),(x50,xjy),(x51,xjz),(x52,xk0),(x53,xk1),(x54,xk2),(x55,xk3),(x1r,x88),(x56,xk4),(x57,xk5),(xh,xk6),(x58,xk7),(x59,xk8),(x5a,xk9),(x5b,xka)]
noncomputable def whole(f:FuncId):FnT:=λcall hs args m=>xsx Tryz.prog pol NN call hs f args m
noncomputable def xow:Nat->xou
 |0=>λ_ _ _ _=>none
 |d+1=>λhs f args m=>look (whole f) f table (xow d) hs args m
theorem xkb(d:Nat)(hs:FHs)(args:List AV)(m:Mem):xow (d+1) hs x2y args m=x79 (xow d) hs args m:=by kernel_rfl
theorem xkc(d:Nat)(hs:FHs)(args:List AV)(m:Mem):xow (d+1) hs xr args m=x7a (xow d) hs args m:=by kernel_rfl
theorem xdr(d:Nat)(hs:FHs)(args:List AV)(m:Mem):xow (d+1) hs xt args m=x42 (xow d) hs args m:=by kernel_rfl
theorem xds(d:Nat)(hs:FHs)(args:List AV)(m:Mem):xow (d+1) hs x20 args m=x43 (xow d) hs args m:=by kernel_rfl
theorem xkd(d:Nat)(hs:FHs)(args:List AV)(m:Mem):xow (d+1) hs x21 args m=x7b (xow d) hs args m:=by kernel_rfl
theorem xke(d:Nat)(hs:FHs)(args:List AV)(m:Mem):xow (d+1) hs x10 args m=x7c (xow d) hs args m:=by kernel_rfl
theorem xkf(d:Nat)(hs:FHs)(args:List AV)(m:Mem):xow (d+1) hs x22 args m=x7d (xow d) hs args m:=by kernel_rfl
theorem xkg(d:Nat)(hs:FHs)(args:List AV)(m:Mem):xow (d+1) hs x1g args m=x7e (xow d) hs args m:=by kernel_rfl
theorem xkh(d:Nat)(hs:FHs)(args:List AV)(m:Mem):xow (d+1) hs x1h args m=x7f (xow d) hs args m:=by kernel_rfl
theorem x89(d:Nat)(hs:FHs)(args:List AV)(m:Mem):xow (d+1) hs x11 args m=x2z (xow d) hs args m:=by kernel_rfl
theorem xki(d:Nat)(hs:FHs)(args:List AV)(m:Mem):xow (d+1) hs x12 args m=x7g (xow d) hs args m:=by kernel_rfl
theorem xkj(d:Nat)(hs:FHs)(args:List AV)(m:Mem):xow (d+1) hs x1i args m=x7h (xow d) hs args m:=by kernel_rfl
theorem xkk(d:Nat)(hs:FHs)(args:List AV)(m:Mem):xow (d+1) hs xi args m=x78 (xow d) hs args m:=by kernel_rfl
theorem xkl(d:Nat)(hs:FHs)(args:List AV)(m:Mem):xow (d+1) hs x1j args m=x7i (xow d) hs args m:=by kernel_rfl
theorem xkm(d:Nat)(hs:FHs)(args:List AV)(m:Mem):xow (d+1) hs x13 args m=x7j (xow d) hs args m:=by kernel_rfl
theorem xkn(d:Nat)(hs:FHs)(args:List AV)(m:Mem):xow (d+1) hs x14 args m=xdp (xow d) hs args m:=by kernel_rfl
theorem xko(d:Nat)(hs:FHs)(args:List AV)(m:Mem):xow (d+1) hs xl args m=x7k (xow d) hs args m:=by kernel_rfl
theorem xkp(d:Nat)(hs:FHs)(args:List AV)(m:Mem):xow (d+1) hs xm args m=x7l (xow d) hs args m:=by kernel_rfl
theorem xkq(d:Nat)(hs:FHs)(args:List AV)(m:Mem):xow (d+1) hs x1k args m=x7m (xow d) hs args m:=by kernel_rfl
theorem xkr(d:Nat)(hs:FHs)(args:List AV)(m:Mem):xow (d+1) hs x23 args m=x7n (xow d) hs args m:=by kernel_rfl
theorem xks(d:Nat)(hs:FHs)(args:List AV)(m:Mem):xow (d+1) hs x1l args m=x7o (xow d) hs args m:=by kernel_rfl
theorem xkt(d:Nat)(hs:FHs)(args:List AV)(m:Mem):xow (d+1) hs x15 args m=x7p (xow d) hs args m:=by kernel_rfl
theorem xku(d:Nat)(hs:FHs)(args:List AV)(m:Mem):xow (d+1) hs x16 args m=x7q (xow d) hs args m:=by kernel_rfl
theorem xkv(d:Nat)(hs:FHs)(args:List AV)(m:Mem):xow (d+1) hs x24 args m=x7r (xow d) hs args m:=by kernel_rfl
theorem xkw(d:Nat)(hs:FHs)(args:List AV)(m:Mem):xow (d+1) hs x1m args m=x7s (xow d) hs args m:=by kernel_rfl
theorem xkx(d:Nat)(hs:FHs)(args:List AV)(m:Mem):xow (d+1) hs x1o args m=x7t (xow d) hs args m:=by kernel_rfl
theorem xky(d:Nat)(hs:FHs)(args:List AV)(m:Mem):xow (d+1) hs xz args m=xdo (xow d) hs args m:=by kernel_rfl
theorem xkz(d:Nat)(hs:FHs)(args:List AV)(m:Mem):xow (d+1) hs x26 args m=x7y (xow d) hs args m:=by kernel_rfl
theorem xl0(d:Nat)(hs:FHs)(args:List AV)(m:Mem):xow (d+1) hs x1p args m=xdq (xow d) hs args m:=by kernel_rfl
theorem xl1(d:Nat)(hs:FHs)(args:List AV)(m:Mem):xow (d+1) hs x27 args m=x81 (xow d) hs args m:=by kernel_rfl
theorem xl2(d:Nat)(hs:FHs)(args:List AV)(m:Mem):xow (d+1) hs xo args m=x82 (xow d) hs args m:=by kernel_rfl
theorem xl3(d:Nat)(hs:FHs)(args:List AV)(m:Mem):xow (d+1) hs xu args m=x83 (xow d) hs args m:=by kernel_rfl
theorem xl4(d:Nat)(hs:FHs)(args:List AV)(m:Mem):xow (d+1) hs xk args m=xdn (xow d) hs args m:=by kernel_rfl
theorem xl5(d:Nat)(hs:FHs)(args:List AV)(m:Mem):xow (d+1) hs xv args m=x84 (xow d) hs args m:=by kernel_rfl
theorem xl6(d:Nat)(hs:FHs)(args:List AV)(m:Mem):xow (d+1) hs x28 args m=x85 (xow d) hs args m:=by kernel_rfl
theorem xl7(d:Nat)(hs:FHs)(args:List AV)(m:Mem):xow (d+1) hs x29 args m=x86 (xow d) hs args m:=by kernel_rfl
theorem xl8(d:Nat)(hs:FHs)(args:List AV)(m:Mem):xow (d+1) hs x2b args m=x87 (xow d) hs args m:=by kernel_rfl
theorem xl9(d:Nat)(hs:FHs)(args:List AV)(m:Mem):xow (d+1) hs x1r args m=x88 (xow d) hs args m:=by kernel_rfl
end Go.Ix
