import Derived.Test.YtacloojepepcfaaGreatDoorFxText0
import Derived.Test.YtacloojepepcfaaGreatDoorFxText1
import Derived.Test.YtacloojepepcfaaGreatDoorFxEnt
import Derived.Test.YtacloojepepcfaaGreatDoorFxRules
namespace Go.Ix
open Go.Proofs
noncomputable def table:List (FuncId×FnT):=[(x3v,xia),(xi,x78),(xk,xdo),(x2v,xib),(x3w,xic),(xz,xdp),(x3x,xid),(x3y,xie),(x2w,xif),(x1f,xig),(x3z,xih),(x40,xii),(x2x,xij),(x41,xik),(x2y,x79),(x1z,xil),(xr,x7a),(xt,x42),(x20,x43),(x21,x7b),(x10,x7c),(x22,x7d),(x1g,x7e),(x1h,x7f),(x11,x2z),(x12,x7g),(x1i,x7h),(x44,xim),(x30,xin),(x45,xio),(x46,xip),(x31,xiq),(x47,xir),(x1j,x7i),(x13,x7j),(x14,xdq),(xl,x7k),(xm,x7l),(x1k,x7m),(x23,x7n),(x1l,x7o),(x15,x7p),(x16,x7q),(x24,x7r),(x1m,x7s),(x1n,xis),(x32,xit),(x25,xiu),(x33,xiv),(x34,xiw),(x48,xix),(x49,xiy),(x4a,xiz),(x4b,xj0),(x1o,x7t),(x7u,xj1),(x7v,xj2),(x7w,xj3),(x7x,xj4),(x26,x7y),(x1p,xdr),(x7z,xj5),(x80,xj6),(x27,x81),(xo,x82),(x4c,xj7),(x4d,xj8),(x4e,xj9),(x4f,xja),(x4g,xjb),(x35,xjc),(x4h,xjd),(xu,x83),(x4i,xje),(x4j,xjf),(xv,x84),(x4k,xjg),(x28,x85),(x4l,xjh),(x4m,xji),(x4n,xjj),(x4o,xjk),(x4p,xjl),(x29,x86),(x4q,xjm),(x4r,xjn),(x4s,xjo),(x4t,xjp),(x2a,xjq),(x4u,xjr),(x4v,xjs),(x4w,xjt),(x4x,xju),(x4y,xjv),(x2b,x87),(x4z,xjw),(x1q,xjx),(x36,xjy),(x50,xjz),(x51,xk0),(x52,xk1),(x53,xk2),(x54,xk3),(x55,xk4),(x1r,x88),(x56,xk5),(x57,xk6),(xh,xk7),(x58,xk8),(x59,xk9),(x5a,xka),(x5b,xkb)]
noncomputable def whole(f:FuncId):FnT:=λcall hs args m=>xsy Tryz.prog pol NN call hs f args m
noncomputable def xox:Nat->xov
 |0=>λ_ _ _ _=>none
 |d+1=>λhs f args m=>look (whole f) f table (xox d) hs args m
theorem xkc(d:Nat)(hs:FHs)(args:List AV)(m:Mem):xox (d+1) hs x2y args m=x79 (xox d) hs args m:=by kernel_rfl
theorem xkd(d:Nat)(hs:FHs)(args:List AV)(m:Mem):xox (d+1) hs xr args m=x7a (xox d) hs args m:=by kernel_rfl
theorem xds(d:Nat)(hs:FHs)(args:List AV)(m:Mem):xox (d+1) hs xt args m=x42 (xox d) hs args m:=by kernel_rfl
theorem xdt(d:Nat)(hs:FHs)(args:List AV)(m:Mem):xox (d+1) hs x20 args m=x43 (xox d) hs args m:=by kernel_rfl
theorem xke(d:Nat)(hs:FHs)(args:List AV)(m:Mem):xox (d+1) hs x21 args m=x7b (xox d) hs args m:=by kernel_rfl
theorem xkf(d:Nat)(hs:FHs)(args:List AV)(m:Mem):xox (d+1) hs x10 args m=x7c (xox d) hs args m:=by kernel_rfl
theorem xkg(d:Nat)(hs:FHs)(args:List AV)(m:Mem):xox (d+1) hs x22 args m=x7d (xox d) hs args m:=by kernel_rfl
theorem xkh(d:Nat)(hs:FHs)(args:List AV)(m:Mem):xox (d+1) hs x1g args m=x7e (xox d) hs args m:=by kernel_rfl
theorem xki(d:Nat)(hs:FHs)(args:List AV)(m:Mem):xox (d+1) hs x1h args m=x7f (xox d) hs args m:=by kernel_rfl
theorem x89(d:Nat)(hs:FHs)(args:List AV)(m:Mem):xox (d+1) hs x11 args m=x2z (xox d) hs args m:=by kernel_rfl
theorem xkj(d:Nat)(hs:FHs)(args:List AV)(m:Mem):xox (d+1) hs x12 args m=x7g (xox d) hs args m:=by kernel_rfl
theorem xkk(d:Nat)(hs:FHs)(args:List AV)(m:Mem):xox (d+1) hs x1i args m=x7h (xox d) hs args m:=by kernel_rfl
theorem xkl(d:Nat)(hs:FHs)(args:List AV)(m:Mem):xox (d+1) hs xi args m=x78 (xox d) hs args m:=by kernel_rfl
theorem xkm(d:Nat)(hs:FHs)(args:List AV)(m:Mem):xox (d+1) hs x1j args m=x7i (xox d) hs args m:=by kernel_rfl
theorem xkn(d:Nat)(hs:FHs)(args:List AV)(m:Mem):xox (d+1) hs x13 args m=x7j (xox d) hs args m:=by kernel_rfl
theorem xko(d:Nat)(hs:FHs)(args:List AV)(m:Mem):xox (d+1) hs x14 args m=xdq (xox d) hs args m:=by kernel_rfl
theorem xkp(d:Nat)(hs:FHs)(args:List AV)(m:Mem):xox (d+1) hs xl args m=x7k (xox d) hs args m:=by kernel_rfl
theorem xkq(d:Nat)(hs:FHs)(args:List AV)(m:Mem):xox (d+1) hs xm args m=x7l (xox d) hs args m:=by kernel_rfl
theorem xkr(d:Nat)(hs:FHs)(args:List AV)(m:Mem):xox (d+1) hs x1k args m=x7m (xox d) hs args m:=by kernel_rfl
theorem xks(d:Nat)(hs:FHs)(args:List AV)(m:Mem):xox (d+1) hs x23 args m=x7n (xox d) hs args m:=by kernel_rfl
theorem xkt(d:Nat)(hs:FHs)(args:List AV)(m:Mem):xox (d+1) hs x1l args m=x7o (xox d) hs args m:=by kernel_rfl
theorem xku(d:Nat)(hs:FHs)(args:List AV)(m:Mem):xox (d+1) hs x15 args m=x7p (xox d) hs args m:=by kernel_rfl
theorem xkv(d:Nat)(hs:FHs)(args:List AV)(m:Mem):xox (d+1) hs x16 args m=x7q (xox d) hs args m:=by kernel_rfl
theorem xkw(d:Nat)(hs:FHs)(args:List AV)(m:Mem):xox (d+1) hs x24 args m=x7r (xox d) hs args m:=by kernel_rfl
theorem xkx(d:Nat)(hs:FHs)(args:List AV)(m:Mem):xox (d+1) hs x1m args m=x7s (xox d) hs args m:=by kernel_rfl
theorem xky(d:Nat)(hs:FHs)(args:List AV)(m:Mem):xox (d+1) hs x1o args m=x7t (xox d) hs args m:=by kernel_rfl
theorem xkz(d:Nat)(hs:FHs)(args:List AV)(m:Mem):xox (d+1) hs xz args m=xdp (xox d) hs args m:=by kernel_rfl
theorem xl0(d:Nat)(hs:FHs)(args:List AV)(m:Mem):xox (d+1) hs x26 args m=x7y (xox d) hs args m:=by kernel_rfl
theorem xl1(d:Nat)(hs:FHs)(args:List AV)(m:Mem):xox (d+1) hs x1p args m=xdr (xox d) hs args m:=by kernel_rfl
theorem xl2(d:Nat)(hs:FHs)(args:List AV)(m:Mem):xox (d+1) hs x27 args m=x81 (xox d) hs args m:=by kernel_rfl
theorem xl3(d:Nat)(hs:FHs)(args:List AV)(m:Mem):xox (d+1) hs xo args m=x82 (xox d) hs args m:=by kernel_rfl
theorem xl4(d:Nat)(hs:FHs)(args:List AV)(m:Mem):xox (d+1) hs xu args m=x83 (xox d) hs args m:=by kernel_rfl
theorem xl5(d:Nat)(hs:FHs)(args:List AV)(m:Mem):xox (d+1) hs xk args m=xdo (xox d) hs args m:=by kernel_rfl
theorem xl6(d:Nat)(hs:FHs)(args:List AV)(m:Mem):xox (d+1) hs xv args m=x84 (xox d) hs args m:=by kernel_rfl
theorem xl7(d:Nat)(hs:FHs)(args:List AV)(m:Mem):xox (d+1) hs x28 args m=x85 (xox d) hs args m:=by kernel_rfl
theorem xl8(d:Nat)(hs:FHs)(args:List AV)(m:Mem):xox (d+1) hs x29 args m=x86 (xox d) hs args m:=by kernel_rfl
theorem xl9(d:Nat)(hs:FHs)(args:List AV)(m:Mem):xox (d+1) hs x2b args m=x87 (xox d) hs args m:=by kernel_rfl
theorem xla(d:Nat)(hs:FHs)(args:List AV)(m:Mem):xox (d+1) hs x1r args m=x88 (xox d) hs args m:=by kernel_rfl
end Go.Ix
