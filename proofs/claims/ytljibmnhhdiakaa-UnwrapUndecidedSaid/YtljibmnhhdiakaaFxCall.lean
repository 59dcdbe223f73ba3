import Derived.Test.YtljibmnhhdiakaaFxText0
import Derived.Test.YtljibmnhhdiakaaFxText1
import Derived.Test.YtljibmnhhdiakaaFxEnt
import Derived.Test.YtljibmnhhdiakaaFxRules
namespace Go.Ix
open Go.Proofs
noncomputable def table:List (FuncId×FnT):=[(x54,xdd),(xo,xde),(x1i,xkr),(x1s,xdf),(x6j,xdg),(x3k,xks),(x9p,xx8),(x3l,xkt),(x3m,xdh),(x1b,xdi),(x55,xdj),(x3n,xdk),(x3o,x9q),(x2t,xdl),(xdm,xx9),(xdn,xxa),(xdo,xxb),(xdp,xxc),(xdq,xxd),(xdr,xxe),(xds,xxf),(xdt,xxg),(xdu,xxh),(xdv,xxi),(x7j,xdw),(xw,xxj),(x3p,xxk),(x56,xxl),(xr,xxm),(x2u,xxn),(x7k,xxo),(x6k,xxp),(x7l,xxq),(x7m,xxr),(x7n,xxs),(x2v,xdx),(x9r,xxt),(xx,xdy),(x2b,xdz),(x1t,xe0),(x7o,xxu),(x1u,xe1),(x57,xxv),(x9s,xxw),(x3q,xxx),(x9t,xxy),(x7,xe2),(x2w,xe3),(x2c,xe4),(x58,xxz),(xi,x7p),(x7q,xy0),(x3r,xku),(x9u,xy1),(x9v,xy2),(x9w,xy3),(x6l,xy4),(x9x,xy5),(x1v,xe5),(x9y,xy6),(x9z,xy7),(x59,xe6),(x2x,xe7),(x7r,xy8),(x6m,xy9),(x3s,xe8),(xa0,xya),(x3t,xa1),(x6n,xe9),(x7s,xyb),(x7t,xyc),(x5a,xyd),(x3u,xye),(x1w,xkv),(x1x,xa2),(xa3,xyf),(xa4,xyg),(x7u,xyh),(x1j,xea),(x5b,xeb),(x5c,xec),(x5d,xed),(x5e,xee),(x3v,xef),(x3w,xeg),(x5f,xeh),(x5g,xei),(x5h,xkw),(x2y,xkx),(x3x,xky),(x5i,xej),(x5j,xek),(x3y,xel),(xa5,xyi),(x5k,xkz),(x7v,xyj),(xa6,xyk),(xa7,xyl),(xa8,xym),(x7w,xyn),(x5l,xa9),(x3z,xem),(x40,xen),(xaa,xyo),(x5m,xeo),(x7x,xyp),(x5n,xep),(xab,xyq),(x5o,xeq),(x5p,xer),(x6o,xes),(x6p,xet),(x5q,xeu),(x5r,xac),(x5s,xev),(x5t,xew),(x5u,xex),(xad,xyr),(x6q,xae),(x41,xey),(x2d,xez),(x6r,xf0),(x6s,xys),(xaf,xyt)]
noncomputable def x1qp:Nat->x1qo
 |0=>fun _ _ _ _=>none
 |d+1=>fun hs f args m=>look f table (x1qp d) hs args m
theorem xyu(d:Nat)(hs:FHs)(args:List AV)(m:Mem):x1qp (d+1) hs x7j args m=xdw (x1qp d) hs args m:=by kernel_rfl
theorem xyv(d:Nat)(hs:FHs)(args:List AV)(m:Mem):x1qp (d+1) hs x2v args m=xdx (x1qp d) hs args m:=by kernel_rfl
theorem xyw(d:Nat)(hs:FHs)(args:List AV)(m:Mem):x1qp (d+1) hs xx args m=xdy (x1qp d) hs args m:=by kernel_rfl
theorem xyx(d:Nat)(hs:FHs)(args:List AV)(m:Mem):x1qp (d+1) hs x2b args m=xdz (x1qp d) hs args m:=by kernel_rfl
theorem xyy(d:Nat)(hs:FHs)(args:List AV)(m:Mem):x1qp (d+1) hs x1t args m=xe0 (x1qp d) hs args m:=by kernel_rfl
theorem xyz(d:Nat)(hs:FHs)(args:List AV)(m:Mem):x1qp (d+1) hs x1u args m=xe1 (x1qp d) hs args m:=by kernel_rfl
theorem xz0(d:Nat)(hs:FHs)(args:List AV)(m:Mem):x1qp (d+1) hs x7 args m=xe2 (x1qp d) hs args m:=by kernel_rfl
theorem xz1(d:Nat)(hs:FHs)(args:List AV)(m:Mem):x1qp (d+1) hs x2w args m=xe3 (x1qp d) hs args m:=by kernel_rfl
theorem xz2(d:Nat)(hs:FHs)(args:List AV)(m:Mem):x1qp (d+1) hs x2c args m=xe4 (x1qp d) hs args m:=by kernel_rfl
theorem xf1(d:Nat)(hs:FHs)(args:List AV)(m:Mem):x1qp (d+1) hs xi args m=x7p (x1qp d) hs args m:=by kernel_rfl
theorem xz3(d:Nat)(hs:FHs)(args:List AV)(m:Mem):x1qp (d+1) hs x3r args m=xku (x1qp d) hs args m:=by kernel_rfl
theorem xz4(d:Nat)(hs:FHs)(args:List AV)(m:Mem):x1qp (d+1) hs x1v args m=xe5 (x1qp d) hs args m:=by kernel_rfl
theorem xz5(d:Nat)(hs:FHs)(args:List AV)(m:Mem):x1qp (d+1) hs x59 args m=xe6 (x1qp d) hs args m:=by kernel_rfl
theorem xz6(d:Nat)(hs:FHs)(args:List AV)(m:Mem):x1qp (d+1) hs x2x args m=xe7 (x1qp d) hs args m:=by kernel_rfl
theorem xz7(d:Nat)(hs:FHs)(args:List AV)(m:Mem):x1qp (d+1) hs x3s args m=xe8 (x1qp d) hs args m:=by kernel_rfl
theorem xl0(d:Nat)(hs:FHs)(args:List AV)(m:Mem):x1qp (d+1) hs x3t args m=xa1 (x1qp d) hs args m:=by kernel_rfl
theorem xz8(d:Nat)(hs:FHs)(args:List AV)(m:Mem):x1qp (d+1) hs x6n args m=xe9 (x1qp d) hs args m:=by kernel_rfl
theorem xz9(d:Nat)(hs:FHs)(args:List AV)(m:Mem):x1qp (d+1) hs x1w args m=xkv (x1qp d) hs args m:=by kernel_rfl
theorem xl1(d:Nat)(hs:FHs)(args:List AV)(m:Mem):x1qp (d+1) hs x1x args m=xa2 (x1qp d) hs args m:=by kernel_rfl
theorem xza(d:Nat)(hs:FHs)(args:List AV)(m:Mem):x1qp (d+1) hs x1j args m=xea (x1qp d) hs args m:=by kernel_rfl
theorem xzb(d:Nat)(hs:FHs)(args:List AV)(m:Mem):x1qp (d+1) hs x5b args m=xeb (x1qp d) hs args m:=by kernel_rfl
theorem xzc(d:Nat)(hs:FHs)(args:List AV)(m:Mem):x1qp (d+1) hs x5c args m=xec (x1qp d) hs args m:=by kernel_rfl
theorem xzd(d:Nat)(hs:FHs)(args:List AV)(m:Mem):x1qp (d+1) hs x5d args m=xed (x1qp d) hs args m:=by kernel_rfl
theorem xze(d:Nat)(hs:FHs)(args:List AV)(m:Mem):x1qp (d+1) hs x5e args m=xee (x1qp d) hs args m:=by kernel_rfl
theorem xzf(d:Nat)(hs:FHs)(args:List AV)(m:Mem):x1qp (d+1) hs x3v args m=xef (x1qp d) hs args m:=by kernel_rfl
theorem xzg(d:Nat)(hs:FHs)(args:List AV)(m:Mem):x1qp (d+1) hs x3w args m=xeg (x1qp d) hs args m:=by kernel_rfl
theorem xzh(d:Nat)(hs:FHs)(args:List AV)(m:Mem):x1qp (d+1) hs x5f args m=xeh (x1qp d) hs args m:=by kernel_rfl
theorem xzi(d:Nat)(hs:FHs)(args:List AV)(m:Mem):x1qp (d+1) hs x5g args m=xei (x1qp d) hs args m:=by kernel_rfl
theorem xzj(d:Nat)(hs:FHs)(args:List AV)(m:Mem):x1qp (d+1) hs xo args m=xde (x1qp d) hs args m:=by kernel_rfl
theorem xzk(d:Nat)(hs:FHs)(args:List AV)(m:Mem):x1qp (d+1) hs x5h args m=xkw (x1qp d) hs args m:=by kernel_rfl
theorem xzl(d:Nat)(hs:FHs)(args:List AV)(m:Mem):x1qp (d+1) hs x2y args m=xkx (x1qp d) hs args m:=by kernel_rfl
theorem xzm(d:Nat)(hs:FHs)(args:List AV)(m:Mem):x1qp (d+1) hs x3x args m=xky (x1qp d) hs args m:=by kernel_rfl
theorem xzn(d:Nat)(hs:FHs)(args:List AV)(m:Mem):x1qp (d+1) hs x5i args m=xej (x1qp d) hs args m:=by kernel_rfl
theorem xzo(d:Nat)(hs:FHs)(args:List AV)(m:Mem):x1qp (d+1) hs x5j args m=xek (x1qp d) hs args m:=by kernel_rfl
theorem xzp(d:Nat)(hs:FHs)(args:List AV)(m:Mem):x1qp (d+1) hs x3y args m=xel (x1qp d) hs args m:=by kernel_rfl
theorem xzq(d:Nat)(hs:FHs)(args:List AV)(m:Mem):x1qp (d+1) hs x5k args m=xkz (x1qp d) hs args m:=by kernel_rfl
theorem xzr(d:Nat)(hs:FHs)(args:List AV)(m:Mem):x1qp (d+1) hs x1b args m=xdi (x1qp d) hs args m:=by kernel_rfl
theorem xzs(d:Nat)(hs:FHs)(args:List AV)(m:Mem):x1qp (d+1) hs x3m args m=xdh (x1qp d) hs args m:=by kernel_rfl
theorem xl2(d:Nat)(hs:FHs)(args:List AV)(m:Mem):x1qp (d+1) hs x5l args m=xa9 (x1qp d) hs args m:=by kernel_rfl
theorem xzt(d:Nat)(hs:FHs)(args:List AV)(m:Mem):x1qp (d+1) hs x3z args m=xem (x1qp d) hs args m:=by kernel_rfl
theorem xzu(d:Nat)(hs:FHs)(args:List AV)(m:Mem):x1qp (d+1) hs x40 args m=xen (x1qp d) hs args m:=by kernel_rfl
theorem xzv(d:Nat)(hs:FHs)(args:List AV)(m:Mem):x1qp (d+1) hs x55 args m=xdj (x1qp d) hs args m:=by kernel_rfl
theorem xzw(d:Nat)(hs:FHs)(args:List AV)(m:Mem):x1qp (d+1) hs x5m args m=xeo (x1qp d) hs args m:=by kernel_rfl
theorem xzx(d:Nat)(hs:FHs)(args:List AV)(m:Mem):x1qp (d+1) hs x5n args m=xep (x1qp d) hs args m:=by kernel_rfl
theorem xzy(d:Nat)(hs:FHs)(args:List AV)(m:Mem):x1qp (d+1) hs x5o args m=xeq (x1qp d) hs args m:=by kernel_rfl
theorem xl3(d:Nat)(hs:FHs)(args:List AV)(m:Mem):x1qp (d+1) hs x3o args m=x9q (x1qp d) hs args m:=by kernel_rfl
theorem xzz(d:Nat)(hs:FHs)(args:List AV)(m:Mem):x1qp (d+1) hs x2t args m=xdl (x1qp d) hs args m:=by kernel_rfl
theorem x100(d:Nat)(hs:FHs)(args:List AV)(m:Mem):x1qp (d+1) hs x5p args m=xer (x1qp d) hs args m:=by kernel_rfl
theorem x101(d:Nat)(hs:FHs)(args:List AV)(m:Mem):x1qp (d+1) hs x3n args m=xdk (x1qp d) hs args m:=by kernel_rfl
theorem x102(d:Nat)(hs:FHs)(args:List AV)(m:Mem):x1qp (d+1) hs x6o args m=xes (x1qp d) hs args m:=by kernel_rfl
theorem x103(d:Nat)(hs:FHs)(args:List AV)(m:Mem):x1qp (d+1) hs x6p args m=xet (x1qp d) hs args m:=by kernel_rfl
theorem x104(d:Nat)(hs:FHs)(args:List AV)(m:Mem):x1qp (d+1) hs x5q args m=xeu (x1qp d) hs args m:=by kernel_rfl
theorem xl4(d:Nat)(hs:FHs)(args:List AV)(m:Mem):x1qp (d+1) hs x5r args m=xac (x1qp d) hs args m:=by kernel_rfl
theorem x105(d:Nat)(hs:FHs)(args:List AV)(m:Mem):x1qp (d+1) hs x5s args m=xev (x1qp d) hs args m:=by kernel_rfl
theorem x106(d:Nat)(hs:FHs)(args:List AV)(m:Mem):x1qp (d+1) hs x5t args m=xew (x1qp d) hs args m:=by kernel_rfl
theorem x107(d:Nat)(hs:FHs)(args:List AV)(m:Mem):x1qp (d+1) hs x3k args m=xks (x1qp d) hs args m:=by kernel_rfl
theorem x108(d:Nat)(hs:FHs)(args:List AV)(m:Mem):x1qp (d+1) hs x1s args m=xdf (x1qp d) hs args m:=by kernel_rfl
theorem x109(d:Nat)(hs:FHs)(args:List AV)(m:Mem):x1qp (d+1) hs x3l args m=xkt (x1qp d) hs args m:=by kernel_rfl
theorem x10a(d:Nat)(hs:FHs)(args:List AV)(m:Mem):x1qp (d+1) hs x5u args m=xex (x1qp d) hs args m:=by kernel_rfl
theorem xl5(d:Nat)(hs:FHs)(args:List AV)(m:Mem):x1qp (d+1) hs x6q args m=xae (x1qp d) hs args m:=by kernel_rfl
theorem x10b(d:Nat)(hs:FHs)(args:List AV)(m:Mem):x1qp (d+1) hs x41 args m=xey (x1qp d) hs args m:=by kernel_rfl
theorem x10c(d:Nat)(hs:FHs)(args:List AV)(m:Mem):x1qp (d+1) hs x2d args m=xez (x1qp d) hs args m:=by kernel_rfl
theorem x10d(d:Nat)(hs:FHs)(args:List AV)(m:Mem):x1qp (d+1) hs x1i args m=xkr (x1qp d) hs args m:=by kernel_rfl
theorem x10e(d:Nat)(hs:FHs)(args:List AV)(m:Mem):x1qp (d+1) hs x6j args m=xdg (x1qp d) hs args m:=by kernel_rfl
theorem x10f(d:Nat)(hs:FHs)(args:List AV)(m:Mem):x1qp (d+1) hs x6r args m=xf0 (x1qp d) hs args m:=by kernel_rfl
theorem x10g(d:Nat)(hs:FHs)(args:List AV)(m:Mem):x1qp (d+1) hs x54 args m=xdd (x1qp d) hs args m:=by kernel_rfl
end Go.Ix
