import Derived.Test.YtpeakdjfagbpcaaGreatFxText0
import Derived.Test.YtpeakdjfagbpcaaGreatFxText1
import Derived.Test.YtpeakdjfagbpcaaGreatFxEnt
import Derived.Test.YtpeakdjfagbpcaaGreatFxRules
namespace Go.Ix
open Go.Proofs
noncomputable def table:List (FuncId×FnT):=[(xba,x1bp),(x1o,xgl),(xbb,x1bq),(x5t,x1br),(xbc,x1bs),(xbd,x1bt),(xbe,x1bu),(xbf,x1bv),(xbg,x1bw),(xbh,x1bx),(x5u,xgm),(xbi,x1by),(xgn,x1bz),(xgo,x1c0),(xgp,x1c1),(x8o,xgq),(xgr,x1c2),(x1w,x1c3),(x2s,xgs),(x75,x1c4),(xy,xbj),(x1x,xgt),(xg,xgu),(xbk,x1c5),(x2t,x1c6),(xbl,x1c7),(x3h,xgv),(xbm,x1c8),(xbn,x1c9),(x5v,xgw),(xgx,x1ca),(x3i,xgy),(x1h,x8p),(x5w,xgz),(xh0,x1cb),(xbo,x1cc),(x5x,xh1),(xbp,x1cd),(x3j,xh2),(x3k,xs7),(xbq,x1ce),(x8q,x1cf),(x8r,x1cg),(xbr,x1ch),(xbs,x1ci),(x76,xh3),(x5y,xh4),(x77,xh5),(x3l,xh6),(x2u,xh7),(x3m,xh8),(xbt,x1cj),(x2v,xh9),(x78,xha),(x8s,x1ck),(x79,x1cl),(x1p,xhb),(xz,xhc),(x1y,xhd),(x3n,xhe),(xbu,x1cm),(x2w,xhf),(x3o,xhg),(x3p,xhh),(x1q,xhi),(x7a,xhj),(x2x,xhk),(x2y,xhl),(x3q,xhm),(xbv,x1cn),(xbw,x1co),(x8t,x1cp),(x7b,xhn),(x1i,xho),(x1j,xhp),(x1z,xbx),(xby,x1cq),(x7c,xhq),(xbz,x1cr),(x5z,xhr),(x60,xhs),(x3r,xht),(x61,xhu),(xc0,x1cs),(x62,xhv),(x63,xhw),(x3s,xhx),(x3t,xhy),(x7d,xhz),(xc1,x1ct),(x64,xi0),(x65,xi1),(x66,xi2),(x1k,xi3),(x7e,xi4),(x7f,xi5),(x7g,xi6),(xu,xi7),(x7h,xi8),(xc2,x1cu),(x3u,xi9),(x7i,xia),(x3v,xib),(xc3,x1cv),(x8u,x1cw),(xc4,x1cx),(x7j,xic),(x67,xid),(x7k,xie),(x7l,xif),(x3w,xig),(x7m,xih),(x68,xii),(x69,xij),(xc5,x1cy),(x8v,x1cz),(xc6,x1d0),(xc7,x1d1),(xc8,x1d2),(x8w,xik),(x6a,xil),(x6b,xim),(x2z,xin),(x7n,xio),(x8x,x1d3),(x6c,xip),(x6d,x1d4),(x7o,xiq),(xc9,x1d5),(xca,x1d6),(xcb,x1d7),(xcc,x1d8),(xcd,x1d9),(xh,xir),(xce,x1da),(xcf,x1db),(xcg,x1dc),(x7p,xis),(xch,x1dd),(xci,x1de),(x8y,x1df),(xcj,x1dg),(xck,x1dh),(x7q,x1di),(x8z,x1dj),(x6e,xit),(xcl,x1dk),(x7r,x1dl),(x7s,x1dm)]
noncomputable def x2i6:Nat->x2i5
 |0=>fun _ _ _ _=>none
 |d+1=>fun hs f args m=>look f table (x2i6 d) hs args m
theorem x1dn(d:Nat)(hs:FHs)(args:List AV)(m:Mem):x2i6 (d+1) hs x8o args m=xgq (x2i6 d) hs args m:=by kernel_rfl
theorem x1do(d:Nat)(hs:FHs)(args:List AV)(m:Mem):x2i6 (d+1) hs x2s args m=xgs (x2i6 d) hs args m:=by kernel_rfl
theorem xs8(d:Nat)(hs:FHs)(args:List AV)(m:Mem):x2i6 (d+1) hs xy args m=xbj (x2i6 d) hs args m:=by kernel_rfl
theorem x1dp(d:Nat)(hs:FHs)(args:List AV)(m:Mem):x2i6 (d+1) hs x1x args m=xgt (x2i6 d) hs args m:=by kernel_rfl
theorem x1dq(d:Nat)(hs:FHs)(args:List AV)(m:Mem):x2i6 (d+1) hs xg args m=xgu (x2i6 d) hs args m:=by kernel_rfl
theorem x1dr(d:Nat)(hs:FHs)(args:List AV)(m:Mem):x2i6 (d+1) hs x3h args m=xgv (x2i6 d) hs args m:=by kernel_rfl
theorem x1ds(d:Nat)(hs:FHs)(args:List AV)(m:Mem):x2i6 (d+1) hs x5v args m=xgw (x2i6 d) hs args m:=by kernel_rfl
theorem x1dt(d:Nat)(hs:FHs)(args:List AV)(m:Mem):x2i6 (d+1) hs x3i args m=xgy (x2i6 d) hs args m:=by kernel_rfl
theorem xiu(d:Nat)(hs:FHs)(args:List AV)(m:Mem):x2i6 (d+1) hs x1h args m=x8p (x2i6 d) hs args m:=by kernel_rfl
theorem x1du(d:Nat)(hs:FHs)(args:List AV)(m:Mem):x2i6 (d+1) hs x5w args m=xgz (x2i6 d) hs args m:=by kernel_rfl
theorem x1dv(d:Nat)(hs:FHs)(args:List AV)(m:Mem):x2i6 (d+1) hs x5x args m=xh1 (x2i6 d) hs args m:=by kernel_rfl
theorem x1dw(d:Nat)(hs:FHs)(args:List AV)(m:Mem):x2i6 (d+1) hs x3j args m=xh2 (x2i6 d) hs args m:=by kernel_rfl
theorem x1dx(d:Nat)(hs:FHs)(args:List AV)(m:Mem):x2i6 (d+1) hs x3k args m=xs7 (x2i6 d) hs args m:=by kernel_rfl
theorem x1dy(d:Nat)(hs:FHs)(args:List AV)(m:Mem):x2i6 (d+1) hs x76 args m=xh3 (x2i6 d) hs args m:=by kernel_rfl
theorem x1dz(d:Nat)(hs:FHs)(args:List AV)(m:Mem):x2i6 (d+1) hs x5y args m=xh4 (x2i6 d) hs args m:=by kernel_rfl
theorem x1e0(d:Nat)(hs:FHs)(args:List AV)(m:Mem):x2i6 (d+1) hs x77 args m=xh5 (x2i6 d) hs args m:=by kernel_rfl
theorem x1e1(d:Nat)(hs:FHs)(args:List AV)(m:Mem):x2i6 (d+1) hs x3l args m=xh6 (x2i6 d) hs args m:=by kernel_rfl
theorem x1e2(d:Nat)(hs:FHs)(args:List AV)(m:Mem):x2i6 (d+1) hs x2u args m=xh7 (x2i6 d) hs args m:=by kernel_rfl
theorem x1e3(d:Nat)(hs:FHs)(args:List AV)(m:Mem):x2i6 (d+1) hs x3m args m=xh8 (x2i6 d) hs args m:=by kernel_rfl
theorem x1e4(d:Nat)(hs:FHs)(args:List AV)(m:Mem):x2i6 (d+1) hs x2v args m=xh9 (x2i6 d) hs args m:=by kernel_rfl
theorem x1e5(d:Nat)(hs:FHs)(args:List AV)(m:Mem):x2i6 (d+1) hs x78 args m=xha (x2i6 d) hs args m:=by kernel_rfl
theorem x1e6(d:Nat)(hs:FHs)(args:List AV)(m:Mem):x2i6 (d+1) hs x1p args m=xhb (x2i6 d) hs args m:=by kernel_rfl
theorem x1e7(d:Nat)(hs:FHs)(args:List AV)(m:Mem):x2i6 (d+1) hs xz args m=xhc (x2i6 d) hs args m:=by kernel_rfl
theorem x1e8(d:Nat)(hs:FHs)(args:List AV)(m:Mem):x2i6 (d+1) hs x1y args m=xhd (x2i6 d) hs args m:=by kernel_rfl
theorem x1e9(d:Nat)(hs:FHs)(args:List AV)(m:Mem):x2i6 (d+1) hs x3n args m=xhe (x2i6 d) hs args m:=by kernel_rfl
theorem x1ea(d:Nat)(hs:FHs)(args:List AV)(m:Mem):x2i6 (d+1) hs x2w args m=xhf (x2i6 d) hs args m:=by kernel_rfl
theorem x1eb(d:Nat)(hs:FHs)(args:List AV)(m:Mem):x2i6 (d+1) hs x3o args m=xhg (x2i6 d) hs args m:=by kernel_rfl
theorem x1ec(d:Nat)(hs:FHs)(args:List AV)(m:Mem):x2i6 (d+1) hs x3p args m=xhh (x2i6 d) hs args m:=by kernel_rfl
theorem x1ed(d:Nat)(hs:FHs)(args:List AV)(m:Mem):x2i6 (d+1) hs x1q args m=xhi (x2i6 d) hs args m:=by kernel_rfl
theorem x1ee(d:Nat)(hs:FHs)(args:List AV)(m:Mem):x2i6 (d+1) hs x7a args m=xhj (x2i6 d) hs args m:=by kernel_rfl
theorem x1ef(d:Nat)(hs:FHs)(args:List AV)(m:Mem):x2i6 (d+1) hs x2x args m=xhk (x2i6 d) hs args m:=by kernel_rfl
theorem x1eg(d:Nat)(hs:FHs)(args:List AV)(m:Mem):x2i6 (d+1) hs x2y args m=xhl (x2i6 d) hs args m:=by kernel_rfl
theorem x1eh(d:Nat)(hs:FHs)(args:List AV)(m:Mem):x2i6 (d+1) hs x3q args m=xhm (x2i6 d) hs args m:=by kernel_rfl
theorem x1ei(d:Nat)(hs:FHs)(args:List AV)(m:Mem):x2i6 (d+1) hs x7b args m=xhn (x2i6 d) hs args m:=by kernel_rfl
theorem x1ej(d:Nat)(hs:FHs)(args:List AV)(m:Mem):x2i6 (d+1) hs x1i args m=xho (x2i6 d) hs args m:=by kernel_rfl
theorem x1ek(d:Nat)(hs:FHs)(args:List AV)(m:Mem):x2i6 (d+1) hs x1j args m=xhp (x2i6 d) hs args m:=by kernel_rfl
theorem xs9(d:Nat)(hs:FHs)(args:List AV)(m:Mem):x2i6 (d+1) hs x1z args m=xbx (x2i6 d) hs args m:=by kernel_rfl
theorem x1el(d:Nat)(hs:FHs)(args:List AV)(m:Mem):x2i6 (d+1) hs x7c args m=xhq (x2i6 d) hs args m:=by kernel_rfl
theorem x1em(d:Nat)(hs:FHs)(args:List AV)(m:Mem):x2i6 (d+1) hs x5z args m=xhr (x2i6 d) hs args m:=by kernel_rfl
theorem x1en(d:Nat)(hs:FHs)(args:List AV)(m:Mem):x2i6 (d+1) hs x60 args m=xhs (x2i6 d) hs args m:=by kernel_rfl
theorem x1eo(d:Nat)(hs:FHs)(args:List AV)(m:Mem):x2i6 (d+1) hs x3r args m=xht (x2i6 d) hs args m:=by kernel_rfl
theorem x1ep(d:Nat)(hs:FHs)(args:List AV)(m:Mem):x2i6 (d+1) hs x61 args m=xhu (x2i6 d) hs args m:=by kernel_rfl
theorem x1eq(d:Nat)(hs:FHs)(args:List AV)(m:Mem):x2i6 (d+1) hs x62 args m=xhv (x2i6 d) hs args m:=by kernel_rfl
theorem x1er(d:Nat)(hs:FHs)(args:List AV)(m:Mem):x2i6 (d+1) hs x63 args m=xhw (x2i6 d) hs args m:=by kernel_rfl
theorem x1es(d:Nat)(hs:FHs)(args:List AV)(m:Mem):x2i6 (d+1) hs x3s args m=xhx (x2i6 d) hs args m:=by kernel_rfl
theorem x1et(d:Nat)(hs:FHs)(args:List AV)(m:Mem):x2i6 (d+1) hs x3t args m=xhy (x2i6 d) hs args m:=by kernel_rfl
theorem x1eu(d:Nat)(hs:FHs)(args:List AV)(m:Mem):x2i6 (d+1) hs x7d args m=xhz (x2i6 d) hs args m:=by kernel_rfl
theorem x1ev(d:Nat)(hs:FHs)(args:List AV)(m:Mem):x2i6 (d+1) hs x64 args m=xi0 (x2i6 d) hs args m:=by kernel_rfl
theorem x1ew(d:Nat)(hs:FHs)(args:List AV)(m:Mem):x2i6 (d+1) hs x65 args m=xi1 (x2i6 d) hs args m:=by kernel_rfl
theorem x1ex(d:Nat)(hs:FHs)(args:List AV)(m:Mem):x2i6 (d+1) hs x66 args m=xi2 (x2i6 d) hs args m:=by kernel_rfl
theorem x1ey(d:Nat)(hs:FHs)(args:List AV)(m:Mem):x2i6 (d+1) hs x1k args m=xi3 (x2i6 d) hs args m:=by kernel_rfl
theorem x1ez(d:Nat)(hs:FHs)(args:List AV)(m:Mem):x2i6 (d+1) hs x7e args m=xi4 (x2i6 d) hs args m:=by kernel_rfl
theorem x1f0(d:Nat)(hs:FHs)(args:List AV)(m:Mem):x2i6 (d+1) hs x7f args m=xi5 (x2i6 d) hs args m:=by kernel_rfl
theorem x1f1(d:Nat)(hs:FHs)(args:List AV)(m:Mem):x2i6 (d+1) hs x7g args m=xi6 (x2i6 d) hs args m:=by kernel_rfl
theorem x1f2(d:Nat)(hs:FHs)(args:List AV)(m:Mem):x2i6 (d+1) hs xu args m=xi7 (x2i6 d) hs args m:=by kernel_rfl
theorem x1f3(d:Nat)(hs:FHs)(args:List AV)(m:Mem):x2i6 (d+1) hs x7h args m=xi8 (x2i6 d) hs args m:=by kernel_rfl
theorem x1f4(d:Nat)(hs:FHs)(args:List AV)(m:Mem):x2i6 (d+1) hs x3u args m=xi9 (x2i6 d) hs args m:=by kernel_rfl
theorem x1f5(d:Nat)(hs:FHs)(args:List AV)(m:Mem):x2i6 (d+1) hs x5u args m=xgm (x2i6 d) hs args m:=by kernel_rfl
theorem x1f6(d:Nat)(hs:FHs)(args:List AV)(m:Mem):x2i6 (d+1) hs x7i args m=xia (x2i6 d) hs args m:=by kernel_rfl
theorem x1f7(d:Nat)(hs:FHs)(args:List AV)(m:Mem):x2i6 (d+1) hs x3v args m=xib (x2i6 d) hs args m:=by kernel_rfl
theorem x1f8(d:Nat)(hs:FHs)(args:List AV)(m:Mem):x2i6 (d+1) hs x7j args m=xic (x2i6 d) hs args m:=by kernel_rfl
theorem x1f9(d:Nat)(hs:FHs)(args:List AV)(m:Mem):x2i6 (d+1) hs x67 args m=xid (x2i6 d) hs args m:=by kernel_rfl
theorem x1fa(d:Nat)(hs:FHs)(args:List AV)(m:Mem):x2i6 (d+1) hs x7k args m=xie (x2i6 d) hs args m:=by kernel_rfl
theorem x1fb(d:Nat)(hs:FHs)(args:List AV)(m:Mem):x2i6 (d+1) hs x7l args m=xif (x2i6 d) hs args m:=by kernel_rfl
theorem x1fc(d:Nat)(hs:FHs)(args:List AV)(m:Mem):x2i6 (d+1) hs x3w args m=xig (x2i6 d) hs args m:=by kernel_rfl
theorem x1fd(d:Nat)(hs:FHs)(args:List AV)(m:Mem):x2i6 (d+1) hs x7m args m=xih (x2i6 d) hs args m:=by kernel_rfl
theorem x1fe(d:Nat)(hs:FHs)(args:List AV)(m:Mem):x2i6 (d+1) hs x68 args m=xii (x2i6 d) hs args m:=by kernel_rfl
theorem x1ff(d:Nat)(hs:FHs)(args:List AV)(m:Mem):x2i6 (d+1) hs x69 args m=xij (x2i6 d) hs args m:=by kernel_rfl
theorem x1fg(d:Nat)(hs:FHs)(args:List AV)(m:Mem):x2i6 (d+1) hs x8w args m=xik (x2i6 d) hs args m:=by kernel_rfl
theorem x1fh(d:Nat)(hs:FHs)(args:List AV)(m:Mem):x2i6 (d+1) hs x6a args m=xil (x2i6 d) hs args m:=by kernel_rfl
theorem x1fi(d:Nat)(hs:FHs)(args:List AV)(m:Mem):x2i6 (d+1) hs x6b args m=xim (x2i6 d) hs args m:=by kernel_rfl
theorem x1fj(d:Nat)(hs:FHs)(args:List AV)(m:Mem):x2i6 (d+1) hs x1o args m=xgl (x2i6 d) hs args m:=by kernel_rfl
theorem x1fk(d:Nat)(hs:FHs)(args:List AV)(m:Mem):x2i6 (d+1) hs x2z args m=xin (x2i6 d) hs args m:=by kernel_rfl
theorem x1fl(d:Nat)(hs:FHs)(args:List AV)(m:Mem):x2i6 (d+1) hs x7n args m=xio (x2i6 d) hs args m:=by kernel_rfl
theorem x1fm(d:Nat)(hs:FHs)(args:List AV)(m:Mem):x2i6 (d+1) hs x6c args m=xip (x2i6 d) hs args m:=by kernel_rfl
theorem x1fn(d:Nat)(hs:FHs)(args:List AV)(m:Mem):x2i6 (d+1) hs x7o args m=xiq (x2i6 d) hs args m:=by kernel_rfl
theorem x1fo(d:Nat)(hs:FHs)(args:List AV)(m:Mem):x2i6 (d+1) hs xh args m=xir (x2i6 d) hs args m:=by kernel_rfl
theorem x1fp(d:Nat)(hs:FHs)(args:List AV)(m:Mem):x2i6 (d+1) hs x7p args m=xis (x2i6 d) hs args m:=by kernel_rfl
theorem x1fq(d:Nat)(hs:FHs)(args:List AV)(m:Mem):x2i6 (d+1) hs x6e args m=xit (x2i6 d) hs args m:=by kernel_rfl
end Go.Ix
