import Derived.Test.YtaoalekmhjclnaaGreatDoorFxText0
import Derived.Test.YtaoalekmhjclnaaGreatDoorFxText1
import Derived.Test.YtaoalekmhjclnaaGreatDoorFxEnt
import Derived.Test.YtaoalekmhjclnaaGreatDoorFxRules
namespace Go.Ix
open Go.Proofs
noncomputable def table:List (FuncId×FnT):=[(x5k,xv8),(x4b,xbb),(x2x,xv9),(x1u,xbc),(x11,xbd),(x1g,xbe),(x1v,xbf),(x1w,xbg),(x1h,xbh),(x1x,xbi),(x1y,xbj),(x1z,xbk),(x5l,xva),(x5m,xvb),(x5n,xvc),(x4c,xvd),(x4d,xve),(x5o,xvf),(x5p,xvg),(x5q,xvh),(xm,xbl),(x18,xbm),(xv,xbn),(x20,xbo),(x21,xbp),(xp,xms),(x1i,xbq),(x1j,xbr),(x22,xbs),(x23,xbt),(x1k,xbu),(x1l,xbv),(xq,x5r),(x2y,xbw),(x2z,xbx),(x30,xby),(x31,xbz),(x5s,xvi),(x32,xvj),(x1m,xvk),(x5t,xvl),(x5u,xvm),(x1n,xc0),(x19,xmt),(x5v,xvn),(x5w,xvo),(x5x,xvp),(x4e,xvq),(x4f,xvr),(x4g,xvs),(x5y,xvt),(x5z,xvu),(x60,xvv),(x24,xc1),(x25,xc2),(x26,xvw),(x1o,xc3),(xn,xc4),(x33,xc5),(x27,xc6),(xr,xc7),(xw,xc8),(x34,xc9),(x35,xca),(x28,xcb),(x12,xcc),(x1a,xvx),(x61,xvy),(x4h,xvz),(x4i,xw0),(x4j,xw1),(x62,xw2),(x63,xw3),(x64,xw4),(x4k,xw5),(x65,xw6),(x36,xcd),(xx,xce),(x1p,xw7),(x4l,xw8),(x37,xcf),(x38,xcg),(x39,xch),(x3a,xci),(x1q,xcj),(x66,xw9),(x67,xwa),(x68,xwb),(x69,xwc),(x4m,xwd),(x1r,xwe),(x6a,xwf),(x6b,xwg),(x4n,xwh),(x29,xwi),(x3b,xwj),(x6c,xwk),(x4o,xwl),(x6d,xwm),(x3c,xwn),(x3d,xck),(x4p,xwo),(x1b,xcl),(x6e,xwp),(x1c,xwq),(x6f,xwr),(x4q,xws),(x6g,xwt),(x6h,xwu),(x6i,xwv),(x2a,xww),(x6j,xwx),(x6k,xwy),(x6l,xwz),(x6m,xx0),(x6n,xx1),(x4r,xx2),(x6o,xx3),(x6p,xx4),(x6q,xx5),(x6r,xx6),(x4s,xx7),(x3e,xcm),(x6s,xx8),(x4t,xx9),(x6t,xxa),(x4u,xxb),(x6u,xxc),(x6v,xxd),(x6w,xxe),(x6x,xxf),(x4v,xxg),(x4w,xxh),(x6y,xxi),(x4x,xxj),(x6z,xxk),(x70,xxl),(x4y,xxm),(x71,xxn),(x72,xxo),(x73,xxp),(x74,xxq),(x75,xxr),(x4z,xxs),(x76,xxt),(x77,xxu),(x78,xxv),(xcn,xxw),(xco,xxx),(xcp,xxy),(x79,xxz),(x7a,xy0),(x7b,xy1),(x7c,xy2),(x7d,xy3),(x7e,xy4),(x50,xy5),(x3f,xy6),(x51,xy7),(x7f,xy8),(x7g,xy9),(x7h,xya),(x7i,xyb),(x7j,xyc),(x7k,xyd),(x52,xye),(x7l,xyf),(x7m,xyg),(x7n,xyh),(x7o,xyi),(x53,xyj),(x2b,xyk),(x7p,xyl),(x7q,xym),(x7r,xyn),(x7s,xyo),(x7t,xyp),(x7u,xyq),(xf,xyr),(x7v,xys),(x7w,xyt),(x7x,xyu),(x54,xyv),(x7y,xyw),(x2c,xyx),(x55,xyy),(x7z,xyz),(x80,xz0),(x81,xz1),(x82,xz2),(x83,xz3),(x84,xz4),(x85,xz5),(x56,xz6),(x86,xz7),(x87,xz8),(x3g,xz9),(x57,xza),(x58,xzb),(xi,xzc),(x88,xzd),(x89,xze),(x8a,xzf),(x8b,xzg),(x8c,xzh),(x3h,xzi),(x3i,xzj),(x8d,xzk),(x8e,xzl)]
noncomputable def whole(f:FuncId):FnT:=λcall hs args m=>x1bu Tryz.prog pol NN call hs f args m
noncomputable def x180:Nat->x17y
 |0=>λ_ _ _ _=>none
 |d+1=>λhs f args m=>look (whole f) f table (x180 d) hs args m
theorem xzm(d:Nat)(hs:FHs)(args:List AV)(m:Mem):x180 (d+1) hs x4b args m=xbb (x180 d) hs args m:=by kernel_rfl
theorem xzn(d:Nat)(hs:FHs)(args:List AV)(m:Mem):x180 (d+1) hs x1u args m=xbc (x180 d) hs args m:=by kernel_rfl
theorem xzo(d:Nat)(hs:FHs)(args:List AV)(m:Mem):x180 (d+1) hs x11 args m=xbd (x180 d) hs args m:=by kernel_rfl
theorem xzp(d:Nat)(hs:FHs)(args:List AV)(m:Mem):x180 (d+1) hs x1g args m=xbe (x180 d) hs args m:=by kernel_rfl
theorem xzq(d:Nat)(hs:FHs)(args:List AV)(m:Mem):x180 (d+1) hs x1v args m=xbf (x180 d) hs args m:=by kernel_rfl
theorem xzr(d:Nat)(hs:FHs)(args:List AV)(m:Mem):x180 (d+1) hs x1w args m=xbg (x180 d) hs args m:=by kernel_rfl
theorem xzs(d:Nat)(hs:FHs)(args:List AV)(m:Mem):x180 (d+1) hs x1h args m=xbh (x180 d) hs args m:=by kernel_rfl
theorem xzt(d:Nat)(hs:FHs)(args:List AV)(m:Mem):x180 (d+1) hs x1x args m=xbi (x180 d) hs args m:=by kernel_rfl
theorem xzu(d:Nat)(hs:FHs)(args:List AV)(m:Mem):x180 (d+1) hs x1y args m=xbj (x180 d) hs args m:=by kernel_rfl
theorem xzv(d:Nat)(hs:FHs)(args:List AV)(m:Mem):x180 (d+1) hs x1z args m=xbk (x180 d) hs args m:=by kernel_rfl
theorem xzw(d:Nat)(hs:FHs)(args:List AV)(m:Mem):x180 (d+1) hs xm args m=xbl (x180 d) hs args m:=by kernel_rfl
theorem xzx(d:Nat)(hs:FHs)(args:List AV)(m:Mem):x180 (d+1) hs x18 args m=xbm (x180 d) hs args m:=by kernel_rfl
theorem xzy(d:Nat)(hs:FHs)(args:List AV)(m:Mem):x180 (d+1) hs xv args m=xbn (x180 d) hs args m:=by kernel_rfl
theorem xzz(d:Nat)(hs:FHs)(args:List AV)(m:Mem):x180 (d+1) hs x20 args m=xbo (x180 d) hs args m:=by kernel_rfl
theorem x100(d:Nat)(hs:FHs)(args:List AV)(m:Mem):x180 (d+1) hs x21 args m=xbp (x180 d) hs args m:=by kernel_rfl
theorem x101(d:Nat)(hs:FHs)(args:List AV)(m:Mem):x180 (d+1) hs xp args m=xms (x180 d) hs args m:=by kernel_rfl
theorem x102(d:Nat)(hs:FHs)(args:List AV)(m:Mem):x180 (d+1) hs x1i args m=xbq (x180 d) hs args m:=by kernel_rfl
theorem x103(d:Nat)(hs:FHs)(args:List AV)(m:Mem):x180 (d+1) hs x1j args m=xbr (x180 d) hs args m:=by kernel_rfl
theorem x104(d:Nat)(hs:FHs)(args:List AV)(m:Mem):x180 (d+1) hs x22 args m=xbs (x180 d) hs args m:=by kernel_rfl
theorem x105(d:Nat)(hs:FHs)(args:List AV)(m:Mem):x180 (d+1) hs x23 args m=xbt (x180 d) hs args m:=by kernel_rfl
theorem x106(d:Nat)(hs:FHs)(args:List AV)(m:Mem):x180 (d+1) hs x1k args m=xbu (x180 d) hs args m:=by kernel_rfl
theorem x107(d:Nat)(hs:FHs)(args:List AV)(m:Mem):x180 (d+1) hs x1l args m=xbv (x180 d) hs args m:=by kernel_rfl
theorem xmu(d:Nat)(hs:FHs)(args:List AV)(m:Mem):x180 (d+1) hs xq args m=x5r (x180 d) hs args m:=by kernel_rfl
theorem x108(d:Nat)(hs:FHs)(args:List AV)(m:Mem):x180 (d+1) hs x2y args m=xbw (x180 d) hs args m:=by kernel_rfl
theorem x109(d:Nat)(hs:FHs)(args:List AV)(m:Mem):x180 (d+1) hs x2z args m=xbx (x180 d) hs args m:=by kernel_rfl
theorem x10a(d:Nat)(hs:FHs)(args:List AV)(m:Mem):x180 (d+1) hs x30 args m=xby (x180 d) hs args m:=by kernel_rfl
theorem x10b(d:Nat)(hs:FHs)(args:List AV)(m:Mem):x180 (d+1) hs x31 args m=xbz (x180 d) hs args m:=by kernel_rfl
theorem x10c(d:Nat)(hs:FHs)(args:List AV)(m:Mem):x180 (d+1) hs x1n args m=xc0 (x180 d) hs args m:=by kernel_rfl
theorem x10d(d:Nat)(hs:FHs)(args:List AV)(m:Mem):x180 (d+1) hs x19 args m=xmt (x180 d) hs args m:=by kernel_rfl
theorem x10e(d:Nat)(hs:FHs)(args:List AV)(m:Mem):x180 (d+1) hs x24 args m=xc1 (x180 d) hs args m:=by kernel_rfl
theorem x10f(d:Nat)(hs:FHs)(args:List AV)(m:Mem):x180 (d+1) hs x25 args m=xc2 (x180 d) hs args m:=by kernel_rfl
theorem x10g(d:Nat)(hs:FHs)(args:List AV)(m:Mem):x180 (d+1) hs x1o args m=xc3 (x180 d) hs args m:=by kernel_rfl
theorem x10h(d:Nat)(hs:FHs)(args:List AV)(m:Mem):x180 (d+1) hs xn args m=xc4 (x180 d) hs args m:=by kernel_rfl
theorem x10i(d:Nat)(hs:FHs)(args:List AV)(m:Mem):x180 (d+1) hs x33 args m=xc5 (x180 d) hs args m:=by kernel_rfl
theorem x10j(d:Nat)(hs:FHs)(args:List AV)(m:Mem):x180 (d+1) hs x27 args m=xc6 (x180 d) hs args m:=by kernel_rfl
theorem x10k(d:Nat)(hs:FHs)(args:List AV)(m:Mem):x180 (d+1) hs xr args m=xc7 (x180 d) hs args m:=by kernel_rfl
theorem x10l(d:Nat)(hs:FHs)(args:List AV)(m:Mem):x180 (d+1) hs xw args m=xc8 (x180 d) hs args m:=by kernel_rfl
theorem x10m(d:Nat)(hs:FHs)(args:List AV)(m:Mem):x180 (d+1) hs x34 args m=xc9 (x180 d) hs args m:=by kernel_rfl
theorem x10n(d:Nat)(hs:FHs)(args:List AV)(m:Mem):x180 (d+1) hs x35 args m=xca (x180 d) hs args m:=by kernel_rfl
theorem x10o(d:Nat)(hs:FHs)(args:List AV)(m:Mem):x180 (d+1) hs x28 args m=xcb (x180 d) hs args m:=by kernel_rfl
theorem x10p(d:Nat)(hs:FHs)(args:List AV)(m:Mem):x180 (d+1) hs x12 args m=xcc (x180 d) hs args m:=by kernel_rfl
theorem x10q(d:Nat)(hs:FHs)(args:List AV)(m:Mem):x180 (d+1) hs x36 args m=xcd (x180 d) hs args m:=by kernel_rfl
theorem x10r(d:Nat)(hs:FHs)(args:List AV)(m:Mem):x180 (d+1) hs xx args m=xce (x180 d) hs args m:=by kernel_rfl
theorem x10s(d:Nat)(hs:FHs)(args:List AV)(m:Mem):x180 (d+1) hs x37 args m=xcf (x180 d) hs args m:=by kernel_rfl
theorem x10t(d:Nat)(hs:FHs)(args:List AV)(m:Mem):x180 (d+1) hs x38 args m=xcg (x180 d) hs args m:=by kernel_rfl
theorem x10u(d:Nat)(hs:FHs)(args:List AV)(m:Mem):x180 (d+1) hs x39 args m=xch (x180 d) hs args m:=by kernel_rfl
theorem x10v(d:Nat)(hs:FHs)(args:List AV)(m:Mem):x180 (d+1) hs x3a args m=xci (x180 d) hs args m:=by kernel_rfl
theorem x10w(d:Nat)(hs:FHs)(args:List AV)(m:Mem):x180 (d+1) hs x1q args m=xcj (x180 d) hs args m:=by kernel_rfl
theorem x10x(d:Nat)(hs:FHs)(args:List AV)(m:Mem):x180 (d+1) hs x3d args m=xck (x180 d) hs args m:=by kernel_rfl
theorem x10y(d:Nat)(hs:FHs)(args:List AV)(m:Mem):x180 (d+1) hs x1b args m=xcl (x180 d) hs args m:=by kernel_rfl
theorem x10z(d:Nat)(hs:FHs)(args:List AV)(m:Mem):x180 (d+1) hs x3e args m=xcm (x180 d) hs args m:=by kernel_rfl
end Go.Ix
