import Derived.Test.YtljibmnhhdiakaaFxEq0
import Derived.Test.YtljibmnhhdiakaaFxEq1
import Derived.Test.YtljibmnhhdiakaaFxCall
namespace Go.Ix
open Go.Proofs
theorem told:Told Try.prog pol NN table:=⟨xzb,xzc,xzd,xze,xzf,xzg,xzh,xzi,xzj,xzk,xzl,xzm,xzn,xzo,xzp,xzq,xzr,xzs,xzt,xzu,xzv,xzw,xzx,xzy,xzz,x100,x101,x102,x103,x104,x105,x106,x107,x108,x109,x10a,x10b,x10c,x10d,x10e,x10f,x10g,x10h,x10i,x10j,x10k,x10l,x10m,x10n,x10o,x10p,x10q,x10r,x10s,x10t,x10u,x10v,x10w,x10x,x10y,x10z,x110,x111,x112,x113,x114,x115,x116,x117,x118,x119,x11a,x11b,x11c,x11d,x11e,x11f,x11g,x11h,x11i,x11j,x11k,x11l,x11m,x11n,x11o,x11p,x11q,x11r,x11s,x11t,x11u,x11v,x11w,x11x,x11y,x11z,x120,x121,x122,x123,x124,x125,x126,x127,x128,x129,x12a,x12b,trivial⟩
end Go.Ix
