import Derived.Test.YtljibmnhhdiakaaFxEq0
import Derived.Test.YtljibmnhhdiakaaFxEq1
import Derived.Test.YtljibmnhhdiakaaFxCall
namespace Go.Ix
open Go.Proofs
theorem told:Told Try.prog pol NN table:=⟨xwz,xx0,xx1,xx2,xx3,xx4,xx5,xx6,xx7,xx8,xx9,xxa,xxb,xxc,xxd,xxe,xxf,xxg,xxh,xxi,xxj,xxk,xxl,xxm,xxn,xxo,xxp,xxq,xxr,xxs,xxt,xxu,xxv,xxw,xxx,xxy,xxz,xy0,xy1,xy2,xy3,xy4,xy5,xy6,xy7,xy8,xy9,xya,xyb,xyc,xyd,xye,xyf,xyg,xyh,xyi,xyj,xyk,xyl,xym,xyn,xyo,xyp,xyq,xyr,xys,xyt,xyu,xyv,xyw,xyx,xyy,xyz,xz0,xz1,xz2,xz3,xz4,xz5,xz6,xz7,xz8,xz9,xza,xzb,xzc,xzd,xze,xzf,xzg,xzh,xzi,xzj,xzk,xzl,xzm,xzn,xzo,xzp,xzq,xzr,xzs,trivial⟩
end Go.Ix
