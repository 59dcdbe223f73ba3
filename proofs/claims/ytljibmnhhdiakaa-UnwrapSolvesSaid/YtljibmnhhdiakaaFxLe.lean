import Derived.Test.YtljibmnhhdiakaaFxEq0
import Derived.Test.YtljibmnhhdiakaaFxEq1
import Derived.Test.YtljibmnhhdiakaaFxCall
namespace Go.Ix
open Go.Proofs
theorem told : Told Try.prog pol NN table := ⟨xv4, xv5, xv6, xv7, xv8, xv9, xva, xvb, xvc, xvd, xve, xvf, xvg, xvh, xvi, xvj, xvk, xvl, xvm, xvn, xvo, xvp, xvq, xvr, xvs, xvt, xvu, xvv, xvw, xvx, xvy, xvz, xw0, xw1, xw2, xw3, xw4, xw5, xw6, xw7, xw8, xw9, xwa, xwb, xwc, xwd, xwe, xwf, xwg, xwh, xwi, xwj, xwk, xwl, xwm, xwn, xwo, xwp, xwq, xwr, xws, xwt, xwu, xwv, xww, xwx, xwy, xwz, xx0, xx1, xx2, xx3, xx4, xx5, xx6, xx7, xx8, xx9, xxa, xxb, xxc, xxd, xxe, xxf, xxg, xxh, xxi, xxj, xxk, xxl, xxm, xxn, xxo, xxp, xxq, xxr, xxs, xxt, trivial⟩
end Go.Ix
