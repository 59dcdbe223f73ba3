import Derived.Test.YtljibmnhhdiakaaFxEq0
import Derived.Test.YtljibmnhhdiakaaFxCall
namespace Go.Ix
open Go.Proofs
theorem told : Told Try.prog pol NN table := ⟨xsw, xsx, xsy, xsz, xt0, xt1, xt2, xt3, xt4, xt5, xt6, xt7, xt8, xt9, xta, xtb, xtc, xtd, xte, xtf, xtg, xth, xti, xtj, xtk, xtl, xtm, xtn, xto, xtp, xtq, xtr, xts, xtt, xtu, xtv, xtw, xtx, xty, xtz, xu0, xu1, xu2, xu3, xu4, xu5, xu6, xu7, xu8, xu9, xua, xub, xuc, xud, xue, xuf, xug, xuh, xui, xuj, xuk, xul, xum, xun, xuo, xup, xuq, xur, xus, xut, xuu, xuv, xuw, xux, xuy, xuz, xv0, xv1, xv2, xv3, xv4, xv5, xv6, xv7, xv8, xv9, xva, xvb, xvc, xvd, xve, xvf, xvg, xvh, xvi, trivial⟩
end Go.Ix
