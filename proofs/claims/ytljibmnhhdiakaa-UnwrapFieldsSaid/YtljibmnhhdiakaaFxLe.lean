/- MADE BY PROGRAM (gen.py). What the code does, block by block. -/
import Derived.Test.YtljibmnhhdiakaaFxEq0
import Derived.Test.YtljibmnhhdiakaaFxEq1
import Derived.Test.YtljibmnhhdiakaaFxCall
namespace Go.Ix
open Go.Proofs
theorem told : Told Try.prog pol NN table := ⟨x137, x138, x139, x13a, x13b, x13c, x13d, x13e, x13f, x13g, x13h, x13i, x13j, x13k, x13l, x13m, x13n, x13o, x13p, x13q, x13r, x13s, x13t, x13u, x13v, x13w, x13x, x13y, x13z, x140, x141, x142, x143, x144, x145, x146, x147, x148, x149, x14a, x14b, x14c, x14d, x14e, x14f, x14g, x14h, x14i, x14j, x14k, x14l, x14m, x14n, x14o, x14p, x14q, x14r, x14s, x14t, x14u, x14v, x14w, x14x, x14y, x14z, x150, x151, x152, x153, x154, x155, x156, x157, x158, x159, x15a, x15b, x15c, x15d, x15e, x15f, x15g, x15h, x15i, x15j, x15k, x15l, x15m, x15n, x15o, x15p, x15q, x15r, x15s, x15t, trivial⟩
end Go.Ix
