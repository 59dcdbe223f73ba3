import Derived.Test.YtjdlceelbnaneaaFxEq0
import Derived.Test.YtjdlceelbnaneaaFxCall
namespace Go.Ix
open Go.Proofs
theorem told:Told Try.prog pol NN table:=⟨le2 (fn:=Try.f7) x17,le3 (fn:=Try.f21) x18,le2 (fn:=Try.f33) x19,le1 (fn:=Try.f34) x1a,le3 (fn:=Try.f80) x1b,le1 (fn:=Try.f85) x1c,trivial⟩
end Go.Ix
