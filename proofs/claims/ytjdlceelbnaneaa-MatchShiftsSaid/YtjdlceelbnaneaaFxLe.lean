import Derived.Test.YtjdlceelbnaneaaFxEq0
import Derived.Test.YtjdlceelbnaneaaFxCall
namespace Go.Ix
open Go.Proofs
theorem told:Told Try.prog pol NN table:=⟨le3 (fn:=Try.f10) x23,le3 (fn:=Try.f21) x24,le1 (fn:=Try.f29) x25,le2 (fn:=Try.f32) x26,le3 (fn:=Try.f50) x27,le1 (fn:=Try.f51) x28,le3 (fn:=Try.f52) x29,le3 (fn:=Try.f80) x2a,le3 (fn:=Try.f93) x2b,le2 (fn:=Try.f115) x2c,le2 (fn:=Try.f121) x2d,trivial⟩
end Go.Ix
