import Derived.Test.YtjdlceelbnaneaaFxEq0
import Derived.Test.YtjdlceelbnaneaaFxCall
namespace Go.Ix
open Go.Proofs
theorem told:Told Try.prog pol NN table:=⟨le3 (fn:=Try.f8) x6j,le3 (fn:=Try.f21) x6k,le2 (fn:=Try.f31) x6l,le2 (fn:=Try.f32) x6m,le1 (fn:=Try.f34) x6n,le1 (fn:=Try.f37) x6o,le1 (fn:=Try.f38) x6p,le3 (fn:=Try.f39) x6q,le1 (fn:=Try.f40) x6r,le2 (fn:=Try.f41) x6s,le3 (fn:=Try.f42) x6t,le2 (fn:=Try.f43) x6u,le3 (fn:=Try.f44) x6v,le3 (fn:=Try.f71) x6w,le5 (fn:=Try.f78) x6x,le3 (fn:=Try.f80) x6y,le1 (fn:=Try.f85) x6z,le1 (fn:=Try.f87) x70,le3 (fn:=Try.f88) x71,le1 (fn:=Try.f89) x72,le2 (fn:=Try.f90) x73,le1 (fn:=Try.f91) x74,le1 (fn:=Try.f114) x75,le2 (fn:=Try.f115) x76,le3 (fn:=Try.f116) x77,le2 (fn:=Try.f117) x78,le3 (fn:=Try.f118) x79,le2 (fn:=Try.f119) x7a,le2 (fn:=Try.f121) x7b,le3 (fn:=Try.f129) x7c,le2 (fn:=Try.f130) x7d,le3 (fn:=Try.f131) x7e,le3 (fn:=Try.f137) x7f,le2 (fn:=Try.f138) x7g,le1 (fn:=Try.f139) x7h,le2 (fn:=Try.f152) x7i,le1 (fn:=Try.f153) x7j,le1 (fn:=Try.f154) x7k,trivial⟩
end Go.Ix
