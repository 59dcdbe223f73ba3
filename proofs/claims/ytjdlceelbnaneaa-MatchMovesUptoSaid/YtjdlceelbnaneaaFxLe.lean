import Derived.Test.YtjdlceelbnaneaaFxEq0
import Derived.Test.YtjdlceelbnaneaaFxCall
namespace Go.Ix
open Go.Proofs
theorem told:Told Try.prog pol NN table:=⟨le3 (fn:=Try.f13) x6s,le3 (fn:=Try.f21) x6t,le1 (fn:=Try.f34) x6u,le1 (fn:=Try.f37) x6v,le1 (fn:=Try.f38) x6w,le1 (fn:=Try.f40) x6x,le2 (fn:=Try.f41) x6y,le2 (fn:=Try.f43) x6z,le3 (fn:=Try.f44) x70,le1 (fn:=Try.f51) x71,le2 (fn:=Try.f59) x72,le3 (fn:=Try.f71) x73,le5 (fn:=Try.f78) x74,le3 (fn:=Try.f80) x75,le1 (fn:=Try.f85) x76,le1 (fn:=Try.f87) x77,le3 (fn:=Try.f88) x78,le1 (fn:=Try.f89) x79,le1 (fn:=Try.f91) x7a,le3 (fn:=Try.f93) x7b,le2 (fn:=Try.f99) x7c,le1 (fn:=Try.f114) x7d,le2 (fn:=Try.f115) x7e,le3 (fn:=Try.f116) x7f,le2 (fn:=Try.f117) x7g,le3 (fn:=Try.f118) x7h,le2 (fn:=Try.f119) x7i,le2 (fn:=Try.f121) x7j,le3 (fn:=Try.f129) x7k,le2 (fn:=Try.f130) x7l,le3 (fn:=Try.f131) x7m,le3 (fn:=Try.f137) x7n,le2 (fn:=Try.f138) x7o,le1 (fn:=Try.f139) x7p,le2 (fn:=Try.f152) x7q,le1 (fn:=Try.f153) x7r,le1 (fn:=Try.f154) x7s,trivial⟩
end Go.Ix
