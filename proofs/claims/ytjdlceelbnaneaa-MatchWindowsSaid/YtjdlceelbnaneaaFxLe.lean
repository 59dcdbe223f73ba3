import Derived.Test.YtjdlceelbnaneaaFxEq0
import Derived.Test.YtjdlceelbnaneaaFxCall
namespace Go.Ix
open Go.Proofs
theorem told:Told Try.prog pol NN table:=⟨le2 (fn:=Try.f9) x5x,le3 (fn:=Try.f21) x5y,le1 (fn:=Try.f37) x5z,le1 (fn:=Try.f38) x60,le1 (fn:=Try.f40) x61,le2 (fn:=Try.f41) x62,le2 (fn:=Try.f43) x63,le3 (fn:=Try.f44) x64,le2 (fn:=Try.f45) x65,le2 (fn:=Try.f46) x66,le2 (fn:=Try.f47) x67,le2 (fn:=Try.f48) x68,le2 (fn:=Try.f49) x69,le3 (fn:=Try.f71) x6a,le2 (fn:=Try.f74) x6b,le5 (fn:=Try.f78) x6c,le3 (fn:=Try.f80) x6d,le1 (fn:=Try.f87) x6e,le1 (fn:=Try.f89) x6f,le1 (fn:=Try.f91) x6g,le2 (fn:=Try.f92) x6h,le2 (fn:=Try.f104) x6i,le1 (fn:=Try.f114) x6j,le3 (fn:=Try.f116) x6k,le3 (fn:=Try.f118) x6l,le2 (fn:=Try.f119) x6m,le3 (fn:=Try.f120) x6n,le3 (fn:=Try.f129) x6o,le2 (fn:=Try.f130) x6p,le3 (fn:=Try.f131) x6q,le3 (fn:=Try.f137) x6r,le2 (fn:=Try.f138) x6s,le1 (fn:=Try.f139) x6t,le2 (fn:=Try.f152) x6u,le1 (fn:=Try.f153) x6v,le1 (fn:=Try.f154) x6w,trivial⟩
end Go.Ix
