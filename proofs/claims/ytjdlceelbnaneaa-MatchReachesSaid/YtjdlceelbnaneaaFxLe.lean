import Derived.Test.YtjdlceelbnaneaaFxEq0
import Derived.Test.YtjdlceelbnaneaaFxCall
namespace Go.Ix
open Go.Proofs
theorem told:Told Try.prog pol NN table:=⟨le2 (fn:=Try.f134) x7w,le3 (fn:=Try.f5) x7x,le1 (fn:=Try.f16) x7y,le3 (fn:=Try.f17) x7z,le1 (fn:=Try.f18) x80,le3 (fn:=Try.f21) x81,le3 (fn:=Try.f22) x82,le1 (fn:=Try.f24) x83,le4 (fn:=Try.f25) x84,le2 (fn:=Try.f32) x85,le1 (fn:=Try.f37) x86,le1 (fn:=Try.f38) x87,le3 (fn:=Try.f71) x88,le1 (fn:=Try.f73) x89,le2 (fn:=Try.f74) x8a,le3 (fn:=Try.f75) x8b,le1 (fn:=Try.f76) x8c,le3 (fn:=Try.f80) x8d,le3 (fn:=Try.f81) x8e,le1 (fn:=Try.f87) x8f,le2 (fn:=Try.f92) x8g,le1 (fn:=Try.f96) x8h,le2 (fn:=Try.f104) x8i,le2 (fn:=Try.f105) x8j,le1 (fn:=Try.f106) x8k,le2 (fn:=Try.f107) x8l,le2 (fn:=Try.f108) x8m,le1 (fn:=Try.f114) x8n,le3 (fn:=Try.f116) x8o,le3 (fn:=Try.f120) x8p,le1 (fn:=Try.f124) x8q,le1 (fn:=Try.f125) x8r,le2 (fn:=Try.f126) x8s,le2 (fn:=Try.f127) x8t,le2 (fn:=Try.f128) x8u,le3 (fn:=Try.f129) x8v,le2 (fn:=Try.f130) x8w,le2 (fn:=Try.f135) x8x,le1 (fn:=Try.f136) x8y,le3 (fn:=Try.f137) x8z,le2 (fn:=Try.f138) x90,le1 (fn:=Try.f151) x91,le2 (fn:=Try.f152) x92,le1 (fn:=Try.f153) x93,le1 (fn:=Try.f154) x94,trivial⟩
end Go.Ix
