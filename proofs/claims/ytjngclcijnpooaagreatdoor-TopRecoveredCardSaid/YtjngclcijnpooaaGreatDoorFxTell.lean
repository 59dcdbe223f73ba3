import Derived.Test.YtjngclcijnpooaaGreatDoorFxTop
set_option linter.all false
namespace Go.Ix
open Go.Proofs
def xy6:∀f,pol f jD≠0->(f=53/\pol f jD=1)\/(f=157/\pol f jD=2)\/(f=54/\pol f jD=248010)\/(f=52/\pol f jD=248011):=by intro f;unfold pol;split<;>first|(intro h;exact absurd rfl h)|(intro _;repeat(first|exact⟨rfl,rfl⟩|exact .inl ⟨rfl,rfl⟩|apply Or.inr))
end Go.Ix
