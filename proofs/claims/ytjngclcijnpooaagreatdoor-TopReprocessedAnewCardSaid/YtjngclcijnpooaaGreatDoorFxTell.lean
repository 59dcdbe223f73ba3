import Derived.Test.YtjngclcijnpooaaGreatDoorFxTop
set_option linter.all false
namespace Go.Ix
open Go.Proofs
def xun:∀f,pol f iP≠0->(f=53/\pol f iP=1)\/(f=157/\pol f iP=2):=by intro f;unfold pol;split<;>first|(intro h;exact absurd rfl h)|(intro _;repeat(first|exact⟨rfl,rfl⟩|exact .inl ⟨rfl,rfl⟩|apply Or.inr))
end Go.Ix
