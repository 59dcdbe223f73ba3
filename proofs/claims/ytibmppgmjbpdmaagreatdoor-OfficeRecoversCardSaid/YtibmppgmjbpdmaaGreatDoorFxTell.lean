import Derived.Test.YtibmppgmjbpdmaaGreatDoorFxTop
namespace Go.Ix
open Go.Proofs
theorem pol_told:∀f,pol f x15s≠0->(f=30/\pol f x15s=1)\/(f=156/\pol f x15s=2)\/(f=38/\pol f x15s=170010)\/(f=37/\pol f x15s=170011):=by
 intro f
 unfold pol
 split<;>first|(intro h;exact absurd rfl h)|(intro _;repeat(first|exact⟨rfl,rfl⟩|exact .inl ⟨rfl,rfl⟩|apply Or.inr))
end Go.Ix
