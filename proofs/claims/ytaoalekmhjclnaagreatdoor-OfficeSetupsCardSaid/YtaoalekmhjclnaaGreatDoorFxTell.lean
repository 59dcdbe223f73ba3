import Derived.Test.YtaoalekmhjclnaaGreatDoorFxTop
namespace Go.Ix
open Go.Proofs
theorem pol_told:∀f,pol f x19r≠0->(f=159/\pol f x19r=1)\/(f=158/\pol f x19r=2):=by
 intro f
 unfold pol
 split<;>first|(intro h;exact absurd rfl h)|(intro _;exact .inl ⟨rfl,rfl⟩)|(intro _;exact .inr ⟨rfl,rfl⟩)
end Go.Ix
