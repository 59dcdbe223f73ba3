import Derived.Test.YtpeakdjfagbpcaaGreatWNet
set_option linter.unusedSimpArgs false
namespace Go.Ix
open Go.Proofs
def TurnsIn(t:List Int):Prop:=∀x∈t,-1000000<=x/\x<=1000000
theorem TurnsIn.get{t:List Int}(h:TurnsIn t)(k:Nat):-1000000<=at0 t k/\at0 t k<=1000000:=by
 unfold at0
 rw[List.getD_eq_getElem?_getD]
 cases hk:t[k]? with
 |none=>simp
 |some x=>simpa using h x (List.mem_of_getElem? hk)
end Go.Ix
