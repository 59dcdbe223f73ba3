import Derived.Test.YtjngclcijnpooaaGreatDoorFxConst
set_option linter.all false
namespace Go.Ix
open Go.Proofs
noncomputable def VH:bL:=λc h u a b m q=>(aA false 1 b m).bind λd=>(eK a d).bind λe=>some (e,m)
end Go.Ix
