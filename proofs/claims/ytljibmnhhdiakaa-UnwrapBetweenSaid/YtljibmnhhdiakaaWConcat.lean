import Derived.Test.YtljibmnhhdiakaaWBase3
set_option linter.unusedSimpArgs false
set_option linter.unusedVariables false
namespace Go.Ix
open Go.Proofs
theorem x1t9:x16=[nilS]:=by kernel_rfl
theorem NN_3:∃ j,NN=j+3:=⟨1048573,rfl⟩
end Go.Ix
