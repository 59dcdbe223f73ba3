import Derived.Test.YtjdlceelbnaneaaWg10
import Derived.Test.YtjdlceelbnaneaaWg13
set_option linter.unusedSimpArgs false
set_option linter.unusedVariables false
namespace Go.Ix
open Go.Proofs
attribute [local simp high] rd_5
variable{a:AV}{l:List Mp}
section
variable{f:Aff}
end
attribute [local simp high] rd_5
variable{a:AV}{l:List Mp}
attribute [local simp high] rd_5
section
variable{f:Aff}{x:Mp}
end
variable{a:AV}{l:List Mp}{f:Aff}
end Go.Ix
