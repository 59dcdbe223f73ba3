import Derived.Test.YtjdlceelbnaneaaWg4
import Derived.Test.YtjdlceelbnaneaaWg5
set_option maxRecDepth 100000
namespace Go.Proofs.Ytjdlceelbnaneaa
open Go.ChangeShapes Go.WideShapes Go.ChangeAt Go.RowKit Go.Ix
end Go.Proofs.Ytjdlceelbnaneaa
set_option linter.unusedSimpArgs false
set_option linter.unusedVariables false
namespace Go.Ix
structure PtIn (x:Mp):Prop where
 l0:0<=x.ln
 l1:x.ln<=63
 s0:0<=x.sm
 s1:x.sm<=63
 b0:bd x.b0 8
 b1:bd x.b1 8
theorem PtIn.ln{x:Mp}(h:PtIn x):bd x.ln 63:=by have:=h.l0;have:=h.l1;unfold bd;omega
theorem PtIn.sm{x:Mp}(h:PtIn x):bd x.sm 63:=by have:=h.s0;have:=h.s1;unfold bd;omega
section
variable{l:List Mp}
end
end Go.Ix
