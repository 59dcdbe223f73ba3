import Derived.Test.YtjdlceelbnaneaaRows
import Derived.Test.YtjdlceelbnaneaaFxLaw
import Derived.Test.YtjdlceelbnaneaaWg1
import Derived.Test.YtjdlceelbnaneaaWg3
import Derived.Test.YtjdlceelbnaneaaWBase
set_option maxRecDepth 100000
namespace Go.Proofs.Ytjdlceelbnaneaa
open Go.ChangeShapes Go.WideShapes Go.ChangeAt Go.RowKit Go.Ix
theorem Try.own:ownKnob Try.prog.godebug=none:=by kernel_rfl
theorem Try.laidOut:laidOutB Try.prog=true:=by kernel_rfl
theorem int_in{a:AV}(h:ArgSh Try.prog x46 a):∃n,a=I n:=by
 obtain⟨n,h,-⟩:=h.int (t:=x46) (k:=.i64) (by kernel_rfl)
 exact⟨n,h⟩
end Go.Proofs.Ytjdlceelbnaneaa
set_option linter.unusedSimpArgs false
set_option linter.unusedVariables false
namespace Go.Ix
structure Mp where
 ln:Int
 sm:Int
 b0:Int
 b1:Int
 sc:Int
def Mp.c(x:Mp):List AV:=[I x.ln,I x.sm,I x.b0,I x.b1,I x.sc]
theorem Mp.len(x:Mp):x.c.length=5:=rfl
theorem Mp.still(x:Mp):x.c.all still1=true:=rfl
def Mp.at(f x:Mp):Prop:=x.ln=f.ln/\x.sm=f.sm
end Go.Ix
