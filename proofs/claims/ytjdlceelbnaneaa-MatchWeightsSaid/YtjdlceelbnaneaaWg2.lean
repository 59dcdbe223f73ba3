import Derived.Test.YtjdlceelbnaneaaWg1
import Derived.Laws.Strings
import Derived.Test.YtjdlceelbnaneaaFxSound
import Derived.Test.YtjdlceelbnaneaaWBase
import Derived.Laws.StructEq
set_option linter.unusedSimpArgs false
namespace Go.Ix
open Go.Proofs
abbrev T(s:ByteArray):AV:=.sc (.string s)
@[simp] theorem sLenS_T(s:ByteArray):sLenS (T s)=some (I s.size):=rfl
structure Scene where
 nm:ByteArray
 day:Int
 bl:Int
def Scene.c(s:Scene):List AV:=[T s.nm,I s.day,I s.bl]
theorem Scene.len(s:Scene):s.c.length=3:=rfl
@[simp] theorem cells_T(s:ByteArray):(T s).cells=[T s]:=rfl
@[simp] theorem one_T(s:ByteArray):(T s).one=true:=rfl
end Go.Ix
set_option linter.unusedVariables false
namespace Go.Ix
open Go.Proofs
variable{P:Program}
theorem pr_bind{α β:Type}(f:α->Sem β):∀s:Sem α,x1f P (s >>= f)=(x1f P s).bind λa=>x1f P (f a):=by
 intro s
 show x1f P (Sem.bind s f)=_
 induction s with
 |pure a=>rfl
 |program k ih=>exact ih P
 |mark x k ih=>exact ih
 |_=>rfl
theorem pr_pure{α:Type}(a:α):x1f P (pure a:Sem α)=some a:=rfl
theorem x9t:x1f P program=some P:=rfl
end Go.Ix
