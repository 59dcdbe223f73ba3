import Derived.Test.YtjdlceelbnaneaaWg1
import Derived.Laws.Strings
import Derived.Test.YtjdlceelbnaneaaFxSound
import Derived.Test.YtjdlceelbnaneaaWBase
import Derived.Laws.StructEq
set_option linter.unusedSimpArgs false
namespace Go.Ix
open Go.Proofs
abbrev T(s:ByteArray):AV:=.sc (.string s)
@[simp] theorem sLenS_T(s:ByteArray):sLenS (T s)=some (I s.size):=rfl
structure Scene where
 nm:ByteArray
 day:Int
 bl:Int
def Scene.c(s:Scene):List AV:=[T s.nm,I s.day,I s.bl]
theorem Scene.len(s:Scene):s.c.length=3:=rfl
@[simp] theorem cells_T(s:ByteArray):(T s).cells=[T s]:=rfl
@[simp] theorem one_T(s:ByteArray):(T s).one=true:=rfl
end Go.Ix
set_option linter.unusedVariables false
namespace Go.Ix
open Go.Proofs
variable{P:Program}
theorem x3e{α β:Type}(f:α->Sem β):∀s:Sem α,x2g P (s >>= f)=(x2g P s).bind λa=>x2g P (f a):=by
 intro s
 show x2g P (Sem.bind s f)=_
 induction s with
 |pure a=>rfl
 |program k ih=>exact ih P
 |mark x k ih=>exact ih
 |_=>rfl
theorem x5g{α:Type}(a:α):x2g P (pure a:Sem α)=some a:=rfl
theorem x9z:x2g P program=some P:=rfl
theorem xa0{t:TypeId}{d:TypeDesc}(h:P.underlying t=some d):x2g P (underlying t)=some d:=by
 simp only[underlying,x3e,x9z,x4k,h]
 rfl
theorem x82(d:Nat)(t:TypeId)(k k':IntKind)(a b:Int)(h:P.underlying t=some (.int k')):x2g P (Op.equalIn (d+1) t (.int k a) (.int k b))=some (a == b):=by
 simp[Op.equalIn,x3e,xa0 h,x5g]
theorem xa1(op:BinOp)(t:TypeId)(x y:Operand)(xs ys:Array Value)(hm:P.eqGuardType P.depth t=false):x2g P (eqGuard op t x y (.agg xs) (.agg ys))=some ():=by
 cases op<;>simp[eqGuard,x3e,x9z,x5g,hm]
theorem xbb{t:TypeId}{x y:Operand}{xs ys:List Value}{r:Bool}(hm:P.eqGuardType P.depth t=false)(hr:x2g P (Op.equalIn 10000 t (.agg xs.toArray) (.agg ys.toArray))=some r)(hx:∃k,scs k=some xs) :
 ∀kx ky,scs kx=some xs->scs ky=some ys->sBin P .neq t x y (.agg kx) (.agg ky)=some (B (!r)):=by
 intro kx ky h1 h2
 simp only[sBin,x2r,h1,h2,x3e,xa1 _ _ _ _ _ _ hm,x4k]
 have:x2g P (binOp .neq t (.agg xs.toArray) (.agg ys.toArray))=some (.bool (!r)):=by
  show x2g P (do pure (Value.bool (!(<-Op.equal t (.agg xs.toArray) (.agg ys.toArray)))))=_
  simp only[x3e,Op.equal,Op.maxDepth,hr,x4k,x5g]
 rw[this];rfl
theorem x83:Try.prog.underlying x50=some (.int .i64):=by kernel_rfl
end Go.Ix
