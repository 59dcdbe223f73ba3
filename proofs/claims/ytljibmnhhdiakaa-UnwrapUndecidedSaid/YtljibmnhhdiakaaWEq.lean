import Derived.Test.YtljibmnhhdiakaaWNet
import Derived.Laws.StructEq
set_option linter.unusedSimpArgs false
set_option linter.unusedVariables false
namespace Go.Ix
open Go.Proofs
variable{P:Program}
theorem x1v8{α β:Type}(f:α->Sem β):∀s:Sem α,x1r3 P (s >>= f)=(x1r3 P s).bind fun a=>x1r3 P (f a):=by
 intro s
 show x1r3 P (Sem.bind s f)=_
 induction s with
 |pure a=>rfl
 |program k ih=>exact ih P
 |mark x k ih=>exact ih
 |_=>rfl
theorem x1ye{α:Type}(a:α):x1r3 P (pure a:Sem α)=some a:=rfl
theorem x26j:x1r3 P program=some P:=rfl
theorem x26k{t:TypeId}{d:TypeDesc}(h:P.underlying t=some d):x1r3 P (underlying t)=some d:=by
 simp only[underlying,x1v8,x26j,x1qt,h]
 rfl
theorem x235(d:Nat)(t:TypeId)(k k':IntKind)(a b:Int)(h:P.underlying t=some (.int k')):x1r3 P (Op.equalIn (d+1) t (.int k a) (.int k b))=some (a == b):=by
 simp[Op.equalIn,x1v8,x26k h,x1ye]
theorem x28x(op:BinOp)(t:TypeId)(x y:Operand)(xs ys:Array Value)(hm:P.eqGuardType P.depth t=false):x1r3 P (eqGuard op t x y (.agg xs) (.agg ys))=some ():=by
 cases op<;>simp[eqGuard,x1v8,x26j,x1ye,hm]
theorem x28y{t:TypeId}{x y:Operand}{xs ys:List Value}{r:Bool}(hm:P.eqGuardType P.depth t=false)(hr:x1r3 P (Op.equalIn 10000 t (.agg xs.toArray) (.agg ys.toArray))=some r)(hx:∃k,scs k=some xs) :
 ∀kx ky,scs kx=some xs->scs ky=some ys->sBin P .neq t x y (.agg kx) (.agg ky)=some (B (!r)):=by
 intro kx ky h1 h2
 simp only[sBin,x1rj,h1,h2,x1v8,x28x _ _ _ _ _ _ hm,x1qt]
 have:x1r3 P (binOp .neq t (.agg xs.toArray) (.agg ys.toArray))=some (.bool (!r)):=by
  show x1r3 P (do pure (Value.bool (!(<-Op.equal t (.agg xs.toArray) (.agg ys.toArray)))))=_
  simp only[x1v8,Op.equal,Op.maxDepth,hr,x1qt,x1ye]
 rw[this];rfl
theorem x236:Try.prog.underlying x1sq=some (.int .i64):=by kernel_rfl
def Edge.same(a b:Edge):Bool:=decide (a.fr=b.fr)&&(decide (a.to=b.to)&&(decide (a.jump=b.jump)&&decide (a.wt=b.wt)))
end Go.Ix
