import Derived.Test.YtpeakdjfagbpcaaGreatWBase
import Derived.Laws.StructEq
set_option linter.unusedSimpArgs false
set_option linter.unusedVariables false
namespace Go.Ix
open Go.Proofs
variable{P:Program}
theorem x216{α β:Type}(f:α->Sem β):∀s:Sem α,x1xx P (s >>= f)=(x1xx P s).bind fun a=>x1xx P (f a):=by
 intro s
 show x1xx P (Sem.bind s f)=_
 induction s with
 |pure a=>rfl
 |program k ih=>exact ih P
 |mark x k ih=>exact ih
 |_=>rfl
theorem x24j{α:Type}(a:α):x1xx P (pure a:Sem α)=some a:=rfl
theorem x25y:x1xx P program=some P:=rfl
theorem x27y{t:TypeId}{d:TypeDesc}(h:P.underlying t=some d):x1xx P (underlying t)=some d:=by
 simp only[underlying,x216,x25y,x1yu,h]
 rfl
theorem x2a6(d:Nat)(t:TypeId)(xs ys:Array Value)(ht:P.underlying t=some (.struct (P.fieldsOf t)))(hp:P.stoodInHeld t=false) :
 x1xx P (Op.equalIn (d+1) t (.agg xs) (.agg ys))=x1xx P (Op.eqFields d xs ys (P.fieldsOf t).toList):=by
 simp only[Op.equalIn,x216,x27y ht,x1yu,x25y,hp,Bool.false_eq_true,if_false]
 rw[<-Array.forIn_toList]
 generalize (P.fieldsOf t).toList=fs
 clear ht
 induction fs with
 |nil=>simp[Op.eqFields,x24j]
 |cons f fs ih=>
  simp only[List.forIn_cons,Op.eqFields,x216]
  split
  .simp only[x216]
   generalize x1xx P (part f.type xs f.offset)=r1
   cases r1 with
   |none=>rfl
   |some a=>
    generalize hb:x1xx P (part f.type ys f.offset)=r2
    cases r2 with
    |none=>simp[hb]
    |some b=>
     simp only[hb,x1yu]
     generalize x1xx P (Op.equalIn d f.type a b)=r3
     cases r3 with
     |none=>rfl
     |some r=>
      cases r
      .rfl
      .exact ih
  .exact ih
theorem x2a7(d:Nat)(t:TypeId)(k k':IntKind)(a b:Int)(h:P.underlying t=some (.int k')):x1xx P (Op.equalIn (d+1) t (.int k a) (.int k b))=some (a == b):=by
 simp[Op.equalIn,x216,x27y h,x24j]
theorem x2a8(op:BinOp)(t:TypeId)(x y:Operand)(xs ys:Array Value)(hm:P.eqGuardType P.depth t=false):x1xx P (eqGuard op t x y (.agg xs) (.agg ys))=some ():=by
 cases op<;>simp[eqGuard,x216,x25y,x24j,hm]
theorem x2a9{t:TypeId}{x y:Operand}{xs ys:List Value}{r:Bool}(hm:P.eqGuardType P.depth t=false)(hr:x1xx P (Op.equalIn 10000 t (.agg xs.toArray) (.agg ys.toArray))=some r) :
 ∀kx ky,scs kx=some xs->scs ky=some ys->sBin P .eql t x y (.agg kx) (.agg ky)=some (B r):=by
 intro kx ky h1 h2
 simp only[sBin,x1y9,h1,h2,x216,x2a8 _ _ _ _ _ _ hm,x1yu]
 have:x1xx P (binOp .eql t (.agg xs.toArray) (.agg ys.toArray))=some (.bool r):=by
  show x1xx P (do pure (Value.bool (<-Op.equal t (.agg xs.toArray) (.agg ys.toArray))))=_
  simp only[x216,Op.equal,Op.maxDepth,hr,x1yu,x24j]
 rw[this];rfl
theorem und_int:Tryz.prog.underlying x1y2=some (.int .i64):=by kernel_rfl
theorem x27z(d:Nat)(xs ys:Array Value)(ga gb:Nat->Int):∀fs:List Field,(∀f∈fs,f.name≠"_"/\f.type=x1y2/\x1xx Tryz.prog (part x1y2 xs f.offset)=some (.int .i64 (ga f.offset))/\x1xx Tryz.prog (part x1y2 ys f.offset)=some (.int .i64 (gb f.offset))) ->
 x1xx Tryz.prog (Op.eqFields (d+1) xs ys fs)=some (fs.all fun f=>ga f.offset == gb f.offset)
 |[],_=>rfl
 |f::fs,h=>by
  obtain⟨h1,h2,h3,h4⟩:=h f (List.mem_cons_self ..)
  have ih:=x27z d xs ys ga gb fs fun g hg=>h g (List.mem_cons_of_mem _ hg)
  simp only[Op.eqFields,h1,ne_eq,not_false_eq_true,if_true,h2,x216,h3,h4,x1yu,x2a7 _ _ _ _ _ _ und_int,List.all_cons]
  cases ga f.offset == gb f.offset
  .rfl
  .exact ih
theorem eq_ints{t:TypeId}{offs:List Nat}{xs ys:Array Value}{ga gb:Nat->Int}(hS:Tryz.prog.underlying t=some (.struct (Tryz.prog.fieldsOf t)))(hs:Tryz.prog.stoodInHeld t=false)(hF:((Tryz.prog.fieldsOf t).toList.map fun f=>(f.type,f.offset,decide (f.name = "_")))=offs.map fun o=>(x1y2,o,false))(hp:∀o∈offs,x1xx Tryz.prog (part x1y2 xs o)=some (.int .i64 (ga o))/\x1xx Tryz.prog (part x1y2 ys o)=some (.int .i64 (gb o))) :
 x1xx Tryz.prog (Op.equalIn 10000 t (.agg xs) (.agg ys))=some (offs.all fun o=>ga o == gb o):=by
 rw[show(10000:Nat)=9998+1+1 from rfl,x2a6 _ _ _ _ hS hs]
 generalize (Tryz.prog.fieldsOf t).toList=fs at hF
 rw[x27z 9998 xs ys ga gb fs]
 .have:(fs.map fun f=>f.offset)=offs:=by
   have:=congrArg (List.map fun x:TypeId×Nat×Bool=>x.2.1) hF
   simpa[List.map_map,Function.comp_def]using this
  rw[<-this,List.all_map]
  rfl
 .intro f hf
  have h1:(f.type,f.offset,decide (f.name = "_"))∈offs.map fun o=>(x1y2,o,false):=by
   rw[<-hF];exact List.mem_map_of_mem hf
  obtain⟨o,ho,e⟩:=List.mem_map.mp h1
  simp only[Prod.mk.injEq]at e
  obtain⟨e1,e2,e3⟩:=e
  subst e2
  exact⟨of_decide_eq_false e3.symm,e1.symm,hp _ ho⟩
end Go.Ix
