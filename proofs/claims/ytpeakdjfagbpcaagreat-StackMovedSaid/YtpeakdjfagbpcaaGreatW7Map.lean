import Derived.Test.YtpeakdjfagbpcaaGreatW7Pair
set_option linter.unusedSimpArgs false
set_option linter.unusedVariables false
namespace Go.Ix
open Go.Proofs
def Pq.v(p:Pq):Value:=.agg [.int .i64 p.a,.int .i64 p.b].toArray
def mpP(E:List (Pq×AV)):List (Value×AV):=E.map fun x=>(x.1.v,x.2)
def lkP:List (Pq×AV)->Pq->Option AV
 |[],_=>none
 |x::r,p=>if p.same x.1=true then some x.2 else lkP r p
theorem x24k(p q:Pq):x1yr p.v q.v=p.same q:=by
 unfold x1yr Pq.v Pq.same
 simp[x21m]
 by_cases h:p.a=q.a<;>by_cases h2:p.b=q.b<;>simp[h,h2]
theorem find_mpP(E:List (Pq×AV))(p:Pq):findKey p.v (mpP E)=lkP E p:=by
 induction E with
 |nil=>rfl
 |cons x r ih=>
  unfold mpP at ih ⊢
  simp only[List.map_cons,findKey,lkP,x24k]
  rw[ih]
theorem set_mpP(E:List (Pq×AV))(p:Pq)(v:AV)(h:lkP E p=none):setKey p.v v (mpP E)=mpP (E++[(p,v)]):=by
 induction E with
 |nil=>rfl
 |cons x r ih=>
  simp only[lkP]at h
  unfold mpP at ih ⊢
  simp only[List.map_cons,List.cons_append,setKey,x24k]
  by_cases c:p.same x.1=true
  .rw[if_pos c]at h;cases h
  .rw[if_neg c]at h
   rw[if_neg c,ih h]
theorem chk_t(p:Pq):(x1xx Tryz.prog (Instr.checkKey true 10000 xb p.v)).isSome=true:=by kernel_rfl
theorem chk_f(p:Pq):(x1xx Tryz.prog (Instr.checkKey false 10000 xb p.v)).isSome=true:=by kernel_rfl
theorem equal_pq(p q:Pq):x1xx Tryz.prog (Op.equal xb p.v q.v)=some (p.same q):=x280 p q
theorem x283{d:TypeDesc}(hd:Tryz.prog.underlying xb=some d)(E:List (Pq×AV))(p:Pq):x21a Tryz.prog xb d p.v (mpP E)=true:=by
 obtain⟨fs,hf⟩:∃fs,d=.struct fs:=by
  have:((Tryz.prog.underlying xb).bind fun d=>match d with | .struct fs=>some ()|_=>none)=some ():=by kernel_rfl
  rw[hd]at this
  cases d<;>first|exact⟨_,rfl⟩|cases this
 subst hf
 have h1:x24t Tryz.prog xb (.struct fs) p.v (mpP E)=true:=by
  show(x1yr p.v p.v&&((x1xx Tryz.prog (Instr.checkKey true 10000 xb p.v)).isSome&&(x1xx Tryz.prog (Instr.checkKey false 10000 xb p.v)).isSome) &&
   (mpP E).all fun e=>match e.1,x1xx Tryz.prog (Op.equal xb p.v e.1)with
    | .agg _,some b=>b == x1yr p.v e.1
    |_,_=>false)=true
  rw[chk_t,chk_f,x24k,Pq.same_self]
  simp only[Bool.and_self,Bool.true_and,List.all_eq_true]
  intro e he
  unfold mpP at he
  obtain⟨x,-,rfl⟩:=List.mem_map.mp he
  rw[equal_pq,x24k]
  show(p.same x.1 == p.same x.1)=true
  simp
 unfold x21a
 rw[h1,Bool.or_true]
theorem x284(p:Pq):x1y9 (.agg p.c)=some p.v:=rfl
theorem um_pq:∃d,Tryz.prog.underlying xb=some d:=by
 obtain⟨d,h⟩:∃d,(Tryz.prog.underlying xb).isSome=d:=⟨_,rfl⟩
 have:(Tryz.prog.underlying xb).isSome=true:=by kernel_rfl
 exact Option.isSome_iff_exists.mp this
theorem look_pq{t et:TypeId}{z:AV}(ht:Tryz.prog.underlying t=some (.map xb et))(hz:x237 Tryz.prog et=some z)(id:Id)(E:List (Pq×AV))(p:Pq)(ok:Bool)(m:Mem)(h:m.get id=some (.map (mpP E))) :
 x21v Tryz.prog t (.mp id) (.agg p.c) ok m=some (if ok then .tup [(lkP E p).getD z,B (lkP E p).isSome]else(lkP E p).getD z):=by
 obtain⟨d,hd⟩:=um_pq
 unfold x21v
 simp only[ht,x284,hd,hz,x21n,h]
 rw[if_pos (x283 hd E p),find_mpP]
theorem up_pq{R:Type}{t et:TypeId}(ht:Tryz.prog.underlying t=some (.map xb et))(id:Id)(E:List (Pq×AV))(p:Pq)(v:AV)(m:Mem)(k:Mem->Option R)(h:m.get id=some (.map (mpP E)))(hn:lkP E p=none) :
 x22v Tryz.prog t (.mp id) (.agg p.c) v m k=k (m.set id (.map (mpP (E++[(p,v)])))):=by
 obtain⟨d,hd⟩:=um_pq
 unfold x22v
 simp only[ht,x284,hd,h]
 rw[if_pos (x283 hd E p),set_mpP E p v hn]
theorem lkP_app(E:List (Pq×AV))(p q:Pq)(v:AV)(h:lkP E p=none):lkP (E++[(p,v)]) q=if q.same p=true then some v else lkP E q:=by
 induction E with
 |nil=>simp[lkP]
 |cons x r ih=>
  simp only[lkP,List.cons_append]at h ⊢
  by_cases c:p.same x.1=true
  .rw[if_pos c]at h;cases h
  .rw[if_neg c]at h
   rw[ih h]
   by_cases e:q.same x.1=true
   .rw[if_pos e,if_neg,if_pos e]
    intro e2
    rw[Pq.same_iff]at e e2 c
    exact c (by rw[<-e2,e])
   .rw[if_neg e,if_neg e]
end Go.Ix
