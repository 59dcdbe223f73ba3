import Derived.Test.YtpeakdjfagbpcaaGreatW7Pair
set_option linter.unusedSimpArgs false
set_option linter.unusedVariables false
namespace Go.Ix
open Go.Proofs
def Pq.v(p:Pq):Value:=.agg [.int .i64 p.a,.int .i64 p.b].toArray
def mpP(E:List (Pq×AV)):List (Value×AV):=E.map fun x=>(x.1.v,x.2)
def lkP:List (Pq×AV)->Pq->Option AV
 |[],_=>none
 |x::r,p=>if p.same x.1=true then some x.2 else lkP r p
theorem x23o(p q:Pq):x1xx p.v q.v=p.same q:=by
 unfold x1xx Pq.v Pq.same
 simp[x20s]
 by_cases h:p.a=q.a<;>by_cases h2:p.b=q.b<;>simp[h,h2]
theorem find_mpP(E:List (Pq×AV))(p:Pq):findKey p.v (mpP E)=lkP E p:=by
 induction E with
 |nil=>rfl
 |cons x r ih=>
  unfold mpP at ih ⊢
  simp only[List.map_cons,findKey,lkP,x23o]
  rw[ih]
theorem set_mpP(E:List (Pq×AV))(p:Pq)(v:AV)(h:lkP E p=none):setKey p.v v (mpP E)=mpP (E++[(p,v)]):=by
 induction E with
 |nil=>rfl
 |cons x r ih=>
  simp only[lkP]at h
  unfold mpP at ih ⊢
  simp only[List.map_cons,List.cons_append,setKey,x23o]
  by_cases c:p.same x.1=true
  .rw[if_pos c]at h;cases h
  .rw[if_neg c]at h
   rw[if_neg c,ih h]
theorem chk_t(p:Pq):(x1x5 Tryz.prog (Instr.checkKey true 10000 x8 p.v)).isSome=true:=by kernel_rfl
theorem chk_f(p:Pq):(x1x5 Tryz.prog (Instr.checkKey false 10000 x8 p.v)).isSome=true:=by kernel_rfl
theorem equal_pq(p q:Pq):x1x5 Tryz.prog (Op.equal x8 p.v q.v)=some (p.same q):=x26x p q
theorem x270{d:TypeDesc}(hd:Tryz.prog.underlying x8=some d)(E:List (Pq×AV))(p:Pq):x20g Tryz.prog x8 d p.v (mpP E)=true:=by
 obtain⟨fs,hf⟩:∃fs,d=.struct fs:=by
  have:((Tryz.prog.underlying x8).bind fun d=>match d with | .struct fs=>some ()|_=>none)=some ():=by kernel_rfl
  rw[hd]at this
  cases d<;>first|exact⟨_,rfl⟩|cases this
 subst hf
 have h1:x23v Tryz.prog x8 (.struct fs) p.v (mpP E)=true:=by
  show(x1xx p.v p.v&&((x1x5 Tryz.prog (Instr.checkKey true 10000 x8 p.v)).isSome&&(x1x5 Tryz.prog (Instr.checkKey false 10000 x8 p.v)).isSome) &&
   (mpP E).all fun e=>match e.1,x1x5 Tryz.prog (Op.equal x8 p.v e.1)with
    | .agg _,some b=>b == x1xx p.v e.1
    |_,_=>false)=true
  rw[chk_t,chk_f,x23o,Pq.same_self]
  simp only[Bool.and_self,Bool.true_and,List.all_eq_true]
  intro e he
  unfold mpP at he
  obtain⟨x,-,rfl⟩:=List.mem_map.mp he
  rw[equal_pq,x23o]
  show(p.same x.1 == p.same x.1)=true
  simp
 unfold x20g
 rw[h1,Bool.or_true]
theorem x271(p:Pq):x1xh (.agg p.c)=some p.v:=rfl
theorem um_pq:∃d,Tryz.prog.underlying x8=some d:=by
 obtain⟨d,h⟩:∃d,(Tryz.prog.underlying x8).isSome=d:=⟨_,rfl⟩
 have:(Tryz.prog.underlying x8).isSome=true:=by kernel_rfl
 exact Option.isSome_iff_exists.mp this
theorem look_pq{t et:TypeId}{z:AV}(ht:Tryz.prog.underlying t=some (.map x8 et))(hz:x228 Tryz.prog et=some z)(id:Id)(E:List (Pq×AV))(p:Pq)(ok:Bool)(m:Mem)(h:m.get id=some (.map (mpP E))) :
 x211 Tryz.prog t (.mp id) (.agg p.c) ok m=some (if ok then .tup [(lkP E p).getD z,B (lkP E p).isSome]else(lkP E p).getD z):=by
 obtain⟨d,hd⟩:=um_pq
 unfold x211
 simp only[ht,x271,hd,hz,x20t,h]
 rw[if_pos (x270 hd E p),find_mpP]
theorem up_pq{R:Type}{t et:TypeId}(ht:Tryz.prog.underlying t=some (.map x8 et))(id:Id)(E:List (Pq×AV))(p:Pq)(v:AV)(m:Mem)(k:Mem->Option R)(h:m.get id=some (.map (mpP E)))(hn:lkP E p=none) :
 x21x Tryz.prog t (.mp id) (.agg p.c) v m k=k (m.set id (.map (mpP (E++[(p,v)])))):=by
 obtain⟨d,hd⟩:=um_pq
 unfold x21x
 simp only[ht,x271,hd,h]
 rw[if_pos (x270 hd E p),set_mpP E p v hn]
theorem lkP_app(E:List (Pq×AV))(p q:Pq)(v:AV)(h:lkP E p=none):lkP (E++[(p,v)]) q=if q.same p=true then some v else lkP E q:=by
 induction E with
 |nil=>simp[lkP]
 |cons x r ih=>
  simp only[lkP,List.cons_append]at h ⊢
  by_cases c:p.same x.1=true
  .rw[if_pos c]at h;cases h
  .rw[if_neg c]at h
   rw[ih h]
   by_cases e:q.same x.1=true
   .rw[if_pos e,if_neg,if_pos e]
    intro e2
    rw[Pq.same_iff]at e e2 c
    exact c (by rw[<-e2,e])
   .rw[if_neg e,if_neg e]
end Go.Ix
