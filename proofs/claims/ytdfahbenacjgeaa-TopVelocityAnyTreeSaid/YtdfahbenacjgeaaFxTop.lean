import Derived.Test.YtdfahbenacjgeaaFxSound2
import Derived.Test.YtdfahbenacjgeaaFxLe
import Derived.Test.YtdfahbenacjgeaaIxD
namespace Go.Ix
open Go.Proofs
theorem x6h:∀d,yU Try.prog pol (qG d)
 |0=>λ_ _ _ _ _ _ _ _ _ h=>by simp[qG]at h
 |d+1=>λ_ _ _ _ _ _ _ hm hu h=>fbody_ok (x6h d) hm hu (x6e (λ_ _ _ _ _ h=>h) told h)
def J9(P:Program)(f:FuncId):Bool:=match P.funcs[f]? with
 |some fn=>!fn.body.isNone&&!(fn.name == "runtime.NumGoroutine")
 |none=>false
theorem x9g{P:Program}{f:FuncId}(h:J9 P f=true):uM P f:=by
 unfold J9 at h;split at h
 .rename_i fn e;simp only[xc6,xfp,beq_eq_false_iff_ne,ne_eq]at h;exact⟨fn,e,h.1,h.2⟩
 .cases h
theorem x9h(ht:o5 Try.prog pol){d:Nat}{f:FuncId}{args:List AV}{vs:Array Value}{w:World}{x:Value}{m':Mem}(h:qG d [] f args mem0=some (.sc x,m'))(hl:vs.size=args.length)(hk:∀w',Ext (λb=>b<w.heap.size) w w'->n7 Try.prog w')(hV:∀(i:Nat) (a:AV) (v:Value),args[i]?=some a->vs[i]?=some v->V (λb=>b<w.heap.size) w eta0 [] a v)(hb:J9 Try.prog f=true:=by kernel_rfl) :
 Calls Try.prog f vs w λe w'=>e=.returned x/\Ext (λ_=>True) w w':=by
 obtain⟨n,hn⟩:=x6h d _ Nil _ _ _ _ _ Mono.nil Under.nil h;exact x99 (by rfl) ht hk (x9g hb) hn hl hV
end Go.Ix
