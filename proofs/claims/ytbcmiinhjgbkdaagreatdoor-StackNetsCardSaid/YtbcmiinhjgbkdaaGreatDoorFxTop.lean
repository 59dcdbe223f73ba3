import Derived.Test.YtbcmiinhjgbkdaaGreatDoorFxSound2
import Derived.Test.YtbcmiinhjgbkdaaGreatDoorFxLe
import Derived.Test.YtbcmiinhjgbkdaaGreatDoorIxD
namespace Go.Ix
open Go.Proofs
theorem x1dp:∀d,x14v Tryz.prog pol (x10p d)
 |0=>λ_ _ _ _ _ _ _ _ _ h=>by simp[x10p]at h
 |d+1=>λ_ _ _ _ _ _ _ hm hu h=>fbody_ok (x1dp d) hm hu (x1c0 (λ_ _ _ _ _ h=>h) told h)
def x1an(P:Program)(f:FuncId):Bool:=match P.funcs[f]? with
 |some fn=>!fn.body.isNone&&!(fn.name == "runtime.NumGoroutine")
 |none=>false
theorem x15j{P:Program}{f:FuncId}(h:x1an P f=true):x11x P f:=by
 unfold x1an at h
 split at h
 .rename_i fn e
  simp only[x1m5,x1pn,beq_eq_false_iff_ne,ne_eq]at h
  exact⟨fn,e,h.1,h.2⟩
 .cases h
theorem calls_of_T(ht:x160 Tryz.prog pol){d:Nat}{f:FuncId}{args:List AV}{vs:Array Value}{w:World}{x:Value}{m':Mem}(h:x10p d [] f args mem0=some (.sc x,m'))(hl:vs.size=args.length)(hk:∀w',Ext (λb=>b<w.heap.size) w w'->x14z Tryz.prog w')(hV:∀(i:Nat) (a:AV) (v:Value),args[i]?=some a->vs[i]?=some v->V (λb=>b<w.heap.size) w eta0 [] a v)(hb:x1an Tryz.prog f=true:=by kernel_rfl) :
 Calls Tryz.prog f vs w λe w'=>e=.returned x/\Ext (λ_=>True) w w':=by
 obtain⟨n,hn⟩:=x1dp d _ Nil _ _ _ _ _ Mono.nil Under.nil h
 exact x1ge (by rfl) ht hk (x15j hb) hn hl hV
end Go.Ix
