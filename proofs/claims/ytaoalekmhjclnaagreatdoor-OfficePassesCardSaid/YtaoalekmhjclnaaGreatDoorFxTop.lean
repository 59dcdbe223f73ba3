import Derived.Test.YtaoalekmhjclnaaGreatDoorFxSound2
import Derived.Test.YtaoalekmhjclnaaGreatDoorFxLe
import Derived.Test.YtaoalekmhjclnaaGreatDoorIxD
namespace Go.Ix
open Go.Proofs
theorem x1g6:∀d,x19a Tryz.prog pol (x15i d)
 |0=>λ_ _ _ _ _ _ _ _ _ h=>by simp[x15i]at h
 |d+1=>λ_ _ _ _ _ _ _ hm hu h=>fbody_ok (x1g6 d) hm hu (x1ei (λ_ _ _ _ _ h=>h) told h)
def x1dn(P:Program)(f:FuncId):Bool:=match P.funcs[f]? with
 |some fn=>!fn.body.isNone&&!(fn.name == "runtime.NumGoroutine")
 |none=>false
theorem x1bc{P:Program}{f:FuncId}(h:x1dn P f=true):x179 P f:=by
 unfold x1dn at h
 split at h
 .rename_i fn e
  simp only[x1o1,x1qv,beq_eq_false_iff_ne,ne_eq]at h
  exact⟨fn,e,h.1,h.2⟩
 .cases h
theorem calls_of_T(ht:x1a1 Tryz.prog pol){d:Nat}{f:FuncId}{args:List AV}{vs:Array Value}{w:World}{x:Value}{m':Mem}(h:x15i d [] f args mem0=some (.sc x,m'))(hl:vs.size=args.length)(hk:∀w',Ext (λb=>b<w.heap.size) w w'->x19y Tryz.prog w')(hV:∀(i:Nat) (a:AV) (v:Value),args[i]?=some a->vs[i]?=some v->V (λb=>b<w.heap.size) w eta0 [] a v)(hb:x1dn Tryz.prog f=true:=by kernel_rfl) :
 Calls Tryz.prog f vs w λe w'=>e=.returned x/\Ext (λ_=>True) w w':=by
 obtain⟨n,hn⟩:=x1g6 d _ Nil _ _ _ _ _ Mono.nil Under.nil h
 exact x1hw (by rfl) ht hk (x1bc hb) hn hl hV
end Go.Ix
