import Derived.Test.YtibmppgmjbpdmaaGreatDoorFxSound2
import Derived.Test.YtibmppgmjbpdmaaGreatDoorFxLe
import Derived.Test.YtibmppgmjbpdmaaGreatDoorIxD
namespace Go.Ix
open Go.Proofs
theorem x1gh:∀d,x18d Tryz.prog pol (x14z d)
 |0=>λ_ _ _ _ _ _ _ _ _ h=>by simp[x14z]at h
 |d+1=>λ_ _ _ _ _ _ _ hm hu h=>fbody_ok (x1gh d) hm hu (x1es (λ_ _ _ _ _ h=>h) told h)
def x1dj(P:Program)(f:FuncId):Bool:=match P.funcs[f]? with
 |some fn=>!fn.body.isNone&&!(fn.name == "runtime.NumGoroutine")
 |none=>false
theorem x19r{P:Program}{f:FuncId}(h:x1dj P f=true):x161 P f:=by
 unfold x1dj at h
 split at h
 .rename_i fn e
  simp only[x1p4,x1rv,beq_eq_false_iff_ne,ne_eq]at h
  exact⟨fn,e,h.1,h.2⟩
 .cases h
theorem calls_of_T(ht:x19l Tryz.prog pol){d:Nat}{f:FuncId}{args:List AV}{vs:Array Value}{w:World}{x:Value}{m':Mem}(h:x14z d [] f args mem0=some (.sc x,m'))(hl:vs.size=args.length)(hk:∀w',Ext (λb=>b<w.heap.size) w w'->x18h Tryz.prog w')(hV:∀(i:Nat) (a:AV) (v:Value),args[i]?=some a->vs[i]?=some v->V (λb=>b<w.heap.size) w eta0 [] a v)(hb:x1dj Tryz.prog f=true:=by kernel_rfl) :
 Calls Tryz.prog f vs w λe w'=>e=.returned x/\Ext (λ_=>True) w w':=by
 obtain⟨n,hn⟩:=x1gh d _ Nil _ _ _ _ _ Mono.nil Under.nil h
 exact x1ir (by rfl) ht hk (x19r hb) hn hl hV
end Go.Ix
