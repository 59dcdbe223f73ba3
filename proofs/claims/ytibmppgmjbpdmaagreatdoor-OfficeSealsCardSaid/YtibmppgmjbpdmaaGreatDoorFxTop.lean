import Derived.Test.YtibmppgmjbpdmaaGreatDoorFxSound2
import Derived.Test.YtibmppgmjbpdmaaGreatDoorFxLe
import Derived.Test.YtibmppgmjbpdmaaGreatDoorIxD
namespace Go.Ix
open Go.Proofs
theorem x1is:∀d,x1aj Tryz.prog pol (x16z d)
 |0=>λ_ _ _ _ _ _ _ _ _ h=>by simp[x16z]at h
 |d+1=>λ_ _ _ _ _ _ _ hm hu h=>fbody_ok (x1is d) hm hu (x1h3 (λ_ _ _ _ _ h=>h) told h)
def x1fu(P:Program)(f:FuncId):Bool:=match P.funcs[f]? with
 |some fn=>!fn.body.isNone&&!(fn.name == "runtime.NumGoroutine")
 |none=>false
theorem x1bv{P:Program}{f:FuncId}(h:x1fu P f=true):x188 P f:=by
 unfold x1fu at h
 split at h
 .rename_i fn e
  simp only[x1rv,x1ul,beq_eq_false_iff_ne,ne_eq]at h
  exact⟨fn,e,h.1,h.2⟩
 .cases h
theorem calls_of_T(ht:x1bp Tryz.prog pol){d:Nat}{f:FuncId}{args:List AV}{vs:Array Value}{w:World}{x:Value}{m':Mem}(h:x16z d [] f args mem0=some (.sc x,m'))(hl:vs.size=args.length)(hk:∀w',Ext (λb=>b<w.heap.size) w w'->x1an Tryz.prog w')(hV:∀(i:Nat) (a:AV) (v:Value),args[i]?=some a->vs[i]?=some v->V (λb=>b<w.heap.size) w eta0 [] a v)(hb:x1fu Tryz.prog f=true:=by kernel_rfl) :
 Calls Tryz.prog f vs w λe w'=>e=.returned x/\Ext (λ_=>True) w w':=by
 obtain⟨n,hn⟩:=x1is d _ Nil _ _ _ _ _ Mono.nil Under.nil h
 exact x1l6 (by rfl) ht hk (x1bv hb) hn hl hV
end Go.Ix
