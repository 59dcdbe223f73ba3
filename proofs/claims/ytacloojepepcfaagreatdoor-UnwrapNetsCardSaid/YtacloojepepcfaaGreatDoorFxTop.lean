import Derived.Test.YtacloojepepcfaaGreatDoorFxSound2
import Derived.Test.YtacloojepepcfaaGreatDoorFxLe
import Derived.Test.YtacloojepepcfaaGreatDoorIxD
namespace Go.Ix
open Go.Proofs
theorem x11i:∀d,xtb Tryz.prog pol (xow d)
 |0=>λ_ _ _ _ _ _ _ _ _ h=>by simp[xow]at h
 |d+1=>λ_ _ _ _ _ _ _ hm hu h=>fbody_ok (x11i d) hm hu (xzu (λ_ _ _ _ _ h=>h) told h)
def xyi(P:Program)(f:FuncId):Bool:=match P.funcs[f]? with
 |some fn=>!fn.body.isNone&&!(fn.name == "runtime.NumGoroutine")
 |none=>false
theorem xut{P:Program}{f:FuncId}(h:xyi P f=true):xqh P f:=by
 unfold xyi at h
 split at h
 .rename_i fn e
  simp only[x17y,x1b7,beq_eq_false_iff_ne,ne_eq]at h
  exact⟨fn,e,h.1,h.2⟩
 .cases h
theorem calls_of_T(ht:xtz Tryz.prog pol){d:Nat}{f:FuncId}{args:List AV}{vs:Array Value}{w:World}{x:Value}{m':Mem}(h:xow d [] f args mem0=some (.sc x,m'))(hl:vs.size=args.length)(hk:∀w',Ext (λb=>b<w.heap.size) w w'->xt2 Tryz.prog w')(hV:∀(i:Nat) (a:AV) (v:Value),args[i]?=some a->vs[i]?=some v->V (λb=>b<w.heap.size) w eta0 [] a v)(hb:xyi Tryz.prog f=true:=by kernel_rfl) :
 Calls Tryz.prog f vs w λe w'=>e=.returned x/\Ext (λ_=>True) w w':=by
 obtain⟨n,hn⟩:=x11i d _ Nil _ _ _ _ _ Mono.nil Under.nil h
 exact x13u (by rfl) ht hk (xut hb) hn hl hV
end Go.Ix
