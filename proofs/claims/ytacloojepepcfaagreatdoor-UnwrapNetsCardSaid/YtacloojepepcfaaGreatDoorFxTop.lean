import Derived.Test.YtacloojepepcfaaGreatDoorFxSound2
import Derived.Test.YtacloojepepcfaaGreatDoorFxLe
import Derived.Test.YtacloojepepcfaaGreatDoorIxD
namespace Go.Ix
open Go.Proofs
theorem x11j:∀d,xtc Tryz.prog pol (xox d)
 |0=>λ_ _ _ _ _ _ _ _ _ h=>by simp[xox]at h
 |d+1=>λ_ _ _ _ _ _ _ hm hu h=>fbody_ok (x11j d) hm hu (xzv (λ_ _ _ _ _ h=>h) told h)
def xyj(P:Program)(f:FuncId):Bool:=match P.funcs[f]? with
 |some fn=>!fn.body.isNone&&!(fn.name == "runtime.NumGoroutine")
 |none=>false
theorem xuu{P:Program}{f:FuncId}(h:xyj P f=true):xqi P f:=by
 unfold xyj at h
 split at h
 .rename_i fn e
  simp only[x17z,x1b8,beq_eq_false_iff_ne,ne_eq]at h
  exact⟨fn,e,h.1,h.2⟩
 .cases h
theorem calls_of_T(ht:xu0 Tryz.prog pol){d:Nat}{f:FuncId}{args:List AV}{vs:Array Value}{w:World}{x:Value}{m':Mem}(h:xox d [] f args mem0=some (.sc x,m'))(hl:vs.size=args.length)(hk:∀w',Ext (λb=>b<w.heap.size) w w'->xt3 Tryz.prog w')(hV:∀(i:Nat) (a:AV) (v:Value),args[i]?=some a->vs[i]?=some v->V (λb=>b<w.heap.size) w eta0 [] a v)(hb:xyj Tryz.prog f=true:=by kernel_rfl) :
 Calls Tryz.prog f vs w λe w'=>e=.returned x/\Ext (λ_=>True) w w':=by
 obtain⟨n,hn⟩:=x11j d _ Nil _ _ _ _ _ Mono.nil Under.nil h
 exact x13v (by rfl) ht hk (xuu hb) hn hl hV
end Go.Ix
