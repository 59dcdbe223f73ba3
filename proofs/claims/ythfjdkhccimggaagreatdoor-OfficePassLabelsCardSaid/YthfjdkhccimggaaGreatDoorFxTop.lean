import Derived.Test.YthfjdkhccimggaaGreatDoorFxSound2
import Derived.Test.YthfjdkhccimggaaGreatDoorFxLe
import Derived.Test.YthfjdkhccimggaaGreatDoorIxD
namespace Go.Ix
open Go.Proofs
theorem x1ek:∀d,x181 Tryz.prog pol (x14k d)
 |0=>λ_ _ _ _ _ _ _ _ _ h=>by simp[x14k]at h
 |d+1=>λ_ _ _ _ _ _ _ hm hu h=>fbody_ok (x1ek d) hm hu (x1cw (λ_ _ _ _ _ h=>h) told h)
def x1c3(P:Program)(f:FuncId):Bool:=match P.funcs[f]? with
 |some fn=>!fn.body.isNone&&!(fn.name == "runtime.NumGoroutine")
 |none=>false
theorem x19x{P:Program}{f:FuncId}(h:x1c3 P f=true):x15z P f:=by
 unfold x1c3 at h
 split at h
 .rename_i fn e
  simp only[x1m7,x1p0,beq_eq_false_iff_ne,ne_eq]at h
  exact⟨fn,e,h.1,h.2⟩
 .cases h
theorem calls_of_T(ht:x18p Tryz.prog pol){d:Nat}{f:FuncId}{args:List AV}{vs:Array Value}{w:World}{x:Value}{m':Mem}(h:x14k d [] f args mem0=some (.sc x,m'))(hl:vs.size=args.length)(hk:∀w',Ext (λb=>b<w.heap.size) w w'->x18m Tryz.prog w')(hV:∀(i:Nat) (a:AV) (v:Value),args[i]?=some a->vs[i]?=some v->V (λb=>b<w.heap.size) w eta0 [] a v)(hb:x1c3 Tryz.prog f=true:=by kernel_rfl) :
 Calls Tryz.prog f vs w λe w'=>e=.returned x/\Ext (λ_=>True) w w':=by
 obtain⟨n,hn⟩:=x1ek d _ Nil _ _ _ _ _ Mono.nil Under.nil h
 exact x1g8 (by rfl) ht hk (x19x hb) hn hl hV
end Go.Ix
