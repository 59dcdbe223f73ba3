import Derived.Test.YtaoalekmhjclnaaGreatDoorFxSound2
import Derived.Test.YtaoalekmhjclnaaGreatDoorFxLe
import Derived.Test.YtaoalekmhjclnaaGreatDoorIxD
namespace Go.Ix
open Go.Proofs
theorem x1jx:∀d,x1c5 Tryz.prog pol (x180 d)
 |0=>λ_ _ _ _ _ _ _ _ _ h=>by simp[x180]at h
 |d+1=>λ_ _ _ _ _ _ _ hm hu h=>fbody_ok (x1jx d) hm hu (x1i9 (λ_ _ _ _ _ h=>h) told h)
def x1h5(P:Program)(f:FuncId):Bool:=match P.funcs[f]? with
 |some fn=>!fn.body.isNone&&!(fn.name == "runtime.NumGoroutine")
 |none=>false
theorem x1ei{P:Program}{f:FuncId}(h:x1h5 P f=true):x1a8 P f:=by
 unfold x1h5 at h
 split at h
 .rename_i fn e
  simp only[x1sl,x1vs,beq_eq_false_iff_ne,ne_eq]at h
  exact⟨fn,e,h.1,h.2⟩
 .cases h
theorem calls_of_T(ht:x1d1 Tryz.prog pol){d:Nat}{f:FuncId}{args:List AV}{vs:Array Value}{w:World}{x:Value}{m':Mem}(h:x180 d [] f args mem0=some (.sc x,m'))(hl:vs.size=args.length)(hk:∀w',Ext (λb=>b<w.heap.size) w w'->x1cy Tryz.prog w')(hV:∀(i:Nat) (a:AV) (v:Value),args[i]?=some a->vs[i]?=some v->V (λb=>b<w.heap.size) w eta0 [] a v)(hb:x1h5 Tryz.prog f=true:=by kernel_rfl) :
 Calls Tryz.prog f vs w λe w'=>e=.returned x/\Ext (λ_=>True) w w':=by
 obtain⟨n,hn⟩:=x1jx d _ Nil _ _ _ _ _ Mono.nil Under.nil h
 exact x1lw (by rfl) ht hk (x1ei hb) hn hl hV
end Go.Ix
