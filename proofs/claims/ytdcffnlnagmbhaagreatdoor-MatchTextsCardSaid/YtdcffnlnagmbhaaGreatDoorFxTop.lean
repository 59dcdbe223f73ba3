import Derived.Test.YtdcffnlnagmbhaaGreatDoorFxSound2
import Derived.Test.YtdcffnlnagmbhaaGreatDoorFxLe
import Derived.Test.YtdcffnlnagmbhaaGreatDoorIxD
namespace Go.Ix
open Go.Proofs
theorem x10i:∀d,xsy Tryz.prog pol (xpc d)
 |0=>λ_ _ _ _ _ _ _ _ _ h=>by simp[xpc]at h
 |d+1=>λ_ _ _ _ _ _ _ hm hu h=>fbody_ok (x10i d) hm hu (xyu (λ_ _ _ _ _ h=>h) told h)
def xxq(P:Program)(f:FuncId):Bool:=match P.funcs[f]? with
 |some fn=>!fn.body.isNone&&!(fn.name == "runtime.NumGoroutine")
 |none=>false
theorem xuc{P:Program}{f:FuncId}(h:xxq P f=true):xqo P f:=by
 unfold xxq at h
 split at h
 .rename_i fn e
  simp only[x16y,x19x,beq_eq_false_iff_ne,ne_eq]at h
  exact⟨fn,e,h.1,h.2⟩
 .cases h
theorem calls_of_T(ht:xtp Tryz.prog pol){d:Nat}{f:FuncId}{args:List AV}{vs:Array Value}{w:World}{x:Value}{m':Mem}(h:xpc d [] f args mem0=some (.sc x,m'))(hl:vs.size=args.length)(hk:∀w',Ext (λb=>b<w.heap.size) w w'->xsq Tryz.prog w')(hV:∀(i:Nat) (a:AV) (v:Value),args[i]?=some a->vs[i]?=some v->V (λb=>b<w.heap.size) w eta0 [] a v)(hb:xxq Tryz.prog f=true:=by kernel_rfl) :
 Calls Tryz.prog f vs w λe w'=>e=.returned x/\Ext (λ_=>True) w w':=by
 obtain⟨n,hn⟩:=x10i d _ Nil _ _ _ _ _ Mono.nil Under.nil h
 exact x12o (by rfl) ht hk (xuc hb) hn hl hV
end Go.Ix
