import Derived.Test.YtjdlceelbnaneaaFxSound2
import Derived.Test.YtjdlceelbnaneaaFxLe
import Derived.Test.YtjdlceelbnaneaaIxD
namespace Go.Ix
open Go.Proofs
theorem x9u:∀d,x4i Try.prog pol (x2l d)
 |0=>λ_ _ _ _ _ _ _ _ _ h=>by simp[x2l]at h
 |d+1=>λ_ _ _ _ _ _ _ hm hu h=>fbody_ok (x9u d) hm hu (x9r (λ_ _ _ _ _ h=>h) told h)
def x7x(P:Program)(f:FuncId):Bool:=match P.funcs[f]? with
 |some fn=>!fn.body.isNone&&!(fn.name == "runtime.NumGoroutine")
 |none=>false
theorem xb9{P:Program}{f:FuncId}(h:x7x P f=true):x3d P f:=by
 unfold x7x at h
 split at h
 .rename_i fn e
  simp only[xbu,xe2,beq_eq_false_iff_ne,ne_eq]at h
  exact⟨fn,e,h.1,h.2⟩
 .cases h
theorem calls_of_E{d:Nat}{f:FuncId}{args:List AV}{vs:Array Value}{w:World}{x:Value}{m':Mem}(h:x2l d [] f args mem0=some (.sc x,m'))(hl:vs.size=args.length)(hV:∀(i:Nat) (a:AV) (v:Value),args[i]?=some a->vs[i]?=some v->V (λb=>b<w.heap.size) w eta0 [] a v)(hb:x7x Try.prog f=true:=by kernel_rfl) :
 Calls Try.prog f vs w λe w'=>e=.returned x/\Ext (λ_=>True) w w':=by
 obtain⟨n,hn⟩:=x9u d _ Nil _ _ _ _ _ Mono.nil Under.nil h
 exact xb3 (by rfl) (xb9 hb) hn hl hV
end Go.Ix
