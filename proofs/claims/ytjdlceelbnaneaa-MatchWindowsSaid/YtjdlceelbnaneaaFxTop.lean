import Derived.Test.YtjdlceelbnaneaaFxSound2
import Derived.Test.YtjdlceelbnaneaaFxLe
import Derived.Test.YtjdlceelbnaneaaIxD
namespace Go.Ix
open Go.Proofs
theorem xgc:∀d,x9w Try.prog pol (x6z d)
 |0=>λ_ _ _ _ _ _ _ _ _ h=>by simp[x6z]at h
 |d+1=>λ_ _ _ _ _ _ _ hm hu h=>fbody_ok (xgc d) hm hu (xg9 (λ_ _ _ _ _ h=>h) told h)
def xds(P:Program)(f:FuncId):Bool:=match P.funcs[f]? with
 |some fn=>!fn.body.isNone&&!(fn.name == "runtime.NumGoroutine")
 |none=>false
theorem xib{P:Program}{f:FuncId}(h:xds P f=true):x89 P f:=by
 unfold xds at h
 split at h
 .rename_i fn e
  simp only[xjv,xmg,beq_eq_false_iff_ne,ne_eq]at h
  exact⟨fn,e,h.1,h.2⟩
 .cases h
theorem calls_of_E{d:Nat}{f:FuncId}{args:List AV}{vs:Array Value}{w:World}{x:Value}{m':Mem}(h:x6z d [] f args mem0=some (.sc x,m'))(hl:vs.size=args.length)(hV:∀(i:Nat) (a:AV) (v:Value),args[i]?=some a->vs[i]?=some v->V (λb=>b<w.heap.size) w eta0 [] a v)(hb:xds Try.prog f=true:=by kernel_rfl) :
 Calls Try.prog f vs w λe w'=>e=.returned x/\Ext (λ_=>True) w w':=by
 obtain⟨n,hn⟩:=xgc d _ Nil _ _ _ _ _ Mono.nil Under.nil h
 exact xi5 (by rfl) (xib hb) hn hl hV
end Go.Ix
