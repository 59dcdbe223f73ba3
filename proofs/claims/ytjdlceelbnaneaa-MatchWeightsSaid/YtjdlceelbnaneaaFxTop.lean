import Derived.Test.YtjdlceelbnaneaaFxSound2
import Derived.Test.YtjdlceelbnaneaaFxLe
import Derived.Test.YtjdlceelbnaneaaIxD
namespace Go.Ix
open Go.Proofs
theorem x8d:∀d,x3d Try.prog pol (x1v d)
 |0=>λ_ _ _ _ _ _ _ _ _ h=>by simp[x1v]at h
 |d+1=>λ_ _ _ _ _ _ _ hm hu h=>fbody_ok (x8d d) hm hu (x8a (λ_ _ _ _ _ h=>h) told h)
def x6j(P:Program)(f:FuncId):Bool:=match P.funcs[f]? with
 |some fn=>!fn.body.isNone&&!(fn.name == "runtime.NumGoroutine")
 |none=>false
theorem x9r{P:Program}{f:FuncId}(h:x6j P f=true):x2b P f:=by
 unfold x6j at h
 split at h
 .rename_i fn e
  simp only[xa8,xcf,beq_eq_false_iff_ne,ne_eq]at h
  exact⟨fn,e,h.1,h.2⟩
 .cases h
theorem calls_of_E{d:Nat}{f:FuncId}{args:List AV}{vs:Array Value}{w:World}{x:Value}{m':Mem}(h:x1v d [] f args mem0=some (.sc x,m'))(hl:vs.size=args.length)(hV:∀(i:Nat) (a:AV) (v:Value),args[i]?=some a->vs[i]?=some v->V (λb=>b<w.heap.size) w eta0 [] a v)(hb:x6j Try.prog f=true:=by kernel_rfl) :
 Calls Try.prog f vs w λe w'=>e=.returned x/\Ext (λ_=>True) w w':=by
 obtain⟨n,hn⟩:=x8d d _ Nil _ _ _ _ _ Mono.nil Under.nil h
 exact x9l (by rfl) (x9r hb) hn hl hV
end Go.Ix
