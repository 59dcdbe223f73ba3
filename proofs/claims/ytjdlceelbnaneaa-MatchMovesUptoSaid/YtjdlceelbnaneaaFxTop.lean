import Derived.Test.YtjdlceelbnaneaaFxSound2
import Derived.Test.YtjdlceelbnaneaaFxLe
import Derived.Test.YtjdlceelbnaneaaIxD
namespace Go.Ix
open Go.Proofs
theorem xhp:∀d,xb3 Try.prog pol (x80 d)
 |0=>λ_ _ _ _ _ _ _ _ _ h=>by simp[x80]at h
 |d+1=>λ_ _ _ _ _ _ _ hm hu h=>fbody_ok (xhp d) hm hu (xhm (λ_ _ _ _ _ h=>h) told h)
def xf8(P:Program)(f:FuncId):Bool:=match P.funcs[f]? with
 |some fn=>!fn.body.isNone&&!(fn.name == "runtime.NumGoroutine")
 |none=>false
theorem xjq{P:Program}{f:FuncId}(h:xf8 P f=true):x9d P f:=by
 unfold xf8 at h
 split at h
 .rename_i fn e
  simp only[xlf,xny,beq_eq_false_iff_ne,ne_eq]at h
  exact⟨fn,e,h.1,h.2⟩
 .cases h
theorem calls_of_E{d:Nat}{f:FuncId}{args:List AV}{vs:Array Value}{w:World}{x:Value}{m':Mem}(h:x80 d [] f args mem0=some (.sc x,m'))(hl:vs.size=args.length)(hV:∀(i:Nat) (a:AV) (v:Value),args[i]?=some a->vs[i]?=some v->V (λb=>b<w.heap.size) w eta0 [] a v)(hb:xf8 Try.prog f=true:=by kernel_rfl) :
 Calls Try.prog f vs w λe w'=>e=.returned x/\Ext (λ_=>True) w w':=by
 obtain⟨n,hn⟩:=xhp d _ Nil _ _ _ _ _ Mono.nil Under.nil h
 exact xjk (by rfl) (xjq hb) hn hl hV
end Go.Ix
