import Derived.Test.YtklcdahoajabmaaFxSound2
import Derived.Test.YtklcdahoajabmaaFxLe
import Derived.Test.YtklcdahoajabmaaIxD
namespace Go.Ix
open Go.Proofs
theorem xo8:∀d,xgb Try.prog pol (xcu d)
 |0=>λ_ _ _ _ _ _ _ _ _ h=>by simp[xcu]at h
 |d+1=>λ_ _ _ _ _ _ _ hm hu h=>fbody_ok (xo8 d) hm hu (xo5 (λ_ _ _ _ _ h=>h) told h)
def xlb(P:Program)(f:FuncId):Bool:=match P.funcs[f]? with
 |some fn=>!fn.body.isNone&&!(fn.name == "runtime.NumGoroutine")
 |none=>false
theorem xqs{P:Program}{f:FuncId}(h:xlb P f=true):xef P f:=by
 unfold xlb at h
 split at h
 .rename_i fn e
  simp only[xte,xwa,beq_eq_false_iff_ne,ne_eq]at h
  exact⟨fn,e,h.1,h.2⟩
 .cases h
theorem calls_of_E{d:Nat}{f:FuncId}{args:List AV}{vs:Array Value}{w:World}{x:Value}{m':Mem}(h:xcu d [] f args mem0=some (.sc x,m'))(hl:vs.size=args.length)(hV:∀(i:Nat) (a:AV) (v:Value),args[i]?=some a->vs[i]?=some v->V (λb=>b<w.heap.size) w eta0 [] a v)(hb:xlb Try.prog f=true:=by kernel_rfl) :
 Calls Try.prog f vs w λe w'=>e=.returned x/\Ext (λ_=>True) w w':=by
 obtain⟨n,hn⟩:=xo8 d _ Nil _ _ _ _ _ Mono.nil Under.nil h
 exact xqm (by rfl) (xqs hb) hn hl hV
end Go.Ix
