import Derived.Test.YtjdlceelbnaneaaFxSound2
import Derived.Test.YtjdlceelbnaneaaFxLe
import Derived.Test.YtjdlceelbnaneaaIxD
namespace Go.Ix
open Go.Proofs
theorem xj8:∀d,xc7 Try.prog pol (x98 d)
 |0=>λ_ _ _ _ _ _ _ _ _ h=>by simp[x98]at h
 |d+1=>λ_ _ _ _ _ _ _ hm hu h=>fbody_ok (xj8 d) hm hu (xj5 (λ_ _ _ _ _ h=>h) told h)
def xgq(P:Program)(f:FuncId):Bool:=match P.funcs[f]? with
 |some fn=>!fn.body.isNone&&!(fn.name == "runtime.NumGoroutine")
 |none=>false
theorem xll{P:Program}{f:FuncId}(h:xgq P f=true):xam P f:=by
 unfold xgq at h
 split at h
 .rename_i fn e
  simp only[xn9,xpy,beq_eq_false_iff_ne,ne_eq]at h
  exact⟨fn,e,h.1,h.2⟩
 .cases h
theorem calls_of_E{d:Nat}{f:FuncId}{args:List AV}{vs:Array Value}{w:World}{x:Value}{m':Mem}(h:x98 d [] f args mem0=some (.sc x,m'))(hl:vs.size=args.length)(hV:∀(i:Nat) (a:AV) (v:Value),args[i]?=some a->vs[i]?=some v->V (λb=>b<w.heap.size) w eta0 [] a v)(hb:xgq Try.prog f=true:=by kernel_rfl) :
 Calls Try.prog f vs w λe w'=>e=.returned x/\Ext (λ_=>True) w w':=by
 obtain⟨n,hn⟩:=xj8 d _ Nil _ _ _ _ _ Mono.nil Under.nil h
 exact xlf (by rfl) (xll hb) hn hl hV
end Go.Ix
