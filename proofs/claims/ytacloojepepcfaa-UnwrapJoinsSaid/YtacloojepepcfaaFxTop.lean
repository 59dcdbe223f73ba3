import Derived.Test.YtacloojepepcfaaFxSound2
import Derived.Test.YtacloojepepcfaaFxLe
import Derived.Test.YtacloojepepcfaaIxD
namespace Go.Ix
open Go.Proofs
theorem xiw:∀d,xbz Try.prog pol (x7v d)
 |0=>λ_ _ _ _ _ _ _ _ _ h=>by simp[x7v]at h
 |d+1=>λ_ _ _ _ _ _ _ hm hu h=>fbody_ok (xiw d) hm hu (xit (λ_ _ _ _ _ h=>h) told h)
def xes(P:Program)(f:FuncId):Bool:=match P.funcs[f]? with
 |some fn=>!fn.body.isNone&&!(fn.name == "runtime.NumGoroutine")
 |none=>false
theorem xix{P:Program}{f:FuncId}(h:xes P f=true):x9g P f:=by
 unfold xes at h
 split at h
 .rename_i fn e
  simp only[xn0,xph,beq_eq_false_iff_ne,ne_eq]at h
  exact⟨fn,e,h.1,h.2⟩
 .cases h
theorem xl6(ht:xce Try.prog pol){d:Nat}{f:FuncId}{args:List AV}{vs:Array Value}{w:World}{x:Value}{m':Mem}(h:x7v d [] f args mem0=some (.sc x,m'))(hl:vs.size=args.length)(hk:∀w',Ext (λb=>b<w.heap.size) w w'->xcb Try.prog w')(hV:∀(i:Nat) (a:AV) (v:Value),args[i]?=some a->vs[i]?=some v->V (λb=>b<w.heap.size) w eta0 [] a v)(hb:xes Try.prog f=true:=by kernel_rfl) :
 Calls Try.prog f vs w λe w'=>e=.returned x/\Ext (λ_=>True) w w':=by
 obtain⟨n,hn⟩:=xiw d _ Nil _ _ _ _ _ Mono.nil Under.nil h
 exact xkz (by rfl) ht hk (xix hb) hn hl hV
end Go.Ix
