import Derived.Test.YtongoppeakpioaaFxSound2
import Derived.Test.YtongoppeakpioaaFxLe
import Derived.Test.YtongoppeakpioaaIxD
namespace Go.Ix
open Go.Proofs
theorem xdu:∀d,x6s Try.prog pol (x3q d)
 |0=>λ_ _ _ _ _ _ _ _ _ h=>by simp[x3q]at h
 |d+1=>λ_ _ _ _ _ _ _ hm hu h=>fbody_ok (xdu d) hm hu (xdr (λ_ _ _ _ _ h=>h) told h)
def x9j(P:Program)(f:FuncId):Bool:=match P.funcs[f]? with
 |some fn=>!fn.body.isNone&&!(fn.name == "runtime.NumGoroutine")
 |none=>false
theorem xfo{P:Program}{f:FuncId}(h:x9j P f=true):x4y P f:=by
 unfold x9j at h
 split at h
 .rename_i fn e
  simp only[xgm,xjf,beq_eq_false_iff_ne,ne_eq]at h
  exact⟨fn,e,h.1,h.2⟩
 .cases h
theorem xfp(ht:x77 Try.prog pol){d:Nat}{f:FuncId}{args:List AV}{vs:Array Value}{w:World}{x:Value}{m':Mem}(h:x3q d [] f args mem0=some (.sc x,m'))(hl:vs.size=args.length)(hk:∀w',Ext (λb=>b<w.heap.size) w w'->x74 Try.prog w')(hV:∀(i:Nat) (a:AV) (v:Value),args[i]?=some a->vs[i]?=some v->V (λb=>b<w.heap.size) w eta0 [] a v)(hb:x9j Try.prog f=true:=by kernel_rfl) :
 Calls Try.prog f vs w λe w'=>e=.returned x/\Ext (λ_=>True) w w':=by
 obtain⟨n,hn⟩:=xdu d _ Nil _ _ _ _ _ Mono.nil Under.nil h
 exact xfh (by rfl) ht hk (xfo hb) hn hl hV
end Go.Ix
