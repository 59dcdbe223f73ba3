import Derived.Test.YtifmaegopmkaoaaGreatFxSound2
import Derived.Test.YtifmaegopmkaoaaGreatFxLe
import Derived.Test.YtifmaegopmkaoaaGreatIxD
namespace Go.Ix
open Go.Proofs
theorem xr5:∀d,xim Tryz.prog pol (xep d)
 |0=>λ_ _ _ _ _ _ _ _ _ h=>by simp[xep]at h
 |d+1=>λ_ _ _ _ _ _ _ hm hu h=>fbody_ok (xr5 d) hm hu (xr2 (λ_ _ _ _ _ h=>h) told h)
def xm4(P:Program)(f:FuncId):Bool:=match P.funcs[f]? with
 |some fn=>!fn.body.isNone&&!(fn.name == "runtime.NumGoroutine")
 |none=>false
theorem xtu{P:Program}{f:FuncId}(h:xm4 P f=true):xgf P f:=by
 unfold xm4 at h
 split at h
 .rename_i fn e
  simp only[xwb,xzd,beq_eq_false_iff_ne,ne_eq]at h
  exact⟨fn,e,h.1,h.2⟩
 .cases h
theorem xtv(ht:xj9 Tryz.prog pol){d:Nat}{f:FuncId}{args:List AV}{vs:Array Value}{w:World}{x:Value}{m':Mem}(h:xep d [] f args mem0=some (.sc x,m'))(hl:vs.size=args.length)(hk:∀w',Ext (λb=>b<w.heap.size) w w'->xj6 Tryz.prog w')(hV:∀(i:Nat) (a:AV) (v:Value),args[i]?=some a->vs[i]?=some v->V (λb=>b<w.heap.size) w eta0 [] a v)(hb:xm4 Tryz.prog f=true:=by kernel_rfl) :
 Calls Tryz.prog f vs w λe w'=>e=.returned x/\Ext (λ_=>True) w w':=by
 obtain⟨n,hn⟩:=xr5 d _ Nil _ _ _ _ _ Mono.nil Under.nil h
 exact xtn (by rfl) ht hk (xtu hb) hn hl hV
end Go.Ix
