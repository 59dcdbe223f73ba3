import Derived.Test.YtgediplphidhpaaGreatFxSound2
import Derived.Test.YtgediplphidhpaaGreatFxLe
import Derived.Test.YtgediplphidhpaaGreatIxD
namespace Go.Ix
open Go.Proofs
theorem x12h:∀d,xsv Tryz.prog pol (xnt d)
 |0=>λ_ _ _ _ _ _ _ _ _ h=>by simp[xnt]at h
 |d+1=>λ_ _ _ _ _ _ _ hm hu h=>fbody_ok (x12h d) hm hu (x12e (λ_ _ _ _ _ h=>h) told h)
def xwr(P:Program)(f:FuncId):Bool:=match P.funcs[f]? with
 |some fn=>!fn.body.isNone&&!(fn.name == "runtime.NumGoroutine")
 |none=>false
theorem x12i{P:Program}{f:FuncId}(h:xwr P f=true):xpv P f:=by
 unfold xwr at h
 split at h
 .rename_i fn e
  simp only[x195,x1cs,beq_eq_false_iff_ne,ne_eq]at h
  exact⟨fn,e,h.1,h.2⟩
 .cases h
theorem x15h(ht:xtc Tryz.prog pol){d:Nat}{f:FuncId}{args:List AV}{vs:Array Value}{w:World}{x:Value}{m':Mem}(h:xnt d [] f args mem0=some (.sc x,m'))(hl:vs.size=args.length)(hk:∀w',Ext (λb=>b<w.heap.size) w w'->xt9 Tryz.prog w')(hV:∀(i:Nat) (a:AV) (v:Value),args[i]?=some a->vs[i]?=some v->V (λb=>b<w.heap.size) w eta0 [] a v)(hb:xwr Tryz.prog f=true:=by kernel_rfl) :
 Calls Tryz.prog f vs w λe w'=>e=.returned x/\Ext (λ_=>True) w w':=by
 obtain⟨n,hn⟩:=x12h d _ Nil _ _ _ _ _ Mono.nil Under.nil h
 exact x15a (by rfl) ht hk (x12i hb) hn hl hV
end Go.Ix
