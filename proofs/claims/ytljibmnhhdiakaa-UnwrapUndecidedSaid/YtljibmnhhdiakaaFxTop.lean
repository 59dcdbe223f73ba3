import Derived.Test.YtljibmnhhdiakaaFxSound2
import Derived.Test.YtljibmnhhdiakaaFxLe
import Derived.Test.YtljibmnhhdiakaaIxD
namespace Go.Ix
open Go.Proofs
theorem x24t:∀d,x1wd Try.prog pol (x1qp d)
 |0=>fun _ _ _ _ _ _ _ _ _ h=>by simp[x1qp]at h
 |d+1=>fun _ _ _ _ _ _ _ hm hu h=>fbody_ok (x24t d) hm hu (x24r told h)
theorem calls_of_E{d:Nat}{f:FuncId}{args:List AV}{vs:Array Value}{w:World}{x:Value}{m':Mem}(h:x1qp d [] f args mem0=some (.sc x,m'))(hl:vs.size=args.length)(hV:∀(i:Nat) (a:AV) (v:Value),args[i]?=some a->vs[i]?=some v->V (fun b=>b<w.heap.size) w eta0 [] a v) :
 Calls Try.prog f vs w fun e w'=>e=.returned x/\Ext (fun _=>True) w w':=by
 obtain⟨n,hn⟩:=x24t d _ Nil _ _ _ _ _ Mono.nil Under.nil h
 exact x27t (by rfl) hn hl hV
end Go.Ix
