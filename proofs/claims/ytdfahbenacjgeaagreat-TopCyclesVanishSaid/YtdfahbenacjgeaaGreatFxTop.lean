import Derived.Test.YtdfahbenacjgeaaGreatFxSound2
import Derived.Test.YtdfahbenacjgeaaGreatFxLe
import Derived.Test.YtdfahbenacjgeaaGreatIxD
namespace Go.Ix
open Go.Proofs
theorem x17g:∀d,xy3 Tryz.prog pol (xsi d)
 |0=>λ_ _ _ _ _ _ _ _ _ h=>by simp[xsi]at h
 |d+1=>λ_ _ _ _ _ _ _ hm hu h=>fbody_ok (x17g d) hm hu (x17d (λ_ _ _ _ _ h=>h) told h)
theorem calls_of_E{d:Nat}{f:FuncId}{args:List AV}{vs:Array Value}{w:World}{x:Value}{m':Mem}(h:xsi d [] f args mem0=some (.sc x,m'))(hl:vs.size=args.length)(hV:∀(i:Nat) (a:AV) (v:Value),args[i]?=some a->vs[i]?=some v->V (λb=>b<w.heap.size) w eta0 [] a v) :
 Calls Tryz.prog f vs w λe w'=>e=.returned x/\Ext (λ_=>True) w w':=by
 obtain⟨n,hn⟩:=x17g d _ Nil _ _ _ _ _ Mono.nil Under.nil h
 exact x1b3 (by rfl) hn hl hV
end Go.Ix
