import Derived.Test.YtpeakdjfagbpcaaGreatFxSound2
import Derived.Test.YtpeakdjfagbpcaaGreatFxLe
import Derived.Test.YtpeakdjfagbpcaaGreatIxD
namespace Go.Ix
open Go.Proofs
theorem x1f3:∀d,x17e Tryz.prog pol (x13e d)
 |0=>fun _ _ _ _ _ _ _ _ _ h=>by simp[x13e]at h
 |d+1=>fun _ _ _ _ _ _ _ hm hu h=>fbody_ok (x1f3 d) hm hu (x1f0 (fun _ _ _ _ _ h=>h) told h)
theorem calls_of_E{d:Nat}{f:FuncId}{args:List AV}{vs:Array Value}{w:World}{x:Value}{m':Mem}(h:x13e d [] f args mem0=some (.sc x,m'))(hl:vs.size=args.length)(hV:∀(i:Nat) (a:AV) (v:Value),args[i]?=some a->vs[i]?=some v->V (fun b=>b<w.heap.size) w eta0 [] a v) :
 Calls Tryz.prog f vs w fun e w'=>e=.returned x/\Ext (fun _=>True) w w':=by
 obtain⟨n,hn⟩:=x1f3 d _ Nil _ _ _ _ _ Mono.nil Under.nil h
 exact x1hh (by rfl) hn hl hV
end Go.Ix
