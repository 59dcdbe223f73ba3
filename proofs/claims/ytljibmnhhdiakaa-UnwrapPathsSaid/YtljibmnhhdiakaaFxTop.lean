import Derived.Test.YtljibmnhhdiakaaFxSound2
import Derived.Test.YtljibmnhhdiakaaFxLe
import Derived.Test.YtljibmnhhdiakaaIxD
namespace Go.Ix
open Go.Proofs
theorem x1q3 : ∀ d, x1ip Try.prog pol (x1e6 d)
  | 0 => fun _ _ _ _ _ _ _ _ _ h => by simp [x1e6] at h
  | d + 1 => fun _ _ _ _ _ _ _ hm hu h => fbody_ok (x1q3 d) hm hu (x1q1 told h)
theorem calls_of_E {d : Nat} {f : FuncId} {args : List AV} {vs : Array Value} {w : World} {x : Value} {m' : Mem} (h : x1e6 d [] f args mem0 = some (.sc x, m')) (hl : vs.size = args.length)
    (hV : ∀ (i : Nat) (a : AV) (v : Value), args[i]? = some a → vs[i]? = some v → V (fun b => b < w.heap.size) w eta0 [] a v) :
    Calls Try.prog f vs w fun e w' => e = .returned x ∧ Ext (fun _ => True) w w' := by
  obtain ⟨n, hn⟩ := x1q3 d _ Nil _ _ _ _ _ Mono.nil Under.nil h
  exact x1sa (by rfl) hn hl hV
end Go.Ix
