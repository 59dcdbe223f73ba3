import Derived.Test.YtljibmnhhdiakaaFxConst
import Derived.ProofKit
namespace Go.Ix
open Go.Proofs
variable {P : Program} {pol : Pol} {N : Nat} {call : FCall} {R : Type} {c : FCtx} {X : Fs → Option R} {E : Nat → Fs → Option R} {T : Fs → Option R}

def nav : Code → List Bool → Code
  | c, [] => c
  | .seq a _, false :: p => nav a p
  | .seq _ b, true :: p => nav b p
  | .block _ b, _ :: p => nav b p
  | .loop b, _ :: p => nav b p
  | .cond _ a _, false :: p => nav a p
  | .cond _ _ b, true :: p => nav b p
  | .rangeFunc _ _ a _, false :: p => nav a p
  | .rangeFunc _ _ _ b, true :: p => nav b p
  | c, _ => c
noncomputable def bodyOf (f : FuncId) : Code := match Try.prog.funcs[f]? with
  | some fn => fn.body.getD .skip
  | none => .skip

theorem seq_r {a b : Code} : fxK P pol N call (.seq a b) R c X E T = fxK P pol N call a R c (fxK P pol N call b R c X E T) E T := rfl
theorem block_r {id : Nat} {b : Code} : fxK P pol N call (.block id b) R c X E T = fxK P pol N call b R c X (setE id X E) T := rfl
theorem cond_r {x : Operand} {a b : Code} : fxK P pol N call (.cond x a b) R c X E T = fun s => sCond (ev s.sl x) (fxK P pol N call a R c X E T s) (fxK P pol N call b R c X E T s) := rfl
theorem loop_r {b : Code} : fxK P pol N call (.loop b) R c X E T = iter (fun rec => fxK P pol N call b R c rec E T) N := rfl
theorem iter_succ {body : (Fs → Option R) → Fs → Option R} {n : Nat} : iter body (n + 1) = body (iter body n) := rfl
theorem rng_r {f : Operand} {ps : Array Tmp} {assign body : Code} {H : Nat → Fs → Option Mem}
    (hH : ∀ u : Nat, fxK P pol N call assign Mem { c with u := u } (fxK P pol N call body Mem { c with u := u } (fun s2 => some s2.m) eNil fNil) eNil fNil = H u) :
    fxK P pol N call (.rangeFunc f ps assign body) R c X E T = fun s => sRng (ev s.sl f) fun g caps =>
      (call (((c.u, s.fc, 0), rndF c.nt ps.size H ps.toList s.sl) :: c.hs) g (.yld (c.u, s.fc, 0) :: caps) s.m).bind fun p => X { s with m := p.2, fc := s.fc + 1 } := by
  have h : (fun u => fxK P pol N call assign Mem { c with u := u } (fxK P pol N call body Mem { c with u := u } (fun s2 => some s2.m) eNil fNil) eNil fNil) = H := funext hH
  subst h
  rfl
theorem fxBody_at {f : FuncId} {fn : Func} {body : Code} {nt : Nat} {rs : List ResultVar} {hs : FHs} {args : List AV} {m : Mem} (h1 : P.funcs[f]? = some fn) (h2 : fn.body = some body)
    (h3 : (fn.name != "runtime.NumGoroutine") = true) (h4 : fn.ntmps = nt) (h5 : fn.results.toList = rs) (h6 : Nat.ble args.length nt = true) :
    fxBody P pol N call hs f args m = fxK P pol N call body (AV × Mem) { f := f, u := m.next, nt := nt, hs := hs } (fxRes P rs) eNil (fxRes P rs) { sl := initSl args, m := ⟨m.hp, m.next + 1⟩, fc := 0 } := by
  subst h4 h5
  unfold fxBody
  simp only [h1, h2]
  rw [if_pos ⟨by simpa using h3, Nat.le_of_ble_eq_true h6⟩]

abbrev FnT := FCall → FHs → List AV → Mem → Option (AV × Mem)
def look (f : FuncId) : List (FuncId × FnT) → FnT
  | [] => fun _ _ _ _ => none
  | (n, F) :: r => bif Nat.beq f n then F else look f r
def Told (P : Program) (pol : Pol) (N : Nat) : List (FuncId × FnT) → Prop
  | [] => True
  | (n, F) :: r => (∀ (call : FCall) (hs : FHs) (args : List AV) (m : Mem) (x : AV × Mem), F call hs args m = some x → fxBody P pol N call hs n args m = some x) ∧ Told P pol N r
theorem look_told {f : FuncId} : ∀ {l : List (FuncId × FnT)}, Told P pol N l → ∀ {call : FCall} {hs : FHs} {args : List AV} {m : Mem} {x : AV × Mem}, look f l call hs args m = some x → fxBody P pol N call hs f args m = some x
  | [], _, _, _, _, _, _, h => by simp [look] at h
  | (n, F) :: r, ht, _, _, _, _, _, h => by
    simp only [look] at h
    by_cases hn : f = n
    · subst hn
      rw [show Nat.beq f f = true from by simp] at h
      exact ht.1 _ _ _ _ _ h
    · rw [show Nat.beq f n = false from by rw [Bool.eq_false_iff]; intro e; exact hn (Nat.eq_of_beq_eq_true e)] at h
      exact look_told ht.2 h

end Go.Ix
