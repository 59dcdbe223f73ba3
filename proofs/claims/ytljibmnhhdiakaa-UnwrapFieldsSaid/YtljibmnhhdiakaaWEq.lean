/- When values of structs and arrays are equal. -/
import Derived.Test.YtljibmnhhdiakaaWNet
import Derived.Laws.StructEq
set_option linter.unusedSimpArgs false
set_option linter.unusedVariables false
namespace Go.Ix
open Go.Proofs
variable {P : Program}

theorem pr_bind {α β : Type} (f : α → Sem β) : ∀ s : Sem α, pureRun P (s >>= f) = (pureRun P s).bind fun a => pureRun P (f a) := by
  intro s
  show pureRun P (Sem.bind s f) = _
  induction s with
  | pure a => rfl
  | program k ih => exact ih P
  | mark x k ih => exact ih
  | _ => rfl
theorem pr_pure {α : Type} (a : α) : pureRun P (pure a : Sem α) = some a := rfl
theorem pr_program : pureRun P program = some P := rfl
theorem pr_underlying {t : TypeId} {d : TypeDesc} (h : P.underlying t = some d) : pureRun P (underlying t) = some d := by
  simp only [underlying, pr_bind, pr_program, bind_s, h]
  rfl
theorem pr_equalIn_struct (d : Nat) (t : TypeId) (xs ys : Array Value) (ht : P.underlying t = some (.struct (P.fieldsOf t))) (hp : P.stoodInHeld t = false) :
    pureRun P (Op.equalIn (d + 1) t (.agg xs) (.agg ys)) = pureRun P (Op.eqFields d xs ys (P.fieldsOf t).toList) := by
  simp only [Op.equalIn, pr_bind, pr_underlying ht, bind_s, pr_program, hp, Bool.false_eq_true, if_false]
  rw [← Array.forIn_toList]
  generalize (P.fieldsOf t).toList = fs
  clear ht
  induction fs with
  | nil => simp [Op.eqFields, pr_pure]
  | cons f fs ih =>
    simp only [List.forIn_cons, Op.eqFields, pr_bind]
    split
    · simp only [pr_bind]
      generalize pureRun P (part f.type xs f.offset) = r1
      cases r1 with
      | none => rfl
      | some a =>
        generalize hb : pureRun P (part f.type ys f.offset) = r2
        cases r2 with
        | none => simp [hb]
        | some b =>
          simp only [hb, bind_s]
          generalize pureRun P (Op.equalIn d f.type a b) = r3
          cases r3 with
          | none => rfl
          | some r =>
            cases r
            · rfl
            · exact ih
    · exact ih
theorem pr_equalIn_int (d : Nat) (t : TypeId) (k k' : IntKind) (a b : Int) (h : P.underlying t = some (.int k')) : pureRun P (Op.equalIn (d + 1) t (.int k a) (.int k b)) = some (a == b) := by
  simp [Op.equalIn, pr_bind, pr_underlying h, pr_pure]
theorem pr_eqGuard_agg (op : BinOp) (t : TypeId) (x y : Operand) (xs ys : Array Value) (hm : P.eqGuardType P.depth t = false) : pureRun P (eqGuard op t x y (.agg xs) (.agg ys)) = some () := by
  cases op <;> simp [eqGuard, pr_bind, pr_program, pr_pure, hm]

theorem sBin_neq_agg {t : TypeId} {x y : Operand} {xs ys : List Value} {r : Bool} (hm : P.eqGuardType P.depth t = false) (hr : pureRun P (Op.equalIn 10000 t (.agg xs.toArray) (.agg ys.toArray)) = some r) (hx : ∃ k, scs k = some xs) :
    ∀ kx ky, scs kx = some xs → scs ky = some ys → sBin P .neq t x y (.agg kx) (.agg ky) = some (B (!r)) := by
  intro kx ky h1 h2
  simp only [sBin, toVal, h1, h2, pr_bind, pr_eqGuard_agg _ _ _ _ _ _ hm, bind_s]
  have : pureRun P (binOp .neq t (.agg xs.toArray) (.agg ys.toArray)) = some (.bool (!r)) := by
    show pureRun P (do pure (Value.bool (!(← Op.equal t (.agg xs.toArray) (.agg ys.toArray))))) = _
    simp only [pr_bind, Op.equal, Op.maxDepth, hr, bind_s, pr_pure]
  rw [this]; rfl
theorem sBin_eql_agg {t : TypeId} {x y : Operand} {xs ys : List Value} {r : Bool} (hm : P.eqGuardType P.depth t = false) (hr : pureRun P (Op.equalIn 10000 t (.agg xs.toArray) (.agg ys.toArray)) = some r) :
    ∀ kx ky, scs kx = some xs → scs ky = some ys → sBin P .eql t x y (.agg kx) (.agg ky) = some (B r) := by
  intro kx ky h1 h2
  simp only [sBin, toVal, h1, h2, pr_bind, pr_eqGuard_agg _ _ _ _ _ _ hm, bind_s]
  have : pureRun P (binOp .eql t (.agg xs.toArray) (.agg ys.toArray)) = some (.bool r) := by
    show pureRun P (do pure (Value.bool (← Op.equal t (.agg xs.toArray) (.agg ys.toArray)))) = _
    simp only [pr_bind, Op.equal, Op.maxDepth, hr, bind_s, pr_pure]
  rw [this]; rfl

theorem und_int : Try.prog.underlying y_int = some (.int .i64) := by kernel_rfl
theorem eqFields_int (d : Nat) (xs ys : Array Value) (ga gb : Nat → Int) : ∀ fs : List Field, (∀ f ∈ fs, f.name ≠ "_" ∧ f.type = y_int ∧ pureRun Try.prog (part y_int xs f.offset) = some (.int .i64 (ga f.offset)) ∧ pureRun Try.prog (part y_int ys f.offset) = some (.int .i64 (gb f.offset))) →
    pureRun Try.prog (Op.eqFields (d + 1) xs ys fs) = some (fs.all fun f => ga f.offset == gb f.offset)
  | [], _ => rfl
  | f :: fs, h => by
    obtain ⟨h1, h2, h3, h4⟩ := h f (List.mem_cons_self ..)
    have ih := eqFields_int d xs ys ga gb fs fun g hg => h g (List.mem_cons_of_mem _ hg)
    simp only [Op.eqFields, h1, ne_eq, not_false_eq_true, if_true, h2, pr_bind, h3, h4, bind_s, pr_equalIn_int _ _ _ _ _ _ und_int, List.all_cons]
    cases ga f.offset == gb f.offset
    · rfl
    · exact ih
/-- When values of a struct of numbers are equal. -/
theorem eq_ints {t : TypeId} {offs : List Nat} {xs ys : Array Value} {ga gb : Nat → Int} (hS : Try.prog.underlying t = some (.struct (Try.prog.fieldsOf t))) (hs : Try.prog.stoodInHeld t = false)
    (hF : ((Try.prog.fieldsOf t).toList.map fun f => (f.type, f.offset, decide (f.name = "_"))) = offs.map fun o => (y_int, o, false))
    (hp : ∀ o ∈ offs, pureRun Try.prog (part y_int xs o) = some (.int .i64 (ga o)) ∧ pureRun Try.prog (part y_int ys o) = some (.int .i64 (gb o))) :
    pureRun Try.prog (Op.equalIn 10000 t (.agg xs) (.agg ys)) = some (offs.all fun o => ga o == gb o) := by
  rw [show (10000 : Nat) = 9998 + 1 + 1 from rfl, pr_equalIn_struct _ _ _ _ hS hs]
  generalize (Try.prog.fieldsOf t).toList = fs at hF
  rw [eqFields_int 9998 xs ys ga gb fs]
  · have : (fs.map fun f => f.offset) = offs := by
      have := congrArg (List.map fun x : TypeId × Nat × Bool => x.2.1) hF
      simpa [List.map_map, Function.comp_def] using this
    rw [← this, List.all_map]
    rfl
  · intro f hf
    have h1 : (f.type, f.offset, decide (f.name = "_")) ∈ offs.map fun o => (y_int, o, false) := by
      rw [← hF]; exact List.mem_map_of_mem hf
    obtain ⟨o, ho, e⟩ := List.mem_map.mp h1
    simp only [Prod.mk.injEq] at e
    obtain ⟨e1, e2, e3⟩ := e
    subst e2
    exact ⟨of_decide_eq_false e3.symm, e1.symm, hp _ ho⟩
/-- When two edges are equal. -/
def Edge.same (a b : Edge) : Bool := decide (a.fr = b.fr) && (decide (a.to = b.to) && (decide (a.jump = b.jump) && decide (a.wt = b.wt)))
theorem Edge.same_iff {a b : Edge} : a.same b = true ↔ a = b := by
  cases a; cases b
  simp [Edge.same]
theorem part4 (w0 w1 w2 w3 : Int) : ∀ o ∈ [0, 1, 2, 3], pureRun Try.prog (part y_int #[.int .i64 w0, .int .i64 w1, .int .i64 w2, .int .i64 w3] o) = some (.int .i64 ([w0, w1, w2, w3].getD o 0)) := by
  intro o ho
  simp only [List.mem_cons, List.not_mem_nil, or_false] at ho
  rcases ho with rfl | rfl | rfl | rfl <;> kernel_rfl
theorem eq_edge (x y : Operand) (a b : Edge) : sBin Try.prog .neq x9s x y (.agg a.c) (.agg b.c) = some (B (!(a.same b))) := by
  refine sBin_neq_agg (xs := [.int .i64 a.fr, .int .i64 a.to, .int .i64 a.jump, .int .i64 a.wt]) (ys := [.int .i64 b.fr, .int .i64 b.to, .int .i64 b.jump, .int .i64 b.wt]) (by kernel_rfl) ?_ ⟨a.c, rfl⟩ _ _ rfl rfl
  refine (eq_ints (offs := [0, 1, 2, 3]) (ga := fun o => [a.fr, a.to, a.jump, a.wt].getD o 0) (gb := fun o => [b.fr, b.to, b.jump, b.wt].getD o 0) (by kernel_rfl) (by kernel_rfl) (by kernel_rfl) fun o ho => ⟨part4 _ _ _ _ o ho, part4 _ _ _ _ o ho⟩).trans ?_
  simp [Edge.same, List.getD]
  by_cases h0 : a.fr = b.fr <;> by_cases h1 : a.to = b.to <;> by_cases h2 : a.jump = b.jump <;> by_cases h3 : a.wt = b.wt <;> simp [h0, h1, h2, h3]

end Go.Ix
