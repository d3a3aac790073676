/- The tables are the program's. -/
import Derived.Test.YtdehdahimkcakaaGreatDoorTab
import Derived.Test.YtdehdahimkcakaaGreatDoorPrim
set_option linter.unusedVariables false
set_option maxRecDepth 100000
namespace Go.Proofs.YtdehdahimkcakaaGreatDoor
open Go Ai

section
universe u
variable {α : Type}
def Tr.lst : Tr α → (Nat → Nat) → List (Nat × α)
  | .e, _ => []
  | .n v l r, f => (f 0, v) :: (Tr.lst l (fun k => f (2 * k + 1)) ++ Tr.lst r (fun k => f (2 * k + 2)))
theorem Tr.lst_get (t : Tr α) : ∀ (f : Nat → Nat) (k : Nat) (v : α), t.get k = some v → (f k, v) ∈ Tr.lst t f := by
  induction t with
  | e => intro f k v h; cases h
  | n x l r il ir =>
    intro f k v h
    simp only [Tr.get] at h
    simp only [Tr.lst]
    cases h0 : Nat.beq k 0 with
    | true =>
      rw [h0] at h
      simp only [cond_true, Option.some.injEq] at h
      have := Nat.eq_of_beq_eq_true h0
      subst this; subst h
      exact List.mem_cons_self ..
    | false =>
      rw [h0] at h
      simp only [cond_false] at h
      have hk : k ≠ 0 := by intro e; subst e; cases h0
      cases h1 : Nat.beq (k % 2) 1 with
      | true =>
        rw [h1] at h
        have h2 := Nat.eq_of_beq_eq_true h1
        have := il (fun k => f (2 * k + 1)) (k / 2) v h
        refine List.mem_cons_of_mem _ (List.mem_append_left _ ?_)
        rwa [show 2 * (k / 2) + 1 = k by omega] at this
      | false =>
        rw [h1] at h
        have h2 : k % 2 ≠ 1 := by intro e; rw [e] at h1; cases h1
        have := ir (fun k => f (2 * k + 2)) (k / 2 - 1) v h
        refine List.mem_cons_of_mem _ (List.mem_append_right _ ?_)
        rwa [show 2 * (k / 2 - 1) + 2 = k by omega] at this
theorem map_spec {β : Type} {l : List (Nat × α)} {p : Nat → Option α} (h : l.map (fun q => p q.1) = l.map fun q => some q.2) : ∀ q ∈ l, p q.1 = some q.2 := by
  induction l with
  | nil => intro q hq; cases hq
  | cons x l ih =>
    simp only [List.map_cons, List.cons.injEq] at h
    intro q hq
    rcases List.mem_cons.1 hq with rfl | hq
    · exact h.1
    · exact ih h.2 q hq
end
theorem env_ty : TyOk Tryz.prog Tryz.ty := by
  intro t i h
  have := Tr.lst_get Tryz.tyT id t i h
  exact map_spec (β := Nat) (p := fun t => Tryz.prog.info? t) (l := Tr.lst Tryz.tyT id) (by kernel_rfl) _ this
theorem env_fns : ∀ f fn, Tryz.fns f = some fn → Tryz.prog.funcs[f]? = some fn := by
  intro t i h
  have := Tr.lst_get Tryz.fnT id t i h
  exact map_spec (β := Nat) (p := fun t => Tryz.prog.funcs[t]?) (l := Tr.lst Tryz.fnT id) (by kernel_rfl) _ this
theorem env_names : ∀ f fn, Tryz.fns f = some fn → fn.name ≠ "runtime.NumGoroutine" := by
  intro t i h
  have h1 := Tr.lst_get Tryz.fnT id t i h
  have h2 : ((Tr.lst Tryz.fnT id).all fun q => !(q.2.name == "runtime.NumGoroutine")) = true := by kernel_rfl
  have h3 := List.all_eq_true.1 h2 _ h1
  simpa using h3
end Go.Proofs.YtdehdahimkcakaaGreatDoor
