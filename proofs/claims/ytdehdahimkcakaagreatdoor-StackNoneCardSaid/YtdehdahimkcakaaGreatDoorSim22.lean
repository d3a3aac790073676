/- The next number does not matter; what is reached is what is looked at. -/
import Derived.Test.YtdehdahimkcakaaGreatDoorSim21
set_option linter.unusedVariables false
set_option linter.unusedSimpArgs false
namespace Go.Proofs.YtdehdahimkcakaaGreatDoor.Ai
open Go

section
variable {s : St}

/-- Another next number. -/
def re (n : Nat) (r : AV × St) : AV × St := (r.1, ⟨r.2.h, n⟩)
theorem grown_re (n : Nat) (e z b c id) (s : St) : grown e z b c id ⟨s.h, n⟩ = (grown e z b c id s).map (re n) := by
  unfold grown; split <;> rfl
theorem appendA_re (n : Nat) (e z b x c id) (s : St) : appendA e z b x c id ⟨s.h, n⟩ = (appendA e z b x c id s).map (re n) := by
  have hg : ∀ (c : List AV) (s : St), grown e z b c id ⟨s.h, n⟩ = (grown e z b c id s).map (re n) := fun c s => grown_re n e z b c id s
  unfold appendA
  dsimp only
  split
  · split <;> rfl
  · split
    · rfl
    · split
      · exact hg _ _
      · split
        · exact hg _ _
        · rfl
      · split
        · split
          · split
            · split
              · split <;> rfl
              · exact hg _ _
            · split
              · rfl
              · split
                · exact hg _ (s.set _ none)
                · rfl
          · rfl
        · rfl
      · rfl
theorem copyA_re (n : Nat) (z x c) (s : St) : copyA z x c ⟨s.h, n⟩ = (copyA z x c s).map (re n) := by
  unfold copyA
  dsimp only
  split
  · rfl
  · rfl
  · rfl
  · split
    · split <;> rfl
    · rfl
  · rfl
theorem builtinA_re (n : Nat) (X : Cx) (b ats args id) (s : St) : builtinA X b ats args id ⟨s.h, n⟩ = (builtinA X b ats args id s).map (re n) := by
  unfold builtinA
  dsimp only
  split
  · cases (ats[0]?).bind (und X.P) with
    | none => rfl
    | some d =>
      simp only [Option.bind_some]
      split
      · rename_i x _
        rw [show lenA x ⟨s.h, n⟩ = lenA x s from rfl]
        cases lenA x s <;> rfl
      · rfl
  · rename_i x
    cases (ats[0]?).bind (und X.P) with
    | none => rfl
    | some d =>
      simp only [Option.bind_some]
      split
      · cases capA x <;> rfl
      · rfl
  · cases minI (fun y x => decide (y < x)) args <;> rfl
  · cases minI (fun y x => decide (x < y)) args <;> rfl
  · split
    · split
      · split
        · exact appendA_re n _ _ _ _ _ id s
        · rfl
      · rfl
    · split
      · split
        · rename_i y _ _ _ _ _ _ _ _ _ _ z _ _ _ _ _ _ _
          rw [show srcCells _ _ ⟨s.h, n⟩ = srcCells _ _ s from rfl]
          cases srcCells _ _ s with
          | none => rfl
          | some c => exact appendA_re n _ _ _ _ _ id s
        · rfl
      · rfl
    · split
      · split
        · rw [show srcCells _ _ ⟨s.h, n⟩ = srcCells _ _ s from rfl]
          cases srcCells _ _ s with
          | none => rfl
          | some c => exact appendA_re n _ _ _ _ _ id s
        · rfl
      · rfl
    · rfl
  · split
    · split
      · split
        · rfl
        · rw [show srcCells _ _ ⟨s.h, n⟩ = srcCells _ _ s from rfl]
          cases srcCells _ _ s with
          | none => rfl
          | some c => exact copyA_re n _ _ _ s
      · rfl
    · rfl
  · split
    · rfl
    · split
      · split <;> rfl
      · rfl
    · rfl
  · split
    · split
      · split
        · split
          · split
            · cases asU8s _ with
              | none => rfl
              | some c =>
                simp only [Option.bind_some]
                split <;> rfl
            · rfl
          · rfl
        · rfl
      · rfl
      · rfl
      · rfl
    · rfl
  · rfl
theorem map_re (n : Nat) (s : St) (q : Option AV) : q.map (·, (⟨s.h, n⟩ : St)) = (q.map (·, s)).map (re n) := by cases q <;> rfl
theorem call_re {X : Cx} (hp : CallPure X) (n : Nat) (f : FuncId) (args : List AV) (s : St) : X.call true f args ⟨s.h, n⟩ = (X.call true f args s).map (re n) := by
  cases h : X.call true f args s with
  | some q =>
    obtain ⟨r, s'⟩ := q
    obtain ⟨rfl, h2⟩ := hp _ _ _ _ _ h
    rw [h2 n]; rfl
  | none =>
    cases h2 : X.call true f args ⟨s.h, n⟩ with
    | none => rfl
    | some q =>
      obtain ⟨r, s'⟩ := q
      have := (hp _ _ _ _ _ h2).2 s.nx
      have e : (⟨(⟨s.h, n⟩ : St).h, s.nx⟩ : St) = s := rfl
      rw [e, h] at this; cases this
theorem opA_re {X : Cx} (hp : CallPure X) (n : Nat) (id : Nat) (e : Operand → AV) (o : Oper) (s : St) : opA X true id e o ⟨s.h, n⟩ = (opA X true id e o s).map (re n) := by
  unfold opA
  cases ho : o.op with
  | move | assign => rfl
  | pick c a b => simp only; cases asB (e c) <;> rfl
  | alloc ty => simp only; cases zero X.P ty <;> rfl
  | box ty x => simp only; split <;> rfl
  | build | buildSlice | binOp | unOp | fieldAddr | field | indexAddr | index => exact map_re n s _
  | convert src dst x => exact map_re n s (convA X.P src dst (e x) s)
  | slice ty x lo hi mx => exact map_re n s (sliceA X.P ty (e x) (lo.map e) (hi.map e) (mx.map e) s)
  | lookup ty m k ok => exact map_re n s (lookupA X.P ty (e m) (e k) ok s)
  | load ty a =>
    simp only
    cases lay X.P ty with
    | none => rfl
    | some l => exact map_re n s (load l.1 l.2 (e a) s)
  | store ty a x =>
    simp only
    cases lay X.P ty with
    | none => rfl
    | some l =>
      simp only [Option.bind_some]
      have : Ai.store l.1 (e a) (e x) ⟨s.h, n⟩ = (Ai.store l.1 (e a) (e x) s).map fun t => ⟨t.h, n⟩ := by
        unfold Ai.store
        dsimp only
        split
        · split
          · split <;> rfl
          · rfl
        · rfl
      rw [this]
      cases Ai.store l.1 (e a) (e x) s <;> rfl
  | nilCheck x => simp only; split <;> rfl
  | makeInterface ty x => simp only; split <;> rfl
  | makeFunc fn a b => cases fn <;> rfl
  | makeMap ty q => cases q <;> rfl
  | makeSlice ty a c =>
    simp only
    split
    · split
      · split <;> rfl
      · rfl
    · rfl
  | mapUpdate ty m k x =>
    simp only
    have : mapUpd X.P ty (e m) (e k) (e x) ⟨s.h, n⟩ = (mapUpd X.P ty (e m) (e k) (e x) s).map fun t => ⟨t.h, n⟩ := by
      unfold mapUpd
      dsimp only
      split
      · rename_i kt _ _
        cases und X.P kt with
        | none => rfl
        | some kd =>
          simp only [Option.bind_some]
          split
          · split
            · split
              · cases find (e k) _ <;> rfl
              · rfl
            · rfl
          · rfl
      · rfl
    rw [this]
    cases mapUpd X.P ty (e m) (e k) (e x) s <;> rfl
  | extract x i =>
    simp only
    split
    · exact map_re n s _
    · rfl
  | call c =>
    simp only
    cases c.callee with
    | value f =>
      simp only
      split
      · exact call_re hp n _ _ s
      · rfl
    | invoke a b => rfl
    | builtin b => exact builtinA_re n X b c.argTypes _ id s
  | _ => rfl

/-- What is reached hangs on the blocks that are reached. -/
theorem reach_sub (h : Nat → Option Blk) : ∀ (f : Nat) (w seen : List Nat), ∀ m ∈ seen, m ∈ reach h f w seen := by
  intro f
  induction f with
  | zero => intro w seen m hm; exact hm
  | succ f ih =>
    intro w seen m hm
    cases w with
    | nil => exact hm
    | cons x w =>
      simp only [reach]
      cases memB x seen with
      | true => exact ih w seen m hm
      | false =>
        simp only [cond_false]
        cases h x with
        | none => exact ih w _ m (List.mem_cons_of_mem _ hm)
        | some b => exact ih _ _ m (List.mem_cons_of_mem _ hm)
theorem reach_eq (h h' : Nat → Option Blk) : ∀ (f : Nat) (w seen : List Nat), (∀ m ∈ reach h f w seen, h' m = h m) → reach h' f w seen = reach h f w seen := by
  intro f
  induction f with
  | zero => intro w seen _; rfl
  | succ f ih =>
    intro w seen hm
    cases w with
    | nil => rfl
    | cons x w =>
      simp only [reach] at hm ⊢
      cases hx : memB x seen with
      | true => rw [hx] at hm; exact ih w seen hm
      | false =>
        rw [hx] at hm
        simp only [cond_false] at hm ⊢
        have hxm : h' x = h x := by
          cases hb : h x with
          | none => rw [hb] at hm; rw [← hb]; exact hm x (reach_sub h f w _ x (List.mem_cons_self ..))
          | some b => rw [hb] at hm; rw [← hb]; exact hm x (reach_sub h f _ _ x (List.mem_cons_self ..))
        rw [hxm]
        cases hb : h x with
        | none => rw [hb] at hm; exact ih w _ hm
        | some b => rw [hb] at hm; exact ih _ _ hm
end
end Go.Proofs.YtdehdahimkcakaaGreatDoor.Ai
