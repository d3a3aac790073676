/- An operation of a region that draws is sound. -/
import Derived.Test.YtdehdahimkcakaaGreatDoorSim20
set_option linter.unusedVariables false
set_option linter.unusedSimpArgs false
namespace Go.Proofs.YtdehdahimkcakaaGreatDoor.Ai
open Go

section
variable {P : Program} {T : Ty} {F : Fz} {ρ ρ' : Rho} {s : St} {W : World}

theorem st_eq {s t : St} (h : ∀ m, s.h m = t.h m) (hn : s.nx = t.nx) : s = t := by
  cases s; cases t
  simp only at hn
  subst hn
  congr 1
  exact funext h
theorem memB_mem {n : Nat} : ∀ {l : List Nat}, memB n l = true ↔ n ∈ l := by
  intro l
  induction l with
  | nil => simp [memB]
  | cons m l ih => simp [memB, ih, Nat.beq_eq]
theorem dead_of (hR : R T F ρ s W) {m : Nat} (h : ρ m = none) : s.h m = none := by
  cases hb : s.h m with
  | none => rfl
  | some b => obtain ⟨β, z, o, h1, _⟩ := hR.blk m b hb; rw [h] at h1; cases h1
theorem opD_ok {X : Cx} (hT : TyOk P X.P) (hE : EqOk P X.P X.eqOk) (hC : CallOk P X) (hp : CallPure X) (hR : R X.P F ρ s W) (hG : GlobOk X.P X.glob F) {id : Nat} (hid : ρ id = none) (hlt : id < s.nx) {e : Operand → AV} {g : Operand → Value} (he : ∀ x, VR X.P F ρ (e x) (g x))
    {o : Oper} {r : AV} {s' : St} (h : opD X id e o s = some (r, s')) : DoesN P X.P id s ρ F W r s' (execOp g o) := by
  have hdead := dead_of hR hid
  unfold opD at h
  generalize shown e o.op s = l at h
  cases hw : wide X e o.op with
  | true =>
    rw [hw] at h
    simp only [cond_true] at h
    cases ho : opA X false id e o (s.only l) with
    | none => rw [ho] at h; cases h
    | some q =>
      obtain ⟨r1, t⟩ := q
      rw [ho] at h
      simp only [Option.map_some, Option.some.injEq, Prod.mk.injEq] at h; obtain ⟨rfl, rfl⟩ := h
      let p : Nat → Bool := fun m => memB m l || Nat.ble s.nx m
      have hpart : s.only l = s.part p := st_eq (fun m => by
        simp only [St.only, St.part, p]
        cases hb : Nat.ble s.nx m with
        | false => simp
        | true =>
          have : s.h m = none := dead_of hR (hR.fresh m (Nat.le_of_ble_eq_true hb))
          rw [this]; cases memB m l <;> rfl) rfl
      rw [hpart] at ho
      have := opA_ok hT hE hC (hR.part p) hG hid hlt he ho
      refine this.map fun v W' ⟨ρ', F', k1, k2, k3, k4, k5⟩ => ?_
      obtain ⟨q1, q2⟩ := frame_ok hR k3 k2 (Nat.le_refl t.nx)
      exact ⟨ρ', F', k1, q1, q2, k4, k5⟩
  | false =>
    rw [hw] at h
    simp only [cond_false] at h
    cases ho : opA X true id e o (s.only l) with
    | none => rw [ho] at h; cases h
    | some q =>
      obtain ⟨r1, t⟩ := q
      rw [ho] at h
      simp only [Option.map_some, Option.some.injEq, Prod.mk.injEq] at h; obtain ⟨rfl, rfl⟩ := h
      let p : Nat → Bool := fun m => memB m (id :: l)
      have hpart : s.only l = s.part p := st_eq (fun m => by
        simp only [St.only, St.part, p, memB]
        cases hb : Nat.beq m id with
        | false => simp
        | true =>
          have hm := Nat.eq_of_beq_eq_true hb
          subst hm
          rw [hdead]; cases memB m l <;> rfl) rfl
      have hnx := opA_nx hp ho
      have hrd : writes o.op = false → t = s.only l := fun hwr => (opA_reads hp ho hwr).1
      rw [hpart] at ho
      have := opA_ok hT hE hC (hR.part p) hG hid hlt he ho
      refine this.map fun v W' ⟨ρ', F', k1, k2, k3, k4, k5⟩ => ?_
      obtain ⟨q1, q2⟩ := frame_ok hR k3 k2 (n := s.nx) (by rw [hnx]; exact Nat.le_refl _)
      cases hwr : writes o.op with
      | true => exact ⟨ρ', F', k1, q1, q2, k4, Nat.le_refl _⟩
      | false =>
        have hj : s.join t p s.nx = s := st_eq (fun m => by
          rw [hrd hwr]
          simp only [St.join, p]
          cases hm : memB m (id :: l) with
          | false => rfl
          | true =>
            simp only [cond_true, St.only]
            simp only [memB] at hm
            cases hb : Nat.beq m id with
            | true => have hm' := Nat.eq_of_beq_eq_true hb; subst hm'; rw [hdead]; cases memB m l <;> rfl
            | false => rw [hb, Bool.false_or] at hm; rw [hm]; rfl) rfl
        rw [hj] at q1 q2
        exact ⟨ρ', F', k1, q1, q2, k4, Nat.le_refl _⟩
end
end Go.Proofs.YtdehdahimkcakaaGreatDoor.Ai
