/- An operation that is shown some blocks alone. -/
import Derived.Test.YtdehdahimkcakaaGreatDoorSim18
set_option linter.unusedVariables false
set_option linter.unusedSimpArgs false
namespace Go.Proofs.YtdehdahimkcakaaGreatDoor.Ai
open Go

section
variable {P : Program} {T : Ty} {F : Fz} {ρ ρ' : Rho} {s : St} {W : World}

def St.part (s : St) (p : Nat → Bool) : St := ⟨fun m => cond (p m) (s.h m) none, s.nx⟩
def St.join (s t : St) (p : Nat → Bool) (n : Nat) : St := ⟨fun m => cond (p m) (t.h m) (s.h m), n⟩
theorem part_in {p : Nat → Bool} {m : Nat} (h : p m = true) : (s.part p).h m = s.h m := by simp [St.part, h]
theorem part_some {p : Nat → Bool} {m : Nat} (h : (s.part p).h m ≠ none) : p m = true ∧ s.h m ≠ none := by
  cases hp : p m with
  | true => rw [part_in hp] at h; exact ⟨rfl, h⟩
  | false => simp [St.part, hp] at h
theorem R.part (h : R T F ρ s W) (p : Nat → Bool) : R T F ρ (s.part p) W := by
  refine ⟨fun id b hb => ?_, fun i j β z1 z2 hi hj => h.inj i j β z1 z2 (part_some hi).2 (part_some hj).2, fun a v ha => ⟨(h.fz a v ha).1, fun i z hi => (h.fz a v ha).2 i z (part_some hi).2⟩, h.fresh⟩
  obtain ⟨h1, h2⟩ := part_some (s := s) (p := p) (m := id) (by rw [hb]; simp)
  rw [part_in h1] at hb
  exact h.blk id b hb
theorem join_in {t : St} {p : Nat → Bool} {n m : Nat} (h : p m = true) : (s.join t p n).h m = t.h m := by simp [St.join, h]
theorem join_out {t : St} {p : Nat → Bool} {n m : Nat} (h : p m = false) : (s.join t p n).h m = s.h m := by simp [St.join, h]
/-- What is done on a part of the blocks is done beside the others. -/
theorem frame_ok (hR : R T F ρ s W) {p : Nat → Bool} {t : St} {F' : Fz} {W' : World} (hS : Step (s.part p) ρ F W t ρ' F' W') (hR' : R T F' ρ' t W') {n : Nat} (hn : t.nx ≤ n) :
    R T F' ρ' (s.join t p n) W' ∧ Step s ρ F W (s.join t p n) ρ' F' W' := by
  have hsub : ∀ β, lives ρ (s.part p) β → lives ρ s β := fun β ⟨i, z, h1, h2⟩ => ⟨i, z, (part_some h1).2, h2⟩
  have hnot : ∀ m β z, p m = false → s.h m ≠ none → ρ m = some (β, z) → ¬ lives ρ (s.part p) β := fun m β z hp hm hρ ⟨i, z', h1, h2⟩ => by
    obtain ⟨q1, q2⟩ := part_some h1
    have := hR.inj i m β z' z q2 hm h2 hρ
    rw [this, hp] at q1; cases q1
  have hlt : ∀ m β z, s.h m ≠ none → ρ m = some (β, z) → β < W.heap.size := fun m β z hm hρ => by
    obtain ⟨b, hb⟩ := Option.ne_none_iff_exists'.1 hm
    obtain ⟨β', z', o, h1, h2, h3, h4⟩ := hR.lt hb
    rw [hρ] at h1; cases h1; exact h4
  have hold : ∀ m, s.h m ≠ none → ρ' m = ρ m := fun m hm => by
    obtain ⟨b, hb⟩ := Option.ne_none_iff_exists'.1 hm
    obtain ⟨β', z', o, h1, _⟩ := hR.lt hb
    rw [hS.rho _ _ h1, h1]
  refine ⟨⟨fun m b hb => ?_, fun i j β z1 z2 hi hj h1 h2 => ?_, fun a v ha => ⟨(hR'.fz a v ha).1, fun i z hi hc => ?_⟩, fun i hi => hR'.fresh i (Nat.le_trans hn hi)⟩,
    ⟨hS.rho, hS.fz, hS.os, hS.tape, hS.output, hS.size, fun β hβ hl => hS.same β hβ fun h => hl (hsub β h), fun β ⟨i, z, h1, h2⟩ hβ => ?_, fun a v ha hb hl => hS.cold a v ha hb fun h => hl (hsub _ h)⟩⟩
  · cases hp : p m with
    | true => rw [join_in hp] at hb; exact hR'.blk m b hb
    | false =>
      rw [join_out hp] at hb
      obtain ⟨β, z, o, k1, k2, k3, k4⟩ := hR.lt hb
      exact ⟨β, z, o, hS.rho _ _ k1, by rw [hS.same β k4 (hnot m β z hp (by rw [hb]; simp) k1)]; exact k2, k3.mono hS.fz hS.rho⟩
  · have mixed : ∀ i j β z1 z2, p i = true → p j = false → t.h i ≠ none → s.h j ≠ none → ρ' i = some (β, z1) → ρ' j = some (β, z2) → False := by
      intro i j β z1 z2 hpi hpj hi hj h1 h2
      rw [hold j hj] at h2
      exact hnot j β z2 hpj hj h2 (hS.born β ⟨i, z1, hi, h1⟩ (hlt j β z2 hj h2))
    cases hpi : p i with
    | true =>
      rw [join_in hpi] at hi
      cases hpj : p j with
      | true => rw [join_in hpj] at hj; exact hR'.inj i j β z1 z2 hi hj h1 h2
      | false => rw [join_out hpj] at hj; exact (mixed i j β z1 z2 hpi hpj hi hj h1 h2).elim
    | false =>
      rw [join_out hpi] at hi
      cases hpj : p j with
      | true => rw [join_in hpj] at hj; exact (mixed j i β z2 z1 hpj hpi hj hi h2 h1).elim
      | false =>
        rw [join_out hpj] at hj
        rw [hold i hi] at h1
        rw [hold j hj] at h2
        exact hR.inj i j β z1 z2 hi hj h1 h2
  · cases hpi : p i with
    | true => rw [join_in hpi] at hi; exact (hR'.fz a v ha).2 i z hi hc
    | false =>
      rw [join_out hpi] at hi
      rw [hold i hi] at hc
      exact (hR.fz a v (hS.cold a v ha (hlt i _ z hi hc) (hnot i _ z hpi hi hc))).2 i z hi hc
  · cases hpi : p i with
    | true => rw [join_in hpi] at h1; exact hsub β (hS.born β ⟨i, z, h1, h2⟩ hβ)
    | false =>
      rw [join_out hpi] at h1
      rw [hold i h1] at h2
      exact ⟨i, z, h1, h2⟩
end
end Go.Proofs.YtdehdahimkcakaaGreatDoor.Ai
