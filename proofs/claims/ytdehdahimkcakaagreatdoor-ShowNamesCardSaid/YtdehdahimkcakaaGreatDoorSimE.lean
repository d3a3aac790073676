/- The interpreter is sound: parts 19 to 25. -/
import Derived.Test.YtdehdahimkcakaaGreatDoorSimD
import Derived.Orders
set_option linter.unusedVariables false
set_option linter.unusedSimpArgs false
/-! An operation that is shown some blocks alone. -/
namespace Go.Proofs.YtdehdahimkcakaaGreatDoor.Ai
open Go

section
variable {P : Program} {T : Ty} {F : Fz} {ρ ρ' : Rho} {s : St} {W : World}

def St.part (s : St) (p : Nat → Bool) : St := ⟨fun m => cond (p m) (s.h m) none, s.nx⟩
def St.join (s t : St) (p : Nat → Bool) (n : Nat) : St := ⟨fun m => cond (p m) (t.h m) (s.h m), n⟩
theorem part_in {p : Nat → Bool} {m : Nat} (h : p m = true) : (s.part p).h m = s.h m := by simp [St.part, h]
theorem part_some {p : Nat → Bool} {m : Nat} (h : (s.part p).h m ≠ none) : p m = true ∧ s.h m ≠ none := by
  cases hp : p m with
  | true => rw [part_in hp] at h; exact ⟨rfl, h⟩
  | false => simp [St.part, hp] at h
theorem R.part (h : R T F ρ s W) (p : Nat → Bool) : R T F ρ (s.part p) W := by
  refine ⟨fun id b hb => ?_, fun i j β z1 z2 hi hj => h.inj i j β z1 z2 (part_some hi).2 (part_some hj).2, fun a v ha => ⟨(h.fz a v ha).1, fun i z hi => (h.fz a v ha).2 i z (part_some hi).2⟩, h.fresh⟩
  obtain ⟨h1, h2⟩ := part_some (s := s) (p := p) (m := id) (by rw [hb]; simp)
  rw [part_in h1] at hb
  exact h.blk id b hb
theorem join_in {t : St} {p : Nat → Bool} {n m : Nat} (h : p m = true) : (s.join t p n).h m = t.h m := by simp [St.join, h]
theorem join_out {t : St} {p : Nat → Bool} {n m : Nat} (h : p m = false) : (s.join t p n).h m = s.h m := by simp [St.join, h]
/-- What is done on a part of the blocks is done beside the others. -/
theorem frame_ok (hR : R T F ρ s W) {p : Nat → Bool} {t : St} {F' : Fz} {W' : World} (hS : Step (s.part p) ρ F W t ρ' F' W') (hR' : R T F' ρ' t W') {n : Nat} (hn : t.nx ≤ n) :
    R T F' ρ' (s.join t p n) W' ∧ Step s ρ F W (s.join t p n) ρ' F' W' := by
  have hsub : ∀ β, lives ρ (s.part p) β → lives ρ s β := fun β ⟨i, z, h1, h2⟩ => ⟨i, z, (part_some h1).2, h2⟩
  have hnot : ∀ m β z, p m = false → s.h m ≠ none → ρ m = some (β, z) → ¬ lives ρ (s.part p) β := fun m β z hp hm hρ ⟨i, z', h1, h2⟩ => by
    obtain ⟨q1, q2⟩ := part_some h1
    have := hR.inj i m β z' z q2 hm h2 hρ
    rw [this, hp] at q1; cases q1
  have hlt : ∀ m β z, s.h m ≠ none → ρ m = some (β, z) → β < W.heap.size := fun m β z hm hρ => by
    obtain ⟨b, hb⟩ := Option.ne_none_iff_exists'.1 hm
    obtain ⟨β', z', o, h1, h2, h3, h4⟩ := hR.lt hb
    rw [hρ] at h1; cases h1; exact h4
  have hold : ∀ m, s.h m ≠ none → ρ' m = ρ m := fun m hm => by
    obtain ⟨b, hb⟩ := Option.ne_none_iff_exists'.1 hm
    obtain ⟨β', z', o, h1, _⟩ := hR.lt hb
    rw [hS.rho _ _ h1, h1]
  refine ⟨⟨fun m b hb => ?_, fun i j β z1 z2 hi hj h1 h2 => ?_, fun a v ha => ⟨(hR'.fz a v ha).1, fun i z hi hc => ?_⟩, fun i hi => hR'.fresh i (Nat.le_trans hn hi)⟩,
    ⟨hS.rho, hS.fz, hS.os, hS.tape, hS.output, hS.size, fun β hβ hl => hS.same β hβ fun h => hl (hsub β h), fun β ⟨i, z, h1, h2⟩ hβ => ?_, fun a v ha hb hl => hS.cold a v ha hb fun h => hl (hsub _ h)⟩⟩
  · cases hp : p m with
    | true => rw [join_in hp] at hb; exact hR'.blk m b hb
    | false =>
      rw [join_out hp] at hb
      obtain ⟨β, z, o, k1, k2, k3, k4⟩ := hR.lt hb
      exact ⟨β, z, o, hS.rho _ _ k1, by rw [hS.same β k4 (hnot m β z hp (by rw [hb]; simp) k1)]; exact k2, k3.mono hS.fz hS.rho⟩
  · have mixed : ∀ i j β z1 z2, p i = true → p j = false → t.h i ≠ none → s.h j ≠ none → ρ' i = some (β, z1) → ρ' j = some (β, z2) → False := by
      intro i j β z1 z2 hpi hpj hi hj h1 h2
      rw [hold j hj] at h2
      exact hnot j β z2 hpj hj h2 (hS.born β ⟨i, z1, hi, h1⟩ (hlt j β z2 hj h2))
    cases hpi : p i with
    | true =>
      rw [join_in hpi] at hi
      cases hpj : p j with
      | true => rw [join_in hpj] at hj; exact hR'.inj i j β z1 z2 hi hj h1 h2
      | false => rw [join_out hpj] at hj; exact (mixed i j β z1 z2 hpi hpj hi hj h1 h2).elim
    | false =>
      rw [join_out hpi] at hi
      cases hpj : p j with
      | true => rw [join_in hpj] at hj; exact (mixed j i β z2 z1 hpj hpi hj hi h2 h1).elim
      | false =>
        rw [join_out hpj] at hj
        rw [hold i hi] at h1
        rw [hold j hj] at h2
        exact hR.inj i j β z1 z2 hi hj h1 h2
  · cases hpi : p i with
    | true => rw [join_in hpi] at hi; exact (hR'.fz a v ha).2 i z hi hc
    | false =>
      rw [join_out hpi] at hi
      rw [hold i hi] at hc
      exact (hR.fz a v (hS.cold a v ha (hlt i _ z hi hc) (hnot i _ z hpi hi hc))).2 i z hi hc
  · cases hpi : p i with
    | true => rw [join_in hpi] at h1; exact hsub β (hS.born β ⟨i, z, h1, h2⟩ hβ)
    | false =>
      rw [join_out hpi] at h1
      rw [hold i h1] at h2
      exact ⟨i, z, h1, h2⟩
end
end Go.Proofs.YtdehdahimkcakaaGreatDoor.Ai
/-! Operations of a region that draws: what they leave alone. -/
namespace Go.Proofs.YtdehdahimkcakaaGreatDoor.Ai
open Go

section
variable {P : Program} {T : Ty} {F : Fz} {ρ ρ' : Rho} {s : St} {W : World}

/-- Pure calls leave the blocks alone and don't look at the next number. -/
def CallPure (X : Cx) : Prop := ∀ f args s r s', X.call true f args s = some (r, s') → s' = s ∧ ∀ n, X.call true f args ⟨s.h, n⟩ = some (r, ⟨s.h, n⟩)
theorem pur_h (T : Ty) (s : St) (n : Nat) : ∀ k v, pur T ⟨s.h, n⟩ k v = pur T s k v := by
  intro k
  induction k with
  | zero => intro v; unfold pur; rfl
  | succ k ih =>
    intro v
    have e : pur T ⟨s.h, n⟩ k = pur T s k := funext ih
    unfold pur
    simp only [e]
theorem mcall_pure (E : Env) (cl : FuncId → List AV → St → Option (AV × St)) (f : FuncId) : CallPure (cx E cl f) := by
  intro g args s r s' h
  have h : mcall E cl f true g args s = some (r, s') := h
  have goal : ∀ s', mcall E cl f true g args s = some (r, s') → s' = s ∧ ∀ n, mcall E cl f true g args ⟨s.h, n⟩ = some (r, ⟨s.h, n⟩) := by
    intro s' h
    have e : ∀ n, pur E.P ⟨s.h, n⟩ 12 = pur E.P s 12 := fun n => funext (pur_h E.P s n 12)
    unfold mcall at h ⊢
    split at h
    · rename_i hp
      simp only [if_pos hp, e]
      cases hl : purL (pur E.P s 12) args with
      | none => rw [hl] at h; cases h
      | some as =>
        rw [hl] at h
        simp only [Option.bind_some] at h ⊢
        cases hc : cl g as.1 St.empty with
        | none => rw [hc] at h; cases h
        | some q =>
          rw [hc] at h
          simp only [Option.bind_some] at h ⊢
          cases hv : pur E.P q.2 12 q.1 with
          | none => rw [hv] at h; cases h
          | some v =>
            rw [hv] at h
            simp only [Option.bind_some] at h ⊢
            split at h
            · rename_i hcond
              simp only [Option.some.injEq, Prod.mk.injEq] at h; obtain ⟨rfl, rfl⟩ := h
              exact ⟨rfl, fun n => by rw [if_pos hcond]⟩
            · simp at h
    · simp at h
  exact goal s' h
theorem map_st {s t : St} {r : AV} {q : Option AV} (h : q.map (·, s) = some (r, t)) : t = s ∧ q = some r := by
  cases q with
  | none => cases h
  | some x => simp only [Option.map_some, Option.some.injEq, Prod.mk.injEq] at h; exact ⟨h.2.symm, by rw [h.1]⟩
theorem builtin_reads {X : Cx} {b : Builtin} {ats : Array TypeId} {args : List AV} {id : Nat} {r : AV} {t : St} (h : builtinA X b ats args id s = some (r, t)) (hw : b ≠ .append ∧ b ≠ .copy ∧ b ≠ .unsafeString) :
    t = s ∧ ∀ n, builtinA X b ats args id ⟨s.h, n⟩ = some (r, ⟨s.h, n⟩) := by
  unfold builtinA at h
  split at h
  · rename_i x
    cases hd : (ats[0]?).bind (und X.P) with
    | none => rw [hd] at h; cases h
    | some d =>
      rw [hd] at h
      simp only [Option.bind_some] at h
      split at h
      · rename_i hl
        cases hn : lenA x s with
        | none => rw [hn] at h; cases h
        | some k =>
          rw [hn] at h
          simp only [Option.map_some, Option.some.injEq, Prod.mk.injEq] at h; obtain ⟨rfl, rfl⟩ := h
          refine ⟨rfl, fun n => ?_⟩
          simp only [builtinA, hd, Option.bind_some, if_pos hl]
          rw [show lenA x ⟨s.h, n⟩ = lenA x s from rfl, hn]; rfl
      · cases h
  · rename_i x
    cases hd : (ats[0]?).bind (und X.P) with
    | none => rw [hd] at h; cases h
    | some d =>
      rw [hd] at h
      simp only [Option.bind_some] at h
      split at h
      · cases hn : capA x with
        | none => rw [hn] at h; cases h
        | some k =>
          rw [hn] at h
          simp only [Option.map_some, Option.some.injEq, Prod.mk.injEq] at h; obtain ⟨rfl, rfl⟩ := h
          refine ⟨rfl, fun n => ?_⟩
          simp only [builtinA, hd, Option.bind_some, hn]; rfl
      · cases h
  · obtain ⟨h1, h2⟩ := map_st h
    exact ⟨h1, fun n => by simp only [builtinA, h2]; rfl⟩
  · obtain ⟨h1, h2⟩ := map_st h
    exact ⟨h1, fun n => by simp only [builtinA, h2]; rfl⟩
  · exact absurd rfl hw.1
  · exact absurd rfl hw.2.1
  · split at h
    · simp only [Option.some.injEq, Prod.mk.injEq] at h; obtain ⟨rfl, rfl⟩ := h
      exact ⟨rfl, fun n => rfl⟩
    · rename_i i off _ cap _
      cases hb : s.h i with
      | none => rw [hb] at h; cases h
      | some bk =>
        rw [hb] at h
        cases bk with
        | cells c e' ex wr =>
          simp only at h
          split at h
          · rename_i hc
            simp only [Option.some.injEq, Prod.mk.injEq] at h; obtain ⟨rfl, rfl⟩ := h
            refine ⟨rfl, fun n => ?_⟩
            simp only [builtinA, hb]
            rw [if_pos hc]
          · cases h
        | _ => cases h
    · cases h
  · exact absurd rfl hw.2.2
  · cases h
/-- What changes no block leaves the state as it is, whatever the next number. -/
theorem opA_reads {X : Cx} (hp : CallPure X) {id : Nat} {e : Operand → AV} {o : Oper} {r : AV} {t : St} (h : opA X true id e o s = some (r, t)) (hw : writes o.op = false) :
    t = s ∧ ∀ n, opA X true id e o ⟨s.h, n⟩ = some (r, ⟨s.h, n⟩) := by
  unfold opA at h ⊢
  cases ho : o.op with
  | move x => simp only [ho, Option.some.injEq, Prod.mk.injEq] at h ⊢; exact ⟨h.2.symm, fun n => ⟨h.1, trivial⟩⟩
  | assign x => simp only [ho, Option.some.injEq, Prod.mk.injEq] at h ⊢; exact ⟨h.2.symm, fun n => ⟨h.1, trivial⟩⟩
  | pick c a b =>
    simp only [ho] at h ⊢
    cases hb : asB (e c) with
    | none => rw [hb] at h; cases h
    | some q => rw [hb] at h; simp only [Option.bind_some, Option.some.injEq, Prod.mk.injEq] at h ⊢; exact ⟨h.2.symm, fun n => ⟨h.1, trivial⟩⟩
  | alloc => rw [ho] at hw; cases hw
  | box => rw [ho] at hw; cases hw
  | store => rw [ho] at hw; cases hw
  | mapUpdate => rw [ho] at hw; cases hw
  | makeSlice => rw [ho] at hw; cases hw
  | makeMap => rw [ho] at hw; cases hw
  | build => simp only [ho] at h ⊢; obtain ⟨h1, h2⟩ := map_st h; exact ⟨h1, fun n => by rw [h2]; rfl⟩
  | buildSlice => simp only [ho] at h ⊢; obtain ⟨h1, h2⟩ := map_st h; exact ⟨h1, fun n => by rw [h2]; rfl⟩
  | binOp => simp only [ho] at h ⊢; obtain ⟨h1, h2⟩ := map_st h; exact ⟨h1, fun n => by rw [h2]; rfl⟩
  | unOp => simp only [ho] at h ⊢; obtain ⟨h1, h2⟩ := map_st h; exact ⟨h1, fun n => by rw [h2]; rfl⟩
  | fieldAddr => simp only [ho] at h ⊢; obtain ⟨h1, h2⟩ := map_st h; exact ⟨h1, fun n => by rw [h2]; rfl⟩
  | field => simp only [ho] at h ⊢; obtain ⟨h1, h2⟩ := map_st h; exact ⟨h1, fun n => by rw [h2]; rfl⟩
  | indexAddr => simp only [ho] at h ⊢; obtain ⟨h1, h2⟩ := map_st h; exact ⟨h1, fun n => by rw [h2]; rfl⟩
  | index => simp only [ho] at h ⊢; obtain ⟨h1, h2⟩ := map_st h; exact ⟨h1, fun n => by rw [h2]; rfl⟩
  | convert src dst x =>
    simp only [ho] at h ⊢; obtain ⟨h1, h2⟩ := map_st h
    exact ⟨h1, fun n => by rw [show convA X.P src dst (e x) ⟨s.h, n⟩ = convA X.P src dst (e x) s from rfl, h2]; rfl⟩
  | slice ty x lo hi mx =>
    simp only [ho] at h ⊢; obtain ⟨h1, h2⟩ := map_st h
    exact ⟨h1, fun n => by rw [show sliceA X.P ty (e x) (lo.map e) (hi.map e) (mx.map e) ⟨s.h, n⟩ = sliceA X.P ty (e x) (lo.map e) (hi.map e) (mx.map e) s from rfl, h2]; rfl⟩
  | lookup ty m k ok =>
    simp only [ho] at h ⊢; obtain ⟨h1, h2⟩ := map_st h
    exact ⟨h1, fun n => by rw [show lookupA X.P ty (e m) (e k) ok ⟨s.h, n⟩ = lookupA X.P ty (e m) (e k) ok s from rfl, h2]; rfl⟩
  | load ty a =>
    simp only [ho] at h ⊢
    cases hl : lay X.P ty with
    | none => rw [hl] at h; cases h
    | some l =>
      rw [hl] at h
      simp only [Option.bind_some] at h ⊢
      obtain ⟨h1, h2⟩ := map_st h
      exact ⟨h1, fun n => by rw [show load l.1 l.2 (e a) ⟨s.h, n⟩ = load l.1 l.2 (e a) s from rfl, h2]; rfl⟩
  | nilCheck x =>
    simp only [ho] at h ⊢
    split at h <;> first | (cases h; done) | (simp only [Option.some.injEq, Prod.mk.injEq] at h ⊢; exact ⟨h.2.symm, fun n => ⟨h.1, trivial⟩⟩)
  | makeInterface ty x =>
    simp only [ho] at h ⊢
    split at h
    · cases h
    · cases h
    · simp only [Option.some.injEq, Prod.mk.injEq] at h; exact ⟨h.2.symm, fun n => by simp only [h.1]⟩
  | makeFunc fn a b =>
    cases fn <;> simp only [ho] at h ⊢ <;> first | (cases h; done) | (simp only [Option.some.injEq, Prod.mk.injEq] at h ⊢; exact ⟨h.2.symm, fun n => ⟨h.1, trivial⟩⟩)
  | extract x i =>
    simp only [ho] at h ⊢
    split at h
    · rename_i vs _
      obtain ⟨h1, h2⟩ := map_st h
      exact ⟨h1, fun n => by simp only [h2]; rfl⟩
    · cases h
  | call c =>
    simp only [ho] at h ⊢
    cases hc : c.callee with
    | value f =>
      simp only [hc] at h ⊢
      split at h
      · exact hp _ _ _ _ _ h
      · cases h
    | invoke a b => simp only [hc] at h; cases h
    | builtin b =>
      simp only [hc] at h ⊢
      rw [ho] at hw
      exact builtin_reads h (by
        refine ⟨?_, ?_, ?_⟩ <;> (intro hb; subst hb; simp [writes, hc] at hw))
  | _ => simp only [ho] at h; cases h
theorem builtin_nx {X : Cx} {b : Builtin} {ats : Array TypeId} {args : List AV} {id : Nat} {r : AV} {t : St} (h : builtinA X b ats args id s = some (r, t)) : t.nx = s.nx := by
  by_cases hb : b ≠ .append ∧ b ≠ .copy ∧ b ≠ .unsafeString
  · rw [(builtin_reads h hb).1]
  · have grown_nx : ∀ e z b c (s1 : St), grown e z b c id s1 = some (r, t) → t.nx = s1.nx := fun e z b c s1 h => by
      unfold grown at h
      split at h
      · simp only [newSl, Option.some.injEq, Prod.mk.injEq] at h; obtain ⟨_, rfl⟩ := h; rfl
      · cases h
    have append_nx : ∀ e z b x c, appendA e z b x c id s = some (r, t) → t.nx = s.nx := fun e z b x c h => by
      unfold appendA at h
      split at h
      · split at h <;> first | (cases h; done) | (simp only [Option.some.injEq, Prod.mk.injEq] at h; obtain ⟨_, rfl⟩ := h; rfl)
      · split at h
        · cases h
        · split at h
          · exact grown_nx _ _ _ _ _ h
          · split at h
            · exact grown_nx _ _ _ _ _ h
            · cases h
          · split at h
            · split at h
              · split at h
                · split at h
                  · split at h
                    · simp only [Option.some.injEq, Prod.mk.injEq] at h; obtain ⟨_, rfl⟩ := h; rfl
                    · cases h
                  · exact grown_nx _ _ _ _ _ h
                · split at h
                  · simp only [Option.some.injEq, Prod.mk.injEq] at h; obtain ⟨_, rfl⟩ := h; rfl
                  · split at h
                    · exact grown_nx _ _ _ _ (s.set _ none) h
                    · cases h
              · cases h
            · cases h
          · cases h
    unfold builtinA at h
    split at h
    · exact absurd ⟨by simp, by simp, by simp⟩ hb
    · exact absurd ⟨by simp, by simp, by simp⟩ hb
    · exact absurd ⟨by simp, by simp, by simp⟩ hb
    · exact absurd ⟨by simp, by simp, by simp⟩ hb
    · split at h
      · split at h
        · split at h
          · exact append_nx _ _ _ _ _ h
          · cases h
        · cases h
      · split at h
        · split at h
          · cases hc : srcCells _ _ s with
            | none => rw [hc] at h; cases h
            | some c => rw [hc] at h; exact append_nx _ _ _ _ _ h
          · cases h
        · cases h
      · split at h
        · split at h
          · cases hc : srcCells _ _ s with
            | none => rw [hc] at h; cases h
            | some c => rw [hc] at h; exact append_nx _ _ _ _ _ h
          · cases h
        · cases h
      · cases h
    · split at h
      · split at h
        · split at h
          · cases h
          · cases hc : srcCells _ _ s with
            | none => rw [hc] at h; cases h
            | some c =>
              rw [hc] at h
              simp only [Option.bind_some] at h
              unfold copyA at h
              split at h
              · simp only [Option.some.injEq, Prod.mk.injEq] at h; obtain ⟨_, rfl⟩ := h; rfl
              · simp only [Option.some.injEq, Prod.mk.injEq] at h; obtain ⟨_, rfl⟩ := h; rfl
              · simp only [Option.some.injEq, Prod.mk.injEq] at h; obtain ⟨_, rfl⟩ := h; rfl
              · simp only at h
                split at h
                · split at h
                  · simp only [Option.some.injEq, Prod.mk.injEq] at h; obtain ⟨_, rfl⟩ := h; rfl
                  · cases h
                · cases h
              · cases h
        · cases h
      · cases h
    · exact absurd ⟨by simp, by simp, by simp⟩ hb
    · split at h
      · split at h
        · split at h
          · split at h
            · split at h
              · cases hc : asU8s _ with
                | none => rw [hc] at h; cases h
                | some c =>
                  rw [hc] at h
                  simp only [Option.bind_some] at h
                  split at h
                  · simp only [Option.some.injEq, Prod.mk.injEq] at h; obtain ⟨_, rfl⟩ := h; rfl
                  · cases h
              · cases h
            · cases h
          · cases h
        · simp only [Option.some.injEq, Prod.mk.injEq] at h; obtain ⟨_, rfl⟩ := h; rfl
        · simp only [Option.some.injEq, Prod.mk.injEq] at h; obtain ⟨_, rfl⟩ := h; rfl
        · cases h
      · cases h
    · cases h
/-- An operation of a region that draws takes no new numbers. -/
theorem opA_nx {X : Cx} (hp : CallPure X) {id : Nat} {e : Operand → AV} {o : Oper} {r : AV} {t : St} (h : opA X true id e o s = some (r, t)) : t.nx = s.nx := by
  cases hw : writes o.op with
  | false => rw [(opA_reads hp h hw).1]
  | true =>
    unfold opA at h
    cases ho : o.op <;> rw [ho] at hw <;> first | (cases hw; done) | skip
    case alloc ty =>
      simp only [ho] at h
      cases hz : zero X.P ty with
      | none => rw [hz] at h; cases h
      | some z => rw [hz] at h; simp only [Option.map_some, Option.some.injEq, Prod.mk.injEq] at h; obtain ⟨_, rfl⟩ := h; rfl
    case box ty x =>
      simp only [ho] at h
      split at h
      · simp only [Option.some.injEq, Prod.mk.injEq] at h; obtain ⟨_, rfl⟩ := h; rfl
      · cases h
    case store ty a x =>
      simp only [ho] at h
      cases hl : lay X.P ty with
      | none => rw [hl] at h; cases h
      | some l =>
        rw [hl] at h
        simp only [Option.bind_some] at h
        cases hs : Ai.store l.1 (e a) (e x) s with
        | none => rw [hs] at h; cases h
        | some s1 =>
          rw [hs] at h
          simp only [Option.map_some, Option.some.injEq, Prod.mk.injEq] at h; obtain ⟨_, rfl⟩ := h
          unfold Ai.store at hs
          split at hs
          · split at hs
            · split at hs
              · simp only [Option.some.injEq] at hs; subst hs; rfl
              · cases hs
            · cases hs
          · cases hs
    case makeMap ty q =>
      cases q with
      | none => simp only [ho, Option.some.injEq, Prod.mk.injEq] at h; obtain ⟨_, rfl⟩ := h; rfl
      | some q => simp only [ho] at h; cases h
    case makeSlice ty n c =>
      simp only [ho] at h
      split at h
      · split at h
        · split at h
          · simp only [Option.some.injEq, Prod.mk.injEq] at h; obtain ⟨_, rfl⟩ := h; rfl
          · cases h
        · cases h
      · cases h
    case mapUpdate ty m k x =>
      simp only [ho] at h
      cases hs : mapUpd X.P ty (e m) (e k) (e x) s with
      | none => rw [hs] at h; cases h
      | some s1 =>
        rw [hs] at h
        simp only [Option.map_some, Option.some.injEq, Prod.mk.injEq] at h; obtain ⟨_, rfl⟩ := h
        unfold mapUpd at hs
        split at hs
        · rename_i kt _ _
          cases hk : und X.P kt with
          | none => rw [hk] at hs; cases hs
          | some kd =>
            rw [hk] at hs
            simp only [Option.bind_some] at hs
            split at hs
            · split at hs
              · split at hs
                · cases hf : find (e k) _ with
                  | none => rw [hf] at hs; cases hs
                  | some q => rw [hf] at hs; simp only [Option.map_some, Option.some.injEq] at hs; subst hs; rfl
                · cases hs
              · cases hs
            · cases hs
        · cases hs
    case call c =>
      simp only [ho] at h
      cases hc : c.callee with
      | value f => simp [writes, hc] at hw
      | invoke a b => simp [writes, hc] at hw
      | builtin b => simp only [hc] at h; exact builtin_nx h
/-- An operation looks at its operands alone. -/
theorem opA_congr {X : Cx} {dr : Bool} {id : Nat} {e e' : Operand → AV} {o : Oper} (h : ∀ x ∈ opnds o.op, e x = e' x) (s : St) : opA X dr id e o s = opA X dr id e' o s := by
  have parts : ∀ ps : Array (Nat × Operand), (∀ x ∈ ps.toList.map (·.2), e x = e' x) → (ps.toList.map fun p => (p.1, e p.2)) = (ps.toList.map fun p => (p.1, e' p.2)) := fun ps hp =>
    List.map_congr_left fun p hm => by rw [hp p.2 (List.mem_map.2 ⟨p, hm, rfl⟩)]
  unfold opA
  cases ho : o.op <;> rw [ho] at h <;> simp only [opnds] at h
  case build ty ps => simp only [parts ps h]
  case buildSlice ty n ps => simp only [parts ps h]
  case makeFunc fn a b =>
    cases fn <;> simp only
    rw [List.map_congr_left (fun x hx => h x (List.mem_append_left _ hx)), List.map_congr_left (l := b.toList) (fun x hx => h x (List.mem_append_right _ hx))]
  case slice ty x lo hi mx =>
    have h1 : e x = e' x := h x (List.mem_cons_self ..)
    have hl : lo.map e = lo.map e' := by cases lo with | none => rfl | some y => simp only [Option.map_some, h y (by simp)]
    have hh : hi.map e = hi.map e' := by cases hi with | none => rfl | some y => simp only [Option.map_some, h y (by simp)]
    have hm : mx.map e = mx.map e' := by cases mx with | none => rfl | some y => simp only [Option.map_some, h y (by simp)]
    simp only [h1, hl, hh, hm]
  case call c =>
    have ha : c.args.toList.map e = c.args.toList.map e' := List.map_congr_left fun x hx => h x (List.mem_append_right _ hx)
    cases hc : c.callee with
    | value f =>
      have hf : e f = e' f := h f (by simp [hc])
      simp only [ha, hc, hf]
    | invoke a b => simp only [hc]
    | builtin b => simp only [ha, hc]
  case makeMap ty q => cases q <;> rfl
  all_goals (first | rfl | (simp_all; done))
end
end Go.Proofs.YtdehdahimkcakaaGreatDoor.Ai
/-! An operation of a region that draws is sound. -/
namespace Go.Proofs.YtdehdahimkcakaaGreatDoor.Ai
open Go

section
variable {P : Program} {T : Ty} {F : Fz} {ρ ρ' : Rho} {s : St} {W : World}

theorem st_eq {s t : St} (h : ∀ m, s.h m = t.h m) (hn : s.nx = t.nx) : s = t := by
  cases s; cases t
  simp only at hn
  subst hn
  congr 1
  exact funext h
theorem memB_mem {n : Nat} : ∀ {l : List Nat}, memB n l = true ↔ n ∈ l := by
  intro l
  induction l with
  | nil => simp [memB]
  | cons m l ih => simp [memB, ih, Nat.beq_eq]
theorem dead_of (hR : R T F ρ s W) {m : Nat} (h : ρ m = none) : s.h m = none := by
  cases hb : s.h m with
  | none => rfl
  | some b => obtain ⟨β, z, o, h1, _⟩ := hR.blk m b hb; rw [h] at h1; cases h1
theorem opD_ok {X : Cx} (hT : TyOk P X.P) (hE : EqOk P X.P X.eqOk) (hC : CallOk P X) (hp : CallPure X) (hR : R X.P F ρ s W) (hG : GlobOk X.P X.glob F) {id : Nat} (hid : ρ id = none) (hlt : id < s.nx) {e : Operand → AV} {g : Operand → Value} (he : ∀ x, VR X.P F ρ (e x) (g x))
    {o : Oper} {r : AV} {s' : St} (h : opD X id e o s = some (r, s')) : DoesN P X.P id s ρ F W r s' (execOp g o) := by
  have hdead := dead_of hR hid
  unfold opD at h
  generalize shown e o.op s = l at h
  cases hw : wide X e o.op with
  | true =>
    rw [hw] at h
    simp only [cond_true] at h
    cases ho : opA X false id e o (s.only l) with
    | none => rw [ho] at h; cases h
    | some q =>
      obtain ⟨r1, t⟩ := q
      rw [ho] at h
      simp only [Option.map_some, Option.some.injEq, Prod.mk.injEq] at h; obtain ⟨rfl, rfl⟩ := h
      let p : Nat → Bool := fun m => memB m l || Nat.ble s.nx m
      have hpart : s.only l = s.part p := st_eq (fun m => by
        simp only [St.only, St.part, p]
        cases hb : Nat.ble s.nx m with
        | false => simp
        | true =>
          have : s.h m = none := dead_of hR (hR.fresh m (Nat.le_of_ble_eq_true hb))
          rw [this]; cases memB m l <;> rfl) rfl
      rw [hpart] at ho
      have := opA_ok hT hE hC (hR.part p) hG hid hlt he ho
      refine this.map fun v W' ⟨ρ', F', k1, k2, k3, k4, k5⟩ => ?_
      obtain ⟨q1, q2⟩ := frame_ok hR k3 k2 (Nat.le_refl t.nx)
      exact ⟨ρ', F', k1, q1, q2, k4, k5⟩
  | false =>
    rw [hw] at h
    simp only [cond_false] at h
    cases ho : opA X true id e o (s.only l) with
    | none => rw [ho] at h; cases h
    | some q =>
      obtain ⟨r1, t⟩ := q
      rw [ho] at h
      simp only [Option.map_some, Option.some.injEq, Prod.mk.injEq] at h; obtain ⟨rfl, rfl⟩ := h
      let p : Nat → Bool := fun m => memB m (id :: l)
      have hpart : s.only l = s.part p := st_eq (fun m => by
        simp only [St.only, St.part, p, memB]
        cases hb : Nat.beq m id with
        | false => simp
        | true =>
          have hm := Nat.eq_of_beq_eq_true hb
          subst hm
          rw [hdead]; cases memB m l <;> rfl) rfl
      have hnx := opA_nx hp ho
      have hrd : writes o.op = false → t = s.only l := fun hwr => (opA_reads hp ho hwr).1
      rw [hpart] at ho
      have := opA_ok hT hE hC (hR.part p) hG hid hlt he ho
      refine this.map fun v W' ⟨ρ', F', k1, k2, k3, k4, k5⟩ => ?_
      obtain ⟨q1, q2⟩ := frame_ok hR k3 k2 (n := s.nx) (by rw [hnx]; exact Nat.le_refl _)
      cases hwr : writes o.op with
      | true => exact ⟨ρ', F', k1, q1, q2, k4, Nat.le_refl _⟩
      | false =>
        have hj : s.join t p s.nx = s := st_eq (fun m => by
          rw [hrd hwr]
          simp only [St.join, p]
          cases hm : memB m (id :: l) with
          | false => rfl
          | true =>
            simp only [cond_true, St.only]
            simp only [memB] at hm
            cases hb : Nat.beq m id with
            | true => have hm' := Nat.eq_of_beq_eq_true hb; subst hm'; rw [hdead]; cases memB m l <;> rfl
            | false => rw [hb, Bool.false_or] at hm; rw [hm]; rfl) rfl
        rw [hj] at q1 q2
        exact ⟨ρ', F', k1, q1, q2, k4, Nat.le_refl _⟩
end
end Go.Proofs.YtdehdahimkcakaaGreatDoor.Ai
/-! The next number does not matter; what is reached is what is looked at. -/
namespace Go.Proofs.YtdehdahimkcakaaGreatDoor.Ai
open Go

section
variable {s : St}

/-- Another next number. -/
def re (n : Nat) (r : AV × St) : AV × St := (r.1, ⟨r.2.h, n⟩)
theorem grown_re (n : Nat) (e z b c id) (s : St) : grown e z b c id ⟨s.h, n⟩ = (grown e z b c id s).map (re n) := by
  unfold grown; split <;> rfl
theorem appendA_re (n : Nat) (e z b x c id) (s : St) : appendA e z b x c id ⟨s.h, n⟩ = (appendA e z b x c id s).map (re n) := by
  have hg : ∀ (c : List AV) (s : St), grown e z b c id ⟨s.h, n⟩ = (grown e z b c id s).map (re n) := fun c s => grown_re n e z b c id s
  unfold appendA
  dsimp only
  split
  · split <;> rfl
  · split
    · rfl
    · split
      · exact hg _ _
      · split
        · exact hg _ _
        · rfl
      · split
        · split
          · split
            · split
              · split <;> rfl
              · exact hg _ _
            · split
              · rfl
              · split
                · exact hg _ (s.set _ none)
                · rfl
          · rfl
        · rfl
      · rfl
theorem copyA_re (n : Nat) (z x c) (s : St) : copyA z x c ⟨s.h, n⟩ = (copyA z x c s).map (re n) := by
  unfold copyA
  dsimp only
  split
  · rfl
  · rfl
  · rfl
  · split
    · split <;> rfl
    · rfl
  · rfl
theorem builtinA_re (n : Nat) (X : Cx) (b ats args id) (s : St) : builtinA X b ats args id ⟨s.h, n⟩ = (builtinA X b ats args id s).map (re n) := by
  unfold builtinA
  dsimp only
  split
  · cases (ats[0]?).bind (und X.P) with
    | none => rfl
    | some d =>
      simp only [Option.bind_some]
      split
      · rename_i x _
        rw [show lenA x ⟨s.h, n⟩ = lenA x s from rfl]
        cases lenA x s <;> rfl
      · rfl
  · rename_i x
    cases (ats[0]?).bind (und X.P) with
    | none => rfl
    | some d =>
      simp only [Option.bind_some]
      split
      · cases capA x <;> rfl
      · rfl
  · cases minI (fun y x => decide (y < x)) args <;> rfl
  · cases minI (fun y x => decide (x < y)) args <;> rfl
  · split
    · split
      · split
        · exact appendA_re n _ _ _ _ _ id s
        · rfl
      · rfl
    · split
      · split
        · rename_i y _ _ _ _ _ _ _ _ _ _ z _ _ _ _ _ _ _
          rw [show srcCells _ _ ⟨s.h, n⟩ = srcCells _ _ s from rfl]
          cases srcCells _ _ s with
          | none => rfl
          | some c => exact appendA_re n _ _ _ _ _ id s
        · rfl
      · rfl
    · split
      · split
        · rw [show srcCells _ _ ⟨s.h, n⟩ = srcCells _ _ s from rfl]
          cases srcCells _ _ s with
          | none => rfl
          | some c => exact appendA_re n _ _ _ _ _ id s
        · rfl
      · rfl
    · rfl
  · split
    · split
      · split
        · rfl
        · rw [show srcCells _ _ ⟨s.h, n⟩ = srcCells _ _ s from rfl]
          cases srcCells _ _ s with
          | none => rfl
          | some c => exact copyA_re n _ _ _ s
      · rfl
    · rfl
  · split
    · rfl
    · split
      · split <;> rfl
      · rfl
    · rfl
  · split
    · split
      · split
        · split
          · split
            · cases asU8s _ with
              | none => rfl
              | some c =>
                simp only [Option.bind_some]
                split <;> rfl
            · rfl
          · rfl
        · rfl
      · rfl
      · rfl
      · rfl
    · rfl
  · rfl
theorem map_re (n : Nat) (s : St) (q : Option AV) : q.map (·, (⟨s.h, n⟩ : St)) = (q.map (·, s)).map (re n) := by cases q <;> rfl
theorem call_re {X : Cx} (hp : CallPure X) (n : Nat) (f : FuncId) (args : List AV) (s : St) : X.call true f args ⟨s.h, n⟩ = (X.call true f args s).map (re n) := by
  cases h : X.call true f args s with
  | some q =>
    obtain ⟨r, s'⟩ := q
    obtain ⟨rfl, h2⟩ := hp _ _ _ _ _ h
    rw [h2 n]; rfl
  | none =>
    cases h2 : X.call true f args ⟨s.h, n⟩ with
    | none => rfl
    | some q =>
      obtain ⟨r, s'⟩ := q
      have := (hp _ _ _ _ _ h2).2 s.nx
      have e : (⟨(⟨s.h, n⟩ : St).h, s.nx⟩ : St) = s := rfl
      rw [e, h] at this; cases this
theorem opA_re {X : Cx} (hp : CallPure X) (n : Nat) (id : Nat) (e : Operand → AV) (o : Oper) (s : St) : opA X true id e o ⟨s.h, n⟩ = (opA X true id e o s).map (re n) := by
  unfold opA
  cases ho : o.op with
  | move | assign => rfl
  | pick c a b => simp only; cases asB (e c) <;> rfl
  | alloc ty => simp only; cases zero X.P ty <;> rfl
  | box ty x => simp only; split <;> rfl
  | build | buildSlice | binOp | unOp | fieldAddr | field | indexAddr | index => exact map_re n s _
  | convert src dst x => exact map_re n s (convA X.P src dst (e x) s)
  | slice ty x lo hi mx => exact map_re n s (sliceA X.P ty (e x) (lo.map e) (hi.map e) (mx.map e) s)
  | lookup ty m k ok => exact map_re n s (lookupA X.P ty (e m) (e k) ok s)
  | load ty a =>
    simp only
    cases lay X.P ty with
    | none => rfl
    | some l => exact map_re n s (load l.1 l.2 (e a) s)
  | store ty a x =>
    simp only
    cases lay X.P ty with
    | none => rfl
    | some l =>
      simp only [Option.bind_some]
      have : Ai.store l.1 (e a) (e x) ⟨s.h, n⟩ = (Ai.store l.1 (e a) (e x) s).map fun t => ⟨t.h, n⟩ := by
        unfold Ai.store
        dsimp only
        split
        · split
          · split <;> rfl
          · rfl
        · rfl
      rw [this]
      cases Ai.store l.1 (e a) (e x) s <;> rfl
  | nilCheck x => simp only; split <;> rfl
  | makeInterface ty x => simp only; split <;> rfl
  | makeFunc fn a b => cases fn <;> rfl
  | makeMap ty q => cases q <;> rfl
  | makeSlice ty a c =>
    simp only
    split
    · split
      · split <;> rfl
      · rfl
    · rfl
  | mapUpdate ty m k x =>
    simp only
    have : mapUpd X.P ty (e m) (e k) (e x) ⟨s.h, n⟩ = (mapUpd X.P ty (e m) (e k) (e x) s).map fun t => ⟨t.h, n⟩ := by
      unfold mapUpd
      dsimp only
      split
      · rename_i kt _ _
        cases und X.P kt with
        | none => rfl
        | some kd =>
          simp only [Option.bind_some]
          split
          · split
            · split
              · cases find (e k) _ <;> rfl
              · rfl
            · rfl
          · rfl
      · rfl
    rw [this]
    cases mapUpd X.P ty (e m) (e k) (e x) s <;> rfl
  | extract x i =>
    simp only
    split
    · exact map_re n s _
    · rfl
  | call c =>
    simp only
    cases c.callee with
    | value f =>
      simp only
      split
      · exact call_re hp n _ _ s
      · rfl
    | invoke a b => rfl
    | builtin b => exact builtinA_re n X b c.argTypes _ id s
  | _ => rfl

/-- What is reached hangs on the blocks that are reached. -/
theorem reach_sub (h : Nat → Option Blk) : ∀ (f : Nat) (w seen : List Nat), ∀ m ∈ seen, m ∈ reach h f w seen := by
  intro f
  induction f with
  | zero => intro w seen m hm; exact hm
  | succ f ih =>
    intro w seen m hm
    cases w with
    | nil => exact hm
    | cons x w =>
      simp only [reach]
      cases memB x seen with
      | true => exact ih w seen m hm
      | false =>
        simp only [cond_false]
        cases h x with
        | none => exact ih w _ m (List.mem_cons_of_mem _ hm)
        | some b => exact ih _ _ m (List.mem_cons_of_mem _ hm)
theorem reach_eq (h h' : Nat → Option Blk) : ∀ (f : Nat) (w seen : List Nat), (∀ m ∈ reach h f w seen, h' m = h m) → reach h' f w seen = reach h f w seen := by
  intro f
  induction f with
  | zero => intro w seen _; rfl
  | succ f ih =>
    intro w seen hm
    cases w with
    | nil => rfl
    | cons x w =>
      simp only [reach] at hm ⊢
      cases hx : memB x seen with
      | true => rw [hx] at hm; exact ih w seen hm
      | false =>
        rw [hx] at hm
        simp only [cond_false] at hm ⊢
        have hxm : h' x = h x := by
          cases hb : h x with
          | none => rw [hb] at hm; rw [← hb]; exact hm x (reach_sub h f w _ x (List.mem_cons_self ..))
          | some b => rw [hb] at hm; rw [← hb]; exact hm x (reach_sub h f _ _ x (List.mem_cons_self ..))
        rw [hxm]
        cases hb : h x with
        | none => rw [hb] at hm; exact ih w _ hm
        | some b => rw [hb] at hm; exact ih _ _ hm
end
end Go.Proofs.YtdehdahimkcakaaGreatDoor.Ai
/-! Two operations of a region that draws, in either order. -/
namespace Go.Proofs.YtdehdahimkcakaaGreatDoor.Ai
open Go

section
variable {X : Cx} {s s' : St}

/-! ### Slots -/
theorem gt_put {tm : List AV} {d : Option Nat} {v : AV} {t : Nat} (h : ∀ u, d = some u → u ≠ t) : gt (put tm d v) t = gt tm t := by
  cases d with
  | none => rfl
  | some u =>
    have hne := h u rfl
    simp only [gt, put, List.getD_eq_getElem?_getD, List.getElem?_set_ne hne]
theorem put_put {tm : List AV} {d e : Option Nat} {v w : AV} (h : ∀ a b, d = some a → e = some b → a ≠ b) : put (put tm d v) e w = put (put tm e w) d v := by
  cases d with
  | none => rfl
  | some a =>
    cases e with
    | none => rfl
    | some b => exact List.set_comm v w (h a b rfl rfl)
theorem ev_put {tm : List AV} {d : Option Nat} {v : AV} {x : Operand} (h : ∀ u, d = some u → isTmp u x = false) : ev X (gt (put tm d v)) x = ev X (gt tm) x := by
  cases x with
  | tmp t =>
    refine gt_put fun u hu hut => ?_
    have := h u hu
    subst hut
    simp [isTmp] at this
  | _ => rfl
theorem sees_ev {all : List Oper} {o : Oper} {tm : List AV} {d : Option Nat} {v : AV} (h : ∀ u, d = some u → sees all o u = false) : ∀ x ∈ opnds o.op, ev X (gt (put tm d v)) x = ev X (gt tm) x := by
  intro x hx
  refine ev_put fun u hu => ?_
  have := h u hu
  simp only [sees, Bool.or_eq_false_iff, List.any_eq_false] at this
  simpa using this.1 x hx
theorem sees_wanted {all : List Oper} {o : Oper} {tm : List AV} {d : Option Nat} {v : AV} (h : ∀ u, d = some u → sees all o u = false) : wantedA all (gt (put tm d v)) o = wantedA all (gt tm) o := by
  unfold wantedA
  cases hg : o.guard with
  | none => rfl
  | some jw =>
    obtain ⟨j, w⟩ := jw
    simp only
    cases hd : (all[j]?).bind (·.dst) with
    | none => rfl
    | some t =>
      simp only
      rw [gt_put fun u hu hut => ?_]
      have := h u hu
      simp only [sees, Bool.or_eq_false_iff, hg, hd] at this
      have h2 := this.2
      rw [hut] at h2
      simp at h2

/-! ### Congruence -/
theorem wide_congr {e e' : Operand → AV} {o : Op} (h : ∀ x ∈ opnds o, e x = e' x) : wide X e o = wide X e' o := by
  cases o <;> try rfl
  rename_i c
  unfold wide
  cases hc : c.callee with
  | value f => simp only [hc]; rw [h f (by simp [opnds, hc])]
  | invoke a b => simp only [hc]
  | builtin b => simp only [hc]
theorem foot_congr {e e' : Operand → AV} {o : Op} (h : ∀ x ∈ opnds o, e x = e' x) : foot o e = foot o e' := by
  cases o <;> simp only [foot] <;> simp only [opnds] at h
  case call c =>
    cases hc : c.callee with
    | builtin b =>
      simp only [hc] at h ⊢
      have : ∀ x ∈ c.args.toList, idOf (e x) = idOf (e' x) := fun x hx => by rw [h x (by simp; exact Array.mem_toList_iff.1 hx)]
      simp only [List.flatMap]; rw [List.map_congr_left this]
    | _ => rfl
  all_goals (first | rfl | (rw [h _ (by simp)]; done))
theorem opnds_congr {e e' : Operand → AV} {o : Op} (h : ∀ x ∈ opnds o, e x = e' x) : (opnds o).map e = (opnds o).map e' := List.map_congr_left h
theorem shown_congr {e e' : Operand → AV} {o : Op} (h : ∀ x ∈ opnds o, e x = e' x) (s : St) : shown e o s = shown e' o s := by
  unfold shown
  simp only [opnds_congr h, foot_congr h]
theorem opD_congr {id : Nat} {e e' : Operand → AV} {o : Oper} (h : ∀ x ∈ opnds o.op, e x = e' x) (s : St) : opD X id e o s = opD X id e' o s := by
  unfold opD
  simp only [wide_congr h, shown_congr h, opA_congr h]
theorem touch_congr {e e' : Operand → AV} {o : Op} (h : ∀ x ∈ opnds o, e x = e' x) (id : Nat) (s : St) : touch o id e s = touch o id e' s := by
  unfold touch
  simp only [shown_congr h]
theorem markOf_congr {i id : Nat} {e e' : Operand → AV} {o : Op} (h : ∀ x ∈ opnds o, e x = e' x) (s : St) : markOf X i id e o s = markOf X i id e' o s := by
  unfold markOf
  simp only [wide_congr h, shown_congr h, touch_congr h]

/-! ### Blocks -/
/-- What an operation may change. -/
def wset (wd wr : Bool) (id nx : Nat) (l : List Nat) (m : Nat) : Bool := cond wd (memB m l || Nat.ble nx m) (wr && memB m (id :: l))
theorem shown_eq {e : Operand → AV} {o : Op} (h : ∀ m ∈ shown e o s, s'.h m = s.h m) : shown e o s' = shown e o s := by
  unfold shown at h ⊢
  cases o <;> try rfl
  rename_i c
  simp only at h ⊢
  cases hc : c.callee with
  | value f =>
    simp only [hc] at h ⊢
    exact reach_eq s.h s'.h 4000 _ [] h
  | _ => rfl
theorem only_eq {l : List Nat} (h : ∀ m ∈ l, s'.h m = s.h m) : s'.only l = ⟨(s.only l).h, s'.nx⟩ := by
  refine st_eq (fun m => ?_) rfl
  simp only [St.only]
  cases hm : memB m l with
  | false => rfl
  | true => exact h m (memB_mem.1 hm)
theorem opD_spec (hp : CallPure X) {id : Nat} {e : Operand → AV} {o : Oper} {r : AV} {t : St} (h : opD X id e o s = some (r, t)) :
    (∀ m, wset (wide X e o.op) (writes o.op) id s.nx (shown e o.op s) m = false → t.h m = s.h m) ∧ (wide X e o.op = false → t.nx = s.nx) ∧
    ∀ s' : St, (∀ m ∈ shown e o.op s, s'.h m = s.h m) → (wide X e o.op = true → s'.nx = s.nx) → shown e o.op s' = shown e o.op s ∧
      ∃ t', opD X id e o s' = some (r, t') ∧ (∀ m, wset (wide X e o.op) (writes o.op) id s.nx (shown e o.op s) m = true → t'.h m = t.h m) ∧
        (∀ m, wset (wide X e o.op) (writes o.op) id s.nx (shown e o.op s) m = false → t'.h m = s'.h m) ∧ (wide X e o.op = true → t'.nx = t.nx) ∧ (wide X e o.op = false → t'.nx = s'.nx) := by
  have hsh : ∀ s' : St, (∀ m ∈ shown e o.op s, s'.h m = s.h m) → shown e o.op s' = shown e o.op s := fun s' h => shown_eq h
  unfold opD at h ⊢
  generalize hl : shown e o.op s = l at h ⊢ hsh
  cases hw : wide X e o.op with
  | true =>
    rw [hw] at h
    simp only [cond_true] at h ⊢
    cases ho : opA X false id e o (s.only l) with
    | none => rw [ho] at h; cases h
    | some q =>
      rw [ho] at h
      simp only [Option.map_some, Option.some.injEq, Prod.mk.injEq] at h; obtain ⟨rfl, rfl⟩ := h
      refine ⟨fun m hm => ?_, (fun hf => (nomatch hf)), fun s' h1 h2 => ?_⟩
      · simp only [wset, cond_true] at hm
        simp only [mergeW, hm, cond_false]
      · have h2 := h2 trivial
        rw [hsh s' h1]
        have ho' : opA X false id e o (s'.only l) = some q := by
          rw [only_eq h1, h2]; exact ho
        rw [ho']
        refine ⟨rfl, _, rfl, fun m hm => ?_, fun m hm => ?_, (fun _ => rfl), (fun hf => (nomatch hf))⟩
        · simp only [wset, cond_true] at hm
          simp only [mergeW, h2, hm, cond_true]
        · simp only [wset, cond_true] at hm
          simp only [mergeW, h2, hm, cond_false]
  | false =>
    rw [hw] at h
    simp only [cond_false] at h ⊢
    cases ho : opA X true id e o (s.only l) with
    | none => rw [ho] at h; cases h
    | some q =>
      rw [ho] at h
      simp only [Option.map_some, Option.some.injEq, Prod.mk.injEq] at h; obtain ⟨rfl, rfl⟩ := h
      refine ⟨fun m hm => ?_, fun _ => ?_, fun s' h1 h2 => ?_⟩
      · simp only [wset, cond_false] at hm
        cases hwr : writes o.op with
        | false => rfl
        | true =>
          rw [hwr, Bool.true_and] at hm
          simp only [cond_true, St.merge, hm, cond_false]
      · cases hwr : writes o.op <;> rfl
      · rw [hsh s' h1]
        have ho' : opA X true id e o (s'.only l) = some (re s'.nx q) := by
          rw [only_eq h1, opA_re hp, ho]; rfl
        rw [ho']
        refine ⟨rfl, _, rfl, fun m hm => ?_, fun m hm => ?_, fun hf => (nomatch hf), fun _ => ?_⟩
        · simp only [wset, cond_false] at hm
          cases hwr : writes o.op with
          | false => rw [hwr] at hm; cases hm
          | true =>
            rw [hwr, Bool.true_and] at hm
            simp only [cond_true, St.merge, hm, re]
        · simp only [wset, cond_false] at hm
          cases hwr : writes o.op with
          | false => rfl
          | true =>
            rw [hwr, Bool.true_and] at hm
            simp only [cond_true, St.merge, hm, cond_false]
        · cases hwr : writes o.op <;> rfl
theorem disj_mem : ∀ {l m : List Nat}, disj l m = true → ∀ n ∈ l, memB n m = false := by
  intro l
  induction l with
  | nil => intro m _ n hn; cases hn
  | cons a l ih =>
    intro m h n hn
    simp only [disj, Bool.and_eq_true, Bool.not_eq_true'] at h
    rcases List.mem_cons.1 hn with rfl | hn
    · exact h.1
    · exact ih h.2 n hn
theorem apart_facts {wa ra : Bool} {ia na : Nat} {la : List Nat} {wx rx : Bool} {ix nx : Nat} {lx : List Nat} {i j : Nat}
    (h : (cond wa ⟨i, true, la, some na⟩ ⟨i, ra, cond ra (ia :: la) la, none⟩ : Mark).apart (cond wx ⟨j, true, lx, some nx⟩ ⟨j, rx, cond rx (ix :: lx) lx, none⟩) = true) :
    (∀ m ∈ lx, wset wa ra ia na la m = false) ∧ (∀ m ∈ la, wset wx rx ix nx lx m = false) ∧ (∀ m, wset wa ra ia na la m = true → wset wx rx ix nx lx m = true → False) ∧ (wa = true → wx = false) := by
  have flip : ∀ {l m : List Nat}, disj l m = true → ∀ n ∈ m, memB n l = false := fun {l m} hd n hn => by
    cases hb : memB n l with
    | false => rfl
    | true => have := disj_mem hd n (memB_mem.1 hb); rw [memB_mem.2 hn] at this; cases this
  have low : ∀ {l : List Nat} {k : Nat}, (l.all fun m => Nat.blt m k) = true → ∀ n ∈ l, Nat.ble k n = false := fun {l k} hl n hn => by
    have h1 := List.all_eq_true.1 hl n hn
    have h2 : n < k := by simpa [Nat.blt_eq] using h1
    cases hb : Nat.ble k n with
    | false => rfl
    | true => have := Nat.le_of_ble_eq_true hb; omega
  have tr : ∀ {l m : List Nat} {n : Nat}, disj l m = true → memB n l = true → memB n m = true → False := fun {l m n} hd h1 h2 => by
    have := disj_mem hd n (memB_mem.1 h1); rw [h2] at this; cases this
  cases wa <;> cases wx
  · cases ra <;> cases rx
    · simp [wset]
    all_goals
      simp only [cond_false, cond_true, Mark.apart, okLo, Bool.not_true, Bool.not_false, Bool.and_true, Bool.false_and, Bool.and_false, Bool.true_and, Bool.false_or] at h
      simp only [wset, cond_false, Bool.true_and, Bool.false_and]
    · exact ⟨fun m _ => trivial, fun m hm => disj_mem h m hm, fun m h1 => (by simp at h1), fun h => nomatch h⟩
    · exact ⟨fun m hm => flip h m hm, fun m hm => trivial, fun m _ h1 => (by simp at h1), fun h => nomatch h⟩
    · exact ⟨fun m hm => flip h m (List.mem_cons_of_mem _ hm), fun m hm => disj_mem h m (List.mem_cons_of_mem _ hm), fun m h1 h2 => tr h h1 h2, fun h => nomatch h⟩
  · simp only [cond_false, cond_true, Mark.apart, okLo, Bool.not_true, Bool.and_false, Bool.false_or, Bool.true_and, Option.isNone_none, Bool.and_eq_true] at h
    obtain ⟨h1, h2⟩ := h
    cases ra
    · simp only [cond_false] at h1 h2
      simp only [wset, cond_false, cond_true, Bool.false_and]
      refine ⟨fun m _ => trivial, fun m hm => ?_, fun m h => (by simp at h), (fun h => (nomatch h))⟩
      rw [disj_mem h2 m hm, low h1 m hm]; rfl
    · simp only [cond_true] at h1 h2
      simp only [wset, cond_false, cond_true, Bool.true_and]
      refine ⟨fun m hm => flip h2 m hm, fun m hm => ?_, fun m h3 h4 => ?_, fun h => nomatch h⟩
      · rw [disj_mem h2 m (List.mem_cons_of_mem _ hm), low h1 m (List.mem_cons_of_mem _ hm)]; rfl
      · have hm := memB_mem.1 h3
        rw [disj_mem h2 m hm, low h1 m hm] at h4; cases h4
  · simp only [cond_false, cond_true, Mark.apart, okLo, Bool.not_true, Bool.false_and, Bool.false_or, Bool.true_and, Bool.and_true, Option.isNone_none, Bool.and_eq_true] at h
    obtain ⟨h1, h2⟩ := h
    cases rx
    · simp only [cond_false] at h1 h2
      simp only [wset, cond_false, cond_true, Bool.false_and]
      refine ⟨fun m hm => ?_, fun m _ => trivial, fun m _ h => (by simp at h), fun _ => trivial⟩
      rw [flip h2 m hm, low h1 m hm]; rfl
    · simp only [cond_true] at h1 h2
      simp only [wset, cond_false, cond_true, Bool.true_and]
      refine ⟨fun m hm => ?_, fun m hm => disj_mem h2 m hm, fun m h4 h3 => ?_, fun _ => trivial⟩
      · rw [flip h2 m (List.mem_cons_of_mem _ hm), low h1 m (List.mem_cons_of_mem _ hm)]; rfl
      · have hm := memB_mem.1 h3
        rw [flip h2 m hm, low h1 m hm] at h4; cases h4
  · simp [Mark.apart, okLo] at h

/-! ### Steps -/
def stepM (X : Cx) (base : Nat) (all : List Oper) (i : Nat) (q : List AV × St) : Option (Option Mark × (List AV × St)) :=
  match all[i]? with
  | none => none
  | some o => (wantedA all (gt q.1) o).bind fun w => cond w
      ((opD X (base + i) (ev X (gt q.1)) o q.2).map fun r => (some (markOf X i (base + i) (ev X (gt q.1)) o.op q.2), (put q.1 o.dst r.1, r.2)))
      (some (none, (put q.1 o.dst (.tup []), q.2)))
theorem apartD_spec {all : List Oper} {a x : Oper} (h : apartD all a x = true) :
    (∀ u, a.dst = some u → sees all x u = false) ∧ (∀ u, x.dst = some u → sees all a u = false) ∧ ∀ u v, a.dst = some u → x.dst = some v → u ≠ v := by
  unfold apartD at h
  simp only [Bool.and_eq_true] at h
  obtain ⟨h1, h2⟩ := h
  refine ⟨fun u hu => ?_, fun u hu => ?_, fun u v hu hv huv => ?_⟩
  · rw [hu] at h1; simp only [Bool.and_eq_true, Bool.not_eq_true'] at h1; exact h1.1
  · rw [hu] at h2; simpa using h2
  · rw [hu, hv] at h1
    subst huv
    simp at h1
theorem swap (hp : CallPure X) {base : Nat} {all : List Oper} {a x : Nat} {oa ox : Oper} (ha : all[a]? = some oa) (hx : all[x]? = some ox) (hap : apartD all oa ox = true)
    {q q1 q2 : List AV × St} {ma mx : Option Mark} (h1 : stepM X base all a q = some (ma, q1)) (h2 : stepM X base all x q1 = some (mx, q2)) (hm : ∀ p k, ma = some p → mx = some k → p.apart k = true) :
    ∃ q1', stepM X base all x q = some (mx, q1') ∧ stepM X base all a q1' = some (ma, q2) := by
  obtain ⟨d1, d2, d3⟩ := apartD_spec hap
  unfold stepM at h1 h2 ⊢
  rw [ha] at h1 ⊢
  rw [hx] at h2 ⊢
  simp only at h1 h2 ⊢
  cases hwa : wantedA all (gt q.1) oa with
  | none => rw [hwa] at h1; cases h1
  | some wa =>
  rw [hwa] at h1
  simp only [Option.bind_some] at h1
  cases wa with
  | false =>
    simp only [cond_false, Option.some.injEq, Prod.mk.injEq] at h1; obtain ⟨rfl, rfl⟩ := h1
    simp only [sees_wanted d1, opD_congr (sees_ev d1), markOf_congr (sees_ev d1)] at h2
    cases hwx : wantedA all (gt q.1) ox with
    | none => rw [hwx] at h2; cases h2
    | some wx =>
    rw [hwx] at h2
    simp only [Option.bind_some] at h2 ⊢
    cases wx with
    | false =>
      simp only [cond_false, Option.some.injEq, Prod.mk.injEq] at h2 ⊢; obtain ⟨rfl, rfl⟩ := h2
      refine ⟨_, ⟨rfl, rfl⟩, ?_⟩
      simp only [sees_wanted d2, hwa, Option.bind_some, cond_false, Option.some.injEq, Prod.mk.injEq, true_and]
      exact ⟨(put_put d3).symm, trivial⟩
    | true =>
      simp only [cond_true] at h2 ⊢
      cases ho : opD X (base + x) (ev X (gt q.1)) ox q.2 with
      | none => rw [ho] at h2; cases h2
      | some r =>
      rw [ho] at h2
      simp only [Option.map_some, Option.some.injEq, Prod.mk.injEq] at h2 ⊢; obtain ⟨rfl, rfl⟩ := h2
      refine ⟨_, ⟨rfl, rfl⟩, ?_⟩
      simp only [sees_wanted d2, hwa, Option.bind_some, cond_false, Option.some.injEq, Prod.mk.injEq, true_and]
      exact ⟨(put_put d3).symm, trivial⟩
  | true =>
    simp only [cond_true] at h1
    cases hoa : opD X (base + a) (ev X (gt q.1)) oa q.2 with
    | none => rw [hoa] at h1; cases h1
    | some ra =>
    obtain ⟨ra, s1⟩ := ra
    rw [hoa] at h1
    simp only [Option.map_some, Option.some.injEq, Prod.mk.injEq] at h1; obtain ⟨rfl, rfl⟩ := h1
    simp only [sees_wanted d1, opD_congr (sees_ev d1), markOf_congr (sees_ev d1)] at h2
    cases hwx : wantedA all (gt q.1) ox with
    | none => rw [hwx] at h2; cases h2
    | some wx =>
    rw [hwx] at h2
    simp only [Option.bind_some] at h2 ⊢
    cases wx with
    | false =>
      simp only [cond_false, Option.some.injEq, Prod.mk.injEq] at h2 ⊢; obtain ⟨rfl, rfl⟩ := h2
      refine ⟨_, ⟨rfl, rfl⟩, ?_⟩
      simp only [sees_wanted d2, hwa, Option.bind_some, cond_true, opD_congr (sees_ev d2), markOf_congr (sees_ev d2), hoa, Option.map_some, Option.some.injEq, Prod.mk.injEq, true_and]
      exact ⟨(put_put d3).symm, trivial⟩
    | true =>
      simp only [cond_true] at h2 ⊢
      cases hox : opD X (base + x) (ev X (gt q.1)) ox s1 with
      | none => rw [hox] at h2; cases h2
      | some rx =>
      obtain ⟨rx, s2⟩ := rx
      rw [hox] at h2
      simp only [Option.map_some, Option.some.injEq, Prod.mk.injEq] at h2; obtain ⟨rfl, rfl⟩ := h2
      have hma := hm _ _ rfl rfl
      simp only [markOf, touch] at hma
      obtain ⟨f1, f2, f3, f4⟩ := apart_facts hma
      obtain ⟨a1, a2, a3⟩ := opD_spec hp hoa
      obtain ⟨x1, x2, x3⟩ := opD_spec hp hox
      obtain ⟨y1, t1, y2, y3, y4, y5, y6⟩ := x3 q.2 (fun m hm => (a1 m (f1 m hm)).symm) (fun hwx' => by
        cases hwa' : wide X (ev X (gt q.1)) oa.op with
        | false => exact (a2 hwa').symm
        | true => rw [f4 hwa'] at hwx'; cases hwx')
      obtain ⟨z1, t2, z2, z3, z4, z5, z6⟩ := a3 t1 (fun m hm => y4 m (f2 m hm)) (fun hwa' => y6 (f4 hwa'))
      rw [y2]
      simp only [Option.map_some, Option.some.injEq, Prod.mk.injEq]
      refine ⟨_, ⟨?_, rfl⟩, ?_⟩
      · simp only [markOf, touch, y1]
        cases hwx' : wide X (ev X (gt q.1)) ox.op with
        | false => rfl
        | true =>
          have : s1.nx = q.2.nx := by
            cases hwa' : wide X (ev X (gt q.1)) oa.op with
            | false => exact a2 hwa'
            | true => rw [f4 hwa'] at hwx'; cases hwx'
          rw [this]
      · simp only [sees_wanted d2, hwa, Option.bind_some, cond_true, opD_congr (sees_ev d2), markOf_congr (sees_ev d2), z2, Option.map_some, Option.some.injEq, Prod.mk.injEq]
        refine ⟨?_, (put_put d3).symm, st_eq (fun m => ?_) ?_⟩
        · simp only [markOf, touch, z1]
          cases hwa' : wide X (ev X (gt q.1)) oa.op with
          | false => rfl
          | true => rw [y6 (f4 hwa')]
        · cases hA : wset (wide X (ev X (gt q.1)) oa.op) (writes oa.op) (base + a) q.2.nx (shown (ev X (gt q.1)) oa.op q.2) m with
          | true =>
            rw [z3 m hA]
            refine (x1 m ?_).symm
            cases hB : wset (wide X (ev X (gt q.1)) ox.op) (writes ox.op) (base + x) s1.nx (shown (ev X (gt q.1)) ox.op s1) m with
            | false => rfl
            | true => exact (f3 m hA hB).elim
          | false =>
            rw [z4 m hA]
            cases hB : wset (wide X (ev X (gt q.1)) ox.op) (writes ox.op) (base + x) s1.nx (shown (ev X (gt q.1)) ox.op s1) m with
            | true => exact y3 m hB
            | false => rw [y4 m hB, x1 m hB, a1 m hA]
        · cases hwa' : wide X (ev X (gt q.1)) oa.op with
          | true => rw [z5 hwa', x2 (f4 hwa')]
          | false =>
            rw [z6 hwa']
            cases hwx' : wide X (ev X (gt q.1)) ox.op with
            | true => exact y5 hwx'
            | false => rw [y6 hwx', x2 hwx', a2 hwa']
end
end Go.Proofs.YtdehdahimkcakaaGreatDoor.Ai
/-! A region that draws its order is sound. -/
namespace Go.Proofs.YtdehdahimkcakaaGreatDoor.Ai
open Go

section
variable {X : Cx} {s s' : St}

/-! ### Orders -/
def runM (X : Cx) (base : Nat) (all : List Oper) : List Nat → List AV × St → Option (List (Nat × Option Mark) × (List AV × St))
  | [], q => some ([], q)
  | i :: l, q => (stepM X base all i q).bind fun r => (runM X base all l r.2).map fun z => ((i, r.1) :: z.1, z.2)
/-- Two that may come in either order. -/
def Free (all : List Oper) (p k : Nat × Option Mark) : Prop := (∃ oa ox, all[p.1]? = some oa ∧ all[k.1]? = some ox ∧ apartD all oa ox = true) ∧ ∀ u v, p.2 = some u → k.2 = some v → u.apart v = true
def Apt (all : List Oper) (ms : List Nat) (p k : Nat × Option Mark) : Prop := bitOf (ms.getD k.1 0) p.1 = true ∨ Free all p k

theorem runM_cons {base : Nat} {all : List Oper} {i : Nat} {l : List Nat} {q : List AV × St} {ml : List (Nat × Option Mark)} {r : List AV × St} :
    runM X base all (i :: l) q = some (ml, r) ↔ ∃ m q1 ml1, stepM X base all i q = some (m, q1) ∧ runM X base all l q1 = some (ml1, r) ∧ ml = (i, m) :: ml1 := by
  constructor
  · intro h
    simp only [runM] at h
    cases h1 : stepM X base all i q with
    | none => rw [h1] at h; cases h
    | some mq =>
      obtain ⟨m, q1⟩ := mq
      rw [h1] at h
      simp only [Option.bind_some] at h
      cases h2 : runM X base all l q1 with
      | none => rw [h2] at h; cases h
      | some z =>
        obtain ⟨ml1, r1⟩ := z
        rw [h2] at h
        simp only [Option.map_some, Option.some.injEq, Prod.mk.injEq] at h; obtain ⟨rfl, rfl⟩ := h
        exact ⟨m, q1, ml1, rfl, h2, rfl⟩
  · rintro ⟨m, q1, ml1, h1, h2, rfl⟩
    simp only [runM, h1, Option.bind_some, h2, Option.map_some]
theorem front (hp : CallPure X) {base : Nat} {all : List Oper} (x : Nat) (B : List Nat) : ∀ (A : List Nat) (q : List AV × St) (ml : List (Nat × Option Mark)) (r : List AV × St), runM X base all (A ++ x :: B) q = some (ml, r) →
    ∃ mlA mx mlB, ml = mlA ++ (x, mx) :: mlB ∧ mlA.map (·.1) = A ∧ ((∀ p ∈ mlA, Free all p (x, mx)) → runM X base all (x :: (A ++ B)) q = some ((x, mx) :: (mlA ++ mlB), r)) := by
  intro A
  induction A with
  | nil =>
    intro q ml r h
    obtain ⟨m, q1, ml1, h1, h2, rfl⟩ := runM_cons.1 h
    exact ⟨[], m, ml1, rfl, rfl, fun _ => h⟩
  | cons a A ih =>
    intro q ml r h
    obtain ⟨m, q1, ml1, h1, h2, rfl⟩ := runM_cons.1 h
    obtain ⟨mlA, mx, mlB, rfl, rfl, k⟩ := ih q1 ml1 r h2
    refine ⟨(a, m) :: mlA, mx, mlB, rfl, rfl, fun hf => ?_⟩
    obtain ⟨mx', q2, ml2, k1, k2, k3⟩ := runM_cons.1 (k fun p hp => hf p (List.mem_cons_of_mem _ hp))
    simp only [List.cons.injEq, Prod.mk.injEq, true_and] at k3; obtain ⟨rfl, rfl⟩ := k3
    obtain ⟨⟨oa, ox, e1, e2, e3⟩, e4⟩ := hf (a, m) (List.mem_cons_self ..)
    obtain ⟨q1', s1, s2⟩ := swap hp e1 e2 e3 h1 k1 e4
    exact runM_cons.2 ⟨mx, q1', _, s1, runM_cons.2 ⟨m, q2, _, s2, k2, rfl⟩, rfl⟩
theorem perm_run (hp : CallPure X) {base : Nat} {all : List Oper} {ms : List Nat} : ∀ (L M : List Nat) (q : List AV × St) (ml : List (Nat × Option Mark)) (r : List AV × St), L.Perm M → runM X base all M q = some (ml, r) →
    ml.Pairwise (Apt all ms) → L.Pairwise (fun x a => bitOf (ms.getD x 0) a = false) → ∃ ml', runM X base all L q = some (ml', r) := by
  intro L
  induction L with
  | nil =>
    intro M q ml r hL h _ _
    have := hL.symm.eq_nil
    subst this
    exact ⟨ml, h⟩
  | cons x L ih =>
    intro M q ml r hL h hw ho
    have hx : x ∈ M := hL.subset (List.mem_cons_self ..)
    obtain ⟨A, B, rfl⟩ := List.append_of_mem hx
    have hLp : L.Perm (A ++ B) := List.Perm.cons_inv (hL.trans List.perm_middle)
    obtain ⟨mlA, mx, mlB, rfl, rfl, k⟩ := front hp x B A q ml r h
    rw [List.pairwise_cons] at ho
    rw [List.pairwise_append] at hw
    obtain ⟨w1, w2, w3⟩ := hw
    rw [List.pairwise_cons] at w2
    have hfree : ∀ p ∈ mlA, Free all p (x, mx) := fun p hpm => by
      rcases w3 p hpm (x, mx) (List.mem_cons_self ..) with hb | hb
      · have hin : p.1 ∈ L := hLp.symm.subset (List.mem_append_left _ (List.mem_map.2 ⟨p, hpm, rfl⟩))
        have := ho.1 p.1 hin
        simp only at hb
        rw [this] at hb; cases hb
      · exact hb
    obtain ⟨m, q1, ml1, k1, k2, k3⟩ := runM_cons.1 (k hfree)
    simp only [List.cons.injEq, Prod.mk.injEq, true_and] at k3; obtain ⟨rfl, rfl⟩ := k3
    obtain ⟨ml', k4⟩ := ih (mlA.map (·.1) ++ B) q1 (mlA ++ mlB) r hLp k2 (List.pairwise_append.2 ⟨w1, w2.2, fun a ha b hb => w3 a ha b (List.mem_cons_of_mem _ hb)⟩) ho.2
    exact ⟨_, runM_cons.2 ⟨mx, q1, ml', k1, k4, rfl⟩⟩

/-! ### What 'drawn' checks -/
theorem bitOf_or (m n k : Nat) : bitOf (m ||| n) k = (bitOf m k || bitOf n k) := by
  have e : ∀ m k, bitOf m k = m.testBit k := fun m k => by
    simp only [bitOf, Nat.testBit_eq_decide_div_mod_eq, Nat.shiftRight_eq_div_pow]
    by_cases h : m / 2 ^ k % 2 = 1
    · rw [h]; rfl
    · rw [decide_eq_false h]
      cases hb : Nat.beq (m / 2 ^ k % 2) 1 with
      | false => rfl
      | true => exact absurd (Nat.eq_of_beq_eq_true hb) h
  simp only [e, Nat.testBit_or]
theorem bitOf_one (j k : Nat) : bitOf (1 <<< j) k = true → k = j := by
  intro h
  simp only [bitOf, Nat.shiftLeft_eq, Nat.one_mul, Nat.shiftRight_eq_div_pow] at h
  have h := Nat.eq_of_beq_eq_true h
  rcases Nat.lt_trichotomy k j with hl | he | hg
  · have : 2 ^ j / 2 ^ k = 2 ^ (j - k) := Nat.pow_div (Nat.le_of_lt hl) (by decide)
    rw [this] at h
    have h2 : 2 ^ (j - k) = 2 * 2 ^ (j - k - 1) := by
      rw [← Nat.pow_succ']; congr 1; omega
    omega
  · exact he
  · have : 2 ^ j / 2 ^ k = 0 := Nat.div_eq_of_lt (Nat.pow_lt_pow_right (by decide) hg)
    rw [this] at h; cases h
theorem ahead_fold (ms : List Nat) (a : Nat) : ∀ (l : List Edge) (m0 : Nat), bitOf (l.foldl (fun m e => cond (Region.binds .any e) (m ||| ((1 <<< e.on) ||| ms.getD e.on 0)) m) m0) a = true →
    bitOf m0 a = true ∨ ∃ e ∈ l, Region.binds .any e = true ∧ (a = e.on ∨ bitOf (ms.getD e.on 0) a = true) := by
  intro l
  induction l with
  | nil => intro m0 h; exact .inl h
  | cons e l ih =>
    intro m0 h
    simp only [List.foldl_cons] at h
    rcases ih _ h with h1 | ⟨e', h2, h3, h4⟩
    · cases hb : Region.binds .any e with
      | false => rw [hb] at h1; exact .inl h1
      | true =>
        rw [hb] at h1
        simp only [cond_true, bitOf_or, Bool.or_eq_true] at h1
        rcases h1 with h1 | h1 | h1
        · exact .inl h1
        · exact .inr ⟨e, List.mem_cons_self .., hb, .inl (bitOf_one _ _ h1)⟩
        · exact .inr ⟨e, List.mem_cons_self .., hb, .inr h1⟩
    · exact .inr ⟨e', List.mem_cons_of_mem _ h2, h3, h4⟩
theorem aheads_len : ∀ (l : List Oper) (ms : List Nat), (aheads ms l).length = ms.length + l.length := by
  intro l
  induction l with
  | nil => intro ms; simp [aheads]
  | cons o l ih => intro ms; simp only [aheads, ih, List.length_append, List.length_cons, List.length_nil]; omega
theorem aheads_pre : ∀ (l : List Oper) (ms : List Nat), ∃ r, aheads ms l = ms ++ r := by
  intro l
  induction l with
  | nil => intro ms; exact ⟨[], by simp [aheads]⟩
  | cons o l ih => intro ms; obtain ⟨r, hr⟩ := ih (ms ++ [aheadOf o ms]); exact ⟨aheadOf o ms :: r, by simp [aheads, hr]⟩
theorem aheads_get : ∀ (l : List Oper) (ms : List Nat) (j : Nat) (o : Oper), l[j]? = some o → ∃ pre, (aheads ms l)[ms.length + j]? = some (aheadOf o pre) ∧ pre.length = ms.length + j ∧ ∀ i, i < ms.length + j → pre.getD i 0 = (aheads ms l).getD i 0 := by
  intro l
  induction l with
  | nil => intro ms j o h; simp at h
  | cons p l ih =>
    intro ms j o h
    cases j with
    | zero =>
      simp only [List.getElem?_cons_zero, Option.some.injEq] at h; subst h
      obtain ⟨r, hr⟩ := aheads_pre l (ms ++ [aheadOf p ms])
      refine ⟨ms, ?_, by simp, fun i hi => ?_⟩
      · simp [aheads, hr]
      · simp only [aheads, hr, List.getD_eq_getElem?_getD, List.append_assoc]
        rw [List.getElem?_append_left (by omega)]
    | succ j =>
      simp only [List.getElem?_cons_succ] at h
      obtain ⟨pre, h1, h2, h3⟩ := ih (ms ++ [aheadOf p ms]) j o h
      simp only [List.length_append, List.length_cons, List.length_nil] at h1 h2 h3
      exact ⟨pre, by simp only [aheads]; rw [← h1]; congr 1; omega, by omega, fun i hi => by simp only [aheads]; exact h3 i (by omega)⟩
theorem mixRow_spec {all : List Oper} {m : Nat} {x : Oper} : ∀ (l : List Oper) (a : Nat), mixRow all m x a l = true → ∀ j o, l[j]? = some o → bitOf m (a + j) = true ∨ apartD all o x = true := by
  intro l
  induction l with
  | nil => intro a _ j o h; simp at h
  | cons p l ih =>
    intro a h j o ho
    simp only [mixRow, Bool.and_eq_true, Bool.or_eq_true] at h
    cases j with
    | zero => simp only [List.getElem?_cons_zero, Option.some.injEq] at ho; subst ho; exact h.1
    | succ j =>
      simp only [List.getElem?_cons_succ] at ho
      have := ih (a + 1) h.2 j o ho
      rwa [show a + 1 + j = a + (j + 1) by omega] at this
theorem mixAll_spec {all : List Oper} {ms : List Nat} : ∀ (l pre : List Oper) (i : Nat), pre.length = i → mixAll all ms pre i l = true → ∀ j x, l[j]? = some x →
    (∀ e ∈ x.after.toList, Region.binds .any e = true → e.on < i + j) ∧ ∀ a o, a < i + j → (pre ++ l)[a]? = some o → bitOf (ms.getD (i + j) 0) a = true ∨ apartD all o x = true := by
  intro l
  induction l with
  | nil => intro pre i _ _ j x h; simp at h
  | cons p l ih =>
    intro pre i hi h j x hx
    simp only [mixAll, Bool.and_eq_true] at h
    obtain ⟨⟨h1, h2⟩, h3⟩ := h
    cases j with
    | zero =>
      simp only [List.getElem?_cons_zero, Option.some.injEq] at hx; subst hx
      refine ⟨fun e he hb => ?_, fun a o ha ho => ?_⟩
      · have := List.all_eq_true.1 h1 e he
        rw [hb] at this
        simpa [Nat.blt_eq] using this
      · rw [List.getElem?_append_left (by omega)] at ho
        have := mixRow_spec pre 0 h2 a o ho
        rwa [Nat.zero_add] at this
    | succ j =>
      simp only [List.getElem?_cons_succ] at hx
      have := ih (pre ++ [p]) (i + 1) (by simp [hi]) h3 j x hx
      rw [show i + 1 + j = i + (j + 1) by omega] at this
      refine ⟨this.1, fun a o ha ho => this.2 a o ha ?_⟩
      simpa using ho
theorem opsD_nil (X : Cx) (base : Nat) (all : List Oper) (ms : List Nat) (i : Nat) (lg : List Mark) (tm : List AV) (s : St) : opsD X base all ms [] i lg tm s = some (tm, s) := rfl
theorem opsD_cons (X : Cx) (base : Nat) (all : List Oper) (ms : List Nat) (o : Oper) (l : List Oper) (i : Nat) (lg : List Mark) (tm : List AV) (s : St) : opsD X base all ms (o :: l) i lg tm s =
    (wantedA all (gt tm) o).bind fun w => cond w
      (cond (clear (ms.getD i 0) (markOf X i (base + i) (ev X (gt tm)) o.op s) lg)
        ((opD X (base + i) (ev X (gt tm)) o s).bind fun r => opsD X base all ms l (i + 1) (markOf X i (base + i) (ev X (gt tm)) o.op s :: lg) (put tm o.dst r.1) r.2) none)
      (opsD X base all ms l (i + 1) lg (put tm o.dst (.tup [])) s) := rfl
theorem markOf_i (X : Cx) (i id : Nat) (e : Operand → AV) (o : Op) (s : St) : (markOf X i id e o s).i = i := by
  unfold markOf
  cases wide X e o <;> rfl
theorem opsD_run {base : Nat} {all : List Oper} {ms : List Nat} {tm' : List AV} {s' : St} : ∀ (l : List Oper) (i : Nat) (lg : List Mark) (tm : List AV) (s : St), all.drop i = l → opsD X base all ms l i lg tm s = some (tm', s') →
    ∃ ml, runM X base all (List.range' i l.length) (tm, s) = some (ml, (tm', s')) ∧ (∀ p ∈ ml, i ≤ p.1 ∧ ∀ k, p.2 = some k → k.i = p.1 ∧ ∀ g ∈ lg, bitOf (ms.getD p.1 0) g.i = true ∨ g.apart k = true) ∧
      ml.Pairwise fun p k => p.1 < k.1 ∧ (bitOf (ms.getD k.1 0) p.1 = true ∨ ∀ u v, p.2 = some u → k.2 = some v → u.apart v = true) := by
  intro l
  induction l with
  | nil =>
    intro i lg tm s hl h
    rw [opsD_nil] at h
    simp only [Option.some.injEq, Prod.mk.injEq] at h; obtain ⟨rfl, rfl⟩ := h
    exact ⟨[], rfl, fun p hp => (by cases hp), List.Pairwise.nil⟩
  | cons o l ih =>
    intro i lg tm s hl h
    have hoi : all[i]? = some o := by
      have := congrArg (·[0]?) hl
      simpa using this
    have hl' : all.drop (i + 1) = l := by
      have : (all.drop i).drop 1 = l := by rw [hl]; rfl
      rwa [List.drop_drop] at this
    rw [opsD_cons] at h
    cases hw : wantedA all (gt tm) o with
    | none => rw [hw] at h; cases h
    | some w =>
      rw [hw] at h
      simp only [Option.bind_some] at h
      rw [List.length_cons, List.range'_succ]
      cases w with
      | false =>
        simp only [cond_false] at h
        obtain ⟨ml, h1, h2, h3⟩ := ih (i + 1) lg _ s hl' h
        refine ⟨(i, none) :: ml, runM_cons.2 ⟨none, _, ml, ?_, h1, rfl⟩, fun p hp => ?_, List.pairwise_cons.2 ⟨fun p hp => ⟨(h2 p hp).1, .inr fun u v hu => nomatch hu⟩, h3⟩⟩
        · simp only [stepM, hoi, hw, Option.bind_some, cond_false]
        · rcases List.mem_cons.1 hp with rfl | hp
          · exact ⟨Nat.le_refl _, fun k hk => nomatch hk⟩
          · exact ⟨by have := (h2 p hp).1; omega, (h2 p hp).2⟩
      | true =>
        simp only [cond_true] at h
        cases hc : clear (ms.getD i 0) (markOf X i (base + i) (ev X (gt tm)) o.op s) lg with
        | false => rw [hc] at h; cases h
        | true =>
          rw [hc] at h
          simp only [cond_true] at h
          cases ho : opD X (base + i) (ev X (gt tm)) o s with
          | none => rw [ho] at h; cases h
          | some r =>
            rw [ho] at h
            simp only [Option.bind_some] at h
            obtain ⟨ml, h1, h2, h3⟩ := ih (i + 1) _ _ r.2 hl' h
            refine ⟨(i, some (markOf X i (base + i) (ev X (gt tm)) o.op s)) :: ml, runM_cons.2 ⟨_, _, ml, ?_, h1, rfl⟩, fun p hp => ?_, List.pairwise_cons.2 ⟨fun p hp => ⟨(h2 p hp).1, ?_⟩, h3⟩⟩
            · simp only [stepM, hoi, hw, Option.bind_some, cond_true, ho, Option.map_some]
            · rcases List.mem_cons.1 hp with rfl | hp
              · refine ⟨Nat.le_refl _, fun k hk => ?_⟩
                simp only [Option.some.injEq] at hk; subst hk
                refine ⟨markOf_i .., fun g hg => ?_⟩
                have := List.all_eq_true.1 hc g hg
                simpa using this
              · exact ⟨by have := (h2 p hp).1; omega, fun k hk => ⟨((h2 p hp).2 k hk).1, fun g hg => ((h2 p hp).2 k hk).2 g (List.mem_cons_of_mem _ hg)⟩⟩
            · cases hk : p.2 with
              | none => exact .inr fun u v _ hv => nomatch hv
              | some k =>
                rcases ((h2 p hp).2 k hk).2 _ (List.mem_cons_self ..) with hb | hb
                · rw [markOf_i] at hb; exact .inl hb
                · refine .inr fun u v hu hv => ?_
                  simp only [Option.some.injEq] at hu hv
                  subst hu; subst hv; exact hb
end
end Go.Proofs.YtdehdahimkcakaaGreatDoor.Ai
/-! The orders of a region that draws; the soundness of the interpreter. -/
namespace Go.Proofs.YtdehdahimkcakaaGreatDoor.Ai
open Go

section
theorem count_set : ∀ (l : List Bool) (i : Nat), l[i]? = some false → (l.set i true).count false + 1 = l.count false := by
  intro l
  induction l with
  | nil => intro i h; simp at h
  | cons b l ih =>
    intro i h
    cases i with
    | zero =>
      simp only [List.getElem?_cons_zero, Option.some.injEq] at h; subst h
      simp
    | succ i =>
      simp only [List.getElem?_cons_succ] at h
      simp only [List.set_cons_succ, List.count_cons]
      have := ih i h
      omega
theorem ready_mem {ops : Array Oper} {listed : Array Bool} {i : Nat} : i ∈ Region.ready .any ops listed ↔ i < ops.size ∧ listed.getD i true = false ∧ ∃ o, ops[i]? = some o ∧ ∀ e ∈ o.after.toList, Region.binds .any e = true → listed.getD e.on false = true := by
  unfold Region.ready
  rw [List.mem_filter, List.mem_range]
  constructor
  · rintro ⟨h1, h2⟩
    simp only [Bool.and_eq_true, Bool.not_eq_true'] at h2
    refine ⟨h1, h2.1, ?_⟩
    have ho : ops[i]? = some ops[i] := Array.getElem?_eq_getElem h1
    refine ⟨_, ho, fun e he hb => ?_⟩
    have h3 := h2.2
    rw [ho] at h3
    simp only [Option.map_some, Option.getD_some, Array.all_eq_true_iff_forall_mem] at h3
    have := h3 e (by simpa using he)
    simpa [hb] using this
  · rintro ⟨h1, h2, o, h3, h4⟩
    refine ⟨h1, ?_⟩
    simp only [h2, h3, Bool.not_false, Bool.true_and, Option.map_some, Option.getD_some, Array.all_eq_true_iff_forall_mem]
    intro e he
    cases hb : Region.binds .any e with
    | false => rfl
    | true => simpa using h4 e (by simpa using he) hb
theorem go_spec {ops : Array Oper} (hb : ∀ (i : Nat) x, ops[i]? = some x → ∀ e ∈ x.after.toList, Region.binds .any e = true → e.on < i) :
    ∀ (fuel t : Nat) (listed : Array Bool), listed.size = ops.size → listed.toList.count false ≤ fuel → ∀ L, L = Region.linearise.go .any ops fuel t listed [] →
    (∀ i ∈ L, i < ops.size ∧ listed[i]? = some false) ∧ L.Nodup ∧ (∀ i, i < ops.size → listed[i]? = some false → i ∈ L) ∧
      ∀ pre x post o, L = pre ++ x :: post → ops[x]? = some o → ∀ e ∈ o.after.toList, Region.binds .any e = true → listed[e.on]? = some true ∨ e.on ∈ pre := by
  intro fuel
  induction fuel with
  | zero =>
    intro t listed hs hc L hL
    simp only [Region.linearise.go, List.reverse_nil] at hL
    subst hL
    refine ⟨fun i h => (by cases h), List.nodup_nil, fun i hi h => ?_, fun pre x post o h => by simp at h⟩
    have h0 : listed.toList.count false = 0 := by omega
    rw [List.count_eq_zero] at h0
    exact absurd (List.mem_of_getElem? (by simpa using h)) h0
  | succ fuel ih =>
    intro t listed hs hc L hL
    simp only [Region.linearise.go] at hL
    change L = (match (Region.ready .any ops listed)[t % (Region.ready .any ops listed).length]? with
      | some i => Region.linearise.go .any ops fuel (t / (Region.ready .any ops listed).length) (listed.setIfInBounds i true) [i]
      | none => [].reverse) at hL
    cases hi : (Region.ready .any ops listed)[t % (Region.ready .any ops listed).length]? with
    | none =>
      have hnil : Region.ready .any ops listed = [] := by
        cases hr : Region.ready .any ops listed with
        | nil => rfl
        | cons x xs =>
          rw [hr] at hi
          have hlt : t % (x :: xs).length < (x :: xs).length := Nat.mod_lt _ (by simp)
          rw [List.getElem?_eq_getElem hlt] at hi
          cases hi
      rw [hi] at hL
      simp only [List.reverse_nil] at hL
      subst hL
      refine ⟨fun i h => (by cases h), List.nodup_nil, fun i hi h => ?_, fun pre x post o h => by simp at h⟩
      exfalso
      have key : ∀ i, i < ops.size → listed[i]? ≠ some false := by
        intro i
        induction i using Nat.strongRecOn with
        | ind i ihi =>
          intro hi hf
          have : i ∈ Region.ready .any ops listed := by
            refine ready_mem.2 ⟨hi, ?_, ops[i], Array.getElem?_eq_getElem hi, fun e he hbe => ?_⟩
            · simp [Array.getD_eq_getD_getElem?, hf]
            · have hlt := hb i _ (Array.getElem?_eq_getElem hi) e he hbe
              have hne := ihi e.on hlt (by omega)
              have hlt2 : e.on < listed.size := by omega
              rw [Array.getElem?_eq_getElem hlt2] at hne
              rw [Array.getD_eq_getD_getElem?, Array.getElem?_eq_getElem hlt2]
              cases hq : listed[e.on] with
              | true => rfl
              | false => rw [hq] at hne; exact absurd rfl hne
          rw [hnil] at this
          cases this
      exact key i hi h
    | some i =>
      rw [hi] at hL
      simp only at hL
      rw [linearise_go_acc, List.reverse_singleton, List.singleton_append] at hL
      obtain ⟨r1, r2, o, r3, r4⟩ := ready_mem.1 (List.mem_of_getElem? hi)
      have hlt : i < listed.size := by omega
      have hfi : listed[i]? = some false := by
        rw [Array.getD_eq_getD_getElem?, Array.getElem?_eq_getElem hlt] at r2
        rw [Array.getElem?_eq_getElem hlt]
        simpa using r2
      have hset : ∀ j, (listed.setIfInBounds i true)[j]? = if i = j then some true else listed[j]? := fun j => by
        rw [Array.getElem?_setIfInBounds]
        split
        · rename_i h; subst h; simp [hlt]
        · rfl
      generalize hL' : Region.linearise.go .any ops fuel (t / (Region.ready .any ops listed).length) (listed.setIfInBounds i true) [] = L' at hL
      obtain ⟨k1, k2, k3, k4⟩ := ih _ (listed.setIfInBounds i true) (by simpa using hs) (by
        have : (listed.setIfInBounds i true).toList = listed.toList.set i true := by simp
        rw [this]
        have := count_set listed.toList i (by simpa using hfi)
        omega) L' hL'.symm
      subst hL
      refine ⟨fun j hj => ?_, ?_, fun j hj hf => ?_, fun pre x post o' hsp ho' e he hbe => ?_⟩
      · rcases List.mem_cons.1 hj with rfl | hj
        · exact ⟨r1, hfi⟩
        · have := k1 j hj
          rw [hset] at this
          split at this
          · exact absurd this.2 (by simp)
          · exact this
      · rw [List.nodup_cons]
        refine ⟨fun hin => ?_, k2⟩
        have := (k1 i hin).2
        rw [hset, if_pos rfl] at this
        simp at this
      · by_cases hij : i = j
        · subst hij; exact List.mem_cons_self ..
        · exact List.mem_cons_of_mem _ (k3 j hj (by rw [hset, if_neg hij]; exact hf))
      · cases pre with
        | nil =>
          simp only [List.nil_append, List.cons.injEq] at hsp
          obtain ⟨rfl, rfl⟩ := hsp
          left
          rw [r3] at ho'
          simp only [Option.some.injEq] at ho'; subst ho'
          have := r4 e he hbe
          rw [Array.getD_eq_getD_getElem?] at this
          cases hq : listed[e.on]? with
          | none => rw [hq] at this; cases this
          | some b => rw [hq] at this; simp only [Option.getD_some] at this; rw [this]
        | cons p pre =>
          simp only [List.cons_append, List.cons.injEq] at hsp
          obtain ⟨rfl, hsp⟩ := hsp
          rcases k4 pre x post o' hsp ho' e he hbe with h | h
          · rw [hset] at h
            split at h
            · rename_i hie; right; rw [← hie]; exact List.mem_cons_self ..
            · exact .inl h
          · exact .inr (List.mem_cons_of_mem _ h)
theorem pairwise_split {α : Type} {R : α → α → Prop} : ∀ (L : List α), (∀ pre x post, L = pre ++ x :: post → ∀ a ∈ post, R x a) → L.Pairwise R := by
  intro L
  induction L with
  | nil => intro _; exact List.Pairwise.nil
  | cons x L ih =>
    intro h
    refine List.pairwise_cons.2 ⟨fun a ha => h [] x L rfl a ha, ih fun pre y post hp a ha => h (x :: pre) y post (by rw [hp]; rfl) a ha⟩
theorem perm_range {L : List Nat} {n : Nat} (h1 : ∀ i ∈ L, i < n) (h2 : L.Nodup) (h3 : ∀ i, i < n → i ∈ L) : L.Perm (List.range n) := by
  rw [List.perm_iff_count]
  intro a
  by_cases ha : a < n
  · rw [h2.count, List.nodup_range.count, if_pos (h3 a ha), if_pos (List.mem_range.2 ha)]
  · rw [h2.count, List.nodup_range.count, if_neg (fun h => ha (h1 a h)), if_neg (fun h => ha (List.mem_range.1 h))]

variable {P : Program} {F : Fz} {ρ : Rho} {s : St} {W : World}
theorem operD_ok {X : Cx} (hT : TyOk P X.P) (hE : EqOk P X.P X.eqOk) (hC : CallOk P X) (hp : CallPure X) (hR : R X.P F ρ s W) (hG : GlobOk X.P X.glob F) {id : Nat} (hid : ρ id = none) (hlt : id < s.nx) {tm : List AV} {a : Act} (hTM : TM X.P F ρ tm a.tmps) (hdf : a.defers = [])
    {o : Oper} {r : AV} {s' : St} (h : opD X id (ev X (gt tm)) o s = some (r, s')) {next : Act → World → Prop} {Q : Exit → Act → World → Prop}
    (hn : ∀ a' W' ρ' F', TM X.P F' ρ' (put tm o.dst r) a'.tmps → R X.P F' ρ' s' W' → Step s ρ F W s' ρ' F' W' → (∀ i, i < s.nx → i ≠ id → ρ' i = ρ i) → s.nx ≤ s'.nx → a'.defers = [] → next a' W') : o.wp P a W next Q := by
  obtain ⟨ts, ds⟩ := a
  simp only at hTM hdf
  subst hdf
  have hfin : ∀ v W', Good X.P id s ρ F W r s' v W' → next ((⟨ts, []⟩ : Act).put o.dst v) W' := by
    intro v W' ⟨ρ', F', h1, h2, h3, h4, h5⟩
    exact hn _ _ ρ' F' ((hTM.mono h3.fz h3.rho).put h1 o.dst []) h2 h3 h4 h5 (put_defers _ _ _)
  unfold Oper.wp
  rcases opD_ok hT hE hC hp hR hG hid hlt (fun x => ev_ok hG hTM [] x) h with ⟨v, W', h1, h2⟩ | ⟨W', h1, h2⟩ | ⟨f, args, h1, h2⟩
  · rw [h1, Oper.upon_value]; exact hfin _ _ h2
  · rw [h1, Oper.upon_skip]; exact hfin _ _ h2
  · rw [h1, Oper.upon_enter]
    refine h2.mono ?_
    intro e W' he
    cases e with
    | returned v => exact hfin _ _ he
    | panicked c => exact he.elim
    | outgrown => exact he.elim
theorem runM_ok {X : Cx} (hT : TyOk P X.P) (hE : EqOk P X.P X.eqOk) (hC : CallOk P X) (hp : CallPure X) {ops : Array Oper} {base : Nat} {Q : Exit → Act → World → Prop} {tm' : List AV} {s' : St} : ∀ (L : List Nat) (ml : List (Nat × Option Mark)) (tm : List AV) (s : St) (ρ : Rho) (F : Fz) (W : World) (a : Act),
    L.Nodup → (∀ i ∈ L, i < ops.size) → R X.P F ρ s W → GlobOk X.P X.glob F → TM X.P F ρ tm a.tmps → a.defers = [] → (∀ j ∈ L, ρ (base + j) = none) → base + ops.size ≤ s.nx → runM X base ops.toList L (tm, s) = some (ml, (tm', s')) →
    (∀ a' W' ρ' F', TM X.P F' ρ' tm' a'.tmps → R X.P F' ρ' s' W' → Step s ρ F W s' ρ' F' W' → (∀ k, k < base → ρ' k = ρ k) → s.nx ≤ s'.nx → a'.defers = [] → Q .normal a' W') →
    wpOps P ops Q L a W := by
  intro L
  induction L with
  | nil =>
    intro ml tm s ρ F W a _ _ hR hG hTM hdf _ _ h hq
    simp only [runM, Option.some.injEq, Prod.mk.injEq] at h; obtain ⟨rfl, rfl, rfl⟩ := h
    exact hq a W ρ F hTM hR (Step.refl _ _ _ _) (fun _ _ => rfl) (Nat.le_refl _) hdf
  | cons i L ih =>
    intro ml tm s ρ F W a hnd hlt hR hG hTM hdf hfree hnx h hq
    rw [List.nodup_cons] at hnd
    have hi : i < ops.size := hlt i (List.mem_cons_self ..)
    have hoi : ops[i]? = some ops[i] := Array.getElem?_eq_getElem hi
    obtain ⟨m, q1, ml1, h1, h2, rfl⟩ := runM_cons.1 h
    generalize ops[i] = o at hoi
    simp only [wpOps, hoi]
    simp only [stepM, Array.getElem?_toList, hoi] at h1
    cases hw : wantedA ops.toList (gt tm) o with
    | none => rw [hw] at h1; cases h1
    | some w =>
      rw [hw] at h1
      simp only [Option.bind_some] at h1
      rw [wanted_ok hTM hw]
      cases w with
      | true =>
        simp only [cond_true, if_true] at h1 ⊢
        cases ho : opD X (base + i) (ev X (gt tm)) o s with
        | none => rw [ho] at h1; cases h1
        | some r =>
          obtain ⟨r, s1⟩ := r
          rw [ho] at h1
          simp only [Option.map_some, Option.some.injEq, Prod.mk.injEq] at h1; obtain ⟨rfl, rfl⟩ := h1
          left
          refine operD_ok hT hE hC hp hR hG (hfree i (List.mem_cons_self ..)) (by omega) hTM hdf ho ?_
          intro a1 W1 ρ1 F1 k1 k2 k3 k4 k5 k6
          refine ih ml1 _ s1 ρ1 F1 W1 a1 hnd.2 (fun j hj => hlt j (List.mem_cons_of_mem _ hj)) k2 (hG.mono k3.fz) k1 k6 (fun j hj => ?_) (by omega) h2 ?_
          · have hji : j ≠ i := fun e => hnd.1 (e ▸ hj)
            have := hlt j (List.mem_cons_of_mem _ hj)
            rw [k4 _ (by omega) (by omega)]; exact hfree j (List.mem_cons_of_mem _ hj)
          · intro a2 W2 ρ2 F2 m1 m2 m3 m4 m5 m6
            exact hq a2 W2 ρ2 F2 m1 m2 (k3.trans m3) (fun k hk => (m4 k hk).trans (k4 k (by omega) (by omega))) (by omega) m6
      | false =>
        simp only [cond_false, Bool.false_eq_true, if_false] at h1 ⊢
        simp only [Option.some.injEq, Prod.mk.injEq] at h1; obtain ⟨rfl, rfl⟩ := h1
        obtain ⟨ts, ds⟩ := a
        refine ih ml1 _ s ρ F W _ hnd.2 (fun j hj => hlt j (List.mem_cons_of_mem _ hj)) hR hG (hTM.put (.tup [] #[] rfl (fun i h => by simp at h)) o.dst ds) (by rw [put_defers]; exact hdf) (fun j hj => hfree j (List.mem_cons_of_mem _ hj)) hnx h2 hq
theorem drawOk {X : Cx} (hT : TyOk P X.P) (hE : EqOk P X.P X.eqOk) (hC : CallOk P X) (hp : CallPure X) : DrawOk P X := by
  intro ops tm s ρ F W a base tm' s' hR hG hTM hdf hfree hnx h Q hQ t
  unfold drawn at h
  cases hm : mixOk (aheads [] ops.toList) ops.toList with
  | false => rw [hm] at h; cases h
  | true =>
  rw [hm] at h
  simp only [cond_true] at h
  obtain ⟨ml, g1, g2, g3⟩ := opsD_run (X := X) ops.toList 0 [] tm s (by simp) h
  have hmix := mixAll_spec ops.toList [] 0 rfl hm
  simp only [Nat.zero_add, List.nil_append] at hmix
  have hb : ∀ (i : Nat) x, ops[i]? = some x → ∀ e ∈ x.after.toList, Region.binds .any e = true → e.on < i := fun i x hx => (hmix i x (by simpa using hx)).1
  obtain ⟨L1, L2, L3, L4⟩ := go_spec hb ops.size t (Array.replicate ops.size false) (by simp) (by simp) _ rfl
  have hlist : ∀ i, i < ops.size → (Array.replicate ops.size false)[i]? = some false := fun i hi => by simp [hi]
  change wpOps P ops Q (Region.linearise.go .any ops ops.size t (Array.replicate ops.size false) []) a W
  generalize hLe : Region.linearise.go .any ops ops.size t (Array.replicate ops.size false) [] = L at L1 L2 L3 L4
  have hperm : L.Perm (List.range' 0 ops.toList.length) := by
    rw [← List.range_eq_range', Array.length_toList]
    exact perm_range (fun i hi => (L1 i hi).1) L2 (fun i hi => L3 i hi (hlist i hi))
  have hahead : ∀ x pre post, L = pre ++ x :: post → ∀ b, bitOf ((aheads [] ops.toList).getD x 0) b = true → b ∈ pre := by
    intro x
    induction x using Nat.strongRecOn with
    | ind x ihx =>
      intro pre post hsp b hbit
      have hx : x < ops.size := (L1 x (by rw [hsp]; simp)).1
      have hox : ops[x]? = some ops[x] := Array.getElem?_eq_getElem hx
      obtain ⟨pre0, p1, p2, p3⟩ := aheads_get ops.toList [] x ops[x] (by simp [hox])
      simp only [List.length_nil, Nat.zero_add] at p1 p2 p3
      rw [List.getD_eq_getElem?_getD, p1, Option.getD_some] at hbit
      rcases ahead_fold pre0 b _ _ hbit with h0 | ⟨e, he, hbe, h1⟩
      · simp [bitOf] at h0
      · have hin : e.on ∈ pre := by
          rcases L4 pre x post _ hsp hox e he hbe with h2 | h2
          · rw [Array.getElem?_replicate] at h2
            split at h2 <;> simp at h2
          · exact h2
        rcases h1 with h1 | h1
        · subst h1; exact hin
        · have hlt := hb x _ hox e he hbe
          rw [p3 e.on hlt] at h1
          obtain ⟨p1', p2', hpre⟩ := List.append_of_mem hin
          have := ihx e.on hlt p1' (p2' ++ x :: post) (by rw [hsp, hpre]; simp) b h1
          rw [hpre]; exact List.mem_append_left _ this
  have hpw : L.Pairwise (fun x b => bitOf ((aheads [] ops.toList).getD x 0) b = false) := by
    refine pairwise_split L fun pre x post hsp b hbm => ?_
    cases hbit : bitOf ((aheads [] ops.toList).getD x 0) b with
    | false => rfl
    | true =>
      have hin := hahead x pre post hsp b hbit
      rw [hsp, List.nodup_append] at L2
      exact absurd rfl (L2.2.2 b hin b (List.mem_cons_of_mem _ hbm))
  have hfst : ∀ p ∈ ml, p.1 < ops.size := by
    have hmap : ∀ (l : List Nat) (q : List AV × St) (ml : List (Nat × Option Mark)) (r : List AV × St), runM X base ops.toList l q = some (ml, r) → ml.map (·.1) = l := by
      intro l
      induction l with
      | nil => intro q ml r h; simp only [runM, Option.some.injEq, Prod.mk.injEq] at h; obtain ⟨rfl, _⟩ := h; rfl
      | cons i l ih => intro q ml r h; obtain ⟨m, q1, ml1, _, h2, rfl⟩ := runM_cons.1 h; simp [ih _ _ _ h2]
    intro p hpm
    have : p.1 ∈ List.range' 0 ops.toList.length := by rw [← hmap _ _ _ _ g1]; exact List.mem_map.2 ⟨p, hpm, rfl⟩
    rw [← List.range_eq_range', Array.length_toList, List.mem_range] at this
    exact this
  have happ : ml.Pairwise (Apt ops.toList (aheads [] ops.toList)) := by
    have : ml.Pairwise fun p k => p ∈ ml ∧ k ∈ ml ∧ (p.1 < k.1 ∧ (bitOf ((aheads [] ops.toList).getD k.1 0) p.1 = true ∨ ∀ u v, p.2 = some u → k.2 = some v → u.apart v = true)) :=
      List.Pairwise.imp_of_mem (fun {p k} hp hk h => ⟨hp, hk, h⟩) g3
    refine this.imp ?_
    rintro p k ⟨hpm, hkm, hlt, hor⟩
    have hpo : ops.toList[p.1]? = some (ops[p.1]'(hfst p hpm)) := by simp [Array.getElem?_eq_getElem (hfst p hpm)]
    have hko : ops.toList[k.1]? = some (ops[k.1]'(hfst k hkm)) := by simp [Array.getElem?_eq_getElem (hfst k hkm)]
    rcases hor with hor | hor
    · exact .inl hor
    · rcases (hmix k.1 _ hko).2 p.1 _ hlt hpo with hb' | hb'
      · exact .inl hb'
      · exact .inr ⟨⟨_, _, hpo, hko, hb'⟩, hor⟩
  obtain ⟨ml', hrun⟩ := perm_run hp L _ (tm, s) ml (tm', s') hperm g1 happ hpw
  exact runM_ok hT hE hC hp L ml' tm s ρ F W a L2 (fun i hi => (L1 i hi).1) hR hG hTM hdf (fun j hj => hfree j (L1 j hj).1) hnx hrun hQ
/-- What the interpreter answers, the program answers. -/
theorem callN_sound {E : Env} (hE : EnvOk P E) (n : Nat) : FunOk P E (callN E n) :=
  callN_ok hE (fun cl f hC => drawOk (X := cx E cl f) hE.ty hE.eq hC (mcall_pure E cl f)) n
end
end Go.Proofs.YtdehdahimkcakaaGreatDoor.Ai
