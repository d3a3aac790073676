/- Operations of a region that draws: what they leave alone. -/
import Derived.Test.YtdehdahimkcakaaGreatDoorSim19
set_option linter.unusedVariables false
set_option linter.unusedSimpArgs false
namespace Go.Proofs.YtdehdahimkcakaaGreatDoor.Ai
open Go

section
variable {P : Program} {T : Ty} {F : Fz} {ρ ρ' : Rho} {s : St} {W : World}

/-- Pure calls leave the blocks alone and don't look at the next number. -/
def CallPure (X : Cx) : Prop := ∀ f args s r s', X.call true f args s = some (r, s') → s' = s ∧ ∀ n, X.call true f args ⟨s.h, n⟩ = some (r, ⟨s.h, n⟩)
theorem pur_h (T : Ty) (s : St) (n : Nat) : ∀ k v, pur T ⟨s.h, n⟩ k v = pur T s k v := by
  intro k
  induction k with
  | zero => intro v; unfold pur; rfl
  | succ k ih =>
    intro v
    have e : pur T ⟨s.h, n⟩ k = pur T s k := funext ih
    unfold pur
    simp only [e]
theorem mcall_pure (E : Env) (cl : FuncId → List AV → St → Option (AV × St)) (f : FuncId) : CallPure (cx E cl f) := by
  intro g args s r s' h
  have h : mcall E cl f true g args s = some (r, s') := h
  have goal : ∀ s', mcall E cl f true g args s = some (r, s') → s' = s ∧ ∀ n, mcall E cl f true g args ⟨s.h, n⟩ = some (r, ⟨s.h, n⟩) := by
    intro s' h
    have e : ∀ n, pur E.P ⟨s.h, n⟩ 12 = pur E.P s 12 := fun n => funext (pur_h E.P s n 12)
    unfold mcall at h ⊢
    split at h
    · rename_i hp
      simp only [if_pos hp, e]
      cases hl : purL (pur E.P s 12) args with
      | none => rw [hl] at h; cases h
      | some as =>
        rw [hl] at h
        simp only [Option.bind_some] at h ⊢
        cases hc : cl g as.1 St.empty with
        | none => rw [hc] at h; cases h
        | some q =>
          rw [hc] at h
          simp only [Option.bind_some] at h ⊢
          cases hv : pur E.P q.2 12 q.1 with
          | none => rw [hv] at h; cases h
          | some v =>
            rw [hv] at h
            simp only [Option.bind_some] at h ⊢
            split at h
            · rename_i hcond
              simp only [Option.some.injEq, Prod.mk.injEq] at h; obtain ⟨rfl, rfl⟩ := h
              exact ⟨rfl, fun n => by rw [if_pos hcond]⟩
            · simp at h
    · simp at h
  exact goal s' h
theorem map_st {s t : St} {r : AV} {q : Option AV} (h : q.map (·, s) = some (r, t)) : t = s ∧ q = some r := by
  cases q with
  | none => cases h
  | some x => simp only [Option.map_some, Option.some.injEq, Prod.mk.injEq] at h; exact ⟨h.2.symm, by rw [h.1]⟩
theorem builtin_reads {X : Cx} {b : Builtin} {ats : Array TypeId} {args : List AV} {id : Nat} {r : AV} {t : St} (h : builtinA X b ats args id s = some (r, t)) (hw : b ≠ .append ∧ b ≠ .copy ∧ b ≠ .unsafeString) :
    t = s ∧ ∀ n, builtinA X b ats args id ⟨s.h, n⟩ = some (r, ⟨s.h, n⟩) := by
  unfold builtinA at h
  split at h
  · rename_i x
    cases hd : (ats[0]?).bind (und X.P) with
    | none => rw [hd] at h; cases h
    | some d =>
      rw [hd] at h
      simp only [Option.bind_some] at h
      split at h
      · rename_i hl
        cases hn : lenA x s with
        | none => rw [hn] at h; cases h
        | some k =>
          rw [hn] at h
          simp only [Option.map_some, Option.some.injEq, Prod.mk.injEq] at h; obtain ⟨rfl, rfl⟩ := h
          refine ⟨rfl, fun n => ?_⟩
          simp only [builtinA, hd, Option.bind_some, if_pos hl]
          rw [show lenA x ⟨s.h, n⟩ = lenA x s from rfl, hn]; rfl
      · cases h
  · rename_i x
    cases hd : (ats[0]?).bind (und X.P) with
    | none => rw [hd] at h; cases h
    | some d =>
      rw [hd] at h
      simp only [Option.bind_some] at h
      split at h
      · cases hn : capA x with
        | none => rw [hn] at h; cases h
        | some k =>
          rw [hn] at h
          simp only [Option.map_some, Option.some.injEq, Prod.mk.injEq] at h; obtain ⟨rfl, rfl⟩ := h
          refine ⟨rfl, fun n => ?_⟩
          simp only [builtinA, hd, Option.bind_some, hn]; rfl
      · cases h
  · obtain ⟨h1, h2⟩ := map_st h
    exact ⟨h1, fun n => by simp only [builtinA, h2]; rfl⟩
  · obtain ⟨h1, h2⟩ := map_st h
    exact ⟨h1, fun n => by simp only [builtinA, h2]; rfl⟩
  · exact absurd rfl hw.1
  · exact absurd rfl hw.2.1
  · split at h
    · simp only [Option.some.injEq, Prod.mk.injEq] at h; obtain ⟨rfl, rfl⟩ := h
      exact ⟨rfl, fun n => rfl⟩
    · rename_i i off _ cap _
      cases hb : s.h i with
      | none => rw [hb] at h; cases h
      | some bk =>
        rw [hb] at h
        cases bk with
        | cells c e' ex wr =>
          simp only at h
          split at h
          · rename_i hc
            simp only [Option.some.injEq, Prod.mk.injEq] at h; obtain ⟨rfl, rfl⟩ := h
            refine ⟨rfl, fun n => ?_⟩
            simp only [builtinA, hb]
            rw [if_pos hc]
          · cases h
        | _ => cases h
    · cases h
  · exact absurd rfl hw.2.2
  · cases h
/-- What changes no block leaves the state as it is, whatever the next number. -/
theorem opA_reads {X : Cx} (hp : CallPure X) {id : Nat} {e : Operand → AV} {o : Oper} {r : AV} {t : St} (h : opA X true id e o s = some (r, t)) (hw : writes o.op = false) :
    t = s ∧ ∀ n, opA X true id e o ⟨s.h, n⟩ = some (r, ⟨s.h, n⟩) := by
  unfold opA at h ⊢
  cases ho : o.op with
  | move x => simp only [ho, Option.some.injEq, Prod.mk.injEq] at h ⊢; exact ⟨h.2.symm, fun n => ⟨h.1, trivial⟩⟩
  | assign x => simp only [ho, Option.some.injEq, Prod.mk.injEq] at h ⊢; exact ⟨h.2.symm, fun n => ⟨h.1, trivial⟩⟩
  | pick c a b =>
    simp only [ho] at h ⊢
    cases hb : asB (e c) with
    | none => rw [hb] at h; cases h
    | some q => rw [hb] at h; simp only [Option.bind_some, Option.some.injEq, Prod.mk.injEq] at h ⊢; exact ⟨h.2.symm, fun n => ⟨h.1, trivial⟩⟩
  | alloc => rw [ho] at hw; cases hw
  | box => rw [ho] at hw; cases hw
  | store => rw [ho] at hw; cases hw
  | mapUpdate => rw [ho] at hw; cases hw
  | makeSlice => rw [ho] at hw; cases hw
  | makeMap => rw [ho] at hw; cases hw
  | build => simp only [ho] at h ⊢; obtain ⟨h1, h2⟩ := map_st h; exact ⟨h1, fun n => by rw [h2]; rfl⟩
  | buildSlice => simp only [ho] at h ⊢; obtain ⟨h1, h2⟩ := map_st h; exact ⟨h1, fun n => by rw [h2]; rfl⟩
  | binOp => simp only [ho] at h ⊢; obtain ⟨h1, h2⟩ := map_st h; exact ⟨h1, fun n => by rw [h2]; rfl⟩
  | unOp => simp only [ho] at h ⊢; obtain ⟨h1, h2⟩ := map_st h; exact ⟨h1, fun n => by rw [h2]; rfl⟩
  | fieldAddr => simp only [ho] at h ⊢; obtain ⟨h1, h2⟩ := map_st h; exact ⟨h1, fun n => by rw [h2]; rfl⟩
  | field => simp only [ho] at h ⊢; obtain ⟨h1, h2⟩ := map_st h; exact ⟨h1, fun n => by rw [h2]; rfl⟩
  | indexAddr => simp only [ho] at h ⊢; obtain ⟨h1, h2⟩ := map_st h; exact ⟨h1, fun n => by rw [h2]; rfl⟩
  | index => simp only [ho] at h ⊢; obtain ⟨h1, h2⟩ := map_st h; exact ⟨h1, fun n => by rw [h2]; rfl⟩
  | convert src dst x =>
    simp only [ho] at h ⊢; obtain ⟨h1, h2⟩ := map_st h
    exact ⟨h1, fun n => by rw [show convA X.P src dst (e x) ⟨s.h, n⟩ = convA X.P src dst (e x) s from rfl, h2]; rfl⟩
  | slice ty x lo hi mx =>
    simp only [ho] at h ⊢; obtain ⟨h1, h2⟩ := map_st h
    exact ⟨h1, fun n => by rw [show sliceA X.P ty (e x) (lo.map e) (hi.map e) (mx.map e) ⟨s.h, n⟩ = sliceA X.P ty (e x) (lo.map e) (hi.map e) (mx.map e) s from rfl, h2]; rfl⟩
  | lookup ty m k ok =>
    simp only [ho] at h ⊢; obtain ⟨h1, h2⟩ := map_st h
    exact ⟨h1, fun n => by rw [show lookupA X.P ty (e m) (e k) ok ⟨s.h, n⟩ = lookupA X.P ty (e m) (e k) ok s from rfl, h2]; rfl⟩
  | load ty a =>
    simp only [ho] at h ⊢
    cases hl : lay X.P ty with
    | none => rw [hl] at h; cases h
    | some l =>
      rw [hl] at h
      simp only [Option.bind_some] at h ⊢
      obtain ⟨h1, h2⟩ := map_st h
      exact ⟨h1, fun n => by rw [show load l.1 l.2 (e a) ⟨s.h, n⟩ = load l.1 l.2 (e a) s from rfl, h2]; rfl⟩
  | nilCheck x =>
    simp only [ho] at h ⊢
    split at h <;> first | (cases h; done) | (simp only [Option.some.injEq, Prod.mk.injEq] at h ⊢; exact ⟨h.2.symm, fun n => ⟨h.1, trivial⟩⟩)
  | makeInterface ty x =>
    simp only [ho] at h ⊢
    split at h
    · cases h
    · cases h
    · simp only [Option.some.injEq, Prod.mk.injEq] at h; exact ⟨h.2.symm, fun n => by simp only [h.1]⟩
  | makeFunc fn a b =>
    cases fn <;> simp only [ho] at h ⊢ <;> first | (cases h; done) | (simp only [Option.some.injEq, Prod.mk.injEq] at h ⊢; exact ⟨h.2.symm, fun n => ⟨h.1, trivial⟩⟩)
  | extract x i =>
    simp only [ho] at h ⊢
    split at h
    · rename_i vs _
      obtain ⟨h1, h2⟩ := map_st h
      exact ⟨h1, fun n => by simp only [h2]; rfl⟩
    · cases h
  | call c =>
    simp only [ho] at h ⊢
    cases hc : c.callee with
    | value f =>
      simp only [hc] at h ⊢
      split at h
      · exact hp _ _ _ _ _ h
      · cases h
    | invoke a b => simp only [hc] at h; cases h
    | builtin b =>
      simp only [hc] at h ⊢
      rw [ho] at hw
      exact builtin_reads h (by
        refine ⟨?_, ?_, ?_⟩ <;> (intro hb; subst hb; simp [writes, hc] at hw))
  | _ => simp only [ho] at h; cases h
theorem builtin_nx {X : Cx} {b : Builtin} {ats : Array TypeId} {args : List AV} {id : Nat} {r : AV} {t : St} (h : builtinA X b ats args id s = some (r, t)) : t.nx = s.nx := by
  by_cases hb : b ≠ .append ∧ b ≠ .copy ∧ b ≠ .unsafeString
  · rw [(builtin_reads h hb).1]
  · have grown_nx : ∀ e z b c (s1 : St), grown e z b c id s1 = some (r, t) → t.nx = s1.nx := fun e z b c s1 h => by
      unfold grown at h
      split at h
      · simp only [newSl, Option.some.injEq, Prod.mk.injEq] at h; obtain ⟨_, rfl⟩ := h; rfl
      · cases h
    have append_nx : ∀ e z b x c, appendA e z b x c id s = some (r, t) → t.nx = s.nx := fun e z b x c h => by
      unfold appendA at h
      split at h
      · split at h <;> first | (cases h; done) | (simp only [Option.some.injEq, Prod.mk.injEq] at h; obtain ⟨_, rfl⟩ := h; rfl)
      · split at h
        · cases h
        · split at h
          · exact grown_nx _ _ _ _ _ h
          · split at h
            · exact grown_nx _ _ _ _ _ h
            · cases h
          · split at h
            · split at h
              · split at h
                · split at h
                  · split at h
                    · simp only [Option.some.injEq, Prod.mk.injEq] at h; obtain ⟨_, rfl⟩ := h; rfl
                    · cases h
                  · exact grown_nx _ _ _ _ _ h
                · split at h
                  · simp only [Option.some.injEq, Prod.mk.injEq] at h; obtain ⟨_, rfl⟩ := h; rfl
                  · split at h
                    · exact grown_nx _ _ _ _ (s.set _ none) h
                    · cases h
              · cases h
            · cases h
          · cases h
    unfold builtinA at h
    split at h
    · exact absurd ⟨by simp, by simp, by simp⟩ hb
    · exact absurd ⟨by simp, by simp, by simp⟩ hb
    · exact absurd ⟨by simp, by simp, by simp⟩ hb
    · exact absurd ⟨by simp, by simp, by simp⟩ hb
    · split at h
      · split at h
        · split at h
          · exact append_nx _ _ _ _ _ h
          · cases h
        · cases h
      · split at h
        · split at h
          · cases hc : srcCells _ _ s with
            | none => rw [hc] at h; cases h
            | some c => rw [hc] at h; exact append_nx _ _ _ _ _ h
          · cases h
        · cases h
      · split at h
        · split at h
          · cases hc : srcCells _ _ s with
            | none => rw [hc] at h; cases h
            | some c => rw [hc] at h; exact append_nx _ _ _ _ _ h
          · cases h
        · cases h
      · cases h
    · split at h
      · split at h
        · split at h
          · cases h
          · cases hc : srcCells _ _ s with
            | none => rw [hc] at h; cases h
            | some c =>
              rw [hc] at h
              simp only [Option.bind_some] at h
              unfold copyA at h
              split at h
              · simp only [Option.some.injEq, Prod.mk.injEq] at h; obtain ⟨_, rfl⟩ := h; rfl
              · simp only [Option.some.injEq, Prod.mk.injEq] at h; obtain ⟨_, rfl⟩ := h; rfl
              · simp only [Option.some.injEq, Prod.mk.injEq] at h; obtain ⟨_, rfl⟩ := h; rfl
              · simp only at h
                split at h
                · split at h
                  · simp only [Option.some.injEq, Prod.mk.injEq] at h; obtain ⟨_, rfl⟩ := h; rfl
                  · cases h
                · cases h
              · cases h
        · cases h
      · cases h
    · exact absurd ⟨by simp, by simp, by simp⟩ hb
    · split at h
      · split at h
        · split at h
          · split at h
            · split at h
              · cases hc : asU8s _ with
                | none => rw [hc] at h; cases h
                | some c =>
                  rw [hc] at h
                  simp only [Option.bind_some] at h
                  split at h
                  · simp only [Option.some.injEq, Prod.mk.injEq] at h; obtain ⟨_, rfl⟩ := h; rfl
                  · cases h
              · cases h
            · cases h
          · cases h
        · simp only [Option.some.injEq, Prod.mk.injEq] at h; obtain ⟨_, rfl⟩ := h; rfl
        · simp only [Option.some.injEq, Prod.mk.injEq] at h; obtain ⟨_, rfl⟩ := h; rfl
        · cases h
      · cases h
    · cases h
/-- An operation of a region that draws takes no new numbers. -/
theorem opA_nx {X : Cx} (hp : CallPure X) {id : Nat} {e : Operand → AV} {o : Oper} {r : AV} {t : St} (h : opA X true id e o s = some (r, t)) : t.nx = s.nx := by
  cases hw : writes o.op with
  | false => rw [(opA_reads hp h hw).1]
  | true =>
    unfold opA at h
    cases ho : o.op <;> rw [ho] at hw <;> first | (cases hw; done) | skip
    case alloc ty =>
      simp only [ho] at h
      cases hz : zero X.P ty with
      | none => rw [hz] at h; cases h
      | some z => rw [hz] at h; simp only [Option.map_some, Option.some.injEq, Prod.mk.injEq] at h; obtain ⟨_, rfl⟩ := h; rfl
    case box ty x =>
      simp only [ho] at h
      split at h
      · simp only [Option.some.injEq, Prod.mk.injEq] at h; obtain ⟨_, rfl⟩ := h; rfl
      · cases h
    case store ty a x =>
      simp only [ho] at h
      cases hl : lay X.P ty with
      | none => rw [hl] at h; cases h
      | some l =>
        rw [hl] at h
        simp only [Option.bind_some] at h
        cases hs : Ai.store l.1 (e a) (e x) s with
        | none => rw [hs] at h; cases h
        | some s1 =>
          rw [hs] at h
          simp only [Option.map_some, Option.some.injEq, Prod.mk.injEq] at h; obtain ⟨_, rfl⟩ := h
          unfold Ai.store at hs
          split at hs
          · split at hs
            · split at hs
              · simp only [Option.some.injEq] at hs; subst hs; rfl
              · cases hs
            · cases hs
          · cases hs
    case makeMap ty q =>
      cases q with
      | none => simp only [ho, Option.some.injEq, Prod.mk.injEq] at h; obtain ⟨_, rfl⟩ := h; rfl
      | some q => simp only [ho] at h; cases h
    case makeSlice ty n c =>
      simp only [ho] at h
      split at h
      · split at h
        · split at h
          · simp only [Option.some.injEq, Prod.mk.injEq] at h; obtain ⟨_, rfl⟩ := h; rfl
          · cases h
        · cases h
      · cases h
    case mapUpdate ty m k x =>
      simp only [ho] at h
      cases hs : mapUpd X.P ty (e m) (e k) (e x) s with
      | none => rw [hs] at h; cases h
      | some s1 =>
        rw [hs] at h
        simp only [Option.map_some, Option.some.injEq, Prod.mk.injEq] at h; obtain ⟨_, rfl⟩ := h
        unfold mapUpd at hs
        split at hs
        · rename_i kt _ _
          cases hk : und X.P kt with
          | none => rw [hk] at hs; cases hs
          | some kd =>
            rw [hk] at hs
            simp only [Option.bind_some] at hs
            split at hs
            · split at hs
              · split at hs
                · cases hf : find (e k) _ with
                  | none => rw [hf] at hs; cases hs
                  | some q => rw [hf] at hs; simp only [Option.map_some, Option.some.injEq] at hs; subst hs; rfl
                · cases hs
              · cases hs
            · cases hs
        · cases hs
    case call c =>
      simp only [ho] at h
      cases hc : c.callee with
      | value f => simp [writes, hc] at hw
      | invoke a b => simp [writes, hc] at hw
      | builtin b => simp only [hc] at h; exact builtin_nx h
/-- An operation looks at its operands alone. -/
theorem opA_congr {X : Cx} {dr : Bool} {id : Nat} {e e' : Operand → AV} {o : Oper} (h : ∀ x ∈ opnds o.op, e x = e' x) (s : St) : opA X dr id e o s = opA X dr id e' o s := by
  have parts : ∀ ps : Array (Nat × Operand), (∀ x ∈ ps.toList.map (·.2), e x = e' x) → (ps.toList.map fun p => (p.1, e p.2)) = (ps.toList.map fun p => (p.1, e' p.2)) := fun ps hp =>
    List.map_congr_left fun p hm => by rw [hp p.2 (List.mem_map.2 ⟨p, hm, rfl⟩)]
  unfold opA
  cases ho : o.op <;> rw [ho] at h <;> simp only [opnds] at h
  case build ty ps => simp only [parts ps h]
  case buildSlice ty n ps => simp only [parts ps h]
  case makeFunc fn a b =>
    cases fn <;> simp only
    rw [List.map_congr_left (fun x hx => h x (List.mem_append_left _ hx)), List.map_congr_left (l := b.toList) (fun x hx => h x (List.mem_append_right _ hx))]
  case slice ty x lo hi mx =>
    have h1 : e x = e' x := h x (List.mem_cons_self ..)
    have hl : lo.map e = lo.map e' := by cases lo with | none => rfl | some y => simp only [Option.map_some, h y (by simp)]
    have hh : hi.map e = hi.map e' := by cases hi with | none => rfl | some y => simp only [Option.map_some, h y (by simp)]
    have hm : mx.map e = mx.map e' := by cases mx with | none => rfl | some y => simp only [Option.map_some, h y (by simp)]
    simp only [h1, hl, hh, hm]
  case call c =>
    have ha : c.args.toList.map e = c.args.toList.map e' := List.map_congr_left fun x hx => h x (List.mem_append_right _ hx)
    cases hc : c.callee with
    | value f =>
      have hf : e f = e' f := h f (by simp [hc])
      simp only [ha, hc, hf]
    | invoke a b => simp only [hc]
    | builtin b => simp only [ha, hc]
  case makeMap ty q => cases q <;> rfl
  all_goals (first | rfl | (simp_all; done))
end
end Go.Proofs.YtdehdahimkcakaaGreatDoor.Ai
