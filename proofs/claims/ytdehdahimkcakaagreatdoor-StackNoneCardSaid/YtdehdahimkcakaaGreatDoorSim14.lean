/- Every operation. -/
import Derived.Test.YtdehdahimkcakaaGreatDoorSim13
set_option linter.unusedVariables false
set_option linter.unusedSimpArgs false
namespace Go.Proofs.YtdehdahimkcakaaGreatDoor.Ai
open Go

section
variable {P : Program} {T : Ty} {F : Fz} {ρ : Rho} {s : St} {W : World}

theorem DoesN.congr {id : Nat} {r : AV} {s' : St} {m m' : Sem Next} (h : DoesN P T id s ρ F W r s' m) (e : m'.run P W = m.run P W) : DoesN P T id s ρ F W r s' m' := by
  unfold DoesN at h ⊢
  rw [e]; exact h
theorem Says.next {id : Nat} {r : AV} {m : Sem Value} (hR : R T F ρ s W) (h : Says P T F ρ W r m) : DoesN P T id s ρ F W r s (do pure (.value (← m))) := (Says.does hR id h).next
theorem DoesN.pure {id : Nat} {r : AV} (hR : R T F ρ s W) {v : Value} (h : VR T F ρ r v) : DoesN P T id s ρ F W r s (Pure.pure (.value v)) :=
  .inl ⟨v, W, rfl, ρ, F, h, hR, Step.refl _ _ _ _, fun _ _ _ => rfl, Nat.le_refl _⟩
theorem fn_inv {f : FuncId} {as bs : List AV} {v : Value} (h : VR T F ρ (.fn f as bs) v) : ∃ us vs : Array Value, v = .func (.func f) us vs ∧ CR T F ρ as us.toList ∧ CR T F ρ bs vs.toList := by
  cases h with
  | fn _ _ _ us vs h1 h2 ha hb => exact ⟨us, vs, rfl, ⟨by simpa using h1, fun i a b => by rw [Array.getElem_toList]; exact ha i a _⟩, ⟨by simpa using h2, fun i a b => by rw [Array.getElem_toList]; exact hb i a _⟩⟩
theorem tup_inv {vs : List AV} {v : Value} (h : VR T F ρ (.tup vs) v) : ∃ us : Array Value, v = .tuple us ∧ CR T F ρ vs us.toList := by
  cases h with
  | tup _ us h1 ha => exact ⟨us, rfl, by simpa using h1, fun i a b => by rw [Array.getElem_toList]; exact ha i a _⟩
theorem ov_map {f : Operand → AV} {g : Operand → Value} (h : ∀ x, VR T F ρ (f x) (g x)) (o : Option Operand) : OV T F ρ (o.map f) (o.map g) := by
  cases o with
  | none => trivial
  | some x => exact h x
theorem pr_map {f : Operand → AV} {g : Operand → Value} (h : ∀ x, VR T F ρ (f x) (g x)) (parts : Array (Nat × Operand)) :
    PR T F ρ (parts.toList.map fun p => (p.1, f p.2)) (parts.map fun (i, x) => (i, g x)).toList := by
  rw [Array.toList_map]
  exact PR.of_map _ f g h

/-- An operation that is carried out does what the interpreter says. -/
theorem opA_ok {X : Cx} (hT : TyOk P X.P) (hE : EqOk P X.P X.eqOk) (hC : CallOk P X) (hR : R X.P F ρ s W) (hG : GlobOk X.P X.glob F) {dr : Bool} {id : Nat} (hid : ρ id = none) (hlt : id < s.nx) {e : Operand → AV} {g : Operand → Value} (he : ∀ x, VR X.P F ρ (e x) (g x))
    {o : Oper} {r : AV} {s' : St} (h : opA X dr id e o s = some (r, s')) : DoesN P X.P id s ρ F W r s' (execOp g o) := by
  have hv : ∀ {q : Option AV}, q.map (·, s) = some (r, s') → q = some r ∧ s' = s := fun {q} hq => by
    cases q with
    | none => cases hq
    | some x => simp only [Option.map_some, Option.some.injEq, Prod.mk.injEq] at hq; exact ⟨by rw [hq.1], hq.2.symm⟩
  unfold opA at h
  simp only at h
  split at h
  · rename_i x ho
    simp only [Option.some.injEq, Prod.mk.injEq] at h; obtain ⟨rfl, rfl⟩ := h
    simp only [execOp, ho]; exact DoesN.pure hR (he x)
  · rename_i x ho
    simp only [Option.some.injEq, Prod.mk.injEq] at h; obtain ⟨rfl, rfl⟩ := h
    simp only [execOp, ho]; exact DoesN.pure hR (he x)
  · rename_i c a b ho
    cases hb : asB (e c) with
    | none => rw [hb] at h; cases h
    | some t =>
      rw [hb] at h
      simp only [Option.bind_some, Option.some.injEq, Prod.mk.injEq] at h; obtain ⟨rfl, rfl⟩ := h
      have hc := asB_ok hb (he c)
      refine DoesN.congr (m := Pure.pure (.value (if t then g a else g b))) (DoesN.pure hR ?_) ?_
      · cases t
        · exact he b
        · exact he a
      · simp only [execOp, ho, hc, asBool, Sem.run_bind, Sem.run_pure, Result.andThen_ok]
  · rename_i t ho
    cases hz : zero X.P t with
    | none => rw [hz] at h; cases h
    | some z =>
      rw [hz] at h
      simp only [Option.map_some, Option.some.injEq, Prod.mk.injEq] at h; obtain ⟨rfl, rfl⟩ := h
      simp only [execOp, ho]; exact (alloc_ok hT hR hz hid hlt).next
  · rename_i t x ho
    split at h
    · rename_i hone
      simp only [Option.some.injEq, Prod.mk.injEq] at h; obtain ⟨rfl, rfl⟩ := h
      simp only [execOp, ho]; exact (box_ok hR hone (he x) hid hlt).next
    · cases h
  · rename_i t parts ho
    obtain ⟨h1, rfl⟩ := hv h
    simp only [execOp, ho]; exact (build_ok hT (pr_map he parts) h1).next hR
  · rename_i t n parts ho
    obtain ⟨h1, rfl⟩ := hv h
    simp only [execOp, ho]; exact (buildSl_ok hT hR (pr_map he parts) h1 id).next
  · rename_i t a ho
    cases hl : lay X.P t with
    | none => rw [hl] at h; cases h
    | some zz =>
      obtain ⟨z, ag⟩ := zz
      rw [hl] at h
      simp only [Option.bind_some] at h
      obtain ⟨h1, rfl⟩ := hv h
      simp only [execOp, ho]; exact (load_ok hT hR hl h1 (he a)).next hR
  · rename_i t a x ho
    cases hl : lay X.P t with
    | none => rw [hl] at h; cases h
    | some zz =>
      obtain ⟨z, ag⟩ := zz
      rw [hl] at h
      simp only [Option.bind_some] at h
      cases hs : Ai.store z (e a) (e x) s with
      | none => rw [hs] at h; cases h
      | some s1 =>
        rw [hs] at h
        simp only [Option.map_some, Option.some.injEq, Prod.mk.injEq] at h; obtain ⟨rfl, rfl⟩ := h
        simp only [execOp, ho]; exact (store_ok hT hR hl hs (he a) (he x) id).next
  · rename_i x ho
    have hx := he x
    split at h
    · rename_i i off hex
      simp only [Option.some.injEq, Prod.mk.injEq] at h; obtain ⟨rfl, rfl⟩ := h
      rw [hex] at hx
      refine DoesN.congr (m := Pure.pure (.value (g x))) (DoesN.pure hR hx) ?_
      cases hgx : g x <;> rw [hgx] at hx <;> first | (cases hx; done) | skip
      simp only [execOp, ho, hgx]
      cases hx; rfl
    · rename_i i off hex
      simp only [Option.some.injEq, Prod.mk.injEq] at h; obtain ⟨rfl, rfl⟩ := h
      rw [hex] at hx
      refine DoesN.congr (m := Pure.pure (.value (g x))) (DoesN.pure hR hx) ?_
      cases hgx : g x <;> rw [hgx] at hx <;> first | (cases hx; done) | skip
      simp only [execOp, ho, hgx]
      cases hx; rfl
    · rename_i f a c hex
      simp only [Option.some.injEq, Prod.mk.injEq] at h; obtain ⟨rfl, rfl⟩ := h
      rw [hex] at hx
      obtain ⟨us, vs, hgx, _, _⟩ := fn_inv hx
      refine DoesN.congr (m := Pure.pure (.value (g x))) (DoesN.pure hR hx) ?_
      simp only [execOp, ho, hgx]
    · cases h
  · rename_i op t x y d ho
    obtain ⟨h1, rfl⟩ := hv h
    simp only [execOp, ho]; exact (bin_ok hT hE h1 (he x) (he y) x y).next hR
  · rename_i op t x ho
    obtain ⟨h1, rfl⟩ := hv h
    simp only [execOp, ho]; exact (un_ok h1 (he x)).next hR
  · rename_i src dst x ho
    obtain ⟨h1, rfl⟩ := hv h
    simp only [execOp, ho]; exact (convA_ok hT hR h1 (he x) id).next
  · rename_i t x ho
    cases hd : und X.P t with
    | none => rw [hd] at h; cases h
    | some d =>
      rw [hd] at h
      have hni : (∀ m, d ≠ .interface m) ∧ r = .iface t (e x) ∧ s' = s := by
        cases d <;> first | (cases h; done) | (simp only [Option.some.injEq, Prod.mk.injEq] at h; exact ⟨(by intro m hm; cases hm), h.1.symm, h.2.symm⟩)
      obtain ⟨hni, rfl, rfl⟩ := hni
      refine DoesN.congr (m := Pure.pure (.value (.iface t (g x)))) (DoesN.pure hR (.iface _ _ _ (he x))) ?_
      simp only [execOp, ho, Instr.makeInterface, Sem.run_bind, run_underlying (und_ok hT hd), Result.andThen_ok]
      cases d <;> first | rfl | exact absurd rfl (hni _)
  · rename_i f first captured ho
    simp only [Option.some.injEq, Prod.mk.injEq] at h; obtain ⟨rfl, rfl⟩ := h
    refine DoesN.congr (m := Pure.pure (.value (.func (.func f) (first.map g) (captured.map g)))) (DoesN.pure hR ?_) ?_
    · have h1 := cr_map (T := X.P) (F := F) (ρ := ρ) first e g he
      have h2 := cr_map (T := X.P) (F := F) (ρ := ρ) captured e g he
      exact .fn f _ _ _ _ (by simp) (by simp) (fun i a b => by have := h1.2 i a (by simpa using b); rwa [Array.getElem_toList] at this) (fun i a b => by have := h2.2 i a (by simpa using b); rwa [Array.getElem_toList] at this)
    · simp only [execOp, ho, Instr.makeFunc, Sem.run_bind, Sem.run_pure, Result.andThen_ok]
  · rename_i t ho
    simp only [Option.some.injEq, Prod.mk.injEq] at h; obtain ⟨rfl, rfl⟩ := h
    simp only [execOp, ho]; exact (makeMap_ok hR t hid hlt).next
  · rename_i t n c ho
    cases hd : und X.P t with
    | none => rw [hd] at h; cases h
    | some d =>
      rw [hd] at h
      cases d with
      | slice et =>
        simp only at h
        split at h
        · rename_i z ag b zv i j hl hb hz hn hc
          split at h
          · rename_i hcd
            obtain ⟨q1, rfl, q3, q4, q5, q6⟩ := hcd
            simp only [Option.some.injEq, Prod.mk.injEq] at h; obtain ⟨rfl, rfl⟩ := h
            simp only [execOp, ho]; exact (makeSlice_ok hT hR hd hl hb hz hn hc q1 q3 q4 q5 q6 (he n) (he c) hid hlt).next
          · cases h
        · cases h
      | _ => cases h
  · rename_i t x lo hi mx ho
    obtain ⟨h1, rfl⟩ := hv h
    simp only [execOp, ho]; exact (sliceA_ok hT hR h1 (he x) (ov_map he lo) (ov_map he hi) (ov_map he mx)).next hR
  · rename_i t x f ho
    obtain ⟨h1, rfl⟩ := hv h
    simp only [execOp, ho]; exact (fieldAddr_ok hT h1 (he x)).next hR
  · rename_i t x f ho
    obtain ⟨h1, rfl⟩ := hv h
    simp only [execOp, ho]; exact (field_ok hT h1 (he x)).next hR
  · rename_i t x i ho
    obtain ⟨h1, rfl⟩ := hv h
    simp only [execOp, ho]; exact (indexAddr_ok hT hR h1 (he x) (he i)).next hR
  · rename_i t x i ho
    obtain ⟨h1, rfl⟩ := hv h
    simp only [execOp, ho]; exact (index_ok hT h1 (he x) (he i)).next hR
  · rename_i t m k ok ho
    obtain ⟨h1, rfl⟩ := hv h
    simp only [execOp, ho]; exact (lookup_ok hT hR h1 (he m) (he k)).next hR
  · rename_i t m k x ho
    cases hm : mapUpd X.P t (e m) (e k) (e x) s with
    | none => rw [hm] at h; cases h
    | some s1 =>
      rw [hm] at h
      simp only [Option.map_some, Option.some.injEq, Prod.mk.injEq] at h; obtain ⟨rfl, rfl⟩ := h
      simp only [execOp, ho]; exact (mapUpd_ok hT hR hm (he m) (he k) (he x) id).next
  · rename_i t i ho
    split at h
    · rename_i vs hex
      obtain ⟨h1, rfl⟩ := hv h
      have ht := he t
      rw [hex] at ht
      obtain ⟨us, hus, hcr⟩ := tup_inv ht
      obtain ⟨v, k1, k2⟩ := hcr.get? h1
      refine DoesN.congr (m := Pure.pure (.value v)) (DoesN.pure hR k2) ?_
      have : us[i]? = some v := by simpa using k1
      simp only [execOp, ho, hus, Instr.extract, this, Sem.run_bind, Sem.run_pure, Result.andThen_ok]
    · cases h
  · rename_i c ho
    split at h
    · rename_i b hb
      have key : ∃ cs, (execOp g o).run P W = (builtin b c.argTypes o.type cs (c.args.map g)).run P W := by
        refine ⟨c.args.map fun | .const _ => true | _ => false, ?_⟩
        simp only [execOp, ho, resolve, hb, Sem.run_bind, Sem.run_pure, Result.andThen_ok, invoke]
        rfl
      obtain ⟨cs, hcs⟩ := key
      exact (builtin_ok (P := P) hT hR hid hlt h (cr_map c.args e g he) o.type cs).congr hcs
    · rename_i f hf
      split at h
      · rename_i f' a cap hex
        have hfv := he f
        rw [hex] at hfv
        obtain ⟨us, vs, hgf, h1, h2⟩ := fn_inv hfv
        have hcr : CR X.P F ρ (a ++ c.args.toList.map e ++ cap) (us ++ c.args.map g ++ vs).toList := by
          rw [Array.toList_append, Array.toList_append]
          exact (h1.append (cr_map c.args e g he)).append h2
        refine (hC dr f' _ s r s' h _ ρ F W hcr hR hG id).congr ?_
        simp only [execOp, ho, resolve, hf, hgf, Deferred.ofValue, Sem.run_bind, Sem.run_pure, Result.andThen_ok, invoke]
      · cases h
    · cases h
  · cases h
end
end Go.Proofs.YtdehdahimkcakaaGreatDoor.Ai
