/- Code. -/
import Derived.Test.YtdehdahimkcakaaGreatDoorSim15
set_option linter.unusedVariables false
set_option linter.unusedSimpArgs false
namespace Go.Proofs.YtdehdahimkcakaaGreatDoor.Ai
open Go

section
variable {P : Program} {T : Ty} {F : Fz} {ρ : Rho} {s : St} {W : World}

/-- What holds behind a piece of code. -/
structure After (T : Ty) (s : St) (ρ : Rho) (F : Fz) (W : World) (tm' : List AV) (s' : St) (a' : Act) (W' : World) : Prop where
  ex : ∃ ρ' F', TM T F' ρ' tm' a'.tmps ∧ R T F' ρ' s' W' ∧ Step s ρ F W s' ρ' F' W' ∧ Old s.nx ρ ρ'
  nx : s.nx ≤ s'.nx
  df : a'.defers = []
theorem After.trans {s1 s2 : St} {tm1 tm2 : List AV} {a1 a2 : Act} {W1 W2 : World} {ρ1 : Rho} {F1 : Fz} (h1 : Step s ρ F W s1 ρ1 F1 W1) (h2 : Old s.nx ρ ρ1) (h3 : s.nx ≤ s1.nx) (k : After T s1 ρ1 F1 W1 tm2 s2 a2 W2) : After T s ρ F W tm2 s2 a2 W2 := by
  obtain ⟨⟨ρ2, F2, k1, k2, k3, k4⟩, k5, k6⟩ := k
  exact ⟨⟨ρ2, F2, k1, k2, h1.trans k3, fun i hi => (k4 i (by omega)).trans (h2 i hi)⟩, by omega, k6⟩
def exq : Ex → Exit
  | .nm => .normal
  | .ex i => .exit i
  | .gt l => .goto l
  | .rt => .ret

/-- A region that draws its order is sound. -/
def DrawOk (P : Program) (X : Cx) : Prop := ∀ (ops : Array Oper) (tm : List AV) (s : St) (ρ : Rho) (F : Fz) (W : World) (a : Act) (base : Nat) (tm' : List AV) (s' : St),
  R X.P F ρ s W → GlobOk X.P X.glob F → TM X.P F ρ tm a.tmps → a.defers = [] → (∀ j, j < ops.size → ρ (base + j) = none) → base + ops.size ≤ s.nx → drawn X base ops.toList tm s = some (tm', s') →
  ∀ Q : Exit → Act → World → Prop, (∀ a' W' ρ' F', TM X.P F' ρ' tm' a'.tmps → R X.P F' ρ' s' W' → Step s ρ F W s' ρ' F' W' → (∀ k, k < base → ρ' k = ρ k) → s.nx ≤ s'.nx → a'.defers = [] → Q .normal a' W') →
    ∀ t, wpOps P ops Q (Region.linearise .any ops t) a W
/-- A loop, from its head on. -/
def HeadWp (P : Program) (c : Code) (Q : Exit → Act → World → Prop) (a : Act) (w : World) : Prop :=
  ∀ (b : Frame) (k : List Item) (cs : List Frame), ∃ e a' w', Q e a' w' ∧ Arrives P (lone (b.at a (.code c :: .inLoop c :: k)) cs w) b k cs e a' w'
theorem HeadWp.loop {c : Code} {Q : Exit → Act → World → Prop} {a : Act} {w : World} (h : HeadWp P c Q a w) : (Code.loop c).wp P Q a w := fun b k cs => by
  obtain ⟨e, a', w', h1, h2⟩ := h b k cs
  exact ⟨e, a', w', h1, .of_steps (.one step_loop) h2⟩
theorem HeadWp.unroll {c : Code} {Q : Exit → Act → World → Prop} {a : Act} {w : World} (h : c.wp P (Exit.then (HeadWp P c Q) Q) a w) : HeadWp P c Q a w := by
  intro b k cs
  obtain ⟨e, a₁, w₁, hq, harr⟩ := h b (.inLoop c :: k) cs
  cases e with
  | normal =>
    obtain ⟨e₂, a₂, w₂, hq₂, harr₂⟩ := hq b k cs
    exact ⟨e₂, a₂, w₂, hq₂, .of_steps (Steps.trans harr (.one step_inLoop)) harr₂⟩
  | exit id => exact ⟨_, a₁, w₁, hq, .pass (x := .inLoop c) rfl (fun _ _ => .inl (by simp)) harr⟩
  | goto l => exact ⟨_, a₁, w₁, hq, .pass (x := .inLoop c) rfl (fun _ _ => .inl (by simp)) harr⟩
  | ret => exact ⟨_, a₁, w₁, hq, .pass (x := .inLoop c) rfl (fun _ _ => .inl (by simp)) harr⟩
  | panic ch => exact ⟨_, a₁, w₁, hq, .pass (x := .inLoop c) rfl (fun _ _ => .inl (by simp)) harr⟩
  | outgrown => exact ⟨_, a₁, w₁, hq, .pass (x := .inLoop c) rfl (fun _ _ => .inl (by simp)) harr⟩
/-- The interpreter's answer at a piece of code holds of the machine. -/
def CodeOk (P : Program) (X : Cx) (wp : (Exit → Act → World → Prop) → Act → World → Prop) (out : List AV → St → Out) : Prop :=
  ∀ (tm : List AV) (s : St) (e : Ex) (tm' : List AV) (s' : St), out tm s = some (e, tm', s') → ∀ (ρ : Rho) (F : Fz) (W : World) (a : Act), R X.P F ρ s W → GlobOk X.P X.glob F → TM X.P F ρ tm a.tmps → a.defers = [] →
    ∀ Q : Exit → Act → World → Prop, (∀ a' W', After X.P s ρ F W tm' s' a' W' → Q (exq e) a' W') → wp Q a W
def LoopOk (P : Program) (X : Cx) (loopf : Code → List AV → St → Out) : Prop := ∀ c, CodeOk P X (HeadWp P c) (loopf c)

theorem code_skip (X : Cx) (lf) : code X lf .skip = fun tm s => some (.nm, tm, s) := rfl
theorem code_region (X : Cx) (lf) (id ops dr) : code X lf (.region id ops dr) = fun tm s => (cond dr (drawn X s.nx ops.toList tm ⟨s.h, s.nx + ops.size⟩) (opsA X false s.nx ops.toList ops.toList 0 tm ⟨s.h, s.nx + ops.size⟩)).map fun r => (.nm, r.1, r.2) := rfl
theorem code_seq (X : Cx) (lf) (a b) : code X lf (.seq a b) = fun tm s => thn (code X lf a tm s) (code X lf b) := rfl
theorem code_cond (X : Cx) (lf) (c a b) : code X lf (.cond c a b) = fun tm s => (asB (ev X (gt tm) c)).bind fun t => cond t (code X lf a tm s) (code X lf b tm s) := rfl
theorem code_block (X : Cx) (lf) (id c) : code X lf (.block id c) = fun tm s => blk id (code X lf c tm s) := rfl
theorem code_loop (X : Cx) (lf) (c) : code X lf (.loop c) = fun tm s => lf c tm s := rfl
theorem code_exit (X : Cx) (lf) (id) : code X lf (.exit id) = fun tm s => some (.ex id, tm, s) := rfl
theorem code_label (X : Cx) (lf) (id) : code X lf (.label id) = fun tm s => some (.nm, tm, s) := rfl
theorem code_goto (X : Cx) (lf) (id) : code X lf (.goto id) = fun tm s => some (.gt id, tm, s) := rfl
theorem code_ret (X : Cx) (lf) : code X lf .ret = fun tm s => some (.rt, tm, s) := rfl

theorem After.here {tm : List AV} {a : Act} (hR : R T F ρ s W) (hTM : TM T F ρ tm a.tmps) (hdf : a.defers = []) : After T s ρ F W tm s a W :=
  ⟨⟨ρ, F, hTM, hR, Step.refl _ _ _ _, fun _ _ => rfl⟩, Nat.le_refl _, hdf⟩
theorem R.advance (h : R T F ρ s W) (n : Nat) : R T F ρ ⟨s.h, s.nx + n⟩ W := ⟨h.blk, h.inj, h.fz, fun i hi => h.fresh i (by have : s.nx + n ≤ i := hi; omega)⟩
theorem Step.advance {ρ' : Rho} {F' : Fz} {W' : World} {s' : St} {n : Nat} (h : Step ⟨s.h, s.nx + n⟩ ρ F W s' ρ' F' W') : Step s ρ F W s' ρ' F' W' := ⟨h.rho, h.fz, h.os, h.tape, h.output, h.size, h.same, h.born, h.cold⟩
theorem R.drew (h : R T F ρ s W) : R T F ρ s W.drew := ⟨h.blk, h.inj, h.fz, h.fresh⟩
theorem Step.drew {ρ' : Rho} {F' : Fz} {W' : World} {s' : St} (h : Step s ρ F W.drew s' ρ' F' W') : Step s ρ F W s' ρ' F' W' := ⟨h.rho, h.fz, h.os, h.tape, h.output, h.size, h.same, h.born, h.cold⟩

theorem code_ok {X : Cx} (hm : P.follows .mixedOrders = true) (hT : TyOk P X.P) (hE : EqOk P X.P X.eqOk) (hC : CallOk P X) (hD : DrawOk P X) {lf : Code → List AV → St → Out} (hL : LoopOk P X lf) (c : Code) : CodeOk P X (c.wp P) (code X lf c) := by
  induction c with
  | skip =>
    intro tm s e tm' s' h ρ F W a hR hG hTM hdf Q hQ
    rw [code_skip] at h
    simp only [Option.some.injEq, Prod.mk.injEq] at h; obtain ⟨rfl, rfl, rfl⟩ := h
    exact wp_skip (hQ _ _ (After.here hR hTM hdf))
  | region id ops dr =>
    intro tm s e tm' s' h ρ F W a hR hG hTM hdf Q hQ
    rw [code_region] at h
    simp only at h
    have hfree : ∀ j, j < ops.size → ρ (s.nx + j) = none := fun j hj => hR.fresh _ (by omega)
    cases dr with
    | false =>
      simp only [cond_false] at h
      cases ho : opsA X false s.nx ops.toList ops.toList 0 tm ⟨s.h, s.nx + ops.size⟩ with
      | none => rw [ho] at h; cases h
      | some r =>
        obtain ⟨tm1, s1⟩ := r
        rw [ho] at h
        simp only [Option.map_some, Option.some.injEq, Prod.mk.injEq] at h; obtain ⟨rfl, rfl, rfl⟩ := h
        refine wp_region ?_
        rw [List.range_eq_range', show ops.size = ops.toList.length by simp]
        refine opsA_ok hT hE hC ops.toList 0 tm ⟨s.h, s.nx + ops.size⟩ ρ F W a rfl (hR.advance _) hG hTM hdf (fun j _ hj => hfree j hj) (Nat.le_refl _) ho ?_
        intro a' W' ρ' F' k1 k2 k3 k4 k5 k6
        refine hQ _ _ ⟨⟨ρ', F', k1, k2, k3.advance, fun i hi => k4 i hi⟩, ?_, k6⟩
        have : s.nx + ops.size ≤ s1.nx := k5
        omega
    | true =>
      simp only [cond_true] at h
      cases ho : drawn X s.nx ops.toList tm ⟨s.h, s.nx + ops.size⟩ with
      | none => rw [ho] at h; cases h
      | some r =>
        obtain ⟨tm1, s1⟩ := r
        rw [ho] at h
        simp only [Option.map_some, Option.some.injEq, Prod.mk.injEq] at h; obtain ⟨rfl, rfl, rfl⟩ := h
        refine wp_region_draw fun t => ?_
        have key := hD ops tm ⟨s.h, s.nx + ops.size⟩ ρ F W.drew a s.nx tm1 s1 (hR.advance _).drew hG hTM hdf hfree (Nat.le_refl _) ho Q (fun a' W' ρ' F' k1 k2 k3 k4 k5 k6 => by
          refine hQ _ _ ⟨⟨ρ', F', k1, k2, k3.drew.advance, fun i hi => k4 i hi⟩, ?_, k6⟩
          have : s.nx + ops.size ≤ s1.nx := k5
          omega)
        simp only [Region.schedule, hm, Bool.true_or, if_true]
        exact key _
  | seq x y ihx ihy =>
    intro tm s e tm' s' h ρ F W a hR hG hTM hdf Q hQ
    rw [code_seq] at h
    simp only at h
    refine wp_seq ?_
    cases hx : code X lf x tm s with
    | none => rw [hx] at h; cases h
    | some r =>
      obtain ⟨e1, tm1, s1⟩ := r
      rw [hx] at h
      refine ihx tm s e1 tm1 s1 hx ρ F W a hR hG hTM hdf _ ?_
      intro a1 W1 haf
      cases e1 with
      | nm =>
        simp only [thn] at h
        obtain ⟨⟨ρ1, F1, k1, k2, k3, k4⟩, k5, k6⟩ := haf
        refine ihy tm1 s1 e tm' s' h ρ1 F1 W1 a1 k2 (hG.mono k3.fz) k1 k6 Q ?_
        intro a2 W2 haf2
        exact hQ _ _ (After.trans (tm1 := tm1) (a1 := a1) k3 k4 k5 haf2)
      | ex i => simp only [thn, Option.some.injEq, Prod.mk.injEq] at h; obtain ⟨rfl, rfl, rfl⟩ := h; exact hQ _ _ haf
      | gt i => simp only [thn, Option.some.injEq, Prod.mk.injEq] at h; obtain ⟨rfl, rfl, rfl⟩ := h; exact hQ _ _ haf
      | rt => simp only [thn, Option.some.injEq, Prod.mk.injEq] at h; obtain ⟨rfl, rfl, rfl⟩ := h; exact hQ _ _ haf
  | cond c x y ihx ihy =>
    intro tm s e tm' s' h ρ F W a hR hG hTM hdf Q hQ
    rw [code_cond] at h
    simp only at h
    cases hb : asB (ev X (gt tm) c) with
    | none => rw [hb] at h; cases h
    | some t =>
      rw [hb] at h
      simp only [Option.bind_some] at h
      have hc : a.eval c = .bool t := asB_ok hb (ev_ok hG hTM a.defers c)
      refine wp_cond hc ?_
      cases t with
      | true => exact ihx tm s e tm' s' h ρ F W a hR hG hTM hdf Q hQ
      | false => exact ihy tm s e tm' s' h ρ F W a hR hG hTM hdf Q hQ
  | block id c ih =>
    intro tm s e tm' s' h ρ F W a hR hG hTM hdf Q hQ
    rw [code_block] at h
    simp only at h
    refine wp_block ?_
    cases hx : code X lf c tm s with
    | none => rw [hx] at h; cases h
    | some r =>
      obtain ⟨e1, tm1, s1⟩ := r
      rw [hx] at h
      refine ih tm s e1 tm1 s1 hx ρ F W a hR hG hTM hdf _ ?_
      intro a1 W1 haf
      cases e1 with
      | ex i =>
        simp only [blk] at h
        simp only [exq, Exit.inBlock]
        split at h
        · rename_i hi
          simp only [Option.some.injEq, Prod.mk.injEq] at h; obtain ⟨rfl, rfl, rfl⟩ := h
          rw [if_pos hi]; exact hQ _ _ haf
        · rename_i hi
          simp only [Option.some.injEq, Prod.mk.injEq] at h; obtain ⟨rfl, rfl, rfl⟩ := h
          rw [if_neg hi]; exact hQ _ _ haf
      | nm => simp only [blk, Option.some.injEq, Prod.mk.injEq] at h; obtain ⟨rfl, rfl, rfl⟩ := h; exact hQ _ _ haf
      | gt i => simp only [blk, Option.some.injEq, Prod.mk.injEq] at h; obtain ⟨rfl, rfl, rfl⟩ := h; exact hQ _ _ haf
      | rt => simp only [blk, Option.some.injEq, Prod.mk.injEq] at h; obtain ⟨rfl, rfl, rfl⟩ := h; exact hQ _ _ haf
  | loop c ih =>
    intro tm s e tm' s' h ρ F W a hR hG hTM hdf Q hQ
    rw [code_loop] at h
    exact (hL c tm s e tm' s' h ρ F W a hR hG hTM hdf Q hQ).loop
  | rangeFunc f ps x y => intro tm s e tm' s' h; cases h
  | exit id =>
    intro tm s e tm' s' h ρ F W a hR hG hTM hdf Q hQ
    rw [code_exit] at h
    simp only [Option.some.injEq, Prod.mk.injEq] at h; obtain ⟨rfl, rfl, rfl⟩ := h
    exact wp_exit (hQ _ _ (After.here hR hTM hdf))
  | scope c ih => intro tm s e tm' s' h; cases h
  | label l =>
    intro tm s e tm' s' h ρ F W a hR hG hTM hdf Q hQ
    rw [code_label] at h
    simp only [Option.some.injEq, Prod.mk.injEq] at h; obtain ⟨rfl, rfl, rfl⟩ := h
    exact wp_label (hQ _ _ (After.here hR hTM hdf))
  | goto l =>
    intro tm s e tm' s' h ρ F W a hR hG hTM hdf Q hQ
    rw [code_goto] at h
    simp only [Option.some.injEq, Prod.mk.injEq] at h; obtain ⟨rfl, rfl, rfl⟩ := h
    exact wp_goto (hQ _ _ (After.here hR hTM hdf))
  | ret =>
    intro tm s e tm' s' h ρ F W a hR hG hTM hdf Q hQ
    rw [code_ret] at h
    simp only [Option.some.injEq, Prod.mk.injEq] at h; obtain ⟨rfl, rfl, rfl⟩ := h
    exact wp_ret (hQ _ _ (After.here hR hTM hdf))
  | refuse why => intro tm s e tm' s' h; cases h

theorem mask_len (m : Nat) : ∀ (l : List AV) (i : Nat), (mask m i l).length = l.length := by
  intro l
  induction l with
  | nil => intro i; rfl
  | cons v l ih => intro i; simp [mask, ih]
theorem mask_get (m : Nat) : ∀ (l : List AV) (i j : Nat) (h : j < (mask m i l).length) (h' : j < l.length), (mask m i l)[j] = l[j] ∨ (mask m i l)[j] = .undef := by
  intro l
  induction l with
  | nil => intro i j h h'; simp at h'
  | cons v l ih =>
    intro i j h h'
    cases j with
    | zero =>
      simp only [mask, List.getElem_cons_zero]
      cases bitOf m i
      · exact .inr rfl
      · exact .inl rfl
    | succ j =>
      simp only [mask, List.getElem_cons_succ]
      exact ih (i + 1) j (by simpa [mask] using h) (by simpa using h')
theorem TM.mask {tm : List AV} {ts : Array Value} (h : TM T F ρ tm ts) (m i : Nat) : TM T F ρ (Ai.mask m i tm) ts := by
  refine ⟨by rw [mask_len]; exact h.1, fun j a b => ?_⟩
  have hj : j < tm.length := by rwa [mask_len] at a
  rcases mask_get m tm i j a hj with e | e
  · rw [e]; exact h.2 j hj b
  · rw [e]; exact .undef _
theorem loopN_zero (X : Cx) (kp : Nat) : loopN X kp 0 = fun _ _ _ => none := rfl
theorem loopN_succ (X : Cx) (kp n : Nat) : loopN X kp (n + 1) = fun c tm s => thn (code X (loopN X kp n) c tm s) fun tm s => loopN X kp n c (mask kp 0 tm) s := rfl
theorem loop_ok {X : Cx} (hm : P.follows .mixedOrders = true) (hT : TyOk P X.P) (hE : EqOk P X.P X.eqOk) (hC : CallOk P X) (hD : DrawOk P X) (kp n : Nat) : LoopOk P X (loopN X kp n) := by
  induction n with
  | zero => intro c tm s e tm' s' h; cases h
  | succ n ih =>
    intro c tm s e tm' s' h ρ F W a hR hG hTM hdf Q hQ
    rw [loopN_succ] at h
    simp only at h
    refine HeadWp.unroll ?_
    cases hx : code X (loopN X kp n) c tm s with
    | none => rw [hx] at h; cases h
    | some r =>
      obtain ⟨e1, tm1, s1⟩ := r
      rw [hx] at h
      refine code_ok hm hT hE hC hD ih c tm s e1 tm1 s1 hx ρ F W a hR hG hTM hdf _ ?_
      intro a1 W1 haf
      cases e1 with
      | nm =>
        simp only [thn] at h
        obtain ⟨⟨ρ1, F1, k1, k2, k3, k4⟩, k5, k6⟩ := haf
        refine ih c (mask kp 0 tm1) s1 e tm' s' h ρ1 F1 W1 a1 k2 (hG.mono k3.fz) (k1.mask kp 0) k6 Q ?_
        intro a2 W2 haf2
        exact hQ _ _ (After.trans (tm1 := tm1) (a1 := a1) k3 k4 k5 haf2)
      | ex i => simp only [thn, Option.some.injEq, Prod.mk.injEq] at h; obtain ⟨rfl, rfl, rfl⟩ := h; exact hQ _ _ haf
      | gt i => simp only [thn, Option.some.injEq, Prod.mk.injEq] at h; obtain ⟨rfl, rfl, rfl⟩ := h; exact hQ _ _ haf
      | rt => simp only [thn, Option.some.injEq, Prod.mk.injEq] at h; obtain ⟨rfl, rfl, rfl⟩ := h; exact hQ _ _ haf
end
end Go.Proofs.YtdehdahimkcakaaGreatDoor.Ai
