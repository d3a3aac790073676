/- Regions in the order of the text. -/
import Derived.Test.YtdehdahimkcakaaGreatDoorSim14
set_option linter.unusedVariables false
set_option linter.unusedSimpArgs false
namespace Go.Proofs.YtdehdahimkcakaaGreatDoor.Ai
open Go

section
variable {P : Program} {T : Ty} {F : Fz} {ρ : Rho} {s : St} {W : World}

theorem not_bool {x : AV} {v : Value} (h : VR T F ρ x v) (h1 : ∀ b, x ≠ .bool b) (h2 : x ≠ .undef) : ∀ b, v ≠ .bool b := by
  intro b hb
  subst hb
  cases h
  · exact h2 rfl
  · exact h1 _ rfl
theorem wanted_ok {tm : List AV} {ts : Array Value} (h : TM T F ρ tm ts) {ops : Array Oper} {o : Oper} {w : Bool} (hw : wantedA ops.toList (gt tm) o = some w) : Region.wanted o (yielded ops ts) = w := by
  unfold wantedA at hw
  unfold Region.wanted
  cases hg : o.guard with
  | none => rw [hg] at hw; simp only [Option.some.injEq] at hw; exact hw
  | some jw =>
    obtain ⟨j, want⟩ := jw
    rw [hg] at hw
    simp only at hw ⊢
    rw [Array.getElem?_toList] at hw
    unfold yielded
    cases hd : (ops[j]?).bind (·.dst) with
    | none => rw [hd] at hw; simp only [Option.some.injEq] at hw; subst hw; rfl
    | some d =>
      rw [hd] at hw
      simp only [Option.bind_some] at hw ⊢
      have hv := h.gt d
      split at hw
      · rename_i b hb
        simp only [Option.some.injEq] at hw; subst hw
        rw [hb] at hv
        cases hts : ts[d]? with
        | none =>
          have : ts.getD d undef = undef := by simp [Array.getD_eq_getD_getElem?, hts]
          rw [this] at hv; cases hv
        | some v =>
          have : ts.getD d undef = v := by simp [Array.getD_eq_getD_getElem?, hts]
          rw [this] at hv; cases hv; rfl
      · cases hw
      · rename_i h1 h2
        simp only [Option.some.injEq] at hw; subst hw
        have hnb := not_bool hv h1 h2
        cases hts : ts[d]? with
        | none => rfl
        | some v =>
          have : ts.getD d undef = v := by simp [Array.getD_eq_getD_getElem?, hts]
          rw [this] at hnb
          cases v <;> first | rfl | exact absurd rfl (hnb _)

theorem opsA_nil (X : Cx) (dr : Bool) (base : Nat) (all : List Oper) (i : Nat) (tm : List AV) (s : St) : opsA X dr base all [] i tm s = some (tm, s) := rfl
theorem opsA_cons (X : Cx) (dr : Bool) (base : Nat) (all : List Oper) (o : Oper) (l : List Oper) (i : Nat) (tm : List AV) (s : St) : opsA X dr base all (o :: l) i tm s =
    (wantedA all (gt tm) o).bind fun w => cond w ((opA X dr (base + i) (ev X (gt tm)) o s).bind fun r => opsA X dr base all l (i + 1) (put tm o.dst r.1) r.2) (opsA X dr base all l (i + 1) (put tm o.dst (.tup [])) s) := rfl
theorem put_defers (a : Act) (d : Option Tmp) (v : Value) : (a.put d v).defers = a.defers := by cases d <;> rfl
/-- One operation, wanted or not. -/
theorem oper_ok {X : Cx} (hT : TyOk P X.P) (hE : EqOk P X.P X.eqOk) (hC : CallOk P X) (hR : R X.P F ρ s W) (hG : GlobOk X.P X.glob F) {dr : Bool} {id : Nat} (hid : ρ id = none) (hlt : id < s.nx) {tm : List AV} {a : Act} (hTM : TM X.P F ρ tm a.tmps) (hdf : a.defers = [])
    {o : Oper} {r : AV} {s' : St} (h : opA X dr id (ev X (gt tm)) o s = some (r, s')) {next : Act → World → Prop} {Q : Exit → Act → World → Prop}
    (hn : ∀ a' W' ρ' F', TM X.P F' ρ' (put tm o.dst r) a'.tmps → R X.P F' ρ' s' W' → Step s ρ F W s' ρ' F' W' → (∀ i, i < s.nx → i ≠ id → ρ' i = ρ i) → s.nx ≤ s'.nx → a'.defers = [] → next a' W') : o.wp P a W next Q := by
  obtain ⟨ts, ds⟩ := a
  simp only at hTM hdf
  subst hdf
  have hfin : ∀ v W', Good X.P id s ρ F W r s' v W' → next ((⟨ts, []⟩ : Act).put o.dst v) W' := by
    intro v W' ⟨ρ', F', h1, h2, h3, h4, h5⟩
    exact hn _ _ ρ' F' ((hTM.mono h3.fz h3.rho).put h1 o.dst []) h2 h3 h4 h5 (put_defers _ _ _)
  unfold Oper.wp
  rcases opA_ok hT hE hC hR hG hid hlt (fun x => ev_ok hG hTM [] x) h with ⟨v, W', h1, h2⟩ | ⟨W', h1, h2⟩ | ⟨f, args, h1, h2⟩
  · rw [h1, Oper.upon_value]; exact hfin _ _ h2
  · rw [h1, Oper.upon_skip]; exact hfin _ _ h2
  · rw [h1, Oper.upon_enter]
    refine h2.mono ?_
    intro e W' he
    cases e with
    | returned v => exact hfin _ _ he
    | panicked c => exact he.elim
    | outgrown => exact he.elim
theorem opsA_ok {X : Cx} (hT : TyOk P X.P) (hE : EqOk P X.P X.eqOk) (hC : CallOk P X) {dr : Bool} {ops : Array Oper} {base : Nat} {Q : Exit → Act → World → Prop} {tm' : List AV} {s' : St} : ∀ (l : List Oper) (i : Nat) (tm : List AV) (s : St) (ρ : Rho) (F : Fz) (W : World) (a : Act),
    ops.toList.drop i = l → R X.P F ρ s W → GlobOk X.P X.glob F → TM X.P F ρ tm a.tmps → a.defers = [] → (∀ j, i ≤ j → j < ops.size → ρ (base + j) = none) → base + ops.size ≤ s.nx → opsA X dr base ops.toList l i tm s = some (tm', s') →
    (∀ a' W' ρ' F', TM X.P F' ρ' tm' a'.tmps → R X.P F' ρ' s' W' → Step s ρ F W s' ρ' F' W' → (∀ k, k < base → ρ' k = ρ k) → s.nx ≤ s'.nx → a'.defers = [] → Q .normal a' W') →
    wpOps P ops Q (List.range' i l.length) a W := by
  intro l
  induction l with
  | nil =>
    intro i tm s ρ F W a hl hR hG hTM hdf hfree hnx h hq
    rw [opsA_nil] at h
    simp only [Option.some.injEq, Prod.mk.injEq] at h; obtain ⟨rfl, rfl⟩ := h
    exact hq a W ρ F hTM hR (Step.refl _ _ _ _) (fun _ _ => rfl) (Nat.le_refl _) hdf
  | cons o l ih =>
    intro i tm s ρ F W a hl hR hG hTM hdf hfree hnx h hq
    have hi : i < ops.size := by
      have := congrArg List.length hl
      simp at this; omega
    have hoi : ops[i]? = some o := by
      have h1 : ops.toList[i]? = some o := by
        have := congrArg (·[0]?) hl
        simpa using this
      simpa using h1
    have hl' : ops.toList.drop (i + 1) = l := by
      have : (ops.toList.drop i).drop 1 = l := by rw [hl]; rfl
      rwa [List.drop_drop] at this
    rw [opsA_cons] at h
    rw [List.length_cons, List.range'_succ]
    simp only [wpOps, hoi]
    cases hw : wantedA ops.toList (gt tm) o with
    | none => rw [hw] at h; cases h
    | some w =>
      rw [hw] at h
      simp only [Option.bind_some] at h
      rw [wanted_ok hTM hw]
      cases w with
      | true =>
        simp only [cond_true, if_true] at h ⊢
        cases ho : opA X dr (base + i) (ev X (gt tm)) o s with
        | none => rw [ho] at h; cases h
        | some r =>
          obtain ⟨r, s1⟩ := r
          rw [ho] at h
          simp only [Option.bind_some] at h
          left
          refine oper_ok hT hE hC hR hG (hfree i (Nat.le_refl _) hi) (by omega) hTM hdf ho ?_
          intro a1 W1 ρ1 F1 k1 k2 k3 k4 k5 k6
          refine ih (i + 1) _ s1 ρ1 F1 W1 a1 hl' k2 (hG.mono k3.fz) k1 k6 (fun j hj hj2 => ?_) (by omega) h ?_
          · rw [k4 _ (by omega) (by omega)]; exact hfree j (by omega) hj2
          · intro a2 W2 ρ2 F2 m1 m2 m3 m4 m5 m6
            exact hq a2 W2 ρ2 F2 m1 m2 (k3.trans m3) (fun k hk => (m4 k hk).trans (k4 k (by omega) (by omega))) (by omega) m6
      | false =>
        simp only [cond_false, Bool.false_eq_true, if_false] at h ⊢
        obtain ⟨ts, ds⟩ := a
        refine ih (i + 1) _ s ρ F W _ hl' hR hG (hTM.put (.tup [] #[] rfl (fun i h => by simp at h)) o.dst ds) (by rw [put_defers]; exact hdf) (fun j hj hj2 => hfree j (by omega) hj2) hnx h hq
end
end Go.Proofs.YtdehdahimkcakaaGreatDoor.Ai
