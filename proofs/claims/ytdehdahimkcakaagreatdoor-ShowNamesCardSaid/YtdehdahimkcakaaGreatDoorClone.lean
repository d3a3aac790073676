/- 'slices.Clone', and the whole. -/
import Derived.Test.YtdehdahimkcakaaGreatDoorEnv
import Derived.Test.YtdehdahimkcakaaGreatDoorClo
set_option linter.unusedVariables false
set_option linter.unusedSimpArgs false
namespace Go.Proofs.YtdehdahimkcakaaGreatDoor
open Go Ai

section
variable {P : Program} {E : Env}
/-- What is said of a body 'if s == nil { return nil }; return append([]E{}, s...)'. -/
def CloneRun (E : Env) (f : FuncId) (t : TypeId) : Prop := ∀ (x : AV) (s : St) (Q : AV → St → Prop),
  (Bnd (bin E.P E.eqOk .eql t x .nils) fun t4 => IfP t4 (Q .nils (adv s 4))
    (Bnd (buildSl E.P t 0 []) fun t5 => Bnd (builtinA (bX E) .append #[t, t] [t5, x] (s.nx + 5) (adv s 7)) fun r => Q r.1 r.2)) → ∃ r s', WideC E f [x] s r s' ∧ Q r s'
theorem run_of {f : FuncId} {t : TypeId} (hr : CloneRun E f t) {x : AV} {s : St} {r : AV} {s' : St}
    (h : Bnd (bin E.P E.eqOk .eql t x .nils) fun t4 => IfP t4 ((AV.nils, adv s 4) = (r, s'))
      (Bnd (buildSl E.P t 0 []) fun t5 => Bnd (builtinA (bX E) .append #[t, t] [t5, x] (s.nx + 5) (adv s 7)) fun q => q = (r, s'))) : ∃ n, callN E n f [x] s = some (r, s') := by
  obtain ⟨r1, s1, ⟨n, h1⟩, h2⟩ := hr x s (fun v q => (v, q) = (r, s')) h
  simp only [Prod.mk.injEq] at h2
  obtain ⟨rfl, rfl⟩ := h2
  exact ⟨n, h1⟩
theorem clone_prim (hE : EnvOk P E) {f : FuncId} {t e : TypeId} {z b : Nat} {ag : Bool} {zv : AV} (hr : CloneRun E f t) (ht : und E.P t = some (.slice e)) (hl : lay E.P e = some (z, ag)) (hb : bytesOf E.P e = some b) (hz : zero E.P e = some zv) (hz0 : 0 < z) (hzv : zv.cells.length = z) :
    PrimOk P E.P E.glob f (cloneA E.P e) := by
  have hsl : buildSl E.P t 0 [] = some (.sl true []) := by
    have h2 : 0 * z ≤ 2 ^ 24 ∧ 0 < z ∧ zv.cells.length = z := ⟨by omega, hz0, hzv⟩
    simp only [buildSl, ht, hl, hz, if_pos h2, List.replicate_zero, setParts, Option.map_some]
  have happ : ∀ x id s, builtinA (bX E) .append #[t, t] [.sl true [], x] id s = (srcCells z x s).bind fun c => appendA e z b (.sl true []) c id s := fun x id s => by
    have h2 : 0 < z ∧ zv.cells.length = z := ⟨hz0, hzv⟩
    have e1 : ((#[t, t] : Array TypeId)[0]?).bind (und (bX E).P) = some (.slice e) := ht
    have e2 : ((#[t, t] : Array TypeId)[1]?).bind (und (bX E).P) = some (.slice e) := ht
    simp only [builtinA, e1, e2]
    simp only [show (bX E).P = E.P from rfl, hl, hb, hz, if_pos h2]
  have hnil : ∀ s, ∃ n, callN E n f [.nils] s = some (.nils, adv s 4) := fun s => by
    refine run_of hr (.mk (.bool true) ?_ (.t rfl rfl))
    simp [bin, ht, eqRef]
  have hrest : ∀ x s r s', cloneOk x = true ∨ x = .emp → ((srcCells z x (adv s 7)).bind fun c => appendA e z b (.sl true []) c (s.nx + 5) (adv s 7)) = some (r, s') → ∃ n, callN E n f [x] s = some (r, s') := fun x s r s' hx h => by
    refine run_of hr (.mk (.bool false) ?_ (.f rfl (.mk _ hsl (.mk (r, s') ?_ rfl))))
    · rcases hx with hx | rfl
      · cases x with
        | emp => simp [bin, ht, eqRef]
        | sl ex l => cases l with
          | nil => cases hx
          | cons v l => simp [bin, ht, eqRef]
        | ref => simp [bin, ht, eqRef]
        | _ => cases hx
      · simp [bin, ht, eqRef]
    · rw [happ]; exact h
  have hemp : ∀ s, ∃ n, callN E n f [.emp] s = some (.sl true [], adv s 7) := fun s => by
    refine hrest .emp s _ _ (.inr rfl) ?_
    rfl
  intro args s r s' hg vals ρ F W hcr hR hG
  unfold cloneA at hg
  split at hg
  · rename_i x
    simp only [hl, hb] at hg
    obtain ⟨u, rfl, hu⟩ := hcr.single
    have use : ∀ y, VR E.P F ρ y u → ∀ r1 s1, (∃ n, callN E n f [y] s = some (r1, s1)) → DoesN P E.P s.nx s ρ F W r1 s1 (callFunc f #[u]) := fun y hy r1 s1 ⟨n, hn⟩ =>
      callN_sound hE n f [y] s r1 s1 hn #[u] ρ F W (CR.cons hy CR.nil) hR hG
    cases x with
    | nils =>
      simp only [Option.some.injEq, Prod.mk.injEq] at hg; obtain ⟨rfl, rfl⟩ := hg
      exact use _ hu _ _ (hnil s)
    | sl ex l =>
      cases l with
      | nil =>
        simp only [Option.some.injEq, Prod.mk.injEq] at hg; obtain ⟨rfl, rfl⟩ := hg
        have hw : ∀ r1 s1, (∀ F' ρ' v, VR E.P F' ρ' r1 v → VR E.P F' ρ' (.sl false []) v) → s1.h = s.h → s1.nx ≤ s.nx + 7 → DoesN P E.P s.nx s ρ F W r1 s1 (callFunc f #[u]) → DoesN P E.P s.nx s ρ F W (.sl false []) ⟨s.h, s.nx + 7⟩ (callFunc f #[u]) := fun r1 s1 hv hh hnx hd => by
          refine hd.map fun v W' ⟨ρ', F', k1, k2, k3, k4, k5⟩ => ⟨ρ', F', hv _ _ _ k1, ?_, ?_, k4, by show s.nx ≤ s.nx + 7; omega⟩
          · obtain ⟨h1, n1⟩ := s1
            simp only at hh hnx; subst hh
            exact ⟨k2.blk, k2.inj, k2.fz, fun i hi => k2.fresh i (by have : s.nx + 7 ≤ i := hi; show n1 ≤ i; omega)⟩
          · obtain ⟨h1, n1⟩ := s1
            simp only at hh; subst hh
            exact ⟨k3.rho, k3.fz, k3.os, k3.tape, k3.output, k3.size, k3.same, k3.born, k3.cold⟩
        obtain ⟨a, c, rfl, _, _, _⟩ := sl_inv hu
        have hn := sl_none hu
        cases a with
        | none =>
          have : c = 0 := hn rfl
          subst this
          refine hw .nils (adv s 4) (fun F' ρ' v hv => ?_) rfl (by show s.nx + 4 ≤ _; omega) (use .nils .nils _ _ (hnil s))
          cases hv; exact .sl0 false none 0 (fun h => nomatch h) (fun _ => rfl)
        | some a =>
          refine hw (.sl true []) (adv s 7) (fun F' ρ' v hv => ?_) rfl (Nat.le_refl _) (use .emp (.emp a c) _ _ (hemp s))
          cases hv with
          | sl0 _ a c h hn => exact .sl0 false a c (fun h => nomatch h) hn
          | sl _ _ β b z c w hc hx hz hf hv => exact .sl0 false _ _ (fun h => nomatch h) (fun h => nomatch h)
      | cons v l =>
        have h2 : ((srcCells z (.sl ex (v :: l)) (adv s 7)).bind fun c => appendA e z b (.sl true []) c (s.nx + 5) (adv s 7)) = some (r, s') := hg
        exact use _ hu _ _ (hrest _ s r s' (.inl rfl) h2)
    | emp =>
      have h2 : ((srcCells z .emp (adv s 7)).bind fun c => appendA e z b (.sl true []) c (s.nx + 5) (adv s 7)) = some (r, s') := hg
      exact use _ hu _ _ (hrest _ s r s' (.inl rfl) h2)
    | ref i o n c e' =>
      have h2 : ((srcCells z (.ref i o n c e') (adv s 7)).bind fun c => appendA e z b (.sl true []) c (s.nx + 5) (adv s 7)) = some (r, s') := hg
      exact use _ hu _ _ (hrest _ s r s' (.inl rfl) h2)
    | _ => simp [cloneOk] at hg
  · cases hg
end

end Go.Proofs.YtdehdahimkcakaaGreatDoor
