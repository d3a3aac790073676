/- Slice expressions, conversions, lengths. -/
import Derived.Test.YtdehdahimkcakaaGreatDoorSim6
import Derived.Lib.Strings
set_option linter.unusedVariables false
set_option linter.unusedSimpArgs false
namespace Go.Proofs.YtdehdahimkcakaaGreatDoor.Ai
open Go

section
variable {P : Program} {T : Ty} {F : Fz} {ρ : Rho} {s : St} {W : World}

/-- An operand that may be missing. -/
def OV (T : Ty) (F : Fz) (ρ : Rho) : Option AV → Option Value → Prop
  | none, none => True
  | some a, some v => VR T F ρ a v
  | _, _ => False
theorem run_sliceBound {k : IntKind} {i : Int} {y : Nat} (h0 : 0 ≤ i) (h1 : i ≤ y) (c : BoundsCode) : (Instr.sliceBound (.int k i) y c).run P W = .ok i.toNat W := by
  simp only [Instr.sliceBound, asIntOf, Sem.run_bind, Sem.run_pure, Result.andThen_ok]
  rw [if_pos ⟨h0, h1⟩]; rfl
/-- Bounds within a lesser room are bounds within the true one; without a greatest one the true room is told. -/
theorem bounds_ok {n c C : Nat} (hc : c ≤ C) {lo hi mx : Option AV} {r : Nat × Nat × Nat} (h : bounds n c lo hi mx = some r) {l' h' m' : Option Value} (hl : OV T F ρ lo l') (hh : OV T F ρ hi h') (hm : OV T F ρ mx m') (b : Bool) :
    (Instr.sliceBounds b n C l' h' m').run P W = .ok (r.1, r.2.1, if mx.isSome then r.2.2 else C) W ∧ r.1 ≤ r.2.1 ∧ r.2.1 ≤ r.2.2 ∧ r.2.2 ≤ c ∧ (mx = none → r.2.2 = c) := by
  unfold bounds at h
  split at h
  · cases h
  rename_i hmh
  cases hmi : optI c mx with
  | none => rw [hmi] at h; cases h
  | some m =>
    cases hhi : optI n hi with
    | none => rw [hmi, hhi] at h; cases h
    | some hh2 =>
      cases hli : optI 0 lo with
      | none => rw [hmi, hhi, hli] at h; cases h
      | some l =>
        rw [hmi, hhi, hli] at h
        simp only [Option.bind_some] at h
        split at h
        · rename_i hb
          obtain ⟨b0, b1, b2, b3⟩ := hb
          simp only [Option.some.injEq] at h; subst h
          simp only
          have hcm : mx = none → m.toNat = c := fun e => by subst e; simp only [optI, Option.some.injEq] at hmi; omega
          refine ⟨?_, by omega, by omega, by omega, hcm⟩
          have ho : ∀ {o : Option AV} {o' : Option Value} {d : Nat} {i : Int}, OV T F ρ o o' → optI d o = some i → (o = none ∧ o' = none ∧ i = d) ∨ ∃ k, o.isSome = true ∧ o' = some (.int k i) := by
            intro o o' d i hov hoi
            cases o with
            | none => cases o' with
              | none => left; simp only [optI, Option.some.injEq] at hoi; exact ⟨rfl, rfl, hoi.symm⟩
              | some v => exact hov.elim
            | some a => cases o' with
              | none => exact hov.elim
              | some v =>
                obtain ⟨k, rfl⟩ := asI_ok (show asI a = some i from hoi) hov
                right; exact ⟨k, rfl, rfl⟩
          rcases ho hm hmi with ⟨rfl, rfl, rfl⟩ | ⟨km, hms, rfl⟩
          · rcases ho hh hhi with ⟨rfl, rfl, rfl⟩ | ⟨kh, _, rfl⟩
            · rcases ho hl hli with ⟨rfl, rfl, rfl⟩ | ⟨kl, _, rfl⟩
              · simp [Instr.sliceBounds]
              · simp only [Instr.sliceBounds, Sem.run_bind, Sem.run_pure, Result.andThen_ok]
                rw [run_sliceBound (by omega) (by omega)]; rfl
            · rcases ho hl hli with ⟨rfl, rfl, rfl⟩ | ⟨kl, _, rfl⟩
              · simp only [Instr.sliceBounds, Sem.run_bind, Sem.run_pure, Result.andThen_ok]
                rw [run_sliceBound (by omega) (by omega)]; rfl
              · simp only [Instr.sliceBounds, Sem.run_bind, Sem.run_pure, Result.andThen_ok]
                rw [run_sliceBound (by omega) (by omega)]
                simp only [Result.andThen_ok, Sem.run_bind]
                rw [run_sliceBound (by omega) (by omega)]; rfl
          · rw [if_pos hms]
            rcases ho hh hhi with ⟨rfl, rfl, rfl⟩ | ⟨kh, _, rfl⟩
            · rw [hms] at hmh; simp at hmh
            · rcases ho hl hli with ⟨rfl, rfl, rfl⟩ | ⟨kl, _, rfl⟩
              · simp only [Instr.sliceBounds, Sem.run_bind, Sem.run_pure, Result.andThen_ok]
                rw [run_sliceBound (by omega) (by omega)]
                simp only [Result.andThen_ok, Sem.run_bind]
                rw [run_sliceBound (by omega) (by omega)]; rfl
              · simp only [Instr.sliceBounds, Sem.run_bind, Sem.run_pure, Result.andThen_ok]
                rw [run_sliceBound (by omega) (by omega)]
                simp only [Result.andThen_ok, Sem.run_bind]
                rw [run_sliceBound (by omega) (by omega)]
                simp only [Result.andThen_ok, Sem.run_bind]
                rw [run_sliceBound (by omega) (by omega)]; rfl
        · cases h
theorem sliceA_ok (hT : TyOk P T) (hR : R T F ρ s W) {t : TypeId} {x r : AV} {lo hi mx : Option AV} (h : sliceA T t x lo hi mx s = some r) {u : Value} {l' h' m' : Option Value} (hu : VR T F ρ x u) (hl : OV T F ρ lo l') (hh : OV T F ρ hi h') (hm : OV T F ρ mx m') :
    Says P T F ρ W r (Instr.sliceAt t u l' h' m') := by
  unfold sliceA at h
  cases hd : und T t with
  | none => rw [hd] at h; cases h
  | some d =>
    have hun := und_ok hT hd
    rw [hd] at h
    cases d with
    | string =>
      simp only at h
      cases x with
      | str b =>
        cases mx with
        | some a => cases h
        | none =>
          simp only at h
          cases hb : bounds b.length b.length lo hi none with
          | none => rw [hb] at h; cases h
          | some q =>
            rw [hb] at h
            simp only [Option.map_some, Option.some.injEq] at h; subst h
            cases hu with
            | str _ bb hbb =>
              have hsz : bb.size = b.length := by rw [← hbb]; simp
              cases m' with
              | some v => exact hm.elim
              | none =>
                obtain ⟨k1, k2, k3, k4, k5⟩ := bounds_ok (P := P) (W := W) (T := T) (F := F) (ρ := ρ) (Nat.le_refl _) hb hl hh (mx := none) (m' := none) trivial false
                refine ⟨.string (bb.extract q.1 q.2.1), ?_, .str _ _ ?_⟩
                · simp only [Instr.sliceAt, Sem.run_bind, run_underlying hun, Result.andThen_ok, Instr.slice, Option.isSome_none, Bool.false_eq_true, if_false]
                  rw [hsz]
                  simp only [Sem.run_bind, k1, Result.andThen_ok, Sem.run_pure]
                · subst hbb
                  rw [Lib.extract_data]
      | _ => cases mx <;> cases h
    | slice e =>
      simp only at h
      cases hly : lay T e with
      | none => rw [hly] at h; cases h
      | some zz =>
        obtain ⟨z, ag⟩ := zz
        rw [hly] at h
        simp only [Option.bind_some] at h
        cases x with
        | nils =>
          simp only at h
          cases hb : bounds 0 0 lo hi mx with
          | none => rw [hb] at h; cases h
          | some q =>
            rw [hb] at h
            simp only [Option.map_some, Option.some.injEq] at h; subst h
            cases hu
            obtain ⟨k1, k2, k3, k4, k5⟩ := bounds_ok (P := P) (W := W) (Nat.le_refl _) hb hl hh hm true
            refine ⟨.slice none 0 0, ?_, .nils⟩
            have e1 : q.1 = 0 := by omega
            have e2 : q.2.1 = 0 := by omega
            have e3 : q.2.2 = 0 := by omega
            simp only [Instr.sliceAt, Sem.run_bind, run_underlying hun, Result.andThen_ok, Instr.slice, k1, run_sizeOf_lay hT hly, e1, e2, e3, Sem.run_pure]
            have e4 : (if mx.isSome = true then 0 else 0) = 0 := by split <;> rfl
            simp [e4]
        | sl ex l =>
          simp only at h
          split at h
          · rename_i hhd
            cases hb : bounds l.length l.length lo hi mx with
            | none => rw [hb] at h; cases h
            | some q =>
              rw [hb] at h
              simp only [Option.map_some, Option.some.injEq] at h; subst h
              obtain ⟨a, c, rfl, hc, hx, hne⟩ := sl_inv hu
              have hn0 := sl_none hu
              obtain ⟨k1, k2, k3, k4, k5⟩ := bounds_ok (P := P) (W := W) hc hb hl hh hm true
              refine ⟨.slice (if (if mx.isSome then q.2.2 else c) = q.1 then a else a.map (·.add (q.1 * z))) (q.2.1 - q.1) ((if mx.isSome then q.2.2 else c) - q.1), ?_, ?_⟩
              · simp only [Instr.sliceAt, Sem.run_bind, run_underlying hun, Result.andThen_ok, Instr.slice, k1, run_sizeOf_lay hT hly, Sem.run_pure]
              · have hexc : ∀ ex', ex' = (if mx.isSome then q.2.2 == q.2.1 else ex && q.2.1 == l.length) → ex' = true → (if mx.isSome then q.2.2 else c) - q.1 = q.2.1 - q.1 := by
                  intro ex' he ht
                  rw [he] at ht
                  by_cases hs : mx.isSome = true
                  · rw [if_pos hs] at ht ⊢; have : q.2.2 = q.2.1 := by simpa using ht
                    omega
                  · rw [if_neg hs] at ht ⊢
                    simp only [Bool.and_eq_true, beq_iff_eq] at ht
                    have := hx ht.1; omega
                have hlen : ((l.drop q.1).take (q.2.1 - q.1)).length = q.2.1 - q.1 := by simp; omega
                by_cases hemp : q.2.1 = q.1
                · have : (l.drop q.1).take (q.2.1 - q.1) = [] := by rw [hemp]; simp
                  have hz0 : q.2.1 - q.1 = 0 := by omega
                  rw [this, hz0]
                  exact .sl0 _ _ _ (fun ht => by have := hexc _ rfl ht; omega) (fun hn => by
                    by_cases hM : (if mx.isSome then q.2.2 else c) = q.1
                    · rw [hM]; omega
                    · rw [if_neg hM] at hn
                      have h0 := hn0 (by simpa using hn)
                      split <;> omega)
                · have hlne : l ≠ [] := by intro e; subst e; simp at k4; omega
                  obtain ⟨β, b, z', rfl, hz, w, hf, hv⟩ := hne hlne
                  have hzz : z' = z := by
                    cases l with
                    | nil => exact absurd rfl hlne
                    | cons v l => have := hz 0 (by simp); simp at hhd this; omega
                  subst hzz
                  have hm1 : ¬ (if mx.isSome then q.2.2 else c) = q.1 := by split <;> omega
                  rw [if_neg hm1]
                  have hq : q.2.1 - q.1 = ((l.drop q.1).take (q.2.1 - q.1)).length := hlen.symm
                  have hgoal : VR T F ρ (.sl (if mx.isSome then q.2.2 == q.2.1 else ex && q.2.1 == l.length) ((l.drop q.1).take (q.2.1 - q.1))) (.slice (some ⟨β, b + q.1 * z', none⟩) ((l.drop q.1).take (q.2.1 - q.1)).length ((if mx.isSome then q.2.2 else c) - q.1)) := by
                    refine .sl _ _ β (b + q.1 * z') z' _ (fun i j => w (q.1 + i) j) (by rw [hlen]; split <;> omega) (fun ht => by rw [hlen]; exact hexc _ rfl ht) (fun i hi => ?_) (fun i j hi hj => ?_) (fun i j hi hj => ?_)
                    · simp only [List.getElem_take, List.getElem_drop]; exact hz _ _
                    · rw [hlen] at hi
                      have := hf (q.1 + i) j (by omega) hj
                      rw [Nat.add_mul, ← Nat.add_assoc] at this; exact this
                    · simp only [List.getElem_take, List.getElem_drop] at hj ⊢
                      exact hv _ _ _ hj
                  rw [hlen] at hgoal
                  simp only [Option.map_some, Addr.add_lit]
                  exact hgoal
          · cases h
        | ref id off n cap e' =>
          simp only at h
          cases hb0 : s.h id with
          | none => rw [hb0] at h; cases h
          | some bk =>
            rw [hb0] at h
            cases bk with
            | cells cc ee exx wr =>
              simp only at h
              split at h
              · rename_i hcd
                obtain ⟨rfl, hz0, hof⟩ := hcd
                cases hu with
                | ref _ _ _ _ _ β size c z2 ag2 hρ hz2 hn hk hk2 =>
                  rw [hly] at hz2; cases hz2
                  obtain ⟨β2, z3, o, g1, g2, g3, g4⟩ := hR.lt hb0
                  rw [hρ] at g1; cases g1
                  have hcs : cc.length ≤ size := by cases o <;> first | exact g3.2.2.1 | exact g3.elim
                  have hroom : (roomA cap (cc.length - off) z) ≤ c := by
                    cases cap with
                    | some k => have := (hk k rfl).1; simp only [roomA]; omega
                    | none =>
                      simp only [roomA]
                      have := hk2 rfl
                      refine (Nat.div_le_iff_le_mul_add_pred hz0).2 ?_
                      rw [Nat.mul_comm]; omega
                  cases hb : bounds n (roomA cap (cc.length - off) z) lo hi mx with
                  | none => rw [hb] at h; cases h
                  | some q =>
                    rw [hb] at h
                    simp only [Option.map_some, Option.some.injEq] at h
                    obtain ⟨k1, k2, k3, k4, k5⟩ := bounds_ok (P := P) (W := W) hroom hb hl hh hm true
                    refine ⟨.slice (if (if mx.isSome then q.2.2 else c) = q.1 then some ⟨β, off, none⟩ else (some (⟨β, off, none⟩ : Addr)).map (·.add (q.1 * z))) (q.2.1 - q.1) ((if mx.isSome then q.2.2 else c) - q.1), ?_, ?_⟩
                    · simp only [Instr.sliceAt, Sem.run_bind, run_underlying hun, Result.andThen_ok, Instr.slice, k1, run_sizeOf_lay hT hly, Sem.run_pure]
                    · have hM : q.2.1 ≤ (if mx.isSome then q.2.2 else c) ∧ (if mx.isSome then q.2.2 else c) ≤ c := by split <;> omega
                      split at h
                      · rename_i hz1
                        subst h
                        rw [hz1.2, Nat.sub_self]
                        exact .sl0 _ _ _ (fun ht => by cases ht) (fun hn => by first | (cases hn; done) | (by_cases hM : (if mx.isSome then q.2.2 else c) = q.1 <;> simp [hM] at hn; done) | (by_cases hM : (if mx.isSome then q.2.2 else c) = q.1; · (rw [if_pos hM] at hn; cases hn); · (rw [if_neg hM] at hn; cases hn)))
                      · rename_i hz1
                        subst h
                        have haddr : (if (if mx.isSome then q.2.2 else c) = q.1 then some (⟨β, off, none⟩ : Addr) else (some (⟨β, off, none⟩ : Addr)).map (·.add (q.1 * z))) = some ⟨β, off + q.1 * z, none⟩ := by
                          by_cases hq : (if mx.isSome = true then q.2.2 else c) = q.1
                          · have : q.1 = 0 := by
                              rcases Nat.eq_zero_or_pos q.1 with h' | h'
                              · exact h'
                              · exact absurd ⟨by omega, by omega⟩ hz1
                            rw [if_pos hq, this]; simp
                          · rw [if_neg hq]; simp only [Option.map_some, Addr.add_lit]
                        rw [haddr]
                        have hsplit : ∀ M : Nat, q.1 ≤ M → off + q.1 * z + (M - q.1) * z = off + M * z := fun M hM => by
                          rw [Nat.add_assoc, ← Nat.add_mul, Nat.add_sub_cancel' hM]
                        refine .ref _ _ _ _ _ β size _ z ag hρ hly (by omega) (fun k hk' => ?_) (fun hk' => ?_)
                        · by_cases hs : mx.isSome = true
                          · rw [if_pos hs] at hk' ⊢
                            simp only [Option.some.injEq] at hk'
                            refine ⟨hk', ?_⟩
                            rw [hsplit _ (by omega)]
                            have hle : off + c * z ≤ size := by
                              cases cap with
                              | some k => exact (hk k rfl).2
                              | none => have := hk2 rfl; omega
                            have := Nat.mul_le_mul_right z (show q.2.2 ≤ c by rw [if_pos hs] at hM; omega)
                            omega
                          · rw [if_neg hs] at hk' ⊢
                            cases cap with
                            | none => cases hk'
                            | some k =>
                              simp only [Option.map_some, Option.some.injEq] at hk'
                              obtain ⟨e1, e2⟩ := hk k rfl
                              refine ⟨by omega, ?_⟩
                              rw [hsplit _ (by rw [if_neg hs] at hM; omega)]; exact e2
                        · by_cases hs : mx.isSome = true
                          · rw [if_pos hs] at hk'; cases hk'
                          · rw [if_neg hs] at hk' ⊢
                            cases cap with
                            | some k => cases hk'
                            | none => rw [hsplit _ (by rw [if_neg hs] at hM; omega)]; exact hk2 rfl
              · cases h
            | _ => cases h
        | _ => cases h
    | array n e =>
      simp only at h
      cases x with
      | ptr id off =>
        simp only at h
        cases hly : lay T e with
        | none => rw [hly] at h; cases h
        | some zz =>
          obtain ⟨z, ag⟩ := zz
          rw [hly] at h
          simp only [Option.bind_some] at h
          cases hb0 : s.h id with
          | none => rw [hb0] at h; cases h
          | some bk =>
            rw [hb0] at h
            cases bk with
            | cells cc ee exx wr =>
              simp only at h
              split at h
              · rename_i hcd
                cases hu with
                | ptr _ _ β size hρ =>
                  obtain ⟨β2, z3, o, g1, g2, g3, g4⟩ := hR.lt hb0
                  rw [hρ] at g1; cases g1
                  have hcs : cc.length ≤ size := by cases o <;> first | exact g3.2.2.1 | exact g3.elim
                  cases hb : bounds n n lo hi mx with
                  | none => rw [hb] at h; cases h
                  | some q =>
                    rw [hb] at h
                    simp only [Option.map_some, Option.some.injEq] at h
                    obtain ⟨k1, k2, k3, k4, k5⟩ := bounds_ok (P := P) (W := W) (Nat.le_refl n) hb hl hh hm false
                    have hMe : (if mx.isSome then q.2.2 else n) = q.2.2 := by
                      cases mx with
                      | none => exact (k5 rfl).symm
                      | some a => rfl
                    rw [hMe] at k1
                    refine ⟨.slice (some (if q.2.2 = q.1 then ⟨β, off, none⟩ else (⟨β, off, none⟩ : Addr).add (q.1 * z))) (q.2.1 - q.1) (q.2.2 - q.1), ?_, ?_⟩
                    · simp only [Instr.sliceAt, Sem.run_bind, run_underlying hun, Result.andThen_ok, Instr.sureAddr, Sem.run_pure, k1, run_sizeOf_lay hT hly]
                    · split at h
                      · rename_i hz1
                        subst h
                        rw [hz1.2, Nat.sub_self]
                        exact .sl0 _ _ _ (fun ht => by cases ht) (fun hn => by first | (cases hn; done) | (by_cases hM : (if mx.isSome then q.2.2 else c) = q.1 <;> simp [hM] at hn; done) | (by_cases hM : (if mx.isSome then q.2.2 else c) = q.1; · (rw [if_pos hM] at hn; cases hn); · (rw [if_neg hM] at hn; cases hn)))
                      · rename_i hz1
                        subst h
                        have haddr : (if q.2.2 = q.1 then (⟨β, off, none⟩ : Addr) else (⟨β, off, none⟩ : Addr).add (q.1 * z)) = ⟨β, off + q.1 * z, none⟩ := by
                          split
                          · rename_i hq
                            have : q.1 = 0 := by
                              rcases Nat.eq_zero_or_pos q.1 with h' | h'
                              · exact h'
                              · exact absurd ⟨by omega, by omega⟩ hz1
                            rw [this]; simp
                          · rw [Addr.add_lit]
                        rw [haddr]
                        refine .ref _ _ _ _ _ β size _ z ag hρ hly (by omega) (fun k hk' => ?_) (fun hk' => by cases hk')
                        simp only [Option.some.injEq] at hk'
                        refine ⟨hk', ?_⟩
                        rw [Nat.add_assoc, ← Nat.add_mul, Nat.add_sub_cancel' (by omega)]
                        have := Nat.mul_le_mul_right z (show q.2.2 ≤ n by omega)
                        omega
              · cases h
            | _ => cases h
      | _ => cases h
    | _ => cases h
end
end Go.Proofs.YtdehdahimkcakaaGreatDoor.Ai
