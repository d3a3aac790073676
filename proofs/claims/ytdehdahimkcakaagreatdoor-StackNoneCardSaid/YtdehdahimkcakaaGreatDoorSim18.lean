/- Calls. -/
import Derived.Test.YtdehdahimkcakaaGreatDoorSim17
set_option linter.unusedVariables false
set_option linter.unusedSimpArgs false
namespace Go.Proofs.YtdehdahimkcakaaGreatDoor.Ai
open Go

section
variable {P : Program} {T : Ty} {F : Fz} {ρ ρ' : Rho} {s : St} {W : World}

theorem Held.of_freeze (hR : R T F ρ s W) {id : Nat} {c : List AV} {e : TypeId} {ex wr : Bool} (hb : s.h id = some (.cells c e ex wr)) :
    ∃ F', FLe F F' ∧ R T F' ρ (s.set id none) W ∧ Step s ρ F W (s.set id none) ρ F' W ∧ Held T F' ρ s id := by
  obtain ⟨β, z, C, fr, h1, h2, h3, h4, h5, h6⟩ := hR.freeze hb
  refine ⟨_, h6.fz, h5, h6, fun c' e' ex' wr' hb' => ?_⟩
  rw [hb] at hb'; cases hb'
  refine ⟨β, z, h1, fun j hj => ⟨C[j]'(by omega), ?_, (h4 j hj (by omega)).mono h6.fz (RLe.refl _)⟩⟩
  rw [fput_in hj]
  exact Array.getElem?_eq_getElem (by omega)
theorem drop_cons (s : St) (n : Nat) (l : List Nat) : s.drop (n :: l) = (s.set n none).drop l := rfl
theorem drop_nx : ∀ (l : List Nat) (s : St), (s.drop l).nx = s.nx := by
  intro l
  induction l with
  | nil => intro s; rfl
  | cons n l ih => intro s; rw [drop_cons, ih]; rfl
theorem freeze_all {s0 : St} : ∀ (ids : List Nat) (s : St) (F : Fz), R T F ρ s W → (∀ id ∈ ids, (s.h id = s0.h id ∧ isCells s0 id) ∨ Held T F ρ s0 id) →
    ∃ F', FLe F F' ∧ R T F' ρ (s.drop ids) W ∧ Step s ρ F W (s.drop ids) ρ F' W ∧ ∀ id ∈ ids, Held T F' ρ s0 id := by
  intro ids
  induction ids with
  | nil => intro s F hR _; exact ⟨F, FLe.refl _, hR, Step.refl _ _ _ _, fun id h => by cases h⟩
  | cons n l ih =>
    intro s F hR hh
    have step1 : ∃ F1, FLe F F1 ∧ R T F1 ρ (s.set n none) W ∧ Step s ρ F W (s.set n none) ρ F1 W ∧ Held T F1 ρ s0 n := by
      rcases hh n (List.mem_cons_self ..) with ⟨h1, c, e, ex, wr, h2⟩ | h1
      · obtain ⟨F1, g1, g2, g3, g4⟩ := Held.of_freeze hR (h1.trans h2)
        exact ⟨F1, g1, g2, g3, fun c' e' ex' wr' hb' => g4 c' e' ex' wr' (h1.trans hb')⟩
      · exact ⟨F, FLe.refl _, (hR.drop n).1, (hR.drop n).2, h1⟩
    obtain ⟨F1, g1, g2, g3, g4⟩ := step1
    obtain ⟨F2, k1, k2, k3, k4⟩ := ih (s.set n none) F1 g2 (fun id hid => by
      by_cases hin : id = n
      · subst hin; exact .inr g4
      · rcases hh id (List.mem_cons_of_mem _ hid) with ⟨h1, h2⟩ | h1
        · exact .inl ⟨by rw [set_ne _ _ hin]; exact h1, h2⟩
        · exact .inr (h1.mono g1))
    refine ⟨F2, g1.trans k1, k2, g3.trans k3, fun id hid => ?_⟩
    cases hid with
    | head => exact g4.mono k1
    | tail _ h => exact k4 id h
theorem purify_list (hR : R T F ρ s W) {k : Nat} {l l' : List AV} {ids : List Nat} (h : purL (pur T s k) l = some (l', ids)) {us : List Value} (hcr : CR T F ρ l us) :
    ∃ F', FLe F F' ∧ R T F' ρ (s.drop ids) W ∧ Step s ρ F W (s.drop ids) ρ F' W ∧ ∀ ρ', CR T F' ρ' l' us := by
  have hids := purL_ids (p := isCells s) (pur_ids k) _ _ _ h
  obtain ⟨F', g1, g2, g3, g4⟩ := freeze_all (s0 := s) ids s F hR (fun id hid => .inl ⟨rfl, hids id hid⟩)
  refine ⟨F', g1, g2, g3, fun ρ' => ?_⟩
  obtain ⟨q1, q2⟩ := purL_get _ _ _ h
  refine ⟨by rw [q1]; exact hcr.1, fun i a b => ?_⟩
  obtain ⟨ji, k1, k2⟩ := q2 i (by omega) a
  exact (pur_ok k _ _ _ k1 (fun x hx => g4 x (k2 x hx))).1 _ ((hcr.2 i (by omega) b).mono g1 (RLe.refl _))
theorem purify (hR : R T F ρ s W) {k : Nat} {v a : AV} {ids : List Nat} (h : pur T s k v = some (a, ids)) {u : Value} (hu : VR T F ρ v u) :
    ∃ F', FLe F F' ∧ R T F' ρ (s.drop ids) W ∧ Step s ρ F W (s.drop ids) ρ F' W ∧ ∀ ρ', VR T F' ρ' a u := by
  have hids := pur_ids k _ _ _ h
  obtain ⟨F', g1, g2, g3, g4⟩ := freeze_all (s0 := s) ids s F hR (fun id hid => .inl ⟨rfl, hids id hid⟩)
  exact ⟨F', g1, g2, g3, fun ρ' => (pur_ok k _ _ _ h g4).1 _ (hu.mono g1 (RLe.refl _))⟩

def ρ0 : Rho := fun _ => none
theorem R.none (hR : R T F ρ s W) : R T F ρ0 St.empty W :=
  ⟨(by intro id b h; cases h), fun i j β z z' h => absurd rfl h, fun a v h => ⟨(hR.fz a v h).1, fun i z h => absurd rfl h⟩, fun i _ => rfl⟩
/-- A call that met none of the blocks leaves them as they are. -/
theorem apart (hR : R T F ρ s W) {s2 : St} {ρ2 : Rho} {F2 : Fz} {W2 : World} (hS : Step St.empty ρ0 F W s2 ρ2 F2 W2) (hfz : ∀ a v, F2 a = some v → W2.cell? a = some v) :
    R T F2 ρ s W2 ∧ Step s ρ F W s ρ F2 W2 := by
  have hdead : ∀ β, ¬ lives ρ0 St.empty β := fun β ⟨i, z, h, _⟩ => h rfl
  refine ⟨⟨fun id b hb => ?_, hR.inj, fun a v ha => ⟨hfz a v ha, fun i z hi hc => ?_⟩, hR.fresh⟩, ⟨RLe.refl _, hS.fz, hS.os, hS.tape, hS.output, hS.size, fun β hβ _ => hS.same β hβ (hdead β), fun _ h _ => h, fun a v ha hb _ => hS.cold a v ha hb (hdead _)⟩⟩
  · obtain ⟨β, z, o, h1, h2, h3, h4⟩ := hR.lt hb
    exact ⟨β, z, o, h1, by rw [hS.same β h4 (hdead β)]; exact h2, h3.mono hS.fz (RLe.refl _)⟩
  · obtain ⟨b, hb⟩ := Option.ne_none_iff_exists'.1 hi
    obtain ⟨β, z', o, h1, h2, h3, h4⟩ := hR.lt hb
    rw [hc] at h1; cases h1
    exact (hR.fz a v (hS.cold a v ha h4 (hdead _))).2 i z hi hc
/-- .. and what it froze may be forgotten. -/
theorem apart_flat (hR : R T F ρ s W) {s2 : St} {ρ2 : Rho} {F1 F2 : Fz} {W2 : World} (hF : FLe F F1) (hS : Step St.empty ρ0 F1 W s2 ρ2 F2 W2) :
    R T F ρ s W2 ∧ Step s ρ F W s ρ F W2 := by
  have hdead : ∀ β, ¬ lives ρ0 St.empty β := fun β ⟨i, z, h, _⟩ => h rfl
  refine ⟨⟨fun id b hb => ?_, hR.inj, fun a v ha => ⟨?_, (hR.fz a v ha).2⟩, hR.fresh⟩, ⟨RLe.refl _, FLe.refl _, hS.os, hS.tape, hS.output, hS.size, fun β hβ _ => hS.same β hβ (hdead β), fun _ h _ => h, fun _ _ h _ _ => h⟩⟩
  · obtain ⟨β, z, o, h1, h2, h3, h4⟩ := hR.lt hb
    exact ⟨β, z, o, h1, by rw [hS.same β h4 (hdead β)]; exact h2, h3⟩
  · have h1 := (hR.fz a v ha).1
    have h2 := cell_lt h1
    unfold World.cell? at h1 ⊢
    rw [hS.same a.block h2 (hdead _)]; exact h1

theorem DoesN.map {T' : Ty} {id id' : Nat} {s' s1 s1' : St} {r r1 : AV} {ρ1 : Rho} {F1 : Fz} {m : Sem Next} (h : DoesN P T id s ρ F W r s' m) (hm : ∀ v W', Good T id s ρ F W r s' v W' → Good T' id' s1 ρ1 F1 W r1 s1' v W') : DoesN P T' id' s1 ρ1 F1 W r1 s1' m := by
  rcases h with ⟨v, W', h1, h2⟩ | ⟨W', h1, h2⟩ | ⟨f, args, h1, h2⟩
  · exact .inl ⟨v, W', h1, hm _ _ h2⟩
  · exact .inr (.inl ⟨W', h1, hm _ _ h2⟩)
  · refine .inr (.inr ⟨f, args, h1, h2.mono fun e W' he => ?_⟩)
    cases e with
    | returned v => exact hm _ _ he
    | panicked c => exact he
    | outgrown => exact he
/-- A table of functions answers as the program's functions do. -/
def FunOk (P : Program) (E : Env) (cl : FuncId → List AV → St → Option (AV × St)) : Prop := ∀ (f : FuncId) (args : List AV) (s : St) (r : AV) (s' : St), cl f args s = some (r, s') →
  ∀ (vals : Array Value) (ρ : Rho) (F : Fz) (W : World), CR E.P F ρ args vals.toList → R E.P F ρ s W → GlobOk E.P E.glob F → DoesN P E.P s.nx s ρ F W r s' (callFunc f vals)
theorem Good.weaken {id : Nat} {r : AV} {s' : St} {v : Value} {W' : World} (h : Good T s.nx s ρ F W r s' v W') : Good T id s ρ F W r s' v W' := by
  obtain ⟨ρ1, F1, h1, h2, h3, h4, h5⟩ := h
  exact ⟨ρ1, F1, h1, h2, h3, fun i hi _ => h4 i hi (by omega), h5⟩
theorem mcall_ok {E : Env} {cl : FuncId → List AV → St → Option (AV × St)} (h : FunOk P E cl) (f : FuncId) : CallOk P (cx E cl f) := by
  intro dr g args s r s' hc vals ρ F W hcr hR hG id0
  have hG : GlobOk E.P E.glob F := hG
  have hc : mcall E cl f dr g args s = some (r, s') := hc
  unfold mcall at hc
  split at hc
  · cases hp : purL (pur E.P s 12) args with
    | none => rw [hp] at hc; cases hc
    | some as =>
      obtain ⟨as, ids⟩ := as
      rw [hp] at hc
      simp only [Option.bind_some] at hc
      cases hr : cl g as St.empty with
      | none => rw [hr] at hc; cases hc
      | some r2 =>
        obtain ⟨r2, s2⟩ := r2
        rw [hr] at hc
        simp only [Option.bind_some] at hc
        cases hv : pur E.P s2 12 r2 with
        | none => rw [hv] at hc; cases hc
        | some v =>
          obtain ⟨v, ids2⟩ := v
          rw [hv] at hc
          simp only [Option.bind_some] at hc
          obtain ⟨F1, g1, g2, g3, g4⟩ := purify_list hR hp hcr
          refine (h g as St.empty r2 s2 hr vals ρ0 F1 W (g4 ρ0) g2.none (hG.mono g1)).map ?_
          intro u W' ⟨ρ2, F2, k1, k2, k3, k4, k5⟩
          obtain ⟨F3, m1, m2, m3, m4⟩ := purify k2 hv k1
          have hS := k3.trans m3
          have hfz : ∀ a v, F3 a = some v → W'.cell? a = some v := fun a v ha => (m2.fz a v ha).1
          split at hc
          · rename_i hemp
            simp only [Option.some.injEq, Prod.mk.injEq] at hc; obtain ⟨rfl, rfl⟩ := hc
            by_cases hflat : v.flat = true
            · obtain ⟨q1, q2⟩ := apart_flat hR g1 hS
              exact ⟨ρ, F, flat_ok (m4 ρ) hflat, q1, q2, fun _ _ _ => rfl, Nat.le_refl _⟩
            · have hnil : ids = [] := by
                simp only [Bool.or_eq_true, hflat, or_false] at hemp
                simpa using hemp
              subst hnil
              obtain ⟨q1, q2⟩ := apart g2 hS hfz
              exact ⟨ρ, F3, m4 ρ, q1, g3.trans q2, fun _ _ _ => rfl, Nat.le_refl _⟩
          · split at hc
            · cases hc
            · simp only [Option.some.injEq, Prod.mk.injEq] at hc; obtain ⟨rfl, rfl⟩ := hc
              obtain ⟨q1, q2⟩ := apart g2 hS hfz
              exact ⟨ρ, F3, m4 ρ, q1, g3.trans q2, fun _ _ _ => rfl, by rw [drop_nx]; exact Nat.le_refl _⟩
  · have hdr : dr = false := by
      cases dr with
      | false => rfl
      | true => simp at hc
    subst hdr
    simp only [Bool.false_eq_true, if_false] at hc
    cases hr : cl g args s with
    | none => rw [hr] at hc; cases hc
    | some r2 =>
      obtain ⟨r2, s2⟩ := r2
      rw [hr] at hc
      simp only [Option.bind_some] at hc
      refine (h g args s r2 s2 hr vals ρ F W hcr hR hG).map ?_
      intro u W' hgood
      split at hc
      · cases hv : pur E.P s2 12 r2 with
        | none => rw [hv] at hc; cases hc
        | some v =>
          obtain ⟨v, ids2⟩ := v
          rw [hv] at hc
          simp only [Option.map_some, Option.some.injEq, Prod.mk.injEq] at hc; obtain ⟨rfl, rfl⟩ := hc
          obtain ⟨ρ2, F2, k1, k2, k3, k4, k5⟩ := hgood
          obtain ⟨F3, m1, m2, m3, m4⟩ := purify k2 hv k1
          exact ⟨ρ2, F3, m4 ρ2, m2, k3.trans m3, fun i hi _ => k4 i hi (by omega), by rw [drop_nx]; exact k5⟩
      · simp only [Option.some.injEq, Prod.mk.injEq] at hc; obtain ⟨rfl, rfl⟩ := hc
        exact hgood.weaken

/-- A result's value. -/
def resM (ts : Array Value) : ResultVar → Sem Value
  | .tmp t => pure (ts.getD t undef)
  | .cell a t => do loadVar t (← asAddr (ts.getD a undef))
theorem resA_ok {E : Env} (hT : TyOk P E.P) (hR : R E.P F ρ s W) {tm : List AV} {ts : Array Value} (hTM : TM E.P F ρ tm ts) : ∀ (l : List ResultVar) (vs : List AV), resA E.P (gt tm) s l = some vs →
    ∃ us : List Value, (l.mapM (resM ts)).run P W = .ok us W ∧ CR E.P F ρ vs us := by
  intro l
  induction l with
  | nil => intro vs h; simp only [resA, Option.some.injEq] at h; subst h; exact ⟨[], by simp, CR.nil⟩
  | cons x l ih =>
    intro vs h
    cases x with
    | tmp t =>
      simp only [resA] at h
      cases hl : resA E.P (gt tm) s l with
      | none => rw [hl] at h; cases h
      | some vs' =>
        rw [hl] at h
        simp only [Option.map_some, Option.some.injEq] at h; subst h
        obtain ⟨us, h1, h2⟩ := ih _ hl
        exact ⟨ts.getD t undef :: us, by simp only [List.mapM_cons, resM, Sem.run_bind, Sem.run_pure, Result.andThen_ok, h1], CR.cons (hTM.gt t) h2⟩
    | cell a t =>
      simp only [resA] at h
      cases hly : lay E.P t with
      | none => rw [hly] at h; cases h
      | some y =>
        obtain ⟨z, ag⟩ := y
        rw [hly] at h
        simp only [Option.bind_some] at h
        cases hld : load z ag (gt tm a) s with
        | none => rw [hld] at h; cases h
        | some v =>
          rw [hld] at h
          simp only [Option.bind_some] at h
          cases hl : resA E.P (gt tm) s l with
          | none => rw [hl] at h; cases h
          | some vs' =>
            rw [hl] at h
            simp only [Option.map_some, Option.some.injEq] at h; subst h
            obtain ⟨us, h1, h2⟩ := ih _ hl
            obtain ⟨u, k1, k2⟩ := load_ok hT hR hly hld (hTM.gt a)
            have hk : (resM ts (.cell a t)).run P W = .ok u W := by
              have hptr : ∃ ad, ts.getD a undef = .pointer (some ad) := by
                have hv := hTM.gt a
                revert hv
                generalize ts.getD a undef = w
                intro hv
                unfold load at hld
                split at hld
                · rename_i e; rw [e] at hv; cases hv; exact ⟨_, rfl⟩
                · rename_i e; rw [e] at hv; cases hv; exact ⟨_, rfl⟩
                · cases hld
              obtain ⟨ad, had⟩ := hptr
              simp only [resM]
              rw [had] at k1 ⊢
              exact k1
            exact ⟨u :: us, by simp only [List.mapM_cons, Sem.run_bind, Sem.run_pure, Result.andThen_ok, h1, hk], CR.cons k2 h2⟩
theorem result_ok {E : Env} (hT : TyOk P E.P) (hR : R E.P F ρ s W) {tm : List AV} {ts : Array Value} (hTM : TM E.P F ρ tm ts) {fn : Func} {r : AV} (h : result E.P fn (gt tm) s = some r) : ∃ v, (results fn ts).run P W = .ok v W ∧ VR E.P F ρ r v := by
  unfold result at h
  cases hr : resA E.P (gt tm) s fn.results.toList with
  | none => rw [hr] at h; cases h
  | some vs =>
    rw [hr] at h
    simp only [Option.map_some, Option.some.injEq] at h
    obtain ⟨us, h1, h2⟩ := resA_ok hT hR hTM _ _ hr
    have hrun : (results fn ts).run P W = .ok (if h : us.toArray.size = 1 then us.toArray[0] else .tuple us.toArray) W := by
      have e : results fn ts = (do let vs ← fn.results.mapM (resM ts); pure (if h : vs.size = 1 then vs[0] else .tuple vs)) := by
        unfold results
        congr 1
      rw [e, Array.mapM_eq_mapM_toList]
      simp only [Sem.run_bind, Sem.run_map, h1, Result.andThen_ok, Sem.run_pure]
    refine ⟨_, hrun, ?_⟩
    subst h
    match vs, us, h2 with
    | [v], [u], h2 => exact h2.2 0 (by simp) (by simp)
    | [], [], h2 => exact .tup _ _ rfl (fun i h => by simp at h)
    | a :: b :: l, a' :: b' :: l', h2 =>
      have : ¬ ((a' :: b' :: l').toArray.size = 1) := by simp
      rw [dif_neg this]
      exact .tup _ _ (by simpa using h2.1) (fun i x y => by simpa using h2.2 i x (by simpa using y))
    | [], _ :: _, h2 => exact absurd h2.1 (by simp)
    | _ :: _, [], h2 => exact absurd h2.1 (by simp)
    | [_], _ :: _ :: _, h2 => exact absurd h2.1 (by simp)
    | _ :: _ :: _, [_], h2 => exact absurd h2.1 (by simp)

structure EnvOk (P : Program) (E : Env) : Prop where
  mixed : P.follows .mixedOrders = true
  ty : TyOk P E.P
  eq : EqOk P E.P E.eqOk
  fns : ∀ f fn, E.fns f = some fn → P.funcs[f]? = some fn ∧ fn.name ≠ "runtime.NumGoroutine"
  prim : ∀ f g, E.prim f = some g → ∀ (args : List AV) (s : St) (r : AV) (s' : St), g args s = some (r, s') →
    ∀ (vals : Array Value) (ρ : Rho) (F : Fz) (W : World), CR E.P F ρ args vals.toList → R E.P F ρ s W → GlobOk E.P E.glob F → DoesN P E.P s.nx s ρ F W r s' (callFunc f vals)
theorem callN_zero (E : Env) : callN E 0 = fun _ _ _ => none := rfl
theorem callN_succ (E : Env) (n : Nat) : callN E (n + 1) = fun f args s => match E.prim f with
      | some g => g args s
      | none => match E.fns f with
        | none => none
        | some fn => match fn.body with
          | none => none
          | some c => finish E.P fn (code (cx E (callN E n) f) (loopN (cx E (callN E n) f) (E.kp f) n) c (frame fn args) s) := rfl
/-- What the interpreter answers, the program answers. -/
theorem callN_ok {E : Env} (hE : EnvOk P E) (hDr : ∀ (cl : FuncId → List AV → St → Option (AV × St)) (f : FuncId), CallOk P (cx E cl f) → DrawOk P (cx E cl f)) (n : Nat) : FunOk P E (callN E n) := by
  induction n with
  | zero => intro f args s r s' h; cases h
  | succ n ih =>
    intro f args s r s' h vals ρ F W hcr hR hG
    rw [callN_succ] at h
    simp only at h
    cases hp : E.prim f with
    | some g =>
      rw [hp] at h
      exact hE.prim f g hp args s r s' h vals ρ F W hcr hR hG
    | none =>
      rw [hp] at h
      simp only at h
      cases hf : E.fns f with
      | none => rw [hf] at h; cases h
      | some fn =>
        rw [hf] at h
        simp only at h
        cases hb : fn.body with
        | none => rw [hb] at h; cases h
        | some c =>
          rw [hb] at h
          simp only at h
          obtain ⟨hpf, hname⟩ := hE.fns f fn hf
          have hC := mcall_ok (P := P) ih f
          have hD : DrawOk P (cx E (callN E n) f) := hDr _ _ hC
          have hT : TyOk P (cx E (callN E n) f).P := hE.ty
          have hEq : EqOk P (cx E (callN E n) f).P (cx E (callN E n) f).eqOk := hE.eq
          have hL := loop_ok hE.mixed hT hEq hC hD (E.kp f) n
          refine .inr (.inr ⟨f, vals, ?_, ?_⟩)
          · have hnm : (fn.name == "runtime.NumGoroutine") = false := by simpa using hname
            simp only [callFunc, Sem.run_bind, run_program, Result.andThen_ok, hpf, hnm, hb, Option.isNone_some, Bool.false_eq_true, if_false, Sem.run_pure]
          · cases hcode : code (cx E (callN E n) f) (loopN (cx E (callN E n) f) (E.kp f) n) c (frame fn args) s with
            | none => rw [hcode] at h; cases h
            | some out =>
              obtain ⟨e, tm', s1⟩ := out
              rw [hcode] at h
              have hfin : (e = .nm ∨ e = .rt) ∧ ∃ q, result E.P fn (gt tm') s1 = some q ∧ r = q ∧ s' = s1 := by
                cases e with
                | nm =>
                  simp only [finish] at h
                  cases hq : result E.P fn (gt tm') s1 with
                  | none => rw [hq] at h; cases h
                  | some q => rw [hq] at h; simp only [Option.map_some, Option.some.injEq, Prod.mk.injEq] at h; exact ⟨.inl rfl, q, rfl, h.1.symm, h.2.symm⟩
                | rt =>
                  simp only [finish] at h
                  cases hq : result E.P fn (gt tm') s1 with
                  | none => rw [hq] at h; cases h
                  | some q => rw [hq] at h; simp only [Option.map_some, Option.some.injEq, Prod.mk.injEq] at h; exact ⟨.inr rfl, q, rfl, h.1.symm, h.2.symm⟩
                | ex i => simp [finish] at h
                | gt l => simp [finish] at h
              obtain ⟨he, q, hq, rfl, rfl⟩ := hfin
              have hlen : args.length = vals.size := by simpa using hcr.1
              have hTM : TM E.P F ρ (frame fn args) (vals ++ Array.replicate (fn.ntmps - vals.size) undef) := by
                refine ⟨by simp [frame, hlen], fun i a b => ?_⟩
                simp only [frame]
                by_cases hi : i < args.length
                · rw [List.getElem_append_left hi, Array.getElem_append_left (by omega)]
                  have := hcr.2 i hi (by simp; omega)
                  simpa using this
                · rw [List.getElem_append_right (by omega), Array.getElem_append_right (by omega)]
                  simp only [List.getElem_replicate, Array.getElem_replicate]
                  exact .tup [] #[] rfl (fun i h => by simp at h)
              refine calls_of_wp hpf hb ?_
              refine code_ok hE.mixed hT hEq hC hD hL c (frame fn args) s e tm' s' hcode ρ F W ⟨_, []⟩ hR hG hTM rfl _ ?_
              intro a' W' haf
              obtain ⟨⟨ρ', F', k1, k2, k3, k4⟩, k5, k6⟩ := haf
              obtain ⟨v, hv1, hv2⟩ := result_ok (E := E) hE.ty k2 k1 hq
              have hgood : Good E.P s.nx s ρ F W r s' v W' := ⟨ρ', F', hv2, k2, k3, fun i hi _ => k4 i hi, k5⟩
              rcases he with rfl | rfl
              · exact ⟨k6, v, hv1, hgood⟩
              · exact ⟨k6, v, hv1, hgood⟩
end
end Go.Proofs.YtdehdahimkcakaaGreatDoor.Ai
