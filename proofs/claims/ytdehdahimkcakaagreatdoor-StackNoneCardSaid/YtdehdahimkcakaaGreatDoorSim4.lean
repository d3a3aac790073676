/- Loads, stores and new blocks. -/
import Derived.Test.YtdehdahimkcakaaGreatDoorSim3
set_option linter.unusedVariables false
set_option linter.unusedSimpArgs false
namespace Go.Proofs.YtdehdahimkcakaaGreatDoor.Ai
open Go

section
variable {P : Program} {T : Ty} {F : Fz} {ρ : Rho} {s : St} {W : World}

/-- What an operation does: it answers what r stands for, and the blocks are then s'. id: the number that it may take. -/
def Does (P : Program) (T : Ty) (id : Nat) (s : St) (ρ : Rho) (F : Fz) (W : World) (r : AV) (s' : St) (m : Sem Value) : Prop :=
  ∃ v W' ρ' F', m.run P W = .ok v W' ∧ VR T F' ρ' r v ∧ R T F' ρ' s' W' ∧ Step s ρ F W s' ρ' F' W' ∧ (∀ i, i < s.nx → i ≠ id → ρ' i = ρ i) ∧ s.nx ≤ s'.nx
def DoesU (P : Program) (T : Ty) (id : Nat) (s : St) (ρ : Rho) (F : Fz) (W : World) (s' : St) (m : Sem Unit) : Prop :=
  ∃ W' ρ' F', m.run P W = .ok () W' ∧ R T F' ρ' s' W' ∧ Step s ρ F W s' ρ' F' W' ∧ (∀ i, i < s.nx → i ≠ id → ρ' i = ρ i) ∧ s.nx ≤ s'.nx
theorem Says.does {r : AV} {m : Sem Value} (hR : R T F ρ s W) (id : Nat) (h : Says P T F ρ W r m) : Does P T id s ρ F W r s m := by
  obtain ⟨v, h1, h2⟩ := h
  exact ⟨v, W, ρ, F, h1, h2, hR, Step.refl _ _ _ _, fun _ _ _ => rfl, Nat.le_refl _⟩

/-- Cells that lie somewhere and stand for a list. -/
def At (T : Ty) (F : Fz) (ρ : Rho) (W : World) (cs : List AV) (β b : Nat) : Prop :=
  ∃ g : Nat → Value, ∀ j (h : j < cs.length), W.cell? ⟨β, b + j, none⟩ = some (g j) ∧ VR T F ρ cs[j] (g j)
theorem At.get {cs : List AV} {β b : Nat} (h : At T F ρ W cs β b) {j : Nat} {x : AV} (hx : cs[j]? = some x) : ∃ v, W.cell? ⟨β, b + j, none⟩ = some v ∧ VR T F ρ x v := by
  obtain ⟨g, hg⟩ := h
  obtain ⟨hj, rfl⟩ := List.getElem?_eq_some_iff.1 hx
  exact ⟨g j, hg j hj⟩
theorem At.loads {cs : List AV} {β b : Nat} (h : At T F ρ W cs β b) (off n : Nat) (hle : off + n ≤ cs.length) : ∃ vs : Array Value, (loadCells ⟨β, b + off, none⟩ n).run P W = .ok vs W ∧ CR T F ρ ((cs.drop off).take n) vs.toList := by
  obtain ⟨g, hg⟩ := h
  refine ⟨((List.range n).map fun j => g (off + j)).toArray, run_loadCells W _ n (fun j => g (off + j)) (fun j hj => ?_), ?_⟩
  · rw [Addr.add_lit, Nat.add_assoc]
    exact (hg (off + j) (by omega)).1
  · refine ⟨by simp; omega, fun i p q => ?_⟩
    simp only [List.getElem_take, List.getElem_drop, List.getElem_map, List.getElem_range]
    exact (hg (off + i) (by simp at p; omega)).2
theorem At.part_ok {cs : List AV} {β b : Nat} (hT : TyOk P T) {t : TypeId} {z off : Nat} {ag : Bool} (hl : lay T t = some (z, ag)) (h : At T F ρ W cs β b) {r : AV} (hp : Ai.part z ag off cs = some r) :
    Says P T F ρ W r (loadVar t ⟨β, b + off, none⟩) := by
  simp only [Says, loadVar, Sem.run_bind, run_isAgg_lay hT hl, Result.andThen_ok]
  unfold Ai.part at hp
  cases ag with
  | true =>
    simp only [if_true] at hp ⊢
    split at hp
    · rename_i hle
      simp only [Option.some.injEq] at hp; subst hp
      obtain ⟨vs, h1, h2⟩ := h.loads (P := P) off z hle
      exact ⟨.agg vs, by simp only [Sem.run_bind, run_sizeOf_lay hT hl, Result.andThen_ok, h1, Sem.run_pure], VR.agg_cr h2⟩
    · cases hp
  | false =>
    simp only [Bool.false_eq_true, if_false] at hp ⊢
    obtain ⟨v, h1, h2⟩ := h.get hp
    exact ⟨v, by rw [run_load]; simp [h1], h2⟩
theorem R.at (h : R T F ρ s W) {id : Nat} {c : List AV} {e : TypeId} {ex wr : Bool} (hb : s.h id = some (.cells c e ex wr)) : ∃ β z, ρ id = some (β, z) ∧ At T F ρ W c β 0 := by
  obtain ⟨β, z, o, h1, h2, h3, h4⟩ := h.lt hb
  cases o with
  | cells C e' fr =>
    obtain ⟨rfl, k2, k3, k4, k5, k6⟩ := h3
    refine ⟨β, z, h1, fun j => C.getD j undef, fun j hj => ?_⟩
    have hC : j < C.size := by omega
    have hc : W.cell? ⟨β, 0 + j, none⟩ = some C[j] := by simp [World.cell?, h2, hC]
    have hg : C.getD j undef = C[j] := by simp [Array.getD, hC]
    exact ⟨by simp only [hg]; exact hc, by simp only [hg]; exact k5 j hj hC⟩
  | _ => exact h3.elim
theorem load_ok (hT : TyOk P T) (hR : R T F ρ s W) {t : TypeId} {z : Nat} {ag : Bool} (hl : lay T t = some (z, ag)) {a r : AV} (h : load z ag a s = some r) {u : Value} (hu : VR T F ρ a u) :
    Says P T F ρ W r (Instr.loadAt t u) := by
  unfold load at h
  split at h
  · rename_i id off
    cases hu with
    | ptr _ _ β z1 h1 =>
      cases hb : s.h id with
      | none => rw [hb] at h; cases h
      | some b =>
        rw [hb] at h
        cases b with
        | cells c e ex wr =>
          obtain ⟨β', z', q1, q2⟩ := hR.at hb
          rw [h1] at q1; cases q1
          have := q2.part_ok (P := P) hT hl h
          rw [Nat.zero_add] at this
          exact this
        | _ => cases h
  · rename_i cs off
    cases hu with
    | pel _ _ β b w hf hv =>
      have : At T F ρ W cs β b := ⟨w, fun j hj => ⟨(hR.fz _ _ (hf j hj)).1, hv j hj⟩⟩
      exact this.part_ok hT hl h
  · cases h

theorem one_ok {a : AV} {v : Value} (h1 : a.one = true) (h : VR T F ρ a v) : v.oneCell' = true := by
  cases h <;> first | rfl | cases h1
theorem cells_ok {a : AV} {v : Value} (h1 : a.cells.all AV.one = true) (h : VR T F ρ a v) : CR T F ρ a.cells v.cells.toList ∧ ∀ u ∈ v.cells.toList, u.oneCell' = true := by
  have key : CR T F ρ a.cells v.cells.toList := by
    by_cases hagg : ∃ cs, a = .agg cs
    · obtain ⟨cs, rfl⟩ := hagg
      obtain ⟨vs, rfl, hcr⟩ := agg_inv h
      exact hcr
    · have ha : a.cells = [a] := by cases a <;> first | rfl | exact absurd ⟨_, rfl⟩ hagg
      have hv : v.cells = #[v] := by
        cases h <;> first | rfl | (exfalso; exact hagg ⟨_, rfl⟩) | (exfalso; simp [AV.cells, AV.one] at h1)
      rw [ha, hv]
      exact CR.cons h CR.nil
  refine ⟨key, fun u hu => ?_⟩
  obtain ⟨i, hi, rfl⟩ := List.getElem_of_mem hu
  have hi' : i < a.cells.length := by rw [key.1]; exact hi
  exact one_ok (List.all_eq_true.1 h1 _ (List.getElem_mem hi')) (key.2 i hi' hi)

def setV : Array Value → Nat → List Value → Array Value
  | C, _, [] => C
  | C, off, v :: vs => setV (C.setIfInBounds off v) (off + 1) vs
theorem setV_size (vs : List Value) : ∀ (C : Array Value) (off : Nat), (setV C off vs).size = C.size := by
  induction vs with
  | nil => intro C off; rfl
  | cons v vs ih => intro C off; simp [setV, ih]
theorem setCells_put (vs : List Value) : ∀ (W : World) (β off : Nat) (C : Array Value) (e : TypeId) (fr : Nat × Nat), W.heap[β]? = some (.cells C e fr) →
    W.setCells β off vs = if vs = [] then W else putObj W β (.cells (setV C off vs) e fr) := by
  induction vs with
  | nil => intro W β off C e fr h; rfl
  | cons v vs ih =>
    intro W β off C e fr h
    have hβ : β < W.heap.size := by
      rcases Nat.lt_or_ge β W.heap.size with h' | h'
      · exact h'
      · rw [Array.getElem?_eq_none h'] at h; cases h
    have h1 : W.setCell ⟨β, off, none⟩ v = putObj W β (.cells (C.setIfInBounds off v) e fr) := by
      simp only [World.setCell, putObj]
      congr 1
      have hw : W.heap[β] = .cells C e fr := by rw [Array.getElem?_eq_getElem hβ] at h; simpa using h
      apply Array.ext_getElem?
      intro i
      rw [Array.getElem?_modify, Array.getElem?_setIfInBounds]
      by_cases hi : β = i
      · subst hi; simp [hw, hβ]
      · simp [hi]
    rw [World.setCells, h1, ih _ _ _ (C.setIfInBounds off v) e fr (by simp [putObj, hβ])]
    simp only [List.cons_ne_nil, if_false]
    split
    · rename_i he; subst he; rfl
    · simp only [putObj, setV]
      congr 1
      apply Array.ext_getElem?
      intro i
      rw [Array.getElem?_setIfInBounds, Array.getElem?_setIfInBounds, Array.getElem?_setIfInBounds]
      by_cases hi : β = i
      · subst hi; simp
      · simp [hi]
theorem setMany_cr (vs : List Value) : ∀ (xs : List AV) (c : List AV) (C : Array Value) (off : Nat), CR T F ρ xs vs → c.length ≤ C.size → off + xs.length ≤ c.length →
    (∀ j (a : j < c.length) (b : j < C.size), VR T F ρ c[j] C[j]) →
    (setMany c off xs).length = c.length ∧ ∀ j (a : j < (setMany c off xs).length) (b : j < (setV C off vs).size), VR T F ρ (setMany c off xs)[j] (setV C off vs)[j] := by
  induction vs with
  | nil =>
    intro xs c C off h hc ho hr
    have : xs = [] := List.eq_nil_of_length_eq_zero (by simpa using h.1)
    subst this
    exact ⟨rfl, hr⟩
  | cons v vs ih =>
    intro xs c C off h hc ho hr
    cases xs with
    | nil => have := h.1; simp at this
    | cons x xs =>
      have hx : VR T F ρ x v := h.2 0 (by simp) (by simp)
      have ht : CR T F ρ xs vs := ⟨by have := h.1; simpa using this, fun i a b => h.2 (i + 1) (by simp; omega) (by simp; omega)⟩
      simp only [List.length_cons] at ho
      have := ih xs (c.set off x) (C.setIfInBounds off v) (off + 1) ht (by simpa using hc) (by simp; omega) (fun j a b => by
        rw [List.getElem_set, Array.getElem_setIfInBounds (by simpa using b)]
        split
        · exact hx
        · exact hr j _ _)
      refine ⟨by rw [setMany, this.1]; simp, ?_⟩
      exact this.2
theorem store_ok (hT : TyOk P T) (hR : R T F ρ s W) {t : TypeId} {z : Nat} {ag : Bool} (hl : lay T t = some (z, ag)) {a x : AV} {s' : St} (h : store z a x s = some s') {u v : Value} (hu : VR T F ρ a u) (hv : VR T F ρ x v) (id0 : Nat) :
    DoesU P T id0 s ρ F W s' (Instr.storeAt t u v) := by
  unfold store at h
  split at h
  · rename_i id off
    cases hu with
    | ptr _ _ β z1 h1 =>
      cases hb : s.h id with
      | none => rw [hb] at h; cases h
      | some b =>
        rw [hb] at h
        cases b with
        | cells c e ex wr =>
          cases wr with
          | false => cases h
          | true =>
            simp only at h
            split at h
            · rename_i hc
              obtain ⟨q1, q2, q3⟩ := hc
              simp only [Option.some.injEq] at h; subst h
              obtain ⟨β', z', o, k1, k2, k3, k4⟩ := hR.lt hb
              rw [h1] at k1; cases k1
              cases o with
              | cells C e' fr =>
                obtain ⟨rfl, m2, m3, m4, m5, m6⟩ := k3
                obtain ⟨hcr, hone⟩ := cells_ok q3 hv
                have hlen : v.cells.toList.length = z := by rw [← hcr.1]; exact q1
                have hrun : (Instr.storeAt t (.pointer (some ⟨β, off, none⟩)) v).run P W = .ok () (W.setCells β off v.cells.toList) := by
                  have hsz : ¬ v.cells.size ≠ z := by simpa using hlen
                  simp only [Instr.storeAt, Instr.sureAddr, Sem.run_bind, Sem.run_pure, Result.andThen_ok, storeVar, run_sizeOf_lay hT hl]
                  rw [if_neg hsz]
                  have := run_storeCells_cells (P := P) β off v.cells.toList 0 W (fun j hj => by
                      have : off + 0 + j < C.size := by omega
                      simp [World.cell?, k2]; omega)
                    (fun j hj => by
                      have hj2 : off + 0 + j < z1 := by omega
                      have := m6 rfl (off + 0 + j) hj2
                      simp only [World.frozen?, k2]
                      simpa using this) hone
                  rw [Nat.add_zero] at this
                  exact this
                by_cases hnil : v.cells.toList = []
                · have hx : x.cells = [] := List.eq_nil_of_length_eq_zero (by rw [hcr.1, hnil]; rfl)
                  rw [hx]
                  obtain ⟨r1, r2⟩ := hR.put (b' := .cells c e' ex true) (o' := .cells C e' fr) hb h1 ⟨rfl, m2, m3, m4, m5, m6⟩
                  refine ⟨putObj W β (.cells C e' fr), ρ, F, ?_, r1, r2, fun _ _ _ => rfl, Nat.le_refl _⟩
                  rw [hrun, setCells_put _ W β off C e' fr k2, if_pos hnil]
                  congr 1
                  have hβ : β < W.heap.size := k4
                  have hw : W.heap[β] = .cells C e' fr := by rw [Array.getElem?_eq_getElem hβ] at k2; simpa using k2
                  cases W
                  simp only [putObj]
                  congr 1
                  apply Array.ext_getElem?
                  intro i
                  rw [Array.getElem?_setIfInBounds]
                  split
                  · rename_i e; subst e; simp at hβ; simp [hβ]; exact hw
                  · rfl
                · obtain ⟨l1, l2⟩ := setMany_cr v.cells.toList x.cells c C off hcr (by omega) (by omega) m5
                  obtain ⟨r1, r2⟩ := hR.put (b' := .cells (setMany c off x.cells) e' ex true) (o' := .cells (setV C off v.cells.toList) e' fr) hb h1
                    ⟨rfl, by rw [setV_size]; exact m2, by rw [l1]; exact m3, fun hx => by rw [l1]; exact m4 hx, fun j a b => l2 j a b, m6⟩
                  refine ⟨_, ρ, F, ?_, r1, r2, fun _ _ _ => rfl, Nat.le_refl _⟩
                  rw [hrun, setCells_put _ W β off C e' fr k2, if_neg hnil]
              | _ => exact k3.elim
            · cases h
        | _ => cases h
  · cases h
end
end Go.Proofs.YtdehdahimkcakaaGreatDoor.Ai
