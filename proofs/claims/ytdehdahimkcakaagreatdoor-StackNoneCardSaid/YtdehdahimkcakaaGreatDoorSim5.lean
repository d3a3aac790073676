/- Making things; parts of things; slices. -/
import Derived.Test.YtdehdahimkcakaaGreatDoorSim4
import Derived.Laws.Tables
set_option linter.unusedVariables false
set_option linter.unusedSimpArgs false
namespace Go.Proofs.YtdehdahimkcakaaGreatDoor.Ai
open Go

section
variable {P : Program} {T : Ty} {F : Fz} {ρ : Rho} {s : St} {W : World}

theorem zero_ok (hT : TyOk P T) {t : TypeId} {z : AV} (h : zero T t = some z) : ∃ i v, P.info? t = some i ∧ i.zero = some v ∧ z = ofV v := by
  unfold zero at h
  cases hi : T t with
  | none => rw [hi] at h; cases h
  | some i =>
    rw [hi] at h
    cases hz : i.zero with
    | none => simp [hz] at h
    | some v => refine ⟨i, v, hT _ _ hi, hz, ?_⟩; simpa [hz] using h.symm
theorem run_zero (hT : TyOk P T) {t : TypeId} {z : AV} (h : zero T t = some z) : ∃ v, (∀ W, (zeroValue t).run P W = .ok v W) ∧ z = ofV v := by
  obtain ⟨i, v, h1, h2, h3⟩ := zero_ok hT h
  exact ⟨v, fun W => by simp [zeroValue, typeInfo, h1, h2], h3⟩
theorem ofV_cells (v : Value) : CR T F ρ (ofV v).cells v.cells.toList := by
  unfold ofV
  split
  · rename_i cs
    exact ⟨by simp [AV.cells, Value.cells], fun i a b => by simpa [AV.cells, Value.cells] using ofV1_ok _⟩
  · rename_i h
    have h1 : (ofV1 v).cells = [ofV1 v] := by
      unfold ofV1
      split <;> first | rfl | (split <;> rfl)
    have h2 : v.cells = #[v] := by cases v <;> first | rfl | exact absurd rfl (h _)
    rw [h1, h2]
    exact CR.cons (ofV1_ok v) CR.nil
theorem cr_or {c : List AV} {C : Array Value} (h : CR T F ρ c C.toList) (e : TypeId) (ex : Bool) (hx : ex = true → True) : OR T F ρ C.size (.cells c e ex true) (.cells C e (0, 0)) :=
  ⟨rfl, rfl, by have := h.1; simp at this; omega, fun _ => by simpa using h.1, fun j a b => by have := h.2 j a (by simpa using b); rwa [Array.getElem_toList] at this, fun _ j _ hh => by simp at hh⟩
/-- A new row of cells as a block of its own. -/
theorem born_row (hR : R T F ρ s W) {id : Nat} (hid : ρ id = none) (hlt : id < s.nx) {c : List AV} {C : Array Value} (hcr : CR T F ρ c C.toList) (e : TypeId) (ex : Bool) :
    R T F (rset ρ id (W.heap.size, C.size)) (s.set id (some (.cells c e ex true))) (W.alloc (.cells C e (0, 0))) ∧
    Step s ρ F W (s.set id (some (.cells c e ex true))) (rset ρ id (W.heap.size, C.size)) F (W.alloc (.cells C e (0, 0))) ∧
    (∀ i, i < s.nx → i ≠ id → rset ρ id (W.heap.size, C.size) i = ρ i) := by
  obtain ⟨h1, h2⟩ := hR.born hid (.cells c e ex true) (.cells C e (0, 0)) C.size (cr_or hcr e ex fun _ => trivial) rfl (Nat.le_refl _) hlt
  exact ⟨h1, h2, fun i _ hi => rset_ne hi _⟩
theorem alloc_ok (hT : TyOk P T) (hR : R T F ρ s W) {t : TypeId} {z : AV} (h : zero T t = some z) {id : Nat} (hid : ρ id = none) (hlt : id < s.nx) :
    Does P T id s ρ F W (.ptr id 0) (s.set id (some (.cells z.cells t true true))) (Instr.alloc t true (.tuple #[])) := by
  obtain ⟨v, h1, rfl⟩ := run_zero hT h
  obtain ⟨r1, r2, r3⟩ := born_row hR hid hlt (ofV_cells (T := T) (F := F) (ρ := ρ) v) t true
  refine ⟨.pointer (some ⟨W.heap.size, 0, none⟩), _, _, F, ?_, .ptr _ _ _ _ (rset_same _ _), r1, r2, r3, Nat.le_refl _⟩
  simp only [Instr.alloc, Sem.run_bind, h1, Result.andThen_ok, newVar, newRow, run_newObj, Sem.run_pure]
  rfl
theorem box_ok (hR : R T F ρ s W) {t : TypeId} {x : AV} (hx : x.cells.all AV.one = true) {v : Value} (hv : VR T F ρ x v) {id : Nat} (hid : ρ id = none) (hlt : id < s.nx) :
    Does P T id s ρ F W (.ptr id 0) (s.set id (some (.cells x.cells t true true))) (Instr.box t v) := by
  obtain ⟨r1, r2, r3⟩ := born_row hR hid hlt (cells_ok hx hv).1 t true
  refine ⟨.pointer (some ⟨W.heap.size, 0, none⟩), _, _, F, ?_, .ptr _ _ _ _ (rset_same _ _), r1, r2, r3, Nat.le_refl _⟩
  simp only [Instr.box, Sem.run_bind, newVar, newRow, run_newObj, Result.andThen_ok, Sem.run_pure]
  rfl

/-! ### Parts -/
theorem zip_cells (z off : Nat) (v : Value) (C : Array Value) : (v.cells.zipIdx.foldl (fun cs (p : Value × Nat) => cs.setIfInBounds (off + p.2) p.1) C) = setV C off v.cells.toList := by
  have key : ∀ (l : List Value) (k : Nat) (C : Array Value), (l.zipIdx k).foldl (fun cs (p : Value × Nat) => cs.setIfInBounds (off + p.2) p.1) C = setV C (off + k) l := by
    intro l
    induction l with
    | nil => intro k C; rfl
    | cons a l ih => intro k C; simp only [List.zipIdx_cons, List.foldl_cons, setV]; rw [ih]; rfl
  rw [← Array.foldl_toList, Array.toList_zipIdx]
  exact key _ 0 C
/-- Numbered parts that stand for numbered parts. -/
def PR (T : Ty) (F : Fz) (ρ : Rho) (ps : List (Nat × AV)) (qs : List (Nat × Value)) : Prop := ps.length = qs.length ∧ ∀ i (h : i < ps.length) (h' : i < qs.length), ps[i].1 = qs[i].1 ∧ VR T F ρ ps[i].2 qs[i].2
theorem PR.tail {p : Nat × AV} {q : Nat × Value} {ps : List (Nat × AV)} {qs : List (Nat × Value)} (h : PR T F ρ (p :: ps) (q :: qs)) : p.1 = q.1 ∧ VR T F ρ p.2 q.2 ∧ PR T F ρ ps qs :=
  ⟨(h.2 0 (by simp) (by simp)).1, (h.2 0 (by simp) (by simp)).2, by have := h.1; simpa using this, fun i a b => h.2 (i + 1) (by simp; omega) (by simp; omega)⟩
theorem fill_ok (place : Nat → Option (Nat × Nat)) : ∀ (ps : List (Nat × AV)) (qs : List (Nat × Value)) (c : List AV) (C : Array Value) (c' : List AV), PR T F ρ ps qs → CR T F ρ c C.toList → fillA place c ps = some c' →
    ∃ C', Instr.fill place C qs = some C' ∧ CR T F ρ c' C'.toList := by
  intro ps
  induction ps with
  | nil =>
    intro qs c C c' hp hc h
    have : qs = [] := List.eq_nil_of_length_eq_zero (by have := hp.1; simpa using this.symm)
    subst this
    simp only [fillA, Option.some.injEq] at h; subst h
    exact ⟨C, rfl, hc⟩
  | cons p ps ih =>
    intro qs c C c' hp hc h
    cases qs with
    | nil => have := hp.1; simp at this
    | cons q qs =>
      obtain ⟨i, a⟩ := p
      obtain ⟨j, v⟩ := q
      obtain ⟨h1, h2, h3⟩ := hp.tail
      simp only at h1 h2; subst h1
      simp only [fillA] at h
      cases hpl : place i with
      | none => rw [hpl] at h; cases h
      | some oz =>
        obtain ⟨off, z⟩ := oz
        rw [hpl] at h
        simp only at h
        split at h
        · rename_i hcond
          obtain ⟨q1, q2, q3⟩ := hcond
          obtain ⟨hcr, _⟩ := cells_ok q3 h2
          have hlen : v.cells.size = z := by have := hcr.1; simp at this; omega
          have hCl : C.size = c.length := by have := hc.1; simp at this; omega
          simp only [Instr.fill, hpl]
          have hcnd : (decide (v.cells.size ≠ z) || decide (off + v.cells.size > C.size)) = false := by simp [hlen]; omega
          rw [if_neg (by rw [hcnd]; simp)]
          rw [zip_cells z off v C]
          refine ih qs _ _ c' h3 ?_ h
          obtain ⟨l1, l2⟩ := setMany_cr v.cells.toList a.cells c C off hcr (by omega) (by omega) (fun j x y => by have := hc.2 j x (by simpa using y); rwa [Array.getElem_toList] at this)
          exact ⟨by rw [l1]; simp [setV_size, hCl], fun j x y => by rw [Array.getElem_toList]; exact l2 j x (by simpa using y)⟩
        · cases h
theorem places_ok (hT : TyOk P T) : ∀ (fs : List Field) (l : List (Nat × Nat)), placesA T fs = some l → fs.mapM (fun f => (P.info? f.type).map fun i => (f.offset, i.size)) = some l := by
  intro fs
  induction fs with
  | nil => intro l h; simp only [placesA, Option.some.injEq] at h; subst h; rfl
  | cons f fs ih =>
    intro l h
    simp only [placesA] at h
    split at h
    · rename_i i l' h1 h2
      simp only [Option.some.injEq] at h; subst h
      simp [List.mapM_cons, hT _ _ h1, ih _ h2]
    · cases h
theorem PR.of_map {α : Type} (ps : List (Nat × α)) (f : α → AV) (g : α → Value) (h : ∀ x, VR T F ρ (f x) (g x)) : PR T F ρ (ps.map fun p => (p.1, f p.2)) (ps.map fun p => (p.1, g p.2)) :=
  ⟨by simp, fun i a b => by simp; exact h _⟩
theorem build_ok (hT : TyOk P T) {t : TypeId} {ps : List (Nat × AV)} {qs : Array (Nat × Value)} (hp : PR T F ρ ps qs.toList) {r : AV} (h : buildA T t ps = some r) : Says P T F ρ W r (Instr.build t qs) := by
  unfold buildA at h
  cases hz : zero T t with
  | none => rw [hz] at h; cases h
  | some zv =>
    obtain ⟨v, hv, rfl⟩ := run_zero hT hz
    cases hd : und T t with
    | none => rw [hz, hd] at h; cases hov : ofV v <;> rw [hov] at h <;> cases h
    | some d =>
      rw [hz, hd] at h
      cases hov : ofV v with
      | agg zc =>
        rw [hov] at h
        have hcr := ofV_cells (T := T) (F := F) (ρ := ρ) v
        rw [hov] at hcr
        simp only [AV.cells] at hcr
        have hu := und_ok hT hd
        cases d with
        | struct fs =>
          simp only at h
          cases hpl : placesA T fs.toList with
          | none => rw [hpl] at h; cases h
          | some l =>
            rw [hpl] at h
            simp only [Option.bind_some] at h
            cases hf : fillA (fun i => l[i]?) zc ps with
            | none => rw [hf] at h; cases h
            | some c' =>
              rw [hf] at h
              simp only [Option.map_some, Option.some.injEq] at h; subst h
              obtain ⟨C', k1, k2⟩ := fill_ok (fun i => l[i]?) ps qs.toList zc v.cells c' hp hcr hf
              refine ⟨.agg C', ?_, VR.agg_cr k2⟩
              have hrun := run_places W fs.toList l (places_ok hT _ _ hpl)
              have hmm : (fs.mapM fun f => (do pure (f.offset, ← sizeOf f.type) : Sem (Nat × Nat))).run P W = .ok l.toArray W := by
                rw [Array.mapM_eq_mapM_toList]
                have e : (fun f : Field => (do pure (f.offset, ← sizeOf f.type) : Sem (Nat × Nat))) = fun f => Prod.mk f.offset <$> sizeOf f.type := rfl
                rw [Sem.run_map, e, hrun]; rfl
              simp only [Instr.build, Sem.run_bind, hv, run_underlying hu, Result.andThen_ok, hmm]
              have e2 : (fun i : Nat => (l.toArray)[i]?) = fun i : Nat => l[i]? := by funext i; simp
              rw [e2, k1]
              rfl
        | array n e =>
          simp only at h
          cases hl : lay T e with
          | none => rw [hl] at h; cases h
          | some zz =>
            obtain ⟨z, ag⟩ := zz
            rw [hl] at h
            simp only [Option.bind_some] at h
            cases hf : fillA (fun i => some (i * z, z)) zc ps with
            | none => rw [hf] at h; cases h
            | some c' =>
              rw [hf] at h
              simp only [Option.map_some, Option.some.injEq] at h; subst h
              obtain ⟨C', k1, k2⟩ := fill_ok _ ps qs.toList zc v.cells c' hp hcr hf
              refine ⟨.agg C', ?_, VR.agg_cr k2⟩
              simp only [Instr.build, Sem.run_bind, hv, run_underlying hu, Result.andThen_ok, run_sizeOf_lay hT hl, k1]
              rfl
        | _ => cases h
      | _ => rw [hov] at h; cases h
theorem field_ok (hT : TyOk P T) {t : TypeId} {f : Nat} {x r : AV} (h : fieldA T t f x = some r) {u : Value} (hu : VR T F ρ x u) : Says P T F ρ W r (Instr.field t u f) := by
  unfold fieldA at h
  cases hd : und T t with
  | none => rw [hd] at h; cases h
  | some d =>
    rw [hd] at h
    cases d with
    | struct fs =>
      cases x with
      | agg cs =>
        simp only at h
        obtain ⟨vs, rfl, hcr⟩ := agg_inv hu
        cases hf : fs[f]? with
        | none => rw [hf] at h; cases h
        | some fd =>
          rw [hf] at h
          simp only [Option.bind_some] at h
          cases hl : lay T fd.type with
          | none => rw [hl] at h; cases h
          | some zz =>
            obtain ⟨z, ag⟩ := zz
            rw [hl] at h
            simp only [Option.bind_some] at h
            obtain ⟨v, k1, k2⟩ := part_ok (W := W) hT hl hcr h
            refine ⟨v, ?_, k2⟩
            simp only [Instr.field, Sem.run_bind, run_underlying (und_ok hT hd), Result.andThen_ok, hf, asAgg, Sem.run_pure, k1]
      | _ => cases h
    | _ => cases h
theorem shiftP_ok {n : Nat} {x r : AV} (h : shiftP n x = some r) {u : Value} (hu : VR T F ρ x u) : ∃ β off, u = .pointer (some ⟨β, off, none⟩) ∧ VR T F ρ r (.pointer (some ⟨β, off + n, none⟩)) := by
  unfold shiftP at h
  split at h
  · simp only [Option.some.injEq] at h; subst h
    cases hu with
    | ptr _ _ β z hρ => exact ⟨β, _, rfl, .ptr _ _ _ _ hρ⟩
  · simp only [Option.some.injEq] at h; subst h
    cases hu with
    | pel _ _ β b w hf hv => exact ⟨β, _, rfl, by rw [Nat.add_assoc]; exact .pel _ _ β b w hf hv⟩
  · cases h
theorem fieldAddr_ok (hT : TyOk P T) {t : TypeId} {f : Nat} {x r : AV} (h : fieldAd T t f x = some r) {u : Value} (hu : VR T F ρ x u) : Says P T F ρ W r (Instr.fieldAt t u f) := by
  unfold fieldAd at h
  cases hd : und T t with
  | none => rw [hd] at h; cases h
  | some d =>
    rw [hd] at h
    cases d with
    | struct fs =>
      simp only at h
      cases hf : fs[f]? with
      | none => rw [hf] at h; cases h
      | some fd =>
        rw [hf] at h
        simp only [Option.bind_some] at h
        cases hl : lay T fd.type with
        | none => rw [hl] at h; cases h
        | some zz =>
          obtain ⟨z, ag⟩ := zz
          rw [hl] at h
          simp only [Option.bind_some] at h
          split at h
          · cases h
          · rename_i hz
            obtain ⟨β, off, rfl, k⟩ := shiftP_ok h hu
            refine ⟨_, ?_, k⟩
            simp only [Instr.fieldAt, Sem.run_bind, run_underlying (und_ok hT hd), Result.andThen_ok, hf, Instr.sureAddr, Sem.run_pure, fieldPlace, run_sizeOf_lay hT hl, if_neg hz, Addr.add_lit]
    | _ => cases h
theorem idx_ok {i : Int} {n j : Nat} (h : idx i n = some j) : 0 ≤ i ∧ i < n ∧ j = i.toNat := by
  unfold idx at h
  split at h
  · rename_i hc; simp only [Option.some.injEq] at h; exact ⟨hc.1, hc.2, h.symm⟩
  · cases h
theorem sl_inv {ex : Bool} {l : List AV} {u : Value} (h : VR T F ρ (.sl ex l) u) : ∃ a c, u = .slice a l.length c ∧ l.length ≤ c ∧ (ex = true → c = l.length) ∧
    (l ≠ [] → ∃ β b z, a = some ⟨β, b, none⟩ ∧ (∀ i (h : i < l.length), l[i].cells.length = z) ∧ ∃ w : Nat → Nat → Value, (∀ i j, i < l.length → j < z → F ⟨β, b + i * z + j, none⟩ = some (w i j)) ∧
      ∀ i j (h : i < l.length) (h2 : j < l[i].cells.length), VR T F ρ l[i].cells[j] (w i j)) := by
  cases h with
  | sl0 _ a c h _ => exact ⟨a, c, rfl, Nat.zero_le _, h, fun hne => absurd rfl hne⟩
  | sl _ _ β b z c w hc hx hz hf hv => exact ⟨_, c, rfl, hc, hx, fun _ => ⟨β, b, z, rfl, hz, w, hf, hv⟩⟩
theorem sl_none {ex : Bool} {l : List AV} {a : Option Addr} {n c : Nat} (h : VR T F ρ (.sl ex l) (.slice a n c)) : a = none → c = 0 := by
  cases h with
  | sl0 _ _ _ _ hn => exact hn
  | sl _ _ β b z c w hc hx hz hf hv => intro h; cases h
theorem indexAddr_ok (hT : TyOk P T) (hR : R T F ρ s W) {t : TypeId} {x ix r : AV} (h : indexAd T t x ix = some r) {u v : Value} (hu : VR T F ρ x u) (hv : VR T F ρ ix v) : Says P T F ρ W r (Instr.indexAt t u v) := by
  unfold indexAd at h
  cases hi : asI ix with
  | none => rw [hi] at h; cases h
  | some i =>
    obtain ⟨k, rfl⟩ := asI_ok hi hv
    rw [hi] at h
    simp only [Option.bind_some] at h
    cases hd : und T t with
    | none => rw [hd] at h; cases h
    | some d =>
      have hun := und_ok hT hd
      rw [hd] at h
      cases d with
      | slice e =>
        simp only at h
        cases x with
        | sl ex l =>
          simp only at h
          cases hx : idx i l.length with
          | none => rw [hx] at h; cases h
          | some j =>
            obtain ⟨h0, h1, rfl⟩ := idx_ok hx
            rw [hx] at h
            simp only [Option.bind_some] at h
            have hj : i.toNat < l.length := by omega
            rw [List.getElem?_eq_getElem hj] at h
            simp only [Option.bind_some] at h
            cases hl : lay T e with
            | none => rw [hl] at h; cases h
            | some zz =>
              obtain ⟨z', ag⟩ := zz
              rw [hl] at h
              simp only [Option.bind_some] at h
              split at h
              · rename_i hzz
                simp only [Option.some.injEq] at h; subst h
                obtain ⟨a, c, rfl, hc, _, hne⟩ := sl_inv hu
                obtain ⟨β, b, z, rfl, hz, w, hf, hvv⟩ := hne (by intro e; subst e; simp at hj)
                have hz' : z = z' := by rw [← hz _ hj]; exact hzz
                subst hz'
                refine ⟨.pointer (some ⟨β, b + i.toNat * z + 0, none⟩), ?_, .pel _ 0 β (b + i.toNat * z) (w i.toNat) (fun q hq => hf _ _ hj (by rw [← hz _ hj]; exact hq)) (fun q hq => hvv _ _ hj hq)⟩
                simp only [Instr.indexAt, Sem.run_bind, asIntOf, Sem.run_pure, Result.andThen_ok, run_underlying hun]
                rw [if_pos ⟨h0, h1⟩]
                simp only [Sem.run_bind, run_sizeOf_lay hT hl, Result.andThen_ok, Sem.run_pure, Addr.add_lit, Nat.add_zero]
              · cases h
        | ref id off n cap e' =>
          simp only at h
          cases hx : idx i n with
          | none => rw [hx] at h; cases h
          | some j =>
            obtain ⟨h0, h1, rfl⟩ := idx_ok hx
            rw [hx] at h
            simp only [Option.bind_some] at h
            cases hl : lay T e with
            | none => rw [hl] at h; cases h
            | some zz =>
              obtain ⟨z', ag⟩ := zz
              rw [hl] at h
              simp only [Option.map_some, Option.some.injEq] at h; subst h
              cases hu with
              | ref _ _ _ _ _ β size c z ag' hρ hz hn hk hk2 =>
                refine ⟨.pointer (some ⟨β, off + i.toNat * z', none⟩), ?_, .ptr _ _ _ _ hρ⟩
                simp only [Instr.indexAt, Sem.run_bind, asIntOf, Sem.run_pure, Result.andThen_ok, run_underlying hun]
                rw [if_pos ⟨h0, h1⟩]
                simp only [Sem.run_bind, run_sizeOf_lay hT hl, Result.andThen_ok, Sem.run_pure, Addr.add_lit]
        | _ => cases h
      | array n e =>
        simp only at h
        cases hx : idx i n with
        | none => rw [hx] at h; cases h
        | some j =>
          obtain ⟨h0, h1, rfl⟩ := idx_ok hx
          rw [hx] at h
          simp only [Option.bind_some] at h
          cases hl : lay T e with
          | none => rw [hl] at h; cases h
          | some zz =>
            obtain ⟨z', ag⟩ := zz
            rw [hl] at h
            simp only [Option.bind_some] at h
            split at h
            · rename_i hn2
              obtain ⟨β, off, rfl, k2⟩ := shiftP_ok h hu
              refine ⟨_, ?_, k2⟩
              simp only [Instr.indexAt, Sem.run_bind, asIntOf, Sem.run_pure, Result.andThen_ok, run_underlying hun, Instr.sureAddr]
              rw [if_pos ⟨h0, h1⟩]
              simp only [Sem.run_bind, run_sizeOf_lay hT hl, Result.andThen_ok, Sem.run_pure, Addr.add_lit]
            · cases h
      | _ => cases h
theorem index_ok (hT : TyOk P T) {t : TypeId} {x ix r : AV} (h : indexA T t x ix = some r) {u v : Value} (hu : VR T F ρ x u) (hv : VR T F ρ ix v) : Says P T F ρ W r (Instr.index t u v) := by
  unfold indexA at h
  cases hi : asI ix with
  | none => rw [hi] at h; cases h
  | some i =>
    obtain ⟨k, rfl⟩ := asI_ok hi hv
    rw [hi] at h
    simp only [Option.bind_some] at h
    cases hd : und T t with
    | none => rw [hd] at h; cases x <;> cases h
    | some d =>
      have hun := und_ok hT hd
      rw [hd] at h
      cases x with
      | str b =>
        cases d with
        | string =>
          simp only at h
          cases hx : idx i b.length with
          | none => rw [hx] at h; cases h
          | some j =>
            obtain ⟨h0, h1, rfl⟩ := idx_ok hx
            rw [hx] at h
            have hj : i.toNat < b.length := by omega
            simp only [Option.bind_some, List.getElem?_eq_getElem hj, Option.map_some, Option.some.injEq] at h; subst h
            cases hu with
            | str _ bb hb =>
              have hsz : i.toNat < bb.size := by rw [← hb] at hj; simpa using hj
              refine ⟨.int .u8 b[i.toNat].toNat, ?_, .int _ _⟩
              simp only [Instr.index, Sem.run_bind, asIntOf, Sem.run_pure, Result.andThen_ok, run_underlying hun]
              have e : (if 0 ≤ i then bb[i.toNat]? else none) = some b[i.toNat] := by
                rw [if_pos h0, getElem?_pos bb i.toNat hsz]
                congr 1
                subst hb
                simp [ByteArray.getElem_eq_getElem_data]
              rw [e]
              rfl
        | _ => cases h
      | agg cs =>
        cases d with
        | array n e =>
          simp only at h
          cases hx : idx i n with
          | none => rw [hx] at h; cases h
          | some j =>
            obtain ⟨h0, h1, rfl⟩ := idx_ok hx
            rw [hx] at h
            simp only [Option.bind_some] at h
            cases hl : lay T e with
            | none => rw [hl] at h; cases h
            | some zz =>
              obtain ⟨z', ag⟩ := zz
              rw [hl] at h
              simp only [Option.bind_some] at h
              obtain ⟨vs, rfl, hcr⟩ := agg_inv hu
              obtain ⟨w, k1, k2⟩ := part_ok (W := W) hT hl hcr h
              refine ⟨w, ?_, k2⟩
              simp only [Instr.index, Sem.run_bind, asIntOf, Sem.run_pure, Result.andThen_ok, run_underlying hun]
              rw [if_pos ⟨h0, h1⟩]
              simp only [Sem.run_bind, run_sizeOf_lay hT hl, Result.andThen_ok, k1]
        | _ => cases h
      | _ => cases h
end
end Go.Proofs.YtdehdahimkcakaaGreatDoor.Ai
