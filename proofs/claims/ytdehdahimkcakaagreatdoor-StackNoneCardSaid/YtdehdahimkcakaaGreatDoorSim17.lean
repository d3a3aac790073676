/- Values made pure: without blocks. -/
import Derived.Test.YtdehdahimkcakaaGreatDoorSim16
set_option linter.unusedVariables false
set_option linter.unusedSimpArgs false
namespace Go.Proofs.YtdehdahimkcakaaGreatDoor.Ai
open Go

section
variable {P : Program} {T : Ty} {F : Fz} {ρ ρ' : Rho} {s : St} {W : World}

theorem closedL_get : ∀ (l : List AV), closedL l = true → ∀ i (h : i < l.length), l[i].closed = true := by
  intro l
  induction l with
  | nil => intro _ i h; simp at h
  | cons v l ih =>
    intro h i hi
    simp only [closedL, Bool.and_eq_true] at h
    cases i with
    | zero => exact h.1
    | succ i => exact ih h.2 i (by simpa using hi)
theorem flatL_get : ∀ (l : List AV), flatL l = true → ∀ i (h : i < l.length), l[i].flat = true := by
  intro l
  induction l with
  | nil => intro _ i h; simp at h
  | cons v l ih =>
    intro h i hi
    simp only [flatL, Bool.and_eq_true] at h
    cases i with
    | zero => exact h.1
    | succ i => exact ih h.2 i (by simpa using hi)
theorem closed_cells {v : AV} (h : v.closed = true) : ∀ j (hj : j < v.cells.length), v.cells[j].closed = true := by
  intro j hj
  by_cases hagg : ∃ cs, v = .agg cs
  · obtain ⟨cs, rfl⟩ := hagg
    simp only [AV.closed] at h
    exact closedL_get cs h j hj
  · have ha : v.cells = [v] := by cases v <;> first | rfl | exact absurd ⟨_, rfl⟩ hagg
    simp only [ha] at hj ⊢
    have : j = 0 := by simpa using hj
    subst this
    exact h
theorem closed_ok {F' : Fz} {a : AV} {v : Value} (h : VR T F ρ a v) (hF : FLe F F') (hc : a.closed = true) : VR T F' ρ' a v := by
  induction h with
  | undef v => exact .undef v
  | bool b => exact .bool b
  | int k n => exact .int k n
  | str s b h => exact .str s b h
  | nilp => exact .nilp
  | ptr => simp [AV.closed] at hc
  | pel cs off β b w hf hv ih =>
    simp only [AV.closed] at hc
    exact .pel cs off β b w (fun j hj => hF _ _ (hf j hj)) (fun j hj => ih j hj (closedL_get cs hc j hj))
  | nils => simp [AV.closed] at hc
  | emp => simp [AV.closed] at hc
  | sl0 ex a c h hn => exact .sl0 ex a c h hn
  | sl ex l β b z c w hc' hx hz hf hv ih =>
    simp only [AV.closed, Bool.and_eq_true] at hc
    exact .sl ex l β b z c w hc' hx hz (fun i j hi hj => hF _ _ (hf i j hi hj)) (fun i j hi hj => ih i j hi hj (closed_cells (closedL_get l hc.2 i hi) j hj))
  | ref => simp [AV.closed] at hc
  | nilm => exact .nilm
  | map => simp [AV.closed] at hc
  | nilc => exact .nilc
  | chan => simp [AV.closed] at hc
  | nilf => exact .nilf
  | fn f as bs us vs h1 h2 ha hb iha ihb =>
    simp only [AV.closed, Bool.and_eq_true] at hc
    exact .fn f as bs us vs h1 h2 (fun i a b => iha i a b (closedL_get as hc.1 i a)) (fun i a b => ihb i a b (closedL_get bs hc.2 i a))
  | nili => exact .nili
  | iface => simp [AV.closed] at hc
  | agg cs vs hl h ih =>
    simp only [AV.closed] at hc
    exact .agg cs vs hl (fun i a b => ih i a b (closedL_get cs hc i a))
  | tup cs vs hl h ih =>
    simp only [AV.closed] at hc
    exact .tup cs vs hl (fun i a b => ih i a b (closedL_get cs hc i a))
theorem flat_ok {F' : Fz} {a : AV} {v : Value} (h : VR T F ρ a v) (hc : a.flat = true) : VR T F' ρ' a v := by
  induction h with
  | bool b => exact .bool b
  | int k n => exact .int k n
  | str s b h => exact .str s b h
  | nilp => exact .nilp
  | nilm => exact .nilm
  | nilc => exact .nilc
  | nilf => exact .nilf
  | nili => exact .nili
  | agg cs vs hl h ih =>
    simp only [AV.flat] at hc
    exact .agg cs vs hl (fun i a b => ih i a b (flatL_get cs hc i a))
  | tup cs vs hl h ih =>
    simp only [AV.flat] at hc
    exact .tup cs vs hl (fun i a b => ih i a b (flatL_get cs hc i a))
  | _ => simp [AV.flat] at hc

/-- A block whose cells nobody writes any more. -/
def Held (T : Ty) (F : Fz) (ρ : Rho) (s : St) (id : Nat) : Prop := ∀ c e ex wr, s.h id = some (.cells c e ex wr) → ∃ β z, ρ id = some (β, z) ∧ ∀ j (h : j < c.length), ∃ v, F ⟨β, j, none⟩ = some v ∧ VR T F ρ c[j] v
theorem Held.mono {F' : Fz} {id : Nat} (h : Held T F ρ s id) (hF : FLe F F') : Held T F' ρ s id := fun c e ex wr hb => by
  obtain ⟨β, z, h1, h2⟩ := h c e ex wr hb
  exact ⟨β, z, h1, fun j hj => by obtain ⟨v, k1, k2⟩ := h2 j hj; exact ⟨v, hF _ _ k1, k2.mono hF (RLe.refl _)⟩⟩

theorem purL_get {f : AV → Option (AV × List Nat)} : ∀ (l l' : List AV) (ids : List Nat), purL f l = some (l', ids) → l'.length = l.length ∧ ∀ i (h : i < l.length) (h' : i < l'.length), ∃ ji, f l[i] = some (l'[i], ji) ∧ ∀ x ∈ ji, x ∈ ids := by
  intro l
  induction l with
  | nil => intro l' ids h; simp only [purL, Option.some.injEq, Prod.mk.injEq] at h; obtain ⟨rfl, rfl⟩ := h; exact ⟨rfl, fun i h => by simp at h⟩
  | cons v l ih =>
    intro l' ids h
    simp only [purL] at h
    split at h
    · rename_i a i b j h1 h2
      simp only [Option.some.injEq, Prod.mk.injEq] at h; obtain ⟨rfl, rfl⟩ := h
      obtain ⟨g1, g2⟩ := ih _ _ h2
      refine ⟨by simp [g1], fun n hn hn' => ?_⟩
      cases n with
      | zero => exact ⟨i, h1, fun x hx => List.mem_append_left _ hx⟩
      | succ n =>
        obtain ⟨ji, k1, k2⟩ := g2 n (by simpa using hn) (by simpa using hn')
        exact ⟨ji, k1, fun x hx => List.mem_append_right _ (k2 x hx)⟩
    · cases h
theorem purL_ids {f : AV → Option (AV × List Nat)} {p : Nat → Prop} (hf : ∀ v a j, f v = some (a, j) → ∀ x ∈ j, p x) : ∀ (l l' : List AV) (ids : List Nat), purL f l = some (l', ids) → ∀ x ∈ ids, p x := by
  intro l
  induction l with
  | nil => intro l' ids h; simp only [purL, Option.some.injEq, Prod.mk.injEq] at h; obtain ⟨rfl, rfl⟩ := h; intro x hx; cases hx
  | cons v l ih =>
    intro l' ids h
    simp only [purL] at h
    split at h
    · rename_i a i b j h1 h2
      simp only [Option.some.injEq, Prod.mk.injEq] at h; obtain ⟨rfl, rfl⟩ := h
      intro x hx
      rcases List.mem_append.1 hx with hx | hx
      · exact hf _ _ _ h1 x hx
      · exact ih _ _ h2 x hx
    · cases h
theorem purU_get {f : AV → Option (AV × List Nat)} : ∀ (l : List AV), (purU f l).1.length = l.length ∧ ∀ i (h : i < l.length) (h' : i < (purU f l).1.length), (purU f l).1[i] = .undef ∨ ∃ ji, f l[i] = some ((purU f l).1[i], ji) ∧ ∀ x ∈ ji, x ∈ (purU f l).2 := by
  intro l
  induction l with
  | nil => exact ⟨rfl, fun i h => by simp at h⟩
  | cons v l ih =>
    obtain ⟨g1, g2⟩ := ih
    rcases hf : f v with _ | ⟨a, j⟩
    · have e : purU f (v :: l) = (.undef :: (purU f l).1, (purU f l).2) := by simp only [purU, hf]
      rw [e]
      refine ⟨by simp [g1], fun i hi hi' => ?_⟩
      cases i with
      | zero => exact .inl rfl
      | succ i => simpa using g2 i (by simpa using hi) (by simpa using hi')
    · have e : purU f (v :: l) = (a :: (purU f l).1, j ++ (purU f l).2) := by simp only [purU, hf]
      rw [e]
      refine ⟨by simp [g1], fun i hi hi' => ?_⟩
      cases i with
      | zero => exact .inr ⟨j, by simpa using hf, fun x hx => List.mem_append_left _ hx⟩
      | succ i =>
        rcases g2 i (by simpa using hi) (by simpa using hi') with h | ⟨ji, k1, k2⟩
        · exact .inl (by simpa using h)
        · exact .inr ⟨ji, by simpa using k1, fun x hx => List.mem_append_right _ (k2 x hx)⟩
theorem purU_ids {f : AV → Option (AV × List Nat)} {p : Nat → Prop} (hf : ∀ v a j, f v = some (a, j) → ∀ x ∈ j, p x) : ∀ (l : List AV), ∀ x ∈ (purU f l).2, p x := by
  intro l
  induction l with
  | nil => intro x hx; cases hx
  | cons v l ih =>
    intro x hx
    simp only [purU] at hx
    cases hv : f v with
    | none => rw [hv] at hx; exact ih x hx
    | some q =>
      obtain ⟨a, j⟩ := q
      rw [hv] at hx
      rcases List.mem_append.1 hx with hx | hx
      · exact hf _ _ _ hv x hx
      · exact ih x hx
def isCells (s : St) (id : Nat) : Prop := ∃ c e ex wr, s.h id = some (.cells c e ex wr)
theorem pur_ids : ∀ (k : Nat) (v a : AV) (ids : List Nat), pur T s k v = some (a, ids) → ∀ x ∈ ids, isCells s x := by
  intro k
  induction k with
  | zero =>
    intro v a ids h
    unfold pur at h
    split at h
    · simp only [Option.some.injEq, Prod.mk.injEq] at h; obtain ⟨rfl, rfl⟩ := h; intro x hx; cases hx
    · cases h
  | succ k ih =>
    intro v a ids h
    unfold pur at h
    split at h
    · simp only [Option.some.injEq, Prod.mk.injEq] at h; obtain ⟨rfl, rfl⟩ := h; intro x hx; cases hx
    · rename_i hnc
      simp only at h
      split at h
      · simp only [Option.some.injEq, Prod.mk.injEq] at h; obtain ⟨rfl, rfl⟩ := h; intro x hx; cases hx
      · simp only [Option.some.injEq, Prod.mk.injEq] at h; obtain ⟨rfl, rfl⟩ := h; intro x hx; cases hx
      · cases hp : purL (pur T s k) _ with
        | none => rw [hp] at h; cases h
        | some r =>
          rw [hp] at h
          simp only [Option.map_some, Option.some.injEq, Prod.mk.injEq] at h; obtain ⟨rfl, rfl⟩ := h
          exact purL_ids ih _ _ _ hp
      · rename_i id off n cap e
        split at h
        · rename_i c e' ex wr z ag hb hl
          split at h
          · cases hp : purL (pur T s k) ((c.drop off).take (n * z)) with
            | none => rw [hp] at h; cases h
            | some r =>
              rw [hp] at h
              simp only [Option.bind_some] at h
              split at h
              · simp only [Option.some.injEq, Prod.mk.injEq] at h; obtain ⟨rfl, rfl⟩ := h
                intro x hx
                cases hx with
                | head => exact ⟨c, e', ex, wr, hb⟩
                | tail _ hx => exact purL_ids ih _ _ _ hp x hx
              · cases h
          · cases h
        · cases h
      · rename_i id off
        split at h
        · rename_i c e' ex wr hb
          simp only [Option.some.injEq, Prod.mk.injEq] at h; obtain ⟨rfl, rfl⟩ := h
          intro x hx
          cases hx with
          | head => exact ⟨c, e', ex, wr, hb⟩
          | tail _ hx => exact purU_ids ih _ x hx
        · cases h
      · cases hp : purL (pur T s k) _ with
        | none => rw [hp] at h; cases h
        | some r =>
          rw [hp] at h
          simp only [Option.map_some, Option.some.injEq, Prod.mk.injEq] at h; obtain ⟨rfl, rfl⟩ := h
          exact purL_ids ih _ _ _ hp
      · cases hp : purL (pur T s k) _ with
        | none => rw [hp] at h; cases h
        | some r =>
          rw [hp] at h
          simp only [Option.map_some, Option.some.injEq, Prod.mk.injEq] at h; obtain ⟨rfl, rfl⟩ := h
          exact purL_ids ih _ _ _ hp
      · cases h

theorem chunk_len (z : Nat) : ∀ (n : Nat) (l : List AV), (chunk z n l).length = n := by
  intro n
  induction n with
  | zero => intro l; rfl
  | succ n ih => intro l; simp [chunk, ih]
theorem chunk_get (z : Nat) : ∀ (n : Nat) (l : List AV) (i : Nat) (h : i < (chunk z n l).length), (chunk z n l)[i] = .agg ((l.drop (i * z)).take z) := by
  intro n
  induction n with
  | zero => intro l i h; simp [chunk] at h
  | succ n ih =>
    intro l i h
    cases i with
    | zero => simp [chunk]
    | succ i =>
      simp only [chunk, List.getElem_cons_succ]
      rw [ih, List.drop_drop, Nat.succ_mul, Nat.add_comm]
theorem notAgg_cells {v : AV} (h : notAgg v = true) : v.cells = [v] := by cases v <;> first | rfl | cases h

/-- What is pure stands for the same. -/
theorem pur_ok : ∀ (k : Nat) (v a : AV) (ids : List Nat), pur T s k v = some (a, ids) → (∀ id ∈ ids, Held T F ρ s id) →
    (∀ u, VR T F ρ v u → VR T F ρ' a u) ∧ (notAgg v = true → notAgg a = true) ∧ (∀ cs, v = .agg cs → ∃ cs', a = .agg cs') := by
  intro k
  induction k with
  | zero =>
    intro v a ids h hh
    unfold pur at h
    split at h
    · rename_i hc
      simp only [Option.some.injEq, Prod.mk.injEq] at h; obtain ⟨rfl, rfl⟩ := h
      exact ⟨fun u hu => closed_ok hu (FLe.refl _) hc, fun h => h, fun cs hcs => ⟨cs, hcs⟩⟩
    · cases h
  | succ k ih =>
    intro v a ids h hh
    unfold pur at h
    split at h
    · rename_i hc
      simp only [Option.some.injEq, Prod.mk.injEq] at h; obtain ⟨rfl, rfl⟩ := h
      exact ⟨fun u hu => closed_ok hu (FLe.refl _) hc, fun h => h, fun cs hcs => ⟨cs, hcs⟩⟩
    · rename_i hnc
      simp only at h
      split at h
      · simp only [Option.some.injEq, Prod.mk.injEq] at h; obtain ⟨rfl, rfl⟩ := h
        exact ⟨fun u hu => by cases hu; exact .sl0 false none 0 (by intro h; cases h) (fun _ => rfl), fun _ => rfl, fun cs hcs => by cases hcs⟩
      · simp only [Option.some.injEq, Prod.mk.injEq] at h; obtain ⟨rfl, rfl⟩ := h
        exact ⟨fun u hu => by cases hu; exact .sl0 false _ _ (by intro h; cases h) (fun h => nomatch h), fun _ => rfl, fun cs hcs => by cases hcs⟩
      · rename_i ex l
        cases hp : purL (pur T s k) l with
        | none => rw [hp] at h; cases h
        | some r =>
          obtain ⟨l', j⟩ := r
          rw [hp] at h
          simp only [Option.map_some, Option.some.injEq, Prod.mk.injEq] at h; obtain ⟨rfl, rfl⟩ := h
          obtain ⟨g1, g2⟩ := purL_get _ _ _ hp
          refine ⟨fun u hu => ?_, fun _ => rfl, fun cs hcs => by cases hcs⟩
          obtain ⟨ad, c, rfl, hc, hx, hne⟩ := sl_inv hu
          have hn0 := sl_none hu
          by_cases hl : l = []
          · subst hl
            have : l' = [] := List.eq_nil_of_length_eq_zero (by rw [g1]; rfl)
            subst this
            exact .sl0 false _ _ (by intro h; cases h) hn0
          · obtain ⟨β, b, z, rfl, hz, w, hf, hv⟩ := hne hl
            rw [← g1]
            have hcells : ∀ i (hi : i < l'.length), l'[i].cells.length = z ∧ ∀ m (hm : m < l'[i].cells.length), VR T F ρ' l'[i].cells[m] (w i m) := by
              intro i hi
              have hi0 : i < l.length := by omega
              obtain ⟨ji, k1, k2⟩ := g2 i hi0 hi
              obtain ⟨q1, q2, q3⟩ := ih _ _ _ k1 (fun x hx => hh x (k2 x hx))
              by_cases hagg : ∃ cs, l[i] = .agg cs
              · obtain ⟨cs, hcs⟩ := hagg
                obtain ⟨cs', hcs'⟩ := q3 cs hcs
                have hlen : cs.length = z := by have := hz i hi0; rw [hcs] at this; exact this
                have hvv : VR T F ρ (.agg cs) (.agg ((List.range cs.length).map (w i)).toArray) := by
                  refine .agg cs _ (by simp) fun m hm hm' => ?_
                  have := hv i m hi0 (by rw [hcs]; exact hm)
                  simp only [hcs] at this
                  simpa [AV.cells] using this
                rw [hcs] at q1
                have hva := q1 _ hvv
                rw [hcs'] at hva
                obtain ⟨us, hus, hcr⟩ := agg_inv hva
                simp only [Value.agg.injEq] at hus
                subst hus
                have hcl := hcr.1
                simp only [List.length_map, List.length_range] at hcl
                refine ⟨by rw [hcs']; show cs'.length = z; omega, fun m hm => ?_⟩
                have hm' : m < cs'.length := by rw [hcs'] at hm; exact hm
                have := hcr.2 m hm' (by simp; omega)
                simp only [hcs', AV.cells]
                simpa using this
              · have hna : notAgg l[i] = true := by cases hli : l[i] <;> first | rfl | exact absurd ⟨_, hli⟩ hagg
                have hc1 := notAgg_cells hna
                have hc2 := notAgg_cells (q2 hna)
                have hlen := hz i hi0
                rw [hc1] at hlen
                refine ⟨by rw [hc2]; exact hlen, fun m hm => ?_⟩
                have hm0 : m = 0 := by rw [hc2] at hm; simpa using hm
                subst hm0
                have := hv i 0 hi0 (by rw [hc1]; simp)
                simp only [hc1, List.getElem_cons_zero] at this
                simp only [hc2, List.getElem_cons_zero]
                exact q1 _ this
            exact .sl false l' β b z c w (by omega) (by intro h; cases h) (fun i hi => (hcells i hi).1) (fun i m hi hm => hf i m (by omega) hm) (fun i m hi hm => (hcells i hi).2 m hm)
      · rename_i id off n cap e
        split at h
        · rename_i c e' ex wr z ag hb hl
          split at h
          · rename_i hcd
            obtain ⟨hle, hz0⟩ := hcd
            cases hp : purL (pur T s k) ((c.drop off).take (n * z)) with
            | none => rw [hp] at h; cases h
            | some r =>
              obtain ⟨l', j⟩ := r
              rw [hp] at h
              simp only [Option.bind_some] at h
              split at h
              · rename_i hag
                simp only [Option.some.injEq, Prod.mk.injEq] at h; obtain ⟨rfl, rfl⟩ := h
                obtain ⟨g1, g2⟩ := purL_get _ _ _ hp
                refine ⟨fun u hu => ?_, fun _ => rfl, fun cs hcs => by cases hcs⟩
                cases hu with
                | ref _ _ _ _ _ β size cp z' ag' hρ hz' hn hk hk2 =>
                  obtain ⟨β', z'', m1, m2⟩ := hh id (List.mem_cons_self ..) c e' ex wr hb
                  rw [hρ] at m1; cases m1
                  have hlen : l'.length = n * z := by rw [g1]; simp; omega
                  have hcell : ∀ i, i < n * z → ∀ (hi : i < l'.length), ∃ w, F ⟨β, off + i, none⟩ = some w ∧ VR T F ρ' l'[i] w := by
                    intro i hi hi'
                    have hi0 : i < ((c.drop off).take (n * z)).length := by rw [← g1]; exact hi'
                    obtain ⟨ji, k1, k2⟩ := g2 i hi0 hi'
                    obtain ⟨q1, _, _⟩ := ih _ _ _ k1 (fun x hx => hh x (List.mem_cons_of_mem _ (k2 x hx)))
                    obtain ⟨w, w1, w2⟩ := m2 (off + i) (by omega)
                    refine ⟨w, w1, q1 w ?_⟩
                    simp only [List.getElem_take, List.getElem_drop]
                    exact w2
                  let g : Nat → Value := fun i => (F ⟨β, off + i, none⟩).getD undef
                  have hg : ∀ i, i < n * z → ∀ (hi : i < l'.length), F ⟨β, off + i, none⟩ = some (g i) ∧ VR T F ρ' l'[i] (g i) := by
                    intro i hi hi'
                    obtain ⟨w, w1, w2⟩ := hcell i hi hi'
                    have : g i = w := by simp [g, w1]
                    rw [this]; exact ⟨w1, w2⟩
                  cases ag with
                  | true =>
                    simp only [if_true]
                    have hcl := chunk_len z n l'
                    have := VR.sl (T := T) (F := F) (ρ := ρ') false (chunk z n l') β off z cp (fun i j => g (i * z + j)) (by rw [hcl]; exact hn) (by intro h; cases h) (fun i hi => ?_) (fun i j hi hj => ?_) (fun i j hi hj => ?_)
                    · rw [hcl] at this; exact this
                    · rw [chunk_get]
                      rw [hcl] at hi
                      have := Nat.mul_le_mul_right z (show i + 1 ≤ n from hi)
                      rw [Nat.succ_mul] at this
                      simp only [AV.cells, List.length_take, List.length_drop]; omega
                    · rw [hcl] at hi
                      have hlt := mul_lt_of hi hj
                      have := (hg (i * z + j) hlt (by omega)).1
                      rw [← Nat.add_assoc] at this; exact this
                    · rw [hcl] at hi
                      have hj' : j < z := by
                        rw [chunk_get] at hj
                        simp only [AV.cells, List.length_take] at hj; omega
                      have hlt := mul_lt_of hi hj'
                      have := (hg (i * z + j) hlt (by omega)).2
                      simp only [chunk_get, AV.cells, List.getElem_take, List.getElem_drop]
                      exact this
                  | false =>
                    simp only [Bool.false_or, Bool.and_eq_true] at hag
                    have hz1 : z = 1 := Nat.eq_of_beq_eq_true hag.1
                    subst hz1
                    simp only [Bool.false_eq_true, if_false]
                    rw [Nat.mul_one] at hlen hg
                    have hna : ∀ i (hi : i < l'.length), l'[i].cells = [l'[i]] := fun i hi => notAgg_cells (List.all_eq_true.1 hag.2 _ (List.getElem_mem hi))
                    have := VR.sl (T := T) (F := F) (ρ := ρ') false l' β off 1 cp (fun i j => g i) (by omega) (by intro h; cases h) (fun i hi => by rw [hna i hi]; rfl) (fun i j hi hj => ?_) (fun i j hi hj => ?_)
                    · rw [hlen] at this; exact this
                    · have hj0 : j = 0 := by omega
                      subst hj0
                      rw [Nat.mul_one, Nat.add_zero]
                      exact (hg i (by omega) hi).1
                    · have hj0 : j = 0 := by rw [hna i hi] at hj; simpa using hj
                      subst hj0
                      simp only [hna i hi, List.getElem_cons_zero]
                      exact (hg i (by omega) hi).2
              · cases h
          · cases h
        · cases h
      · rename_i id off
        split at h
        · rename_i c e' ex wr hb
          simp only [Option.some.injEq, Prod.mk.injEq] at h; obtain ⟨rfl, rfl⟩ := h
          refine ⟨fun u hu => ?_, fun _ => rfl, fun cs hcs => by cases hcs⟩
          cases hu with
          | ptr _ _ β z hρ =>
            obtain ⟨β', z', m1, m2⟩ := hh id (List.mem_cons_self ..) c e' ex wr hb
            rw [hρ] at m1; cases m1
            obtain ⟨g1, g2⟩ := purU_get (f := pur T s k) c
            let g : Nat → Value := fun i => (F ⟨β, i, none⟩).getD undef
            have := VR.pel (T := T) (F := F) (ρ := ρ') (purU (pur T s k) c).1 off β 0 g (fun j hj => ?_) (fun j hj => ?_)
            · rw [Nat.zero_add] at this; exact this
            · obtain ⟨w, w1, w2⟩ := m2 j (by omega)
              rw [Nat.zero_add]
              simp [g, w1]
            · obtain ⟨w, w1, w2⟩ := m2 j (by omega)
              have hgw : g j = w := by simp [g, w1]
              rw [hgw]
              rcases g2 j (by omega) hj with h | ⟨ji, k1, k2⟩
              · rw [h]; exact .undef _
              · exact (ih _ _ _ k1 (fun x hx => hh x (List.mem_cons_of_mem _ (k2 x hx)))).1 _ w2
        · cases h
      · rename_i cs
        cases hp : purL (pur T s k) cs with
        | none => rw [hp] at h; cases h
        | some r =>
          obtain ⟨l', j⟩ := r
          rw [hp] at h
          simp only [Option.map_some, Option.some.injEq, Prod.mk.injEq] at h; obtain ⟨rfl, rfl⟩ := h
          obtain ⟨g1, g2⟩ := purL_get _ _ _ hp
          refine ⟨fun u hu => ?_, (by intro h; cases h), fun cs hcs => ⟨_, rfl⟩⟩
          obtain ⟨vs, rfl, hcr⟩ := agg_inv hu
          refine VR.agg_cr ⟨by rw [g1]; exact hcr.1, fun i a b => ?_⟩
          obtain ⟨ji, k1, k2⟩ := g2 i (by omega) a
          exact (ih _ _ _ k1 (fun x hx => hh x (k2 x hx))).1 _ (hcr.2 i (by omega) b)
      · rename_i cs
        cases hp : purL (pur T s k) cs with
        | none => rw [hp] at h; cases h
        | some r =>
          obtain ⟨l', j⟩ := r
          rw [hp] at h
          simp only [Option.map_some, Option.some.injEq, Prod.mk.injEq] at h; obtain ⟨rfl, rfl⟩ := h
          obtain ⟨g1, g2⟩ := purL_get _ _ _ hp
          refine ⟨fun u hu => ?_, fun h => rfl, fun cs hcs => by cases hcs⟩
          obtain ⟨vs, rfl, hcr⟩ := tup_inv hu
          refine .tup _ _ (by rw [g1, hcr.1]; simp) fun i a b => ?_
          obtain ⟨ji, k1, k2⟩ := g2 i (by omega) a
          have := (ih _ _ _ k1 (fun x hx => hh x (k2 x hx))).1 _ (hcr.2 i (by omega) (by simpa using b))
          simpa using this
      · cases h
end
end Go.Proofs.YtdehdahimkcakaaGreatDoor.Ai
