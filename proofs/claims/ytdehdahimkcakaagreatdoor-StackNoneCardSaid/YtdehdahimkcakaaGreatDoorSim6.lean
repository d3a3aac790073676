/- Slices: literals, make, slicing, append, copy. -/
import Derived.Test.YtdehdahimkcakaaGreatDoorSim5
import Derived.IntWalk
set_option linter.unusedVariables false
set_option linter.unusedSimpArgs false
namespace Go.Proofs.YtdehdahimkcakaaGreatDoor.Ai
open Go

section
variable {P : Program} {T : Ty} {F : Fz} {ρ : Rho} {s : St} {W : World}

/-- Elements of z cells each that lie in an array one behind the other. -/
def ER (T : Ty) (F : Fz) (ρ : Rho) (z : Nat) (l : List AV) (C : Array Value) : Prop := l.length * z ≤ C.size ∧ (∀ i (h : i < l.length), l[i].cells.length = z) ∧
  ∀ i j (h : i < l.length) (h2 : j < l[i].cells.length), ∃ v, C[i * z + j]? = some v ∧ VR T F ρ l[i].cells[j] v
theorem mul_lt_of {i n z j : Nat} (hi : i < n) (hj : j < z) : i * z + j < n * z := by
  have : (i + 1) * z ≤ n * z := Nat.mul_le_mul_right z (by omega)
  rw [Nat.add_mul, Nat.one_mul] at this; omega
/-- A literal: its cells are new, and nobody writes them any more. -/
theorem cold_sl (hR : R T F ρ s W) {z : Nat} {l : List AV} {C : Array Value} (h : ER T F ρ z l C) (e : TypeId) (fr : Nat × Nat) (ex : Bool) (c : Nat) (hc : l.length ≤ c) (hx : ex = true → c = l.length) (id : Nat) :
    ∃ F', VR T F' ρ (.sl ex l) (.slice (some ⟨W.heap.size, 0, none⟩) l.length c) ∧ R T F' ρ s (W.alloc (.cells C e fr)) ∧ Step s ρ F W s ρ F' (W.alloc (.cells C e fr)) := by
  obtain ⟨r1, r2⟩ := hR.cold C e fr
  refine ⟨_, ?_, r1, r2⟩
  obtain ⟨h1, h2, h3⟩ := h
  by_cases hl : l = []
  · subst hl; exact .sl0 ex _ _ (by simpa using hx) (fun h => nomatch h)
  · refine .sl ex l W.heap.size 0 z c (fun i j => C.getD (i * z + j) undef) hc hx h2 (fun i j hi hj => ?_) (fun i j hi hj => ?_)
    · have hlt : i * z + j < C.size := Nat.lt_of_lt_of_le (mul_lt_of hi hj) h1
      rw [Nat.zero_add, fput_in hlt, Array.getElem?_eq_getElem hlt]
      simp [Array.getD, hlt]
    · obtain ⟨v, k1, k2⟩ := h3 i j hi hj
      have hlt : i * z + j < C.size := by
        rcases Nat.lt_or_ge (i * z + j) C.size with h' | h'
        · exact h'
        · rw [Array.getElem?_eq_none h'] at k1; cases k1
      have : C.getD (i * z + j) undef = v := by
        rw [Array.getElem?_eq_getElem hlt] at k1
        simp only [Array.getD, hlt, dif_pos, Option.some.injEq] at k1 ⊢
        exact k1
      rw [this]
      exact k2.mono r2.fz (RLe.refl _)

theorem setV_get (vs : List Value) : ∀ (C : Array Value) (off j : Nat), off + vs.length ≤ C.size → (setV C off vs)[j]? = if off ≤ j ∧ j < off + vs.length then vs[j - off]? else C[j]? := by
  induction vs with
  | nil => intro C off j _; simp [setV]; omega
  | cons v vs ih =>
    intro C off j h
    simp only [List.length_cons] at h
    rw [setV, ih _ _ _ (by simp; omega), Array.getElem?_setIfInBounds]
    by_cases h1 : off + 1 ≤ j ∧ j < off + 1 + vs.length
    · rw [if_pos h1, if_pos (by simp; omega), show j - off = (j - (off + 1)) + 1 by omega, List.getElem?_cons_succ]
    · rw [if_neg h1]
      by_cases h2 : off = j
      · subst h2; rw [if_pos rfl, if_pos (by omega), if_pos (by simp)]; simp
      · rw [if_neg h2, if_neg (by simp; omega)]
theorem parts_ok (z : Nat) : ∀ (ps : List (Nat × AV)) (qs : List (Nat × Value)) (l : List AV) (C : Array Value) (l' : List AV), PR T F ρ ps qs → ER T F ρ z l C → setParts z l ps = some l' →
    ∃ C', Instr.fill (fun i => some (i * z, z)) C qs = some C' ∧ ER T F ρ z l' C' ∧ l'.length = l.length := by
  intro ps
  induction ps with
  | nil =>
    intro qs l C l' hp hc h
    have : qs = [] := List.eq_nil_of_length_eq_zero (by have := hp.1; simpa using this.symm)
    subst this
    simp only [setParts, Option.some.injEq] at h; subst h
    exact ⟨C, rfl, hc, rfl⟩
  | cons p ps ih =>
    intro qs l C l' hp hc h
    cases qs with
    | nil => have := hp.1; simp at this
    | cons q qs =>
      obtain ⟨i, a⟩ := p
      obtain ⟨j, v⟩ := q
      obtain ⟨h1, h2, h3⟩ := hp.tail
      simp only at h1 h2; subst h1
      simp only [setParts] at h
      split at h
      · rename_i hcond
        obtain ⟨q1, q2, q3⟩ := hcond
        obtain ⟨hcr, _⟩ := cells_ok q3 h2
        obtain ⟨e1, e2, e3⟩ := hc
        have hlen : v.cells.size = z := by have := hcr.1; simp at this; omega
        have hiz : i * z + z ≤ C.size := by
          have : (i + 1) * z ≤ l.length * z := Nat.mul_le_mul_right z (by omega)
          rw [Nat.add_mul, Nat.one_mul] at this; omega
        simp only [Instr.fill]
        have hcnd : (decide (v.cells.size ≠ z) || decide (i * z + v.cells.size > C.size)) = false := by simp [hlen]; omega
        rw [if_neg (by rw [hcnd]; simp), zip_cells z (i * z) v C]
        have hER : ER T F ρ z (l.set i a) (setV C (i * z) v.cells.toList) := by
          refine ⟨by simpa [setV_size] using e1, fun k hk => ?_, fun k m hk hm => ?_⟩
          · rw [List.getElem_set]; split
            · exact q1
            · exact e2 k (by simpa using hk)
          · have hsz : (l.set i a)[k].cells.length = z := by
              rw [List.getElem_set]; split
              · exact q1
              · exact e2 k (by simpa using hk)
            have hm' : m < z := by omega
            rw [setV_get _ _ _ _ (by simp; omega)]
            by_cases hik : i = k
            · subst hik
              rw [if_pos (by simp; omega)]
              have hx : (l.set i a)[i] = a := by simp
              have hma : m < a.cells.length := by omega
              have hmv : m < v.cells.toList.length := by rw [← hcr.1]; exact hma
              refine ⟨v.cells.toList[m], by rw [show i * z + m - i * z = m by omega]; exact List.getElem?_eq_getElem hmv, ?_⟩
              have := hcr.2 m hma hmv
              simpa only [hx] using this
            · have hne : ¬ (i * z ≤ k * z + m ∧ k * z + m < i * z + v.cells.toList.length) := by
                simp only [Array.length_toList, hlen]
                intro ⟨g1, g2⟩
                rcases Nat.lt_or_gt_of_ne hik with hlt | hgt
                · have : (i + 1) * z ≤ k * z := Nat.mul_le_mul_right z (by omega)
                  rw [Nat.add_mul, Nat.one_mul] at this; omega
                · have : (k + 1) * z ≤ i * z := Nat.mul_le_mul_right z (by omega)
                  rw [Nat.add_mul, Nat.one_mul] at this; omega
              rw [if_neg hne]
              have hx : (l.set i a)[k] = l[k]'(by simpa using hk) := by rw [List.getElem_set, if_neg hik]
              obtain ⟨v', w1, w2⟩ := e3 k m (by simpa using hk) (by have := e2 k (by simpa using hk); omega)
              exact ⟨v', w1, by simpa only [hx] using w2⟩
        obtain ⟨C', k1, k2, k3⟩ := ih qs _ _ l' h3 hER h
        exact ⟨C', k1, k2, by rw [k3]; simp⟩
      · cases h
theorem range_rep (z n : Nat) (zs : Array Value) (hz : zs.size = z) (h0 : 0 < z) : ∀ i j, i < n → j < z → ((Array.range (n * z)).map (zs[· % zs.size]!))[i * z + j]? = zs[j]? := by
  intro i j hi hj
  have hlt : i * z + j < n * z := mul_lt_of hi hj
  rw [Array.getElem?_map, Array.getElem?_range]
  rw [if_pos hlt]
  have : (i * z + j) % zs.size = j := by rw [hz, Nat.add_comm, Nat.add_mul_mod_self_right, Nat.mod_eq_of_lt hj]
  simp only [Option.map_some, this]
  rw [getElem!_pos zs j (by omega), Array.getElem?_eq_getElem (by omega)]
theorem rep_er {zv : AV} {v : Value} (hcr : CR T F ρ zv.cells v.cells.toList) {z n : Nat} (hz : zv.cells.length = z) (h0 : 0 < z) : ER T F ρ z (List.replicate n zv) ((Array.range (n * z)).map (v.cells[· % v.cells.size]!)) := by
  have hvs : v.cells.size = z := by have := hcr.1; simp at this; omega
  refine ⟨by simp, fun i hi => by simp [hz], fun i j hi hj => ?_⟩
  simp only [List.length_replicate] at hi
  simp only [List.getElem_replicate] at hj ⊢
  rw [range_rep z n v.cells hvs h0 i j hi (by omega)]
  exact ⟨v.cells[j]'(by omega), Array.getElem?_eq_getElem (by omega), by have := hcr.2 j hj (by simp; omega); rwa [Array.getElem_toList] at this⟩
theorem buildSl_ok (hT : TyOk P T) (hR : R T F ρ s W) {t : TypeId} {n : Nat} {ps : List (Nat × AV)} {qs : Array (Nat × Value)} (hp : PR T F ρ ps qs.toList) {r : AV} (h : buildSl T t n ps = some r) (id : Nat) :
    Does P T id s ρ F W r s (Instr.buildSlice t n qs) := by
  unfold buildSl at h
  cases hd : und T t with
  | none => rw [hd] at h; cases h
  | some d =>
    rw [hd] at h
    cases d with
    | slice e =>
      simp only at h
      cases hl : lay T e with
      | none => rw [hl] at h; cases h
      | some zz =>
        obtain ⟨z, ag⟩ := zz
        cases hz : zero T e with
        | none => rw [hl, hz] at h; cases h
        | some zv =>
          rw [hl, hz] at h
          simp only at h
          split at h
          · rename_i hc
            obtain ⟨q1, q2, q3⟩ := hc
            obtain ⟨v, hv, rfl⟩ := run_zero hT hz
            cases hs : setParts z (List.replicate n (ofV v)) ps with
            | none => rw [hs] at h; cases h
            | some l' =>
              rw [hs] at h
              simp only [Option.map_some, Option.some.injEq] at h; subst h
              obtain ⟨C', k1, k2, k3⟩ := parts_ok z ps qs.toList _ _ l' hp (rep_er (n := n) (ofV_cells v) q3 q2) hs
              have hln : l'.length = n := by rw [k3]; simp
              obtain ⟨F', f1, f2, f3⟩ := cold_sl hR k2 e (0, 0) true n (by omega) (fun _ => hln.symm) id
              rw [hln] at f1
              refine ⟨_, _, ρ, F', ?_, f1, f2, f3, fun _ _ _ => rfl, Nat.le_refl _⟩
              have hnz : ¬ n * z > 2 ^ 24 := by omega
              by_cases h0 : n * z = 0
              · have hn0 : n = 0 := by rcases Nat.mul_eq_zero.1 h0 with h | h <;> omega
                subst hn0
                simp only [Instr.buildSlice, Sem.run_bind, run_underlying (und_ok hT hd), Result.andThen_ok, run_sizeOf_lay hT hl, if_neg hnz, if_pos h0, Sem.run_pure]
                have e0 : (Array.range (0 * z)).map (fun i => (#[] : Array Value)[i % (#[] : Array Value).size]!) = (Array.range (0 * z)).map (v.cells[· % v.cells.size]!) := by simp
                rw [e0, k1]
                rfl
              · simp only [Instr.buildSlice, Sem.run_bind, run_underlying (und_ok hT hd), Result.andThen_ok, run_sizeOf_lay hT hl, if_neg hnz, if_neg h0, hv, Sem.run_pure]
                rw [k1]
                rfl
          · cases h
    | _ => cases h

theorem rep_cr {zv : AV} {v : Value} (hcr : CR T F ρ zv.cells v.cells.toList) {z : Nat} (n : Nat) (hz : zv.cells.length = z) (h0 : 0 < z) : CR T F ρ (List.replicate n zv.cells).flatten ((Array.range (n * z)).map (v.cells[· % v.cells.size]!)).toList := by
  have hvs : v.cells.size = z := by have := hcr.1; simp at this; omega
  have hfl : ∀ n, ((List.replicate n zv.cells).flatten).length = n * z := by
    intro n
    induction n with
    | zero => simp
    | succ n ih => rw [List.replicate_succ, List.flatten_cons, List.length_append, ih, hz, Nat.succ_mul]; omega
  have hget : ∀ n k, k < n * z → ((List.replicate n zv.cells).flatten)[k]? = zv.cells[k % z]? := by
    intro n
    induction n with
    | zero => intro k hk; simp at hk
    | succ n ih =>
      intro k hk
      rw [List.replicate_succ, List.flatten_cons]
      by_cases hkz : k < z
      · rw [List.getElem?_append_left (by omega), Nat.mod_eq_of_lt hkz]
      · rw [List.getElem?_append_right (by omega), hz, ih (k - z) (by rw [Nat.succ_mul] at hk; omega)]
        congr 1
        rw [← Nat.mod_eq_sub_mod (by omega)]
  refine ⟨by rw [hfl]; simp, fun i a b => ?_⟩
  have hi : i < n * z := by rw [hfl] at a; exact a
  have hm : i % z < z := Nat.mod_lt _ h0
  have e1 : ((List.replicate n zv.cells).flatten)[i] = zv.cells[i % z]'(by omega) := by
    have := hget n i hi
    rw [List.getElem?_eq_getElem a, List.getElem?_eq_getElem (by omega)] at this
    simpa using this
  have e2 : (((Array.range (n * z)).map (v.cells[· % v.cells.size]!)).toList)[i] = v.cells[i % z]'(by omega) := by
    simp only [Array.getElem_toList, Array.getElem_map, Array.getElem_range, hvs]
    rw [getElem!_pos v.cells (i % z) (by omega)]
  rw [e1, e2]
  have := hcr.2 (i % z) (by omega) (by simp; omega)
  rwa [Array.getElem_toList] at this
theorem makeSlice_ok (hT : TyOk P T) (hR : R T F ρ s W) {t et : TypeId} (hu : und T t = some (.slice et)) {z b : Nat} {ag : Bool} (hl : lay T et = some (z, ag)) (hb : bytesOf T et = some b) {zv : AV} (hz : zero T et = some zv)
    {n c : AV} {i : Int} (hn : asI n = some i) (hc : asI c = some i) (h0 : 0 ≤ i) (h1 : i * b ≤ most) (h2 : i ≤ most) (h3 : zv.cells.length = z) (h4 : 0 < z)
    {u v : Value} (hvn : VR T F ρ n u) (hvc : VR T F ρ c v) {id : Nat} (hid : ρ id = none) (hlt : id < s.nx) :
    Does P T id s ρ F W (.ref id 0 i.toNat (some i.toNat) et) (s.set id (some (.cells (List.replicate i.toNat zv.cells).flatten et true true))) (Instr.makeSlice t u v) := by
  obtain ⟨k1, rfl⟩ := asI_ok hn hvn
  obtain ⟨k2, rfl⟩ := asI_ok hc hvc
  obtain ⟨zr, hzr, rfl⟩ := run_zero hT hz
  obtain ⟨ib, hib, hib2⟩ := run_bytes hT hb
  have hcr := rep_cr (ofV_cells (T := T) (F := F) (ρ := ρ) zr) i.toNat h3 h4
  obtain ⟨r1, r2, r3⟩ := born_row hR hid hlt hcr et true
  have hsz : ((Array.range (i.toNat * z)).map (zr.cells[· % zr.cells.size]!)).size = i.toNat * z := by simp
  refine ⟨.slice (some ⟨W.heap.size, 0, none⟩) i.toNat i.toNat, _, _, F, ?_, .ref _ 0 _ _ _ W.heap.size _ i.toNat z ag (rset_same _ _) hl (Nat.le_refl _) (fun k hk => by cases hk; exact ⟨rfl, by rw [hsz]; omega⟩) (fun hk => by cases hk), r1, r2, r3, Nat.le_refl _⟩
  have hm : (most : Int) = 1099511627776 := by decide
  have hw : IntKind.i64.wrap i = i := by
    have := IntWalk.i64_in i (by omega)
    exact this
  have hbi : ¬ ((ib.bytes : Int) * i > 2 ^ 48) := by rw [hib2, Int.mul_comm]; omega
  simp only [Instr.makeSlice, Sem.run_bind, run_underlying (und_ok hT hu), Result.andThen_ok, asInt, asIntOf, Sem.run_pure, typeInfo, run_program, hib, hw]
  have e1 : (decide (i < 0) || decide ((ib.bytes : Int) * i > 2 ^ 48) || decide (i < 0) || decide (i > i)) = false := by
    simp only [Bool.or_eq_false_iff, decide_eq_false_iff_not]
    exact ⟨⟨⟨by omega, hbi⟩, by omega⟩, by omega⟩
  rw [if_neg (by rw [e1]; simp)]
  simp only [run_askRoom, Sem.run_bind, run_sizeOf_lay hT hl, Result.andThen_ok]
  by_cases hnz : i.toNat * z = 0
  · have e0 : (Array.range (i.toNat * z)).map (fun i => (#[] : Array Value)[i % (#[] : Array Value).size]!) = (Array.range (i.toNat * z)).map (zr.cells[· % zr.cells.size]!) := by rw [hnz]; simp
    simp only [if_pos hnz, Sem.run_bind, Sem.run_pure, Result.andThen_ok, newRow, run_newObj]
    rw [e0]
    rfl
  · simp only [if_neg hnz, Sem.run_bind, hzr, Sem.run_pure, Result.andThen_ok, newRow, run_newObj]
    rfl
end
end Go.Proofs.YtdehdahimkcakaaGreatDoor.Ai
