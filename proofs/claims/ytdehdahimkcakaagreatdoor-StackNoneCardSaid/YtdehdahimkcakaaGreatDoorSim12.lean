/- Maps. -/
import Derived.Test.YtdehdahimkcakaaGreatDoorSim11
import Derived.MapKept
set_option linter.unusedVariables false
set_option linter.unusedSimpArgs false
namespace Go.Proofs.YtdehdahimkcakaaGreatDoor.Ai
open Go Go.MapKept

section
variable {P : Program} {T : Ty} {F : Fz} {ρ : Rho} {s : St} {W : World}

theorem key_ok {kd : TypeDesc} {k : AV} (h : keyD kd k = true) {u : Value} (hu : VR T F ρ k u) : IsKey kd u := by
  unfold keyD at h
  split at h
  · cases hu; simpa [IsKey] using h
  · cases hu; trivial
  · cases h
theorem same_ok {kd : TypeDesc} {k a : AV} {b : Bool} (hk : keyD kd k = true) (h : cellEq k a = some b) {u v : Value} (hu : VR T F ρ k u) (hv : VR T F ρ a v) : Instr.sameNow kd u v = some b ∧ (b = true → u = v) := by
  unfold keyD at hk
  split at hk
  · rename_i k1 k2 n
    unfold cellEq at h
    split at h
    · rename_i j a' j' b' e1
      cases e1
      split at h
      · rename_i hkk
        subst hkk
        simp only [Option.some.injEq] at h; subst h
        cases hu; cases hv
        refine ⟨by simp [Instr.sameNow], fun h => by simp at h; rw [h]⟩
      · cases h
    · rename_i e1; cases e1
    · rename_i e1; cases e1
    · cases h
  · rename_i x
    unfold cellEq at h
    split at h
    all_goals (first | cases h | skip)
    all_goals (first | (rename_i e1; cases e1; done) | skip)
    rename_i x' y e1
    cases e1
    cases hu with
    | str _ c hc => cases hv with
      | str _ d hd =>
        have hiff : (c == d) = (x == y) := by
          rw [Bool.eq_iff_iff, bytes_beq, beq_iff_eq, ← hc, ← hd]
          constructor
          · intro h; rw [h]
          · intro h
            apply ByteArray.ext
            apply Array.ext'
            exact h
        refine ⟨by simp only [Instr.sameNow, hiff], fun h => ?_⟩
        have h' : (x == y) = true := h
        rw [← hiff, bytes_beq] at h'
        rw [h']
  · cases hk
def MR (T : Ty) (F : Fz) (ρ : Rho) (m : List (AV × AV)) (es : List MapEntry) : Prop :=
  m.length = es.length ∧ ∀ j (h : j < m.length) (h' : j < es.length), keyOk m[j].1 = true ∧ VR T F ρ m[j].1 es[j].key ∧ VR T F ρ m[j].2 es[j].val
theorem MR.tail {p : AV × AV} {e : MapEntry} {m : List (AV × AV)} {es : List MapEntry} (h : MR T F ρ (p :: m) (e :: es)) : VR T F ρ p.1 e.key ∧ VR T F ρ p.2 e.val ∧ MR T F ρ m es :=
  ⟨(h.2 0 (by simp) (by simp)).2.1, (h.2 0 (by simp) (by simp)).2.2, by have := h.1; simpa using this, fun j a b => h.2 (j + 1) (by simp; omega) (by simp; omega)⟩
theorem find_none {kd : TypeDesc} {k : AV} (hk : keyD kd k = true) {u : Value} (hu : VR T F ρ k u) : ∀ (m : List (AV × AV)) (es : List MapEntry) (i : Nat), MR T F ρ m es → find k m = some none → Instr.findNow kd u es i = some none ∧ ∀ x, mapSet k x m = m ++ [(k, x)] := by
  intro m
  induction m with
  | nil =>
    intro es i hm h
    have : es = [] := List.eq_nil_of_length_eq_zero (by rw [← hm.1]; rfl)
    subst this
    exact ⟨rfl, fun _ => rfl⟩
  | cons p m ih =>
    intro es i hm h
    cases es with
    | nil => exact absurd hm.1 (by simp)
    | cons e es =>
      obtain ⟨a, v⟩ := p
      obtain ⟨h1, h2, h3⟩ := hm.tail
      simp only [find] at h
      cases hc : cellEq k a with
      | none => rw [hc] at h; cases h
      | some b =>
        rw [hc] at h
        cases b with
        | true => simp at h
        | false =>
          obtain ⟨g1, g2⟩ := ih es (i + 1) h3 h
          obtain ⟨q1, _⟩ := same_ok hk hc hu h1
          refine ⟨by simp [Instr.findNow, q1, g1], fun x => ?_⟩
          simp only [mapSet, hc]
          simp [g2 x]
theorem find_some {kd : TypeDesc} {k : AV} (hk : keyD kd k = true) {u : Value} (hu : VR T F ρ k u) {v : AV} : ∀ (m : List (AV × AV)) (es : List MapEntry) (i : Nat), MR T F ρ m es → find k m = some (some v) →
    ∃ j e, es[j]? = some e ∧ j < m.length ∧ Instr.findNow kd u es i = some (some (i + j, e.val)) ∧ VR T F ρ v e.val ∧ e.key = u ∧ ∀ x, mapSet k x m = m.set j (k, x) := by
  intro m
  induction m with
  | nil => intro es i hm h; cases h
  | cons p m ih =>
    intro es i hm h
    cases es with
    | nil => exact absurd hm.1 (by simp)
    | cons e es =>
      obtain ⟨a, v'⟩ := p
      obtain ⟨h1, h2, h3⟩ := hm.tail
      simp only [find] at h
      cases hc : cellEq k a with
      | none => rw [hc] at h; cases h
      | some b =>
        rw [hc] at h
        obtain ⟨q1, q2⟩ := same_ok hk hc hu h1
        cases b with
        | true =>
          simp only [Option.some.injEq] at h; subst h
          refine ⟨0, e, rfl, by simp, by simp [Instr.findNow, q1], h2, (q2 rfl).symm, fun x => ?_⟩
          simp [mapSet, hc]
        | false =>
          obtain ⟨j, e', g1, g2, g3, g4, g5, g6⟩ := ih es (i + 1) h3 h
          refine ⟨j + 1, e', by simpa using g1, by simp; omega, by simp [Instr.findNow, q1, g3]; omega, g4, g5, fun x => ?_⟩
          simp only [mapSet, hc]
          simp [g6 x]
theorem map_at (hR : R T F ρ s W) {id : Nat} {m : List (AV × AV)} (hb : s.h id = some (.map m)) : ∃ β z es cl, ρ id = some (β, z) ∧ W.heap[β]? = some (.map es cl) ∧ MR T F ρ m es.toList := by
  obtain ⟨β, z, o, k1, k2, k3, k4⟩ := hR.lt hb
  cases o with
  | map es cl =>
    refine ⟨β, z, es, cl, k1, k2, by simpa using k3.1, fun j a b => ?_⟩
    have := k3.2 j a (by simpa using b)
    simpa using this
  | _ => exact k3.elim
theorem lookup_ok (hT : TyOk P T) (hR : R T F ρ s W) {t : TypeId} {m k r : AV} {ok : Bool} (h : lookupA T t m k ok s = some r) {u v : Value} (hu : VR T F ρ m u) (hv : VR T F ρ k v) : Says P T F ρ W r (Instr.lookup t u v ok) := by
  unfold lookupA at h
  cases hd : und T t with
  | none => rw [hd] at h; cases h
  | some d =>
    rw [hd] at h
    cases d with
    | map kt e =>
      simp only at h
      cases hkd : und T kt with
      | none => rw [hkd] at h; cases h
      | some kd =>
        rw [hkd] at h
        simp only [Option.bind_some] at h
        split at h
        · rename_i hk
          cases hz : zero T e with
          | none => rw [hz] at h; cases h
          | some zv =>
            rw [hz] at h
            simp only [Option.bind_some] at h
            obtain ⟨zr, hzr, rfl⟩ := run_zero hT hz
            cases he : entryA m k s with
            | none => rw [he] at h; cases h
            | some res =>
              rw [he] at h
              simp only [Option.map_some, Option.some.injEq] at h
              -- what the entries are
              have key : ∃ es : Array MapEntry, (∃ M, MR T F ρ M es.toList ∧ find k M = some res) ∧
                  ((u = .map none ∧ es = #[]) ∨ ∃ β cl, u = .map (some β) ∧ W.heap[β]? = some (.map es cl)) := by
                unfold entryA at he
                split at he
                · simp only [Option.some.injEq] at he; subst he
                  cases hu
                  exact ⟨#[], ⟨[], ⟨rfl, fun j h => by simp at h⟩, rfl⟩, .inl ⟨rfl, rfl⟩⟩
                · rename_i id
                  cases hb : s.h id with
                  | none => rw [hb] at he; cases he
                  | some bk =>
                    rw [hb] at he
                    cases bk with
                    | map M =>
                      simp only at he
                      cases hu with
                      | map _ β z hρ =>
                        obtain ⟨β', z', es, cl, k1, k2, k3⟩ := map_at hR hb
                        rw [hρ] at k1; cases k1
                        exact ⟨es, ⟨M, k3, he⟩, .inr ⟨β, cl, rfl, k2⟩⟩
                    | _ => cases he
                · cases he
              obtain ⟨es, ⟨M, hM, hfind⟩, hes⟩ := key
              have hck := run_checkKey (P := P) (w := W) (und_ok hT hkd) (key_ok hk hv) es.isEmpty 9999
              have hfk : ∃ a, (Instr.findKey kt v es.toList).run P W = .ok a W ∧ ((res = none ∧ a = none) ∨ ∃ x j w, res = some x ∧ a = some (j, w) ∧ VR T F ρ x w) := by
                cases res with
                | none =>
                  obtain ⟨g1, _⟩ := find_none hk hv M es.toList 0 hM hfind
                  exact ⟨none, run_findKey (und_ok hT hkd) g1, .inl ⟨rfl, rfl⟩⟩
                | some x =>
                  obtain ⟨j, e', g1, g2, g3, g4, g5, g6⟩ := find_some hk hv M es.toList 0 hM hfind
                  exact ⟨_, run_findKey (und_ok hT hkd) g3, .inr ⟨x, _, _, rfl, rfl, g4⟩⟩
              obtain ⟨a, ha, hcase⟩ := hfk
              have hbool : ∀ (x : AV) (w : Value), VR T F ρ x w → ∀ b, VR T F ρ (.tup [x, .bool b]) (.tuple #[w, .bool b]) := fun x w hx b => by
                refine .tup _ _ rfl fun i h h' => ?_
                match i, h with
                | 0, _ => exact hx
                | 1, _ => exact .bool b
              rcases hcase with ⟨rfl, rfl⟩ | ⟨x, j, w, rfl, rfl, hxw⟩
              · refine ⟨if ok then .tuple #[zr, .bool false] else zr, ?_, ?_⟩
                · rcases hes with ⟨rfl, rfl⟩ | ⟨β, cl, rfl, k2⟩
                  · simp only [Instr.lookup, Sem.run_bind, run_underlying (und_ok hT hd), Result.andThen_ok, Sem.run_pure, hck, ha, hzr]
                  · simp only [Instr.lookup, Sem.run_bind, run_underlying (und_ok hT hd), Result.andThen_ok, MapKept.run_getObj_map k2, Sem.run_pure, hck, ha, hzr]
                · subst h
                  cases ok
                  · exact ofV_ok zr
                  · exact hbool _ _ (ofV_ok zr) false
              · refine ⟨if ok then .tuple #[w, .bool true] else w, ?_, ?_⟩
                · rcases hes with ⟨rfl, rfl⟩ | ⟨β, cl, rfl, k2⟩
                  · simp only [Instr.lookup, Sem.run_bind, run_underlying (und_ok hT hd), Result.andThen_ok, Sem.run_pure, hck, ha]
                  · simp only [Instr.lookup, Sem.run_bind, run_underlying (und_ok hT hd), Result.andThen_ok, MapKept.run_getObj_map k2, Sem.run_pure, hck, ha]
                · subst h
                  cases ok
                  · exact hxw
                  · exact hbool _ _ hxw true
        · cases h
    | _ => cases h
theorem mapUpd_ok (hT : TyOk P T) (hR : R T F ρ s W) {t : TypeId} {m k x : AV} {s' : St} (h : mapUpd T t m k x s = some s') {u v w : Value} (hu : VR T F ρ m u) (hv : VR T F ρ k v) (hw : VR T F ρ x w) (id0 : Nat) : DoesU P T id0 s ρ F W s' (Instr.mapUpdate t u v w) := by
  unfold mapUpd at h
  cases hd : und T t with
  | none => rw [hd] at h; cases h
  | some d =>
    rw [hd] at h
    cases d with
    | map kt e =>
      simp only at h
      cases hkd : und T kt with
      | none => rw [hkd] at h; cases h
      | some kd =>
        rw [hkd] at h
        simp only [Option.bind_some] at h
        split at h
        · rename_i id
          cases hb : s.h id with
          | none => rw [hb] at h; cases h
          | some bk =>
            rw [hb] at h
            cases bk with
            | map M =>
              simp only at h
              split at h
              · rename_i hk
                cases hu with
                | map _ β z hρ =>
                  obtain ⟨β', z', es, cl, k1, k2, k3⟩ := map_at hR hb
                  rw [hρ] at k1; cases k1
                  have hck := run_checkKey (P := P) (w := W) (und_ok hT hkd) (key_ok hk hv) false 9999
                  have hok : keyOk k = true := by
                    unfold keyD at hk
                    split at hk <;> first | rfl | cases hk
                  cases hf : find k M with
                  | none => rw [hf] at h; cases h
                  | some res =>
                    rw [hf] at h
                    simp only [Option.map_some, Option.some.injEq] at h; subst h
                    cases res with
                    | none =>
                      obtain ⟨g1, g2⟩ := find_none hk hv M es.toList 0 k3 hf
                      have hfk := run_findKey (P := P) (w := W) (und_ok hT hkd) g1
                      have hor : OR T F ρ z (.map (mapSet k x M)) (.map (es.push { key := v, val := w, born := cl }) (cl + 1)) := by
                        rw [g2 x]
                        have hl := k3.1
                        simp only [Array.length_toList] at hl
                        refine ⟨by simp [hl], fun j a b => ?_⟩
                        rw [List.length_append] at a
                        by_cases hj : j < M.length
                        · rw [List.getElem_append_left hj, Array.getElem_push_lt (by omega)]
                          have := k3.2 j hj (by simp; omega)
                          simpa using this
                        · have hje : j = M.length := by simp at a; omega
                          subst hje
                          have e1 : (M ++ [(k, x)])[M.length] = (k, x) := by simp
                          have e2 : (es.push { key := v, val := w, born := cl })[M.length] = { key := v, val := w, born := cl } := by simp [hl]
                          rw [e1, e2]
                          exact ⟨hok, hv, hw⟩
                      obtain ⟨r1, r2⟩ := hR.put (b' := .map (mapSet k x M)) hb hρ hor
                      refine ⟨_, ρ, F, ?_, r1, r2, fun _ _ _ => rfl, Nat.le_refl _⟩
                      simp only [Instr.mapUpdate, Sem.run_bind, run_underlying (und_ok hT hd), Result.andThen_ok, MapKept.run_getObj_map k2, hck, hfk, MapKept.run_setObj_map _ k2]
                      rfl
                    | some y =>
                      obtain ⟨j, e', g1, g2, g3, g4, g5, g6⟩ := find_some hk hv M es.toList 0 k3 hf
                      have hfk := run_findKey (P := P) (w := W) (und_ok hT hkd) g3
                      rw [Nat.zero_add] at hfk
                      have hge : es[j]? = some e' := by simpa using g1
                      have hor : OR T F ρ z (.map (mapSet k x M)) (.map (es.modify j fun e => { e with key := v, val := w }) cl) := by
                        rw [g6 x]
                        have hl := k3.1
                        simp only [Array.length_toList] at hl
                        refine ⟨by simp [hl], fun i a b => ?_⟩
                        rw [List.length_set] at a
                        rw [List.getElem_set, Array.getElem_modify]
                        split
                        · exact ⟨hok, hv, hw⟩
                        · have := k3.2 i a (by simp; omega)
                          simpa using this
                      obtain ⟨r1, r2⟩ := hR.put (b' := .map (mapSet k x M)) hb hρ hor
                      refine ⟨_, ρ, F, ?_, r1, r2, fun _ _ _ => rfl, Nat.le_refl _⟩
                      have hst := run_keyThatStays (P := P) (w := W) (key_ok hk hv)
                      simp only [Instr.mapUpdate, Sem.run_bind, run_underlying (und_ok hT hd), Result.andThen_ok, MapKept.run_getObj_map k2, hck, hfk, hge, Option.map_some, Option.getD_some, g5, hst, MapKept.run_setObj_map _ k2]
                      rfl
              · cases h
            | _ => cases h
        · cases h
    | _ => cases h
theorem makeMap_ok (hR : R T F ρ s W) (t : TypeId) {id : Nat} (hid : ρ id = none) (hlt : id < s.nx) : Does P T id s ρ F W (.map id) (s.set id (some (.map []))) (Instr.makeMap t none) := by
  obtain ⟨r1, r2⟩ := hR.born (s' := s.set id (some (.map []))) hid (.map []) (.map #[] 0) 0 ⟨rfl, fun j h => by simp at h⟩ rfl (Nat.le_refl _) hlt
  refine ⟨.map (some W.heap.size), _, _, F, ?_, .map _ _ _ (rset_same _ _), r1, r2, fun i _ hi => rset_ne hi _, Nat.le_refl _⟩
  simp only [Instr.makeMap, Sem.run_bind, run_newObj_alloc, Result.andThen_ok, Sem.run_pure]
end
end Go.Proofs.YtdehdahimkcakaaGreatDoor.Ai
