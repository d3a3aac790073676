/- An operation of a region that draws, run on all blocks: it is the same. -/
import Derived.Test.YtdehdahimkcakaaGreatDoorSimE
set_option linter.unusedVariables false
set_option linter.unusedSimpArgs false
namespace Go.Proofs.YtdehdahimkcakaaGreatDoor.Ai
open Go

section
variable {X : Cx} {s : St} {l : List Nat}

/-- A call of a function. -/
def isVC : Op → Bool
  | .call c => match c.callee with
    | .value _ => true
    | _ => false
  | _ => false
theorem only_in {m : Nat} (h : m ∈ l) : (s.only l).h m = s.h m := by
  simp only [St.only, memB_mem.2 h, cond_true]
theorem merge_set {id a : Nat} {b : Option Blk} (hid : s.h id = none) (ha : a ∈ id :: l) : s.merge ((s.only l).set a b) (id :: l) = s.set a b := by
  refine st_eq (fun m => ?_) rfl
  simp only [St.merge, St.set, St.only]
  cases hm : memB m (id :: l) with
  | false =>
    cases hb : Nat.beq m a with
    | false => rfl
    | true => rw [Nat.eq_of_beq_eq_true hb, memB_mem.2 ha] at hm; cases hm
  | true =>
    simp only [cond_true]
    cases hb : Nat.beq m a with
    | true => rfl
    | false =>
      simp only [cond_false]
      cases hl : memB m l with
      | true => rfl
      | false =>
        rcases List.mem_cons.1 (memB_mem.1 hm) with h | h
        · subst h; rw [hid]; rfl
        · rw [memB_mem.2 h] at hl; cases hl
theorem merge_self {id : Nat} (hid : s.h id = none) : s.merge (s.only l) (id :: l) = s := by
  refine st_eq (fun m => ?_) rfl
  simp only [St.merge, St.only]
  cases hm : memB m (id :: l) with
  | false => rfl
  | true =>
    simp only [cond_true]
    cases hl : memB m l with
    | true => rfl
    | false =>
      rcases List.mem_cons.1 (memB_mem.1 hm) with h | h
      · subst h; rw [hid]; rfl
      · rw [memB_mem.2 h] at hl; cases hl
/-- What is answered on the shown blocks. -/
def Part (id : Nat) (l : List Nat) (s : St) (q q' : Option (AV × St)) : Prop := ∀ r s', q = some (r, s') → ∃ t, q' = some (r, t) ∧ (s.h id = .none → s.merge t (id :: l) = s')
theorem Part.set {id : Nat} {a : Nat} (ha : a ∈ id :: l) (r : AV) (b : Option Blk) : Part id l s (some (r, s.set a b)) (some (r, (s.only l).set a b)) := by
  intro r' s' h
  simp only [Option.some.injEq, Prod.mk.injEq] at h; obtain ⟨rfl, rfl⟩ := h
  exact ⟨_, rfl, fun hid => merge_set hid ha⟩
theorem Part.same {id : Nat} (r : AV) : Part id l s (some (r, s)) (some (r, s.only l)) := by
  intro r' s' h
  simp only [Option.some.injEq, Prod.mk.injEq] at h; obtain ⟨rfl, rfl⟩ := h
  exact ⟨_, rfl, fun hid => merge_self hid⟩
theorem Part.none {id : Nat} {q' : Option (AV × St)} : Part id l s none q' := by intro r s' h; cases h
theorem set_set (s : St) (a c : Nat) (b d : Option Blk) : (s.set a b).set c d = ⟨fun m => cond (Nat.beq m c) d (cond (Nat.beq m a) b (s.h m)), s.nx⟩ := rfl
theorem grown_part {id : Nat} (e z b : Nat) (c : List AV) : Part id l s (grown e z b c id s) (grown e z b c id (s.only l)) := by
  unfold grown
  split
  · exact Part.set (List.mem_cons_self ..) _ _
  · exact Part.none
theorem grown_part2 {id a : Nat} (ha : a ∈ l) (e z b : Nat) (c : List AV) : Part id l s (grown e z b c id (s.set a none)) (grown e z b c id ((s.only l).set a none)) := by
  unfold grown
  split
  · intro r s' h
    simp only [Option.some.injEq, newSl, Prod.mk.injEq] at h
    obtain ⟨rfl, rfl⟩ := h
    refine ⟨_, rfl, fun hid => st_eq (fun m => ?_) rfl⟩
    simp only [St.merge, St.set, St.only]
    cases hm : memB m (id :: l) with
    | false =>
      have h1 : Nat.beq m id = false := by
        cases hb : Nat.beq m id with
        | false => rfl
        | true => rw [Nat.eq_of_beq_eq_true hb, memB_mem.2 (List.mem_cons_self ..)] at hm; cases hm
      have h2 : Nat.beq m a = false := by
        cases hb : Nat.beq m a with
        | false => rfl
        | true => rw [Nat.eq_of_beq_eq_true hb, memB_mem.2 (List.mem_cons_of_mem _ ha)] at hm; cases hm
      rw [h1, h2]; rfl
    | true =>
      simp only [cond_true]
      cases h1 : Nat.beq m id with
      | true => rfl
      | false =>
        simp only [cond_false]
        cases h2 : Nat.beq m a with
        | true => rfl
        | false =>
          simp only [cond_false]
          cases hl : memB m l with
          | true => rfl
          | false =>
            rcases List.mem_cons.1 (memB_mem.1 hm) with h | h
            · subst h; simp at h1
            · rw [memB_mem.2 h] at hl; cases hl
  · exact Part.none
theorem srcCells_only {z : Nat} {x : AV} (h : ∀ m ∈ idOf x, m ∈ l) : srcCells z x (s.only l) = srcCells z x s := by
  cases x <;> try rfl
  simp only [srcCells]
  rw [only_in (h _ (List.mem_singleton.2 rfl))]
theorem appendA_part {id : Nat} {e z b : Nat} {x : AV} {news : List AV} (h : ∀ m ∈ idOf x, m ∈ l) : Part id l s (appendA e z b x news id s) (appendA e z b x news id (s.only l)) := by
  unfold appendA
  split
  · split <;> first | exact Part.same _ | exact Part.none
  · split
    · exact Part.none
    · split
      · exact grown_part _ _ _ _
      · split
        · exact grown_part _ _ _ _
        · exact Part.none
      · have ha := h _ (List.mem_singleton.2 rfl)
        rw [only_in ha]
        split
        · split
          · split
            · split
              · split
                · exact Part.set (List.mem_cons_of_mem _ ha) _ _
                · exact Part.none
              · exact grown_part _ _ _ _
            · split
              · exact Part.set (List.mem_cons_of_mem _ ha) _ _
              · split
                · exact grown_part2 ha _ _ _ _
                · exact Part.none
          · exact Part.none
        · exact Part.none
      · exact Part.none
theorem copyA_part {id : Nat} {z : Nat} {x : AV} {c : List AV} (h : ∀ m ∈ idOf x, m ∈ l) : Part id l s (copyA z x c s) (copyA z x c (s.only l)) := by
  unfold copyA
  split
  · exact Part.same _
  · exact Part.same _
  · exact Part.same _
  · have ha := h _ (List.mem_singleton.2 rfl)
    simp only
    rw [only_in ha]
    split
    · split
      · exact Part.set (List.mem_cons_of_mem _ ha) _ _
      · exact Part.none
    · exact Part.none
  · exact Part.none
theorem foot_call {c : Call} {b : Builtin} (hc : c.callee = .builtin b) {e : Operand → AV} : ∀ x ∈ c.args.toList.map e, ∀ m ∈ idOf x, m ∈ foot (.call c) e := by
  intro x hx m hm
  obtain ⟨y, hy, rfl⟩ := List.mem_map.1 hx
  simp only [foot, hc, List.mem_flatMap]
  exact ⟨y, hy, hm⟩
theorem part_map {id : Nat} {q q' : Option AV} (h : q' = q) : Part id l s (q.map (·, s)) (q'.map (·, s.only l)) := by
  subst h
  cases q' with
  | none => exact Part.none
  | some r => exact Part.same r
theorem builtin_part {id : Nat} {b : Builtin} {ats : Array TypeId} {args : List AV} (h : ∀ x ∈ args, ∀ m ∈ idOf x, m ∈ l) : Part id l s (builtinA X b ats args id s) (builtinA X b ats args id (s.only l)) := by
  unfold builtinA
  split
  · rename_i x
    cases (ats[0]?).bind (und X.P) with
    | none => exact Part.none
    | some d =>
      simp only [Option.bind_some]
      split
      · have : lenA x (s.only l) = lenA x s := by
          cases x <;> try rfl
          simp only [lenA]
          rw [only_in (h _ (List.mem_cons_self ..) _ (List.mem_singleton.2 rfl))]
        rw [this]
        cases lenA x s with
        | none => exact Part.none
        | some n => exact Part.same _
      · exact Part.none
  · cases (ats[0]?).bind (und X.P) with
    | none => exact Part.none
    | some d =>
      simp only [Option.bind_some]
      split
      · cases capA _ with
        | none => exact Part.none
        | some n => exact Part.same _
      · exact Part.none
  · cases minI (fun y x => decide (y < x)) args with
    | none => exact Part.none
    | some r => exact Part.same _
  · cases minI (fun y x => decide (x < y)) args with
    | none => exact Part.none
    | some r => exact Part.same _
  · rename_i x y
    have hx : ∀ m ∈ idOf x, m ∈ l := h x (by simp)
    have hy : ∀ m ∈ idOf y, m ∈ l := h y (by simp)
    split
    · split
      · split
        · exact appendA_part hx
        · exact Part.none
      · exact Part.none
    · split
      · split
        · rw [srcCells_only hy]
          cases srcCells _ _ s with
          | none => exact Part.none
          | some c => exact appendA_part hx
        · exact Part.none
      · exact Part.none
    · split
      · split
        · rw [srcCells_only hy]
          cases srcCells _ _ s with
          | none => exact Part.none
          | some c => exact appendA_part hx
        · exact Part.none
      · exact Part.none
    · exact Part.none
  · rename_i x y
    have hx : ∀ m ∈ idOf x, m ∈ l := h x (by simp)
    have hy : ∀ m ∈ idOf y, m ∈ l := h y (by simp)
    split
    · split
      · split
        · exact Part.none
        · rw [srcCells_only hy]
          cases srcCells _ _ s with
          | none => exact Part.none
          | some c => exact copyA_part hx
      · exact Part.none
    · exact Part.none
  · split
    · exact Part.same _
    · rw [only_in (h _ (List.mem_cons_self ..) _ (List.mem_singleton.2 rfl))]
      split
      · split
        · exact Part.same _
        · exact Part.none
      · exact Part.none
    · exact Part.none
  · split
    · split
      · rw [only_in (h _ (List.mem_cons_self ..) _ (List.mem_singleton.2 rfl))]
        split
        · split
          · split
            · cases asU8s _ with
              | none => exact Part.none
              | some c =>
                simp only [Option.bind_some]
                split
                · exact Part.set (List.mem_cons_of_mem _ (h _ (List.mem_cons_self ..) _ (List.mem_singleton.2 rfl))) _ _
                · exact Part.none
            · exact Part.none
          · exact Part.none
        · exact Part.none
      · exact Part.same _
      · exact Part.same _
      · exact Part.none
    · exact Part.none
  · exact Part.none
theorem convA_only {P : Ty} {src dst : TypeId} {x : AV} (h : ∀ m ∈ idOf x, m ∈ l) : convA P src dst x (s.only l) = convA P src dst x s := by
  unfold convA
  split
  · rfl
  · rfl
  · rfl
  · split
    · rfl
    · rfl
    · rw [only_in (h _ (List.mem_singleton.2 rfl))]
    · rfl
  · rfl
  · rfl
  · rw [only_in (h _ (List.mem_singleton.2 rfl))]
  · rw [only_in (h _ (List.mem_singleton.2 rfl))]
  · rfl
theorem sliceA_only {P : Ty} {ty : TypeId} {x : AV} {lo hi mx : Option AV} (h : ∀ m ∈ idOf x, m ∈ l) : sliceA P ty x lo hi mx (s.only l) = sliceA P ty x lo hi mx s := by
  unfold sliceA
  split
  · rfl
  · rename_i e _
    cases lay P e with
    | none => rfl
    | some y =>
      simp only [Option.bind_some]
      cases x <;> try rfl
      simp only
      rw [only_in (h _ (List.mem_singleton.2 rfl))]
  · cases x <;> try rfl
    rename_i n e _ id off
    simp only
    cases lay P e with
    | none => rfl
    | some y =>
      simp only [Option.bind_some]
      rw [only_in (h _ (List.mem_singleton.2 rfl))]
  · rfl
theorem opA_part {id : Nat} {e : Operand → AV} {o : Oper} (hv : isVC o.op = false) (hf : foot o.op e = l) : Part id l s (opA X true id e o s) (opA X true id e o (s.only l)) := by
  subst hf
  unfold opA
  cases ho : o.op with
  | move | assign => exact Part.same _
  | pick c a b => simp only; cases asB (e c) with | none => exact Part.none | some t => exact Part.same _
  | alloc ty => simp only; cases zero X.P ty with | none => exact Part.none | some z => exact Part.set (List.mem_cons_self ..) _ _
  | box ty x =>
    simp only
    split
    · exact Part.set (List.mem_cons_self ..) _ _
    · exact Part.none
  | build | buildSlice | binOp | unOp | fieldAddr | field | indexAddr | index => exact part_map rfl
  | convert src dst x =>
    exact part_map (convA_only fun m hm => hm)
  | slice ty x lo hi mx =>
    exact part_map (sliceA_only fun m hm => hm)
  | lookup ty m k ok =>
    refine part_map ?_
    have : entryA (e m) (e k) (s.only (foot (.lookup ty m k ok) e)) = entryA (e m) (e k) s := by
      cases hx : e m <;> try rfl
      simp only [entryA]
      rw [only_in (by simp [foot, hx, idOf])]
    simp only [lookupA, this]
  | load ty a =>
    simp only
    cases lay X.P ty with
    | none => exact Part.none
    | some y =>
      simp only [Option.bind_some]
      refine part_map ?_
      cases hx : e a <;> try rfl
      simp only [Ai.load]
      rw [only_in (by simp [foot, hx, idOf])]
  | store ty a x =>
    simp only
    cases lay X.P ty with
    | none => exact Part.none
    | some y =>
      simp only [Option.bind_some]
      cases hx : e a <;> try exact Part.none
      have ha : ∀ i o, e a = .ptr i o → i ∈ foot (.store ty a x) e := fun i o h => by simp [foot, h, idOf]
      simp only [Ai.store]
      rw [only_in (ha _ _ hx)]
      split
      · split
        · exact Part.set (List.mem_cons_of_mem _ (ha _ _ hx)) _ _
        · exact Part.none
      · exact Part.none
  | nilCheck x => simp only; split <;> first | exact Part.same _ | exact Part.none
  | makeInterface ty x => simp only; split <;> first | exact Part.same _ | exact Part.none
  | makeFunc fn a b => cases fn <;> first | exact Part.same _ | exact Part.none
  | makeMap ty q => cases q with
    | none => exact Part.set (List.mem_cons_self ..) _ _
    | some q => exact Part.none
  | makeSlice ty a c =>
    simp only
    split
    · split
      · split
        · exact Part.set (List.mem_cons_self ..) _ _
        · exact Part.none
      · exact Part.none
    · exact Part.none
  | mapUpdate ty m k x =>
    simp only
    unfold mapUpd
    split
    · rename_i kt _ _
      cases und X.P kt with
      | none => exact Part.none
      | some kd =>
        simp only [Option.bind_some]
        split
        · rename_i i hx
          have ha : i ∈ foot (.mapUpdate ty m k x) e := by simp [foot, hx, idOf]
          rw [only_in ha]
          split
          · split
            · cases find (e k) _ with
              | none => exact Part.none
              | some q => exact Part.set (List.mem_cons_of_mem _ ha) _ _
            · exact Part.none
          · exact Part.none
        · exact Part.none
    · exact Part.none
  | extract x i =>
    simp only
    split
    · exact part_map rfl
    · exact Part.none
  | call c =>
    cases hc : c.callee with
    | value f => rw [ho] at hv; simp [isVC, hc] at hv
    | invoke a b => simp only [hc]; exact Part.none
    | builtin b =>
      simp only [hc]
      exact builtin_part (foot_call hc)
  | _ => exact Part.none
theorem shown_foot {e : Operand → AV} {o : Op} (hv : isVC o = false) : shown e o s = foot o e := by
  cases o <;> try rfl
  rename_i c
  unfold shown
  simp only
  cases hc : c.callee with
  | value f => simp [isVC, hc] at hv
  | _ => rfl
theorem opA_full (hp : CallPure X) {id : Nat} {e : Operand → AV} {o : Oper} {r : AV} {s' : St} (hid : writes o.op = true → s.h id = none) (hv : isVC o.op = false) (h : opA X true id e o s = some (r, s')) : opD X id e o s = some (r, s') := by
  have hw : wide X e o.op = false := by
    cases ho : o.op <;> try rfl
    rename_i c
    unfold wide
    cases hc : c.callee with
    | value f => rw [ho] at hv; simp [isVC, hc] at hv
    | _ => simp only [hc]
  unfold opD
  rw [hw, shown_foot hv]
  simp only [cond_false]
  obtain ⟨t, h1, h2⟩ := opA_part (X := X) hv rfl r s' h
  rw [h1]
  simp only [Option.map_some]
  cases hwr : writes o.op with
  | true => rw [cond_true, h2 (hid hwr)]
  | false =>
    rw [cond_false, (opA_reads hp h hwr).1]
end
end Go.Proofs.YtdehdahimkcakaaGreatDoor.Ai
