/- Operations on values alone: what the interpreter answers the model answers. -/
import Derived.Test.YtdehdahimkcakaaGreatDoorSim1
import Derived.WalkKit
import Derived.Laws.Cells
import Derived.Laws.IdiomCopy
import Derived.Laws.Slices
set_option linter.unusedVariables false
set_option linter.unusedSimpArgs false
namespace Go.Proofs.YtdehdahimkcakaaGreatDoor.Ai
open Go

def TyOk (P : Program) (T : Ty) : Prop := ∀ t i, T t = some i → P.info? t = some i
section
variable {P : Program} {T : Ty} (hT : TyOk P T)
include hT
theorem und_ok {t : TypeId} {d : TypeDesc} (h : und T t = some d) : P.underlying t = some d := by
  unfold und at h
  cases hi : T t with
  | none => rw [hi] at h; cases h
  | some i =>
    rw [hi] at h
    have hp := hT _ _ hi
    cases hd : i.desc with
    | named n u =>
      simp only [hd] at h
      cases hu : T u with
      | none => rw [hu] at h; cases h
      | some j =>
        rw [hu] at h
        have hq := hT _ _ hu
        obtain ⟨dd, _⟩ := i
        simp only at hd
        subst hd
        unfold Program.underlying
        rw [hp]
        simp only [hq]
        exact h
    | _ =>
      simp only [hd] at h
      obtain ⟨dd, _⟩ := i
      simp only at hd
      subst hd
      unfold Program.underlying
      rw [hp]
      exact h
theorem lay_ok {t : TypeId} {z : Nat} {ag : Bool} (h : lay T t = some (z, ag)) : ∃ i d, P.info? t = some i ∧ i.size = z ∧ P.underlying t = some d ∧ agD d = ag := by
  unfold lay at h
  cases hi : T t with
  | none => rw [hi] at h; cases h
  | some i =>
    cases hd : und T t with
    | none => rw [hi, hd] at h; cases h
    | some d =>
      rw [hi, hd] at h
      simp only [Option.some.injEq, Prod.mk.injEq] at h
      exact ⟨i, d, hT _ _ hi, h.1, und_ok hT hd, h.2⟩
theorem run_sizeOf_lay {t : TypeId} {z : Nat} {ag : Bool} (h : lay T t = some (z, ag)) (W : World) : (sizeOf t).run P W = .ok z W := by
  obtain ⟨i, d, h1, h2, _, _⟩ := lay_ok hT h
  simp [sizeOf, typeInfo, h1, h2]
theorem run_isAgg_lay {t : TypeId} {z : Nat} {ag : Bool} (h : lay T t = some (z, ag)) (W : World) : (isAgg t).run P W = .ok ag W := by
  obtain ⟨i, d, _, _, h3, h4⟩ := lay_ok hT h
  simp only [isAgg, Sem.run_bind, run_underlying h3, Result.andThen_ok]
  cases d <;> simp_all [agD]
theorem run_bytes {t : TypeId} {b : Nat} (h : bytesOf T t = some b) : ∃ i, P.info? t = some i ∧ i.bytes = b := by
  unfold bytesOf at h
  cases hi : T t with
  | none => rw [hi] at h; cases h
  | some i => rw [hi] at h; exact ⟨i, hT _ _ hi, by simpa using h⟩
end

theorem ofV1_ok {T : Ty} {F : Fz} {ρ : Rho} (v : Value) : VR T F ρ (ofV1 v) v := by
  unfold ofV1
  split
  · exact .bool _
  · exact .int _ _
  · exact .str _ _ rfl
  · exact .nilp
  · exact .nils
  · exact .nilm
  · exact .nilc
  · exact .nilf
  · exact .nili
  · split
    · rename_i f a b h
      obtain ⟨h1, h2⟩ := h
      exact .fn _ _ _ _ _ (by simpa using h1.symm) (by simpa using h2.symm) (fun i h => by simp at h) (fun i h => by simp at h)
    · exact .undef _
  · exact .undef _
theorem ofV_ok {T : Ty} {F : Fz} {ρ : Rho} (v : Value) : VR T F ρ (ofV v) v := by
  unfold ofV
  split
  · exact .agg _ _ (by simp) (fun i h h' => by simpa using ofV1_ok _)
  · exact ofV1_ok _

/-- A sound operation without blocks: the run answers something that the answer stands for. -/
def Says (P : Program) (T : Ty) (F : Fz) (ρ : Rho) (W : World) (r : AV) (m : Sem Value) : Prop := ∃ v, m.run P W = .ok v W ∧ VR T F ρ r v

section
variable {P : Program} {T : Ty} {F : Fz} {ρ : Rho} {W : World}

theorem intBin_ok {op : BinOp} {k : IntKind} {x y : Int} {r : AV} (h : intBin op k x y = some r) (hs : isShift op = false) (t : TypeId) : Says P T F ρ W r (binOp op t (.int k x) (.int k y)) := by
  cases op <;> simp only [intBin, isShift] at h hs <;> try contradiction
  all_goals first
    | (simp only [Option.some.injEq] at h; subst h; simp only [Says, binOp_add, binOp_sub, binOp_mul, binOp_and, binOp_or, binOp_xor, binOp_andNot, binOp_eql, binOp_neq, binOp_lss, binOp_leq, binOp_gtr, binOp_geq, Op.intArith, Op.intBits, bitsA, Sem.run_pure]; exact ⟨_, rfl, by first | exact .int _ _ | exact .bool _⟩)
    | (split at h
       · cases h
       · rename_i hy
         simp only [Option.some.injEq] at h; subst h
         refine ⟨_, ?_, .int _ _⟩
         simp only [binOp_quo, binOp_rem, Op.intDiv, if_neg hy, Sem.run_pure])
theorem shift_ok {op : BinOp} {k k' : IntKind} {x y : Int} {r : AV} (h : intBin op k x y = some r) (hs : isShift op = true) (t : TypeId) : Says P T F ρ W r (binOp op t (.int k x) (.int k' y)) := by
  cases op <;> simp only [intBin, isShift] at h hs <;> try contradiction
  all_goals
    split at h
    · cases h
    · rename_i hy
      simp only [Option.some.injEq] at h; subst h
      refine ⟨_, ?_, .int _ _⟩
      simp only [binOp_shl, binOp_shr, Op.shift, if_neg hy, Sem.run_pure]
theorem strBin_ok {op : BinOp} {x y : List UInt8} {r : AV} (h : strBin op x y = some r) {a b : ByteArray} (ha : a.data.toList = x) (hb : b.data.toList = y) (t : TypeId) : Says P T F ρ W r (binOp op t (.string a) (.string b)) := by
  have ea : a.toList = x := by rw [← ha]; exact ByteArray.toList_eq a
  have eb : b.toList = y := by rw [← hb]; exact ByteArray.toList_eq b
  have hq : binOp op t (.string a) (.string b) = Op.stringOp op a b := by cases op <;> rfl
  simp only [Says]
  rw [hq]
  cases op <;> simp only [strBin] at h <;> try contradiction
  case add =>
    split at h
    · rename_i hl
      simp only [Option.some.injEq] at h; subst h
      have hs : a.size + b.size ≤ maxStr := by
        have h1 : a.size = x.length := by rw [← ha]; simp
        have h2 : b.size = y.length := by rw [← hb]; simp
        omega
      refine ⟨.string (a ++ b), ?_, .str _ _ (by simp [ha, hb])⟩
      have : ¬ (((a.size + b.size : Nat) : Int) > IntKind.i64.max) := by rw [IntKind.max_i64]; unfold maxStr at hs; omega
      simp only [Op.stringOp, if_neg this, Sem.run_pure]
    · cases h
  all_goals
    simp only [Option.some.injEq] at h; subst h
    refine ⟨_, ?_, .bool _⟩
    simp only [Op.stringOp, ea, eb, Sem.run_pure]

theorem run_equal {d : TypeDesc} {t : TypeId} (hd : P.underlying t = some d) (x y : Value) : (Op.equal t x y).run P W = (do
    match d, x, y with
    | .bool, .bool a, .bool b => pure (a == b)
    | .pointer _, .pointer none, .pointer b => pure b.isNone
    | .pointer _, .pointer _, .pointer none => pure false
    | .pointer elem, .pointer (some a), .pointer (some b) =>
      if (← sizeOf elem) ≠ 0 then sameAddr a b
      else if a == b then pure true
      else pure ((← choose .zeroSizeEq) = 1)
    | .slice _, .slice none _ _, .slice b _ _ => pure b.isNone
    | .slice _, .slice _ _ _, .slice none _ _ => pure false
    | .map _ _, .map none, .map b => pure b.isNone
    | .map _ _, .map _, .map none => pure false
    | .func _ _ _, .nilFunc, .nilFunc => pure true
    | .func _ _ _, .nilFunc, .func _ _ _ | .func _ _ _, .func _ _ _, .nilFunc => pure false
    | _, _, _ => Op.equal t x y : Sem Bool).run P W := by
  have e : (Op.equal t x y).run P W = (Op.equalIn (9999 + 1) t x y).run P W := rfl
  split
  all_goals first
    | (rw [e]; unfold Op.equalIn; simp only [Sem.run_bind, run_underlying hd, Result.andThen_ok])
    | rfl
theorem eqRef_ok (hT : TyOk P T) {d : TypeDesc} {t : TypeId} (hd : P.underlying t = some d) {x y : AV} {r : Bool} (h : eqRef T d x y = some r) {u v : Value} (hu : VR T F ρ x u) (hv : VR T F ρ y v) :
    (Op.equal t u v).run P W = .ok r W := by
  rw [run_equal hd]
  unfold eqRef at h
  split at h
  all_goals first | contradiction | (simp only [Option.some.injEq] at h; subst h) | skip
  all_goals first
    | (cases hu; cases hv; rfl)
    | skip
  · rename_i e i a j b
    cases hl : lay T e with
    | none => rw [hl] at h; cases h
    | some zz =>
      obtain ⟨z, ag⟩ := zz
      rw [hl] at h
      simp only at h
      split at h
      · rename_i hij
        obtain ⟨rfl, hz⟩ := hij
        simp only [Option.some.injEq] at h; subst h
        cases hu with
        | ptr _ _ β z1 h1 =>
          cases hv with
          | ptr _ _ β2 z2 h2 =>
            rw [h1] at h2; cases h2
            simp only [Sem.run_bind, run_sizeOf_lay hT hl, Result.andThen_ok, if_pos hz]
            simp only [sameAddr, beq_self_eq_true, if_true, Sem.run_pure]
            congr 1
            rw [Bool.eq_iff_iff]
            simp
      · cases h

/-- Equality of the structs that the table names. -/
def EqOk (P : Program) (T : Ty) (eqOk : TypeId → Bool) : Prop := ∀ t, eqOk t = true → P.eqGuardType P.depth t = false ∧
  ∀ (F : Fz) (ρ : Rho) (W : World) (a b : List AV) (r : Bool) (u v : Value), cellsEq a b = some r → VR T F ρ (.agg a) u → VR T F ρ (.agg b) v → (Op.equal t u v).run P W = .ok r W
def eqOp : BinOp → Bool
  | .eql | .neq => true
  | _ => false
def refV : Value → Prop
  | .int _ _ | .float _ _ | .complex _ _ _ | .string _ => False
  | _ => True
theorem binOp_eq (t : TypeId) {u v : Value} (hu : refV u) :
    binOp .eql t u v = (do pure (.bool (← Op.equal t u v))) ∧ binOp .neq t u v = (do pure (.bool (!(← Op.equal t u v)))) := by
  cases u <;> first | exact hu.elim | exact ⟨rfl, rfl⟩
theorem bin_ok (hT : TyOk P T) {eqOk : TypeId → Bool} (hE : EqOk P T eqOk) {op : BinOp} {t : TypeId} {x y : AV} {r : AV} (h : bin T eqOk op t x y = some r) {u v : Value} (hu : VR T F ρ x u) (hv : VR T F ρ y v) (xo yo : Operand) :
    Says P T F ρ W r (do eqGuard op t xo yo u v; binOp op t u v) := by
  have red : ∀ (hg : eqGuard op t xo yo u v = pure ()), Says P T F ρ W r (binOp op t u v) → Says P T F ρ W r (do eqGuard op t xo yo u v; binOp op t u v) := fun hg hs => by
    rw [hg]; exact hs
  unfold bin at h
  split at h
  · rename_i k a k' b
    cases hu; cases hv
    refine red (eqGuard_at_int ..) ?_
    split at h
    · rename_i hs; exact shift_ok h hs t
    · rename_i hs
      split at h
      · rename_i hk; subst hk; exact intBin_ok h (by simpa using hs) t
      · cases h
  · cases hu with
    | str _ b1 h1 =>
      cases hv with
      | str _ b2 h2 =>
        refine red (eqGuard_at_string ..) ?_
        exact strBin_ok h h1 h2 t
  · rename_i a b
    split at h
    · rename_i hq
      obtain ⟨hg, he⟩ := hE t hq
      cases hu with
      | agg _ us hl hcs =>
        cases hv with
        | agg _ vs hl2 hcs2 =>
          cases hc : cellsEq a b with
          | none => rw [hc] at h; cases op <;> cases h
          | some rr =>
            rw [hc] at h
            have hr := he F ρ W a b rr _ _ hc (.agg _ us hl hcs) (.agg _ vs hl2 hcs2)
            have hgg : ∀ op, (eqGuard op t xo yo (.agg us) (.agg vs)).run P W = .ok () W := by
              intro op
              have hk : ((do if !(← program).eqGuardType (← program).depth t then return
                             if ← Op.eqGuardIn Op.maxDepth t (.agg us) (.agg vs) then unsupported (.noEntry "binop/eql: two nil values of an interface type with methods, in a part of a struct or an array")) : Sem Unit).run P W = .ok () W := by
                simp only [Sem.run_bind, run_program, Result.andThen_ok, hg, Bool.not_false, if_true, Sem.run_pure]
              cases op <;> first | rfl | exact hk
            cases op <;> simp only [Option.map_some, Option.some.injEq] at h <;> try contradiction
            all_goals
              subst h
              refine ⟨_, ?_, .bool _⟩
              simp only [Sem.run_bind, hgg, Result.andThen_ok]
              first
                | rw [(binOp_eq t (u := .agg us) (v := .agg vs) trivial).1]
                | rw [(binOp_eq t (u := .agg us) (v := .agg vs) trivial).2]
              simp only [Sem.run_bind, hr, Result.andThen_ok, Sem.run_pure]
    · cases h
  · cases hd : und T t with
    | none => rw [hd] at h; cases h
    | some d =>
      rw [hd] at h
      simp only [Option.bind_some] at h
      cases hq : eqRef T d x y with
      | none => rw [hq] at h; cases op <;> cases h
      | some rr =>
        rw [hq] at h
        have hr := eqRef_ok (W := W) hT (und_ok hT hd) hq hu hv
        have hgu : eqGuard op t xo yo u v = pure () ∧ refV u := by
          unfold eqRef at hq
          split at hq <;> first | contradiction | skip
          all_goals (cases hu <;> cases hv)
          all_goals first
            | exact ⟨eqGuard_at_pointer .., trivial⟩
            | exact ⟨eqGuard_at_slice .., trivial⟩
            | exact ⟨eqGuard_at_map .., trivial⟩
            | exact ⟨eqGuard_at_func .., trivial⟩
            | exact ⟨eqGuard_at_nilFunc .., trivial⟩
            | exact ⟨eqGuard_at_bool .., trivial⟩
        refine red hgu.1 ?_
        cases op <;> simp only [Option.map_some, Option.some.injEq] at h <;> try contradiction
        all_goals
          subst h
          refine ⟨_, ?_, .bool _⟩
          first
            | rw [(binOp_eq t hgu.2).1]
            | rw [(binOp_eq t hgu.2).2]
          simp only [Sem.run_bind, hr, Result.andThen_ok, Sem.run_pure]
theorem un_ok {op : UnOp} {x r : AV} (h : un op x = some r) {u : Value} (hu : VR T F ρ x u) : Says P T F ρ W r (Op.unary op u) := by
  unfold un at h
  split at h
  · simp only [Option.some.injEq] at h; subst h; cases hu; exact ⟨_, rfl, .bool _⟩
  · simp only [Option.some.injEq] at h; subst h; cases hu; exact ⟨_, rfl, .int _ _⟩
  · simp only [Option.some.injEq] at h; subst h; cases hu; exact ⟨_, rfl, .int _ _⟩
  · cases h
theorem asI_ok {x : AV} {n : Int} (h : asI x = some n) {u : Value} (hu : VR T F ρ x u) : ∃ k, u = .int k n := by
  unfold asI at h
  split at h
  · simp only [Option.some.injEq] at h; subst h; cases hu; exact ⟨_, rfl⟩
  · cases h
theorem asB_ok {x : AV} {b : Bool} (h : asB x = some b) {u : Value} (hu : VR T F ρ x u) : u = .bool b := by
  unfold asB at h
  split at h
  · simp only [Option.some.injEq] at h; subst h; cases hu; rfl
  · cases h
/-- Cells of a list stand for cells of an array. -/
def CR (T : Ty) (F : Fz) (ρ : Rho) (cs : List AV) (vs : List Value) : Prop := cs.length = vs.length ∧ ∀ i (h : i < cs.length) (h' : i < vs.length), VR T F ρ cs[i] vs[i]
theorem VR.agg_cr {cs : List AV} {vs : Array Value} (h : CR T F ρ cs vs.toList) : VR T F ρ (.agg cs) (.agg vs) :=
  .agg _ _ (by simpa using h.1) fun i a b => by have := h.2 i a (by simpa using b); rwa [Array.getElem_toList] at this
theorem agg_inv {cs : List AV} {v : Value} (h : VR T F ρ (.agg cs) v) : ∃ vs : Array Value, v = .agg vs ∧ CR T F ρ cs vs.toList := by
  cases h with
  | agg _ vs hl h => exact ⟨vs, rfl, by simpa using hl, fun i a b => by simpa using h i a (by simpa using b)⟩
theorem CR.drop {cs : List AV} {vs : List Value} (h : CR T F ρ cs vs) (n : Nat) : CR T F ρ (cs.drop n) (vs.drop n) :=
  ⟨by simp [h.1], fun i a b => by simp only [List.getElem_drop]; exact h.2 _ _ _⟩
theorem CR.take {cs : List AV} {vs : List Value} (h : CR T F ρ cs vs) (n : Nat) : CR T F ρ (cs.take n) (vs.take n) :=
  ⟨by simp [h.1], fun i a b => by simp only [List.getElem_take]; exact h.2 _ _ _⟩
theorem CR.append {a b : List AV} {u v : List Value} (h : CR T F ρ a u) (k : CR T F ρ b v) : CR T F ρ (a ++ b) (u ++ v) := by
  refine ⟨by simp [h.1, k.1], fun i x y => ?_⟩
  by_cases hi : i < a.length
  · rw [List.getElem_append_left hi, List.getElem_append_left (by have := h.1; omega)]; exact h.2 _ _ _
  · rw [List.getElem_append_right (by omega), List.getElem_append_right (by have := h.1; omega)]
    have e : i - a.length = i - u.length := by rw [h.1]
    have := k.2 (i - a.length) (by simp at x; omega) (by simp at y; have := h.1; omega)
    simpa [e] using this
theorem CR.mono {F' : Fz} {ρ' : Rho} (hF : FLe F F') (hρ : RLe ρ ρ') {a : List AV} {u : List Value} (h : CR T F ρ a u) : CR T F' ρ' a u := ⟨h.1, fun i x y => (h.2 i x y).mono hF hρ⟩
theorem CR.set {a : List AV} {u : List Value} (h : CR T F ρ a u) {x : AV} {v : Value} (hx : VR T F ρ x v) (i : Nat) : CR T F ρ (a.set i x) (u.set i v) := by
  refine ⟨by simp [h.1], fun j p q => ?_⟩
  rw [List.getElem_set, List.getElem_set]
  split
  · exact hx
  · exact h.2 _ _ _
theorem CR.cons {a : List AV} {u : List Value} {x : AV} {v : Value} (hx : VR T F ρ x v) (h : CR T F ρ a u) : CR T F ρ (x :: a) (v :: u) := by
  refine ⟨by simp [h.1], fun i p q => ?_⟩
  cases i with
  | zero => exact hx
  | succ i => exact h.2 i _ _
theorem CR.nil : CR T F ρ [] [] := ⟨rfl, fun i h => by simp at h⟩
theorem CR.get? {a : List AV} {u : List Value} (h : CR T F ρ a u) {i : Nat} {x : AV} (hx : a[i]? = some x) : ∃ v, u[i]? = some v ∧ VR T F ρ x v := by
  obtain ⟨hi, rfl⟩ := List.getElem?_eq_some_iff.1 hx
  exact ⟨u[i]'(by have := h.1; omega), List.getElem?_eq_getElem _, h.2 i hi _⟩
theorem part_ok (hT : TyOk P T) {t : TypeId} {z off : Nat} {ag : Bool} (hl : lay T t = some (z, ag)) {cs : List AV} {vs : Array Value} (hc : CR T F ρ cs vs.toList) {r : AV} (h : part z ag off cs = some r) : Says P T F ρ W r (Go.part t vs off) := by
  unfold Ai.part at h
  simp only [Says, Go.part, Sem.run_bind, run_isAgg_lay hT hl, Result.andThen_ok]
  cases ag with
  | true =>
    simp only [if_true] at h ⊢
    split at h
    · rename_i hle
      simp only [Option.some.injEq] at h; subst h
      refine ⟨.agg (vs.extract off (off + z)), ?_, ?_⟩
      · simp only [Sem.run_bind, run_sizeOf_lay hT hl, Result.andThen_ok, Sem.run_pure]
      · refine VR.agg_cr ?_
        have e : (vs.extract off (off + z)).toList = (vs.toList.drop off).take z := by
          simp [Array.toList_extract, List.extract_eq_take_drop]
        rw [e]
        exact (hc.drop off).take z
    · cases h
  | false =>
    simp only [Bool.false_eq_true, if_false] at h ⊢
    obtain ⟨v, h1, h2⟩ := hc.get? h
    have : vs[off]? = some v := by simpa using h1
    exact ⟨v, by rw [this]; rfl, h2⟩
end
end Go.Proofs.YtdehdahimkcakaaGreatDoor.Ai
