/- More fuel, the same answer. -/
import Derived.Test.YtdehdahimkcakaaGreatDoorSimE
set_option linter.unusedVariables false
set_option linter.unusedSimpArgs false
namespace Go.Proofs.YtdehdahimkcakaaGreatDoor.Ai
open Go

section
abbrev Calling := FuncId → List AV → St → Option (AV × St)
def CLe (a b : Calling) : Prop := ∀ f args s r, a f args s = some r → b f args s = some r
def XLe (X Y : Cx) : Prop := Y = { X with call := Y.call } ∧ ∀ dr f args s r, X.call dr f args s = some r → Y.call dr f args s = some r
def LLe (a b : Code → List AV → St → Out) : Prop := ∀ c tm s r, a c tm s = some r → b c tm s = some r
theorem CLe.refl (a : Calling) : CLe a a := fun _ _ _ _ h => h
theorem CLe.trans {a b c : Calling} (h : CLe a b) (k : CLe b c) : CLe a c := fun f x s r q => k f x s r (h f x s r q)

theorem opA_mono {X Y : Cx} (h : XLe X Y) {dr : Bool} {id : Nat} {e : Operand → AV} {o : Oper} {s : St} {r : AV × St} (ho : opA X dr id e o s = some r) : opA Y dr id e o s = some r := by
  obtain ⟨hy, hc⟩ := h
  rw [hy]
  generalize Y.call = cl at hc
  unfold opA at ho ⊢
  cases h : o.op with
  | call c =>
    simp only [h] at ho ⊢
    cases hcal : c.callee with
    | value f =>
      simp only [hcal] at ho ⊢
      split at ho
      · exact hc _ _ _ _ _ ho
      · cases ho
    | invoke a b => simp only [hcal] at ho; cases ho
    | builtin b => simp only [hcal] at ho ⊢; exact ho
  | makeFunc fn a b => cases fn <;> (simp only [h] at ho ⊢; exact ho)
  | makeMap t q => cases q <;> (simp only [h] at ho ⊢; exact ho)
  | _ => simp only [h] at ho ⊢; exact ho
theorem ev_same {X Y : Cx} (h : XLe X Y) (g : Nat → AV) : ev Y g = ev X g := by
  rw [h.1]; rfl
theorem wide_same {X Y : Cx} (h : XLe X Y) (e : Operand → AV) (o : Op) : wide Y e o = wide X e o := by
  rw [h.1]; rfl
theorem bind_mono {α β : Type} {o o' : Option α} {f f' : α → Option β} {r : β} (h : ∀ a, o = some a → o' = some a) (hf : ∀ a b, f a = some b → f' a = some b) (hr : o.bind f = some r) : o'.bind f' = some r := by
  cases ho : o with
  | none => rw [ho] at hr; cases hr
  | some a => rw [ho] at hr; rw [h a ho]; exact hf a r hr
theorem map_mono {α β : Type} {o o' : Option α} {f : α → β} {r : β} (h : ∀ a, o = some a → o' = some a) (hr : o.map f = some r) : o'.map f = some r := by
  cases ho : o with
  | none => rw [ho] at hr; cases hr
  | some a => rw [ho] at hr; rw [h a ho]; exact hr
theorem cond_mono {β : Type} {t : Bool} {a b a' b' : Option β} {r : β} (ha : a = some r → a' = some r) (hb : b = some r → b' = some r) (h : cond t a b = some r) : cond t a' b' = some r := by
  cases t with
  | true => exact ha h
  | false => exact hb h
theorem opsA_mono {X Y : Cx} (h : XLe X Y) {dr : Bool} {base : Nat} {all : List Oper} : ∀ (l : List Oper) (i : Nat) (tm : List AV) (s : St) r, opsA X dr base all l i tm s = some r → opsA Y dr base all l i tm s = some r := by
  intro l
  induction l with
  | nil => intro i tm s r hr; exact hr
  | cons o l ih =>
    intro i tm s r hr
    change ((wantedA all (gt tm) o).bind fun w => cond w ((opA X dr (base + i) (ev X (gt tm)) o s).bind fun r => opsA X dr base all l (i + 1) (put tm o.dst r.1) r.2) (opsA X dr base all l (i + 1) (put tm o.dst (.tup [])) s)) = some r at hr
    change ((wantedA all (gt tm) o).bind fun w => cond w ((opA Y dr (base + i) (ev Y (gt tm)) o s).bind fun r => opsA Y dr base all l (i + 1) (put tm o.dst r.1) r.2) (opsA Y dr base all l (i + 1) (put tm o.dst (.tup [])) s)) = some r
    rw [ev_same h]
    exact bind_mono (fun _ h => h) (fun w b hb => cond_mono (bind_mono (fun a ha => opA_mono h ha) (fun a b => ih _ _ _ _)) (ih _ _ _ _) hb) hr
theorem opD_mono {X Y : Cx} (h : XLe X Y) {id : Nat} {e : Operand → AV} {o : Oper} {s : St} {r : AV × St} (ho : opD X id e o s = some r) : opD Y id e o s = some r := by
  unfold opD at ho ⊢
  rw [wide_same h]
  exact cond_mono (map_mono fun a ha => opA_mono h ha) (map_mono fun a ha => opA_mono h ha) ho
theorem markOf_same {X Y : Cx} (h : XLe X Y) (i id : Nat) (e : Operand → AV) (o : Op) (s : St) : markOf Y i id e o s = markOf X i id e o s := by
  unfold markOf
  rw [wide_same h]
theorem opsD_mono {X Y : Cx} (h : XLe X Y) {base : Nat} {all : List Oper} {ms : List Nat} : ∀ (l : List Oper) (i : Nat) (lg : List Mark) (tm : List AV) (s : St) r, opsD X base all ms l i lg tm s = some r → opsD Y base all ms l i lg tm s = some r := by
  intro l
  induction l with
  | nil => intro i lg tm s r hr; exact hr
  | cons o l ih =>
    intro i lg tm s r hr
    change ((wantedA all (gt tm) o).bind fun w => cond w
      (cond (clear (ms.getD i 0) (markOf X i (base + i) (ev X (gt tm)) o.op s) lg)
        ((opD X (base + i) (ev X (gt tm)) o s).bind fun r => opsD X base all ms l (i + 1) (markOf X i (base + i) (ev X (gt tm)) o.op s :: lg) (put tm o.dst r.1) r.2) none)
      (opsD X base all ms l (i + 1) lg (put tm o.dst (.tup [])) s)) = some r at hr
    change ((wantedA all (gt tm) o).bind fun w => cond w
      (cond (clear (ms.getD i 0) (markOf Y i (base + i) (ev Y (gt tm)) o.op s) lg)
        ((opD Y (base + i) (ev Y (gt tm)) o s).bind fun r => opsD Y base all ms l (i + 1) (markOf Y i (base + i) (ev Y (gt tm)) o.op s :: lg) (put tm o.dst r.1) r.2) none)
      (opsD Y base all ms l (i + 1) lg (put tm o.dst (.tup [])) s)) = some r
    rw [ev_same h, markOf_same h]
    exact bind_mono (fun _ h => h) (fun w b hb => cond_mono (cond_mono (bind_mono (fun a ha => opD_mono h ha) (fun a b => ih _ _ _ _ _)) id) (ih _ _ _ _ _) hb) hr
theorem drawn_mono {X Y : Cx} (h : XLe X Y) {base : Nat} {all : List Oper} {tm : List AV} {s : St} {r : List AV × St} (hr : drawn X base all tm s = some r) : drawn Y base all tm s = some r := by
  unfold drawn at hr ⊢
  exact cond_mono (opsD_mono h _ _ _ _ _ _) id hr
theorem thn_mono {a a' : Out} {f f' : List AV → St → Out} {r : Ex × List AV × St} (ha : ∀ q, a = some q → a' = some q) (hf : ∀ tm s q, f tm s = some q → f' tm s = some q) (h : thn a f = some r) : thn a' f' = some r := by
  cases hq : a with
  | none => rw [hq] at h; cases h
  | some q =>
    rw [hq] at h; rw [ha q hq]
    obtain ⟨e, tm, s⟩ := q
    cases e with
    | nm => exact hf _ _ _ h
    | _ => exact h
theorem code_mono {X Y : Cx} (h : XLe X Y) {lf lf' : Code → List AV → St → Out} (hl : LLe lf lf') (c : Code) : ∀ tm s r, code X lf c tm s = some r → code Y lf' c tm s = some r := by
  induction c with
  | region id ops dr =>
    intro tm s r hr
    change ((cond dr (drawn X s.nx ops.toList tm ⟨s.h, s.nx + ops.size⟩) (opsA X false s.nx ops.toList ops.toList 0 tm ⟨s.h, s.nx + ops.size⟩)).map fun r => (Ex.nm, r.1, r.2)) = some r at hr
    change ((cond dr (drawn Y s.nx ops.toList tm ⟨s.h, s.nx + ops.size⟩) (opsA Y false s.nx ops.toList ops.toList 0 tm ⟨s.h, s.nx + ops.size⟩)).map fun r => (Ex.nm, r.1, r.2)) = some r
    exact map_mono (fun a ha => cond_mono (fun h' => drawn_mono h h') (opsA_mono h _ _ _ _ _) ha) hr
  | seq a b iha ihb => intro tm s r hr; exact thn_mono (iha tm s) ihb hr
  | cond c a b iha ihb =>
    intro tm s r hr
    change ((asB (ev X (gt tm) c)).bind fun t => cond t (code X lf a tm s) (code X lf b tm s)) = some r at hr
    change ((asB (ev Y (gt tm) c)).bind fun t => cond t (code Y lf' a tm s) (code Y lf' b tm s)) = some r
    rw [ev_same h]
    exact bind_mono (fun _ h => h) (fun t q hq => cond_mono (iha tm s q) (ihb tm s q) hq) hr
  | block id c ih =>
    intro tm s r hr
    change blk id (code X lf c tm s) = some r at hr
    change blk id (code Y lf' c tm s) = some r
    cases hq : code X lf c tm s with
    | none => rw [hq] at hr; cases hr
    | some q => rw [hq] at hr; rw [ih tm s q hq]; exact hr
  | loop c ih => intro tm s r hr; exact hl c tm s r hr
  | scope c ih =>
    intro tm s r hr
    change noGt (code X lf c tm s) = some r at hr
    change noGt (code Y lf' c tm s) = some r
    cases hq : code X lf c tm s with
    | none => rw [hq] at hr; cases hr
    | some q => rw [hq] at hr; rw [ih tm s q hq]; exact hr
  | skip | exit | label | goto | ret => intro tm s r hr; exact hr
  | _ => intro tm s r hr; cases hr
theorem loopN_step (X : Cx) (kp n : Nat) (c : Code) (tm : List AV) (s : St) : loopN X kp (n + 1) c tm s = thn (code X (loopN X kp n) c tm s) fun tm s => loopN X kp n c (mask kp 0 tm) s := rfl
theorem loopN_mono {X Y : Cx} (h : XLe X Y) (kp : Nat) : ∀ n m, n ≤ m → LLe (loopN X kp n) (loopN Y kp m) := by
  intro n
  induction n with
  | zero => intro m _ c tm s r hr; cases hr
  | succ n ih =>
    intro m hm c tm s r hr
    obtain ⟨k, rfl⟩ : ∃ k, m = k + 1 := ⟨m - 1, by omega⟩
    rw [loopN_step] at hr ⊢
    exact thn_mono (code_mono h (ih k (by omega)) c tm s) (fun tm s q => ih k (by omega) c _ s q) hr
theorem mcall_mono (E : Env) {a b : Calling} (h : CLe a b) (f : FuncId) (dr : Bool) (g : FuncId) (args : List AV) (s : St) (r : AV × St) (hr : mcall E a f dr g args s = some r) : mcall E b f dr g args s = some r := by
  unfold mcall at hr ⊢
  split at hr
  · rename_i hp
    rw [if_pos hp]
    refine bind_mono (fun _ h => h) (fun as q hq => ?_) hr
    exact bind_mono (fun x hx => h _ _ _ _ hx) (fun _ _ h => h) hq
  · rename_i hp
    rw [if_neg hp]
    split at hr
    · cases hr
    · rename_i hd
      rw [if_neg hd]
      exact bind_mono (fun x hx => h _ _ _ _ hx) (fun _ _ h => h) hr
theorem cx_le (E : Env) {a b : Calling} (h : CLe a b) (f : FuncId) : XLe (cx E a f) (cx E b f) := ⟨rfl, fun dr g args s r hr => mcall_mono E h f dr g args s r hr⟩
theorem callN_step (E : Env) (n : Nat) (f : FuncId) (args : List AV) (s : St) : callN E (n + 1) f args s = match E.prim f with
      | some g => g args s
      | none => match E.fns f with
        | none => none
        | some fn => match fn.body with
          | none => none
          | some c => finish E.P fn (code (cx E (callN E n) f) (loopN (cx E (callN E n) f) (E.kp f) n) c (frame fn args) s) := rfl
theorem callN_mono (E : Env) : ∀ n m, n ≤ m → CLe (callN E n) (callN E m) := by
  intro n
  induction n with
  | zero => intro m _ f args s r hr; cases hr
  | succ n ih =>
    intro m hm f args s r hr
    obtain ⟨k, rfl⟩ : ∃ k, m = k + 1 := ⟨m - 1, by omega⟩
    rw [callN_step] at hr ⊢
    cases hp : E.prim f with
    | some g => rw [hp] at hr; exact hr
    | none =>
      rw [hp] at hr
      simp only at hr ⊢
      cases hf : E.fns f with
      | none => rw [hf] at hr; cases hr
      | some fn =>
        rw [hf] at hr
        simp only at hr ⊢
        cases hb : fn.body with
        | none => rw [hb] at hr; cases hr
        | some c =>
          rw [hb] at hr
          simp only at hr ⊢
          have hX := cx_le E (ih k (by omega)) f
          cases hc : code (cx E (callN E n) f) (loopN (cx E (callN E n) f) (E.kp f) n) c (frame fn args) s with
          | none => rw [hc] at hr; cases hr
          | some q =>
            rw [hc] at hr
            rw [code_mono hX (loopN_mono hX (E.kp f) n k (by omega)) c _ _ q hc]
            exact hr
end
end Go.Proofs.YtdehdahimkcakaaGreatDoor.Ai
