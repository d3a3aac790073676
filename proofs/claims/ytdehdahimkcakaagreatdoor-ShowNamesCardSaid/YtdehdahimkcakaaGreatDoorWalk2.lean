/- Code as a statement: what must hold so that it comes to what is asked. -/
import Derived.Test.YtdehdahimkcakaaGreatDoorWalk1
import Derived.Test.YtdehdahimkcakaaGreatDoorPart
set_option linter.unusedVariables false
set_option linter.unusedSimpArgs false
namespace Go.Proofs.YtdehdahimkcakaaGreatDoor.Ai
open Go

abbrev Gf := Nat → AV
abbrev Kt := Gf → St → Prop
/-- A slot is set. -/
def putG (g : Gf) (d : Option Nat) (v : AV) : Gf := match d with
  | some d => fun k => cond (Nat.beq k d) v (g k)
  | none => g
/-- An answer, handed on. -/
inductive Bnd {α : Type} (o : Option α) (k : α → Prop) : Prop
  | mk (a : α) (h : o = some a) (hk : k a) : Bnd o k
/-- A branch. -/
inductive IfP (v : AV) (a b : Prop) : Prop
  | t (h : v = .bool true) (ha : a) : IfP v a b
  | f (h : v = .bool false) (hb : b) : IfP v a b
/-- An operation that may be left out. -/
inductive Gd (w : Option Bool) (s : St) (op : (AV → St → Prop) → Prop) (k : AV → St → Prop) : Prop
  | t (h : w = some true) (hk : op k) : Gd w s op k
  | f (h : w = some false) (hk : k (.tup []) s) : Gd w s op k
theorem Bnd_some {α : Type} {a : α} {k : α → Prop} : Bnd (some a) k ↔ k a := by
  constructor
  · intro h
    cases h with
    | mk b h hk => cases h; exact hk
  · intro h; exact .mk a rfl h
theorem Bnd_none {α : Type} {k : α → Prop} : Bnd none k ↔ False := by
  constructor
  · intro h
    cases h with
    | mk b h hk => cases h
  · intro h; exact h.elim
theorem IfP_bool {t : Bool} {a b : Prop} : IfP (.bool t) a b ↔ (if t = true then a else b) := by
  cases t with
  | false =>
    constructor
    · intro h
      cases h with
      | t h _ => cases h
      | f _ h => exact h
    · intro h; exact .f rfl h
  | true =>
    constructor
    · intro h
      cases h with
      | t _ h => exact h
      | f h _ => cases h
    · intro h; exact .t rfl h
theorem Gd_some {t : Bool} {s : St} {op : (AV → St → Prop) → Prop} {k : AV → St → Prop} : Gd (some t) s op k ↔ (if t = true then op k else k (.tup []) s) := by
  cases t with
  | false =>
    constructor
    · intro h
      cases h with
      | t h _ => cases h
      | f _ h => exact h
    · intro h; exact .f rfl h
  | true =>
    constructor
    · intro h
      cases h with
      | t _ h => exact h
      | f h _ => cases h
    · intro h; exact .t rfl h
/-- What a function hands back. -/
def RetP (r : Option AV) (Q : AV → Prop) : Prop := match r with
  | some v => Q v
  | none => False
def wantV (v : AV) (want : Bool) : Option Bool := match v with
  | .bool b => some (b == want)
  | .undef => none
  | _ => some false
def adv (s : St) (n : Nat) : St := ⟨s.h, s.nx + n⟩
def nilOk : AV → Bool
  | .ptr _ _ | .pel _ _ | .fn _ _ _ => true
  | _ => false
def extr (v : AV) (i : Nat) : Option AV := match v with
  | .tup vs => vs[i]?
  | _ => none
def pickV (c a b : AV) : Option AV := match c with
  | .bool t => some (cond t a b)
  | _ => none
def mkS (P : Ty) (t : TypeId) (n c : AV) (id : Nat) (s : St) : Option (AV × St) := match und P t with
  | some (.slice et) => match lay P et, bytesOf P et, zero P et, asI n, asI c with
    | some (z, _), some b, some zv, some n, some c => if 0 ≤ n ∧ n = c ∧ n * b ≤ most ∧ n ≤ most ∧ zv.cells.length = z ∧ 0 < z then
        some (.ref id 0 n.toNat (some n.toNat) et, s.set id (some (.cells (List.replicate n.toNat zv.cells).flatten et true true))) else none
    | _, _, _, _, _ => none
  | _ => none
def mkI (P : Ty) (t : TypeId) (x : AV) : Option AV := match und P t with
  | none | some (.interface _) => none
  | some _ => some (.iface t x)
/-- What a call of a function answers that runs alone. -/
def PureC (E : Env) (h : FuncId) (args : List AV) (v : AV) : Prop := ∃ n r s' ids, callN E n h args St.empty = some (r, s') ∧ pur E.P s' 12 r = some (v, ids)
/-- What a call of a function answers on the caller's blocks. -/
def WideC (E : Env) (h : FuncId) (args : List AV) (s : St) (r : AV) (s' : St) : Prop := ∃ n, callN E n h args s = some (r, s')
inductive CallPu (E : Env) (h : FuncId) (args : List AV) (s : St) (k : AV → St → Prop) : Prop
  | mk (as : List AV) (ids : List Nat) (v : AV) (hp : purL (pur E.P s 12) args = some (as, ids)) (hc : PureC E h as v) (hk : k v (if ids.isEmpty || v.flat then s else s.drop ids)) : CallPu E h args s k
inductive CallWi (E : Env) (h : FuncId) (args : List AV) (s : St) (k : AV → St → Prop) : Prop
  | mk (r : AV) (s' : St) (hc : WideC E h args s r s') (hk : cond (E.fz h) (Bnd (pur E.P s' 12 r) fun v => k v.1 (s'.drop v.2)) (k r s')) : CallWi E h args s k
def CallP (E : Env) (f h : FuncId) (args : List AV) (s : St) (k : AV → St → Prop) : Prop := Bool.rec (motive := fun _ => Prop) (CallWi E h args s k) (CallPu E h args s k) (E.pm f h)
/-- A call of what a slot holds. -/
def CallV (E : Env) (f : FuncId) (v : AV) (args : List AV) (s : St) (k : AV → St → Prop) : Prop := match v with
  | .fn h a cap => CallP E f h (a ++ args ++ cap) s k
  | _ => False

def x0 (E : Env) (f : FuncId) : Cx := cx E (fun _ _ _ => none) f
/-- What an operation needs to know that is no call. -/
def bX (E : Env) : Cx := ⟨E.P, E.eqOk, E.glob, fun _ _ _ _ => none, fun _ => false⟩
/-- An operation. -/
def opP (E : Env) (f : FuncId) (id : Nat) (e : Operand → AV) (o : Oper) (s : St) (k : AV → St → Prop) : Prop :=
  match o.op with
  | .move x | .assign x => k (e x) s
  | .pick c a b => Bnd (pickV (e c) (e a) (e b)) fun v => k v s
  | .alloc t => Bnd (zero E.P t) fun z => k (.ptr id 0) (s.set id (some (.cells z.cells t true true)))
  | .box t x => (e x).cells.all AV.one = true ∧ k (.ptr id 0) (s.set id (some (.cells (e x).cells t true true)))
  | .build t parts => Bnd (buildA E.P t (parts.toList.map fun p => (p.1, e p.2))) fun v => k v s
  | .buildSlice t n parts => Bnd (buildSl E.P t n (parts.toList.map fun p => (p.1, e p.2))) fun v => k v s
  | .load t a => Bnd ((lay E.P t).bind fun l => Ai.load l.1 l.2 (e a) s) fun v => k v s
  | .store t a x => Bnd ((lay E.P t).bind fun l => Ai.store l.1 (e a) (e x) s) fun s' => k (.tup []) s'
  | .nilCheck x => nilOk (e x) = true ∧ k (e x) s
  | .binOp op t x y _ => Bnd (bin E.P E.eqOk op t (e x) (e y)) fun v => k v s
  | .unOp op _ x => Bnd (un op (e x)) fun v => k v s
  | .convert src dst x => Bnd (convA E.P src dst (e x) s) fun v => k v s
  | .makeFunc (.func f) first captured => k (.fn f (first.toList.map e) (captured.toList.map e)) s
  | .makeSlice t n c => Bnd (mkS E.P t (e n) (e c) id s) fun r => k r.1 r.2
  | .makeMap _ none => k (.map id) (s.set id (some (.map [])))
  | .makeInterface t x => Bnd (mkI E.P t (e x)) fun v => k v s
  | .slice t x lo hi mx => Bnd (sliceA E.P t (e x) (lo.map e) (hi.map e) (mx.map e) s) fun v => k v s
  | .fieldAddr t x f => Bnd (fieldAd E.P t f (e x)) fun v => k v s
  | .field t x f => Bnd (fieldA E.P t f (e x)) fun v => k v s
  | .indexAddr t x i => Bnd (indexAd E.P t (e x) (e i)) fun v => k v s
  | .index t x i => Bnd (indexA E.P t (e x) (e i)) fun v => k v s
  | .lookup t m q ok => Bnd (lookupA E.P t (e m) (e q) ok s) fun v => k v s
  | .mapUpdate t m q x => Bnd (mapUpd E.P t (e m) (e q) (e x) s) fun s' => k (.tup []) s'
  | .extract t i => Bnd (extr (e t) i) fun v => k v s
  | .call c => (match c.callee with
    | .builtin b => Bnd (builtinA (bX E) b c.argTypes (c.args.toList.map e) id s) fun r => k r.1 r.2
    | .value fo => CallV E f (e fo) (c.args.toList.map e) s k
    | _ => False)
  | _ => Bnd (opA (x0 E f) false id e o s) fun r => k r.1 r.2
noncomputable def opsP (E : Env) (f : FuncId) (base : Nat) (all : List Oper) (l : List Oper) : Nat → Gf → St → Kt → Prop :=
  List.rec (motive := fun _ => Nat → Gf → St → Kt → Prop) (fun _ g s k => k g s)
    (fun o _ ih i g s k => Option.rec (motive := fun _ => Prop)
      (opP E f (base + i) (ev (bX E) g) o s fun v s' => ih (i + 1) (putG g o.dst v) s' k)
      (fun _ => Gd (wantedA all g o) s (opP E f (base + i) (ev (bX E) g) o s) fun v s' => ih (i + 1) (putG g o.dst v) s' k) o.guard) l
/-! Regions that draw -/
def rch (s : St) (vs : List AV) : List Nat := reach s.h 4000 (idsL vs) []
inductive CallPuD (E : Env) (h : FuncId) (args : List AV) (l : List Nat) (s : St) (k : AV → St → Prop) : Prop
  | mk (as : List AV) (ids : List Nat) (v : AV) (hp : purL (pur E.P (s.only l) 12) args = some (as, ids)) (hc : PureC E h as v) (hf : (ids.isEmpty || v.flat) = true) (hk : k v s) : CallPuD E h args l s k
inductive CallWiD (E : Env) (h : FuncId) (args : List AV) (l : List Nat) (s : St) (k : AV → St → Prop) : Prop
  | mk (r : AV) (s' : St) (hc : WideC E h args (s.only l) r s') (hk : cond (E.fz h) (Bnd (pur E.P s' 12 r) fun v => k v.1 (mergeW s (s'.drop v.2) l)) (k r (mergeW s s' l))) : CallWiD E h args l s k
def CallVD (E : Env) (f : FuncId) (v : AV) (args : List AV) (l : List Nat) (s : St) (k : AV → St → Prop) : Prop := match v with
  | .fn h a cap => Bool.rec (motive := fun _ => Prop) (CallWiD E h (a ++ args ++ cap) l s k) (CallPuD E h (a ++ args ++ cap) l s k) (E.pm f h)
  | _ => False
def opDP (E : Env) (f : FuncId) (id : Nat) (e : Operand → AV) (o : Oper) (s : St) (k : AV → St → Prop) : Prop :=
  match o.op with
  | .call c => (match c.callee with
    | .builtin b => Bool.rec (motive := fun _ => Prop) (opP E f id e o s k) (s.h id = none ∧ opP E f id e o s k) (writes o.op)
    | .value fo => CallVD E f (e fo) (c.args.toList.map e) (rch s ((opnds o.op).map e)) s k
    | _ => False)
  | _ => Bool.rec (motive := fun _ => Prop) (opP E f id e o s k) (s.h id = none ∧ opP E f id e o s k) (writes o.op)
/-- It changes nothing. -/
def qSt (E : Env) (f : FuncId) (o : Oper) : Bool := !writes o.op && match o.op with
  | .call c => (match c.callee with
    | .value (.func h) => E.pm f h
    | .value _ => false
    | _ => true)
  | _ => true
/-- It looks at no block. -/
def eSt (o : Op) : Bool := match o with
  | .load _ _ | .store _ _ _ | .mapUpdate _ _ _ _ | .convert _ _ _ | .lookup _ _ _ _ | .slice _ _ _ _ _ => false
  | .call _ => false
  | _ => true
def rowSt (E : Env) (f : FuncId) (m : Nat) (b : Oper) : Nat → List Oper → Bool
  | _, [] => true
  | j, a :: l => (bitOf m j || (qSt E f a && qSt E f b) || (qSt E f a && eSt a.op) || (qSt E f b && eSt b.op)) && rowSt E f m b (j + 1) l
noncomputable def opsDP (E : Env) (f : FuncId) (base : Nat) (all : List Oper) (ms : List Nat) (l : List Oper) : Nat → List Mark → Gf → St → Kt → Prop :=
  List.rec (motive := fun _ => Nat → List Mark → Gf → St → Kt → Prop) (fun _ _ g s k => k g s)
    (fun o _ ih i lg g s k => Bool.rec (motive := fun _ => Prop)
      (clear (ms.getD i 0) (markOf (x0 E f) i (base + i) (ev (bX E) g) o.op s) lg = true ∧ Option.rec (motive := fun _ => Prop)
        (opDP E f (base + i) (ev (bX E) g) o s fun v s' => ih (i + 1) (markOf (x0 E f) i (base + i) (ev (bX E) g) o.op s :: lg) (putG g o.dst v) s' k)
        (fun _ => Gd (wantedA all g o) s (opDP E f (base + i) (ev (bX E) g) o s) fun v s' => ih (i + 1) (markOf (x0 E f) i (base + i) (ev (bX E) g) o.op s :: lg) (putG g o.dst v) s' k) o.guard)
      (Option.rec (motive := fun _ => Prop)
        (opDP E f (base + i) (ev (bX E) g) o s fun v s' => ih (i + 1) (markOf (x0 E f) i (base + i) (ev (bX E) g) o.op s :: lg) (putG g o.dst v) s' k)
        (fun _ => Gd (wantedA all g o) s (opDP E f (base + i) (ev (bX E) g) o s) fun v s' => ih (i + 1) (markOf (x0 E f) i (base + i) (ev (bX E) g) o.op s :: lg) (putG g o.dst v) s' k) o.guard)
      (rowSt E f (ms.getD i 0) o 0 (all.take i))) l
noncomputable def wN (n : Nat) (k : Nat → Prop) : Prop := Nat.rec (motive := fun _ => Prop) (k 0) (fun m _ => k (Nat.succ m)) n
theorem wN_eq (n : Nat) (k : Nat → Prop) : wN n k = k n := by cases n <;> rfl
/-- What comes ahead, reckoned at once. -/
noncomputable def ahK (l : List Oper) : List Nat → (List Nat → Prop) → Prop :=
  List.rec (motive := fun _ => List Nat → (List Nat → Prop) → Prop) (fun ms k => k ms) (fun o _ ih ms k => wN (aheadOf o ms) fun m => ih (ms ++ [m]) k) l
theorem ahK_eq : ∀ (l : List Oper) (ms : List Nat) (k : List Nat → Prop), ahK l ms k = k (aheads ms l) := by
  intro l
  induction l with
  | nil => intro ms k; rfl
  | cons o l ih =>
    intro ms k
    show wN (aheadOf o ms) (fun m => ahK l (ms ++ [m]) k) = _
    rw [wN_eq, ih]; rfl
noncomputable def codeP (E : Env) (f : FuncId) (kp : Nat) (c : Code) : Kt → (Nat → Kt) → Kt → Kt :=
  Code.rec (motive := fun _ => Kt → (Nat → Kt) → Kt → Kt)
    (fun kN _ _ g s => kN g s)
    (fun _ ops dr kN _ _ g s => Bool.rec (motive := fun _ => Prop) (opsP E f s.nx ops.toList ops.toList 0 g (adv s ops.size) kN) (ahK ops.toList [] fun ms => Bool.rec (motive := fun _ => Prop) False (opsDP E f s.nx ops.toList ms ops.toList 0 [] g (adv s ops.size) kN) (mixOk ms ops.toList)) dr)
    (fun _ _ ia ib kN kE kR g s => ia (ib kN kE kR) kE kR g s)
    (fun c _ _ ia ib kN kE kR g s => IfP (ev (bX E) g c) (ia kN kE kR g s) (ib kN kE kR g s))
    (fun id _ ic kN kE kR g s => ic kN (fun i => cond (Nat.beq i id) kN (kE i)) kR g s)
    (fun _ ic kN kE kR g s => ∃ n, Nat.rec (motive := fun _ => Kt) (fun _ _ => False) (fun _ ih g s => ic (fun g s => ih (fun k => cond (bitOf kp k) (g k) .undef) s) kE kR g s) n g s)
    (fun _ _ _ _ _ _ _ _ _ _ _ => False)
    (fun id _ kE _ g s => kE id g s)
    (fun _ ic kN kE kR g s => ic kN kE kR g s)
    (fun _ kN _ _ g s => kN g s)
    (fun _ _ _ _ _ _ => False)
    (fun _ _ kR g s => kR g s)
    (fun _ _ _ _ _ _ => False) c

/-! ### It is so -/
section
variable {E : Env} {f : FuncId}
theorem Bnd.get {α : Type} {o : Option α} {k : α → Prop} (h : Bnd o k) : ∃ a, o = some a ∧ k a := by
  obtain ⟨a, h1, h2⟩ := h
  exact ⟨a, h1, h2⟩
/-- With some fuel. -/
noncomputable def xN (E : Env) (f : FuncId) (n : Nat) : Cx := cx E (callN E n) f
theorem xN_le {n m : Nat} (h : n ≤ m) : XLe (xN E f n) (xN E f m) := cx_le E (callN_mono E n m h) f
theorem callP_ok {h : FuncId} {args : List AV} {s : St} {k : AV → St → Prop} (hk : CallP E f h args s k) : ∃ n r s', (xN E f n).call false h args s = some (r, s') ∧ k r s' := by
  unfold CallP at hk
  cases hp : E.pm f h with
  | true =>
    rw [hp] at hk
    obtain ⟨as, ids, v, h1, ⟨n, r, s', ids', h2, h3⟩, h4⟩ := hk
    refine ⟨n, v, _, ?_, h4⟩
    show mcall E (callN E n) f false h args s = _
    simp only [mcall, hp, if_true, h1, Option.bind_some, h2, h3, Bool.false_eq_true, if_false]
    split <;> simp_all
  | false =>
    rw [hp] at hk
    obtain ⟨r, s', ⟨n, h1⟩, h2⟩ := hk
    cases hz : E.fz h with
    | true =>
      rw [hz] at h2
      obtain ⟨v, h3, h4⟩ := Bnd.get h2
      refine ⟨n, v.1, _, ?_, h4⟩
      show mcall E (callN E n) f false h args s = _
      simp only [mcall, hp, Bool.false_eq_true, if_false, h1, Option.bind_some, hz, if_true, h3, Option.map_some]
    | false =>
      rw [hz] at h2
      refine ⟨n, r, s', ?_, h2⟩
      show mcall E (callN E n) f false h args s = _
      simp only [mcall, hp, Bool.false_eq_true, if_false, h1, Option.bind_some, hz]
theorem opP_ok {id : Nat} {e : Operand → AV} {o : Oper} {s : St} {k : AV → St → Prop} (h : opP E f id e o s k) : ∃ n r s', opA (xN E f n) false id e o s = some (r, s') ∧ k r s' := by
  have gen : Bnd (opA (x0 E f) false id e o s) (fun r => k r.1 r.2) → ∃ n r s', opA (xN E f n) false id e o s = some (r, s') ∧ k r s' := fun hb => by
    obtain ⟨r, h1, h2⟩ := Bnd.get hb
    exact ⟨0, r.1, r.2, opA_mono (cx_le E (a := fun _ _ _ => none) (fun _ _ _ _ h => nomatch h) f) h1, h2⟩
  have vv : ∀ {q : Option AV}, Bnd q (fun v => k v s) → (opA (xN E f 0) false id e o s = q.map (·, s)) → ∃ n r s', opA (xN E f n) false id e o s = some (r, s') ∧ k r s' := fun hb he => by
    obtain ⟨v, h1, h2⟩ := Bnd.get hb
    exact ⟨0, v, s, by rw [he, h1]; rfl, h2⟩
  unfold opP at h
  cases ho : o.op with
  | move x | assign x => rw [ho] at h; exact ⟨0, _, s, by simp only [opA, ho], h⟩
  | pick c a b =>
    rw [ho] at h
    obtain ⟨v, h1, h2⟩ := Bnd.get h
    refine ⟨0, v, s, ?_, h2⟩
    simp only [opA, ho]
    unfold pickV at h1
    cases hv : e c with
    | bool t => rw [hv] at h1; cases h1; cases t <;> rfl
    | _ => rw [hv] at h1; cases h1
  | alloc t =>
    rw [ho] at h
    obtain ⟨z, h1, h2⟩ := Bnd.get h
    refine ⟨0, _, _, ?_, h2⟩
    show opA (cx E _ f) false id e o s = _
    simp only [opA, ho, cx, h1, Option.map_some]
  | box t x =>
    rw [ho] at h
    exact ⟨0, _, _, by simp only [opA, ho]; rw [if_pos h.1], h.2⟩
  | load t a =>
    rw [ho] at h
    obtain ⟨v, h1, h2⟩ := Bnd.get h
    cases hl : lay E.P t with
    | none => rw [hl] at h1; cases h1
    | some l =>
    rw [hl] at h1
    refine ⟨0, v, s, ?_, h2⟩
    show opA (cx E _ f) false id e o s = _
    have h1 : Ai.load l.1 l.2 (e a) s = some v := h1
    simp only [opA, ho, cx, hl, Option.bind_some, h1, Option.map_some]
  | store t a x =>
    rw [ho] at h
    obtain ⟨s', h1, h2⟩ := Bnd.get h
    cases hl : lay E.P t with
    | none => rw [hl] at h1; cases h1
    | some l =>
    rw [hl] at h1
    refine ⟨0, _, s', ?_, h2⟩
    show opA (cx E _ f) false id e o s = _
    have h1 : Ai.store l.1 (e a) (e x) s = some s' := h1
    simp only [opA, ho, cx, hl, Option.bind_some, h1, Option.map_some]
  | nilCheck x =>
    rw [ho] at h
    refine ⟨0, _, s, ?_, h.2⟩
    have h1 := h.1
    simp only [opA, ho]
    cases hx : e x <;> rw [hx] at h1 <;> first | rfl | cases h1
  | build | buildSlice | binOp | unOp | convert | slice | fieldAddr | field | indexAddr | index | lookup =>
    rw [ho] at h
    refine vv h ?_
    simp only [opA, ho] <;> rfl
  | mapUpdate t m q x =>
    rw [ho] at h
    obtain ⟨s', h1, h2⟩ := Bnd.get h
    refine ⟨0, _, s', ?_, h2⟩
    show opA (cx E _ f) false id e o s = _
    simp only [opA, ho, cx, h1, Option.map_some]
  | extract t i =>
    rw [ho] at h
    obtain ⟨v, h1, h2⟩ := Bnd.get h
    refine ⟨0, v, s, ?_, h2⟩
    unfold extr at h1
    cases hv : e t with
    | tup vs => rw [hv] at h1; simp only [opA, ho, hv]; simp only at h1; rw [h1]; rfl
    | _ => rw [hv] at h1; cases h1
  | makeFunc fn a b =>
    rw [ho] at h
    cases fn with
    | func g => exact ⟨0, _, s, by simp only [opA, ho], h⟩
    | _ => exact gen h
  | call c =>
    rw [ho] at h
    cases hc : c.callee with
    | builtin b =>
      simp only [hc] at h
      obtain ⟨r, h1, h2⟩ := Bnd.get h
      refine ⟨0, r.1, r.2, ?_, h2⟩
      simp only [opA, ho, hc]
      exact h1
    | invoke a b => simp only [hc] at h
    | value fo =>
      simp only [hc] at h
      unfold CallV at h
      cases hv : e fo with
      | fn g a cap =>
        rw [hv] at h
        obtain ⟨n, r, s', h1, h2⟩ := callP_ok h
        refine ⟨n, r, s', ?_, h2⟩
        simp only [opA, ho, hc, hv]
        exact h1
      | _ => rw [hv] at h; exact h.elim
  | makeMap t r =>
    rw [ho] at h
    cases r with
    | none => exact ⟨0, _, _, by simp only [opA, ho], h⟩
    | some r => exact gen h
  | makeSlice t n c =>
    rw [ho] at h
    obtain ⟨r, h1, h2⟩ := Bnd.get h
    refine ⟨0, r.1, r.2, ?_, h2⟩
    have : opA (xN E f 0) false id e o s = mkS E.P t (e n) (e c) id s := by
      show opA (cx E _ f) false id e o s = _
      simp only [opA, ho, cx]
      rfl
    rw [this]; exact h1
  | makeInterface t x =>
    rw [ho] at h
    obtain ⟨v, h1, h2⟩ := Bnd.get h
    refine ⟨0, v, s, ?_, h2⟩
    show opA (cx E _ f) false id e o s = _
    simp only [opA, ho, cx]
    unfold mkI at h1
    split at h1
    · cases h1
    · cases h1
    · rename_i d hn he
      cases h1
      rw [he]
      split
      · rename_i hh; cases hh
      · rename_i hh; cases hh; exact absurd rfl (hn _)
      · rfl
  | _ => rw [ho] at h; exact gen h

theorem gt_putG {tm : List AV} {d : Option Nat} {v : AV} (h : ∀ u, d = some u → u < tm.length) : gt (put tm d v) = putG (gt tm) d v := by
  cases d with
  | none => rfl
  | some d =>
    funext k
    have hd := h d rfl
    simp only [gt, put, putG, List.getD_eq_getElem?_getD, List.getElem?_set]
    by_cases hk : d = k
    · subst hk; simp [hd]
    · have hb : Nat.beq k d = false := by
        cases hb : Nat.beq k d with
        | false => rfl
        | true => exact absurd (Nat.eq_of_beq_eq_true hb).symm hk
      rw [if_neg hk, hb]; rfl
theorem put_len (tm : List AV) (d : Option Nat) (v : AV) : (put tm d v).length = tm.length := by cases d <;> simp [put]
theorem ev_glob (E : Env) (f : FuncId) (n : Nat) (g : Gf) : ev (xN E f n) g = ev (bX E) g := rfl
/-- The slots that are set are there. -/
def dstsOk (N : Nat) (l : List Oper) : Bool := l.all fun o => match o.dst with
  | some d => Nat.blt d N
  | none => true
theorem dst_lt {N : Nat} {o : Oper} {l : List Oper} (h : dstsOk N (o :: l) = true) : ∀ u, o.dst = some u → u < N := by
  intro u hu
  simp only [dstsOk, List.all_cons, Bool.and_eq_true] at h
  have := h.1
  rw [hu] at this
  simpa [Nat.blt_eq] using this
theorem opsP_ok {N base : Nat} {all : List Oper} : ∀ (l : List Oper), dstsOk N l = true → ∀ (i : Nat) (tm : List AV) (s : St) (k : Kt), tm.length = N → opsP E f base all l i (gt tm) s k →
    ∃ n tm' s', opsA (xN E f n) false base all l i tm s = some (tm', s') ∧ tm'.length = N ∧ k (gt tm') s' := by
  intro l
  induction l with
  | nil => intro _ i tm s k hN h; exact ⟨0, tm, s, rfl, hN, h⟩
  | cons o l ih =>
    intro hd i tm s k hN h
    have hd2 : dstsOk N l = true := by simp only [dstsOk, List.all_cons, Bool.and_eq_true] at hd; exact hd.2
    have hlt := dst_lt hd
    have hrun : ∀ n, opsA (xN E f n) false base all (o :: l) i tm s = (wantedA all (gt tm) o).bind fun w => cond w ((opA (xN E f n) false (base + i) (ev (bX E) (gt tm)) o s).bind fun r => opsA (xN E f n) false base all l (i + 1) (put tm o.dst r.1) r.2) (opsA (xN E f n) false base all l (i + 1) (put tm o.dst (.tup [])) s) := fun n => rfl
    have step : opP E f (base + i) (ev (bX E) (gt tm)) o s (fun v s' => opsP E f base all l (i + 1) (putG (gt tm) o.dst v) s' k) → wantedA all (gt tm) o = some true →
        ∃ n tm' s', opsA (xN E f n) false base all (o :: l) i tm s = some (tm', s') ∧ tm'.length = N ∧ k (gt tm') s' := fun hs hw => by
      obtain ⟨n, r, s1, h1, h2⟩ := opP_ok hs
      rw [← gt_putG (fun u hu => by rw [hN]; exact hlt u hu)] at h2
      obtain ⟨m, tm', s', h3, h4, h5⟩ := ih hd2 (i + 1) _ s1 k (by rw [put_len]; exact hN) h2
      refine ⟨max n m, tm', s', ?_, h4, h5⟩
      rw [hrun, hw]
      simp only [Option.bind_some, cond_true]
      rw [opA_mono (xN_le (Nat.le_max_left n m)) h1]
      exact opsA_mono (xN_le (Nat.le_max_right n m)) _ _ _ _ _ h3
    change Option.rec (motive := fun _ => Prop)
      (opP E f (base + i) (ev (bX E) (gt tm)) o s fun v s' => opsP E f base all l (i + 1) (putG (gt tm) o.dst v) s' k)
      (fun _ => Gd (wantedA all (gt tm) o) s (opP E f (base + i) (ev (bX E) (gt tm)) o s) fun v s' => opsP E f base all l (i + 1) (putG (gt tm) o.dst v) s' k) o.guard at h
    cases hg : o.guard with
    | none =>
      rw [hg] at h
      exact step h (by simp only [wantedA, hg])
    | some jw =>
      rw [hg] at h
      change Gd (wantedA all (gt tm) o) s (opP E f (base + i) (ev (bX E) (gt tm)) o s) (fun v s' => opsP E f base all l (i + 1) (putG (gt tm) o.dst v) s' k) at h
      cases h with
      | t hw h => exact step h hw
      | f hw h =>
          have h : opsP E f base all l (i + 1) (putG (gt tm) o.dst (.tup [])) s k := h
          rw [← gt_putG (fun u hu => by rw [hN]; exact hlt u hu)] at h
          obtain ⟨m, tm', s', h3, h4, h5⟩ := ih hd2 (i + 1) _ s k (by rw [put_len]; exact hN) h
          refine ⟨m, tm', s', ?_, h4, h5⟩
          rw [hrun, hw]
          exact h3
theorem opP_nodr {id : Nat} {e : Operand → AV} {o : Oper} {s : St} {r : AV × St} {n : Nat} (hv : isVC o.op = false) (h : opA (xN E f n) false id e o s = some r) : opA (xN E f n) true id e o s = some r := by
  unfold opA at h ⊢
  cases ho : o.op with
  | call c =>
    cases hc : c.callee with
    | value fo => rw [ho] at hv; simp [isVC, hc] at hv
    | _ => simp only [ho, hc] at h ⊢; exact h
  | makeFunc fn a b => cases fn <;> (simp only [ho] at h ⊢; exact h)
  | makeMap t q => cases q <;> (simp only [ho] at h ⊢; exact h)
  | _ => simp only [ho] at h ⊢; exact h
theorem opDP_ok {id : Nat} {e : Operand → AV} {o : Oper} {s : St} {k : AV → St → Prop} (h : opDP E f id e o s k) : ∃ n r s', opD (xN E f n) id e o s = some (r, s') ∧ k r s' := by
  have plain : isVC o.op = false → Bool.rec (motive := fun _ => Prop) (opP E f id e o s k) (s.h id = none ∧ opP E f id e o s k) (writes o.op) → ∃ n r s', opD (xN E f n) id e o s = some (r, s') ∧ k r s' := fun hv hc => by
    have key : (writes o.op = true → s.h id = none) ∧ opP E f id e o s k := by
      cases hw : writes o.op with
      | true => rw [hw] at hc; exact ⟨fun _ => hc.1, hc.2⟩
      | false => rw [hw] at hc; exact ⟨(fun h => (nomatch h)), hc⟩
    obtain ⟨n, r, s', h1, h2⟩ := opP_ok key.2
    exact ⟨n, r, s', opA_full (mcall_pure E (callN E n) f) key.1 hv (opP_nodr hv h1), h2⟩
  unfold opDP at h
  cases ho : o.op with
  | call c =>
    cases hc : c.callee with
    | builtin b =>
      simp only [ho, hc] at h
      rw [← ho] at h
      exact plain (by rw [ho]; simp [isVC, hc]) h
    | invoke a b => simp only [ho, hc] at h
    | value fo =>
      simp only [ho, hc] at h
      unfold CallVD at h
      have hsh : rch s ((opnds (Op.call c)).map e) = shown e o.op s := by
        rw [ho]; unfold shown rch; simp only [hc]
      rw [hsh] at h
      cases hv : e fo with
      | fn g a cap =>
        rw [hv] at h
        simp only at h
        have hwd : ∀ n, wide (xN E f n) e o.op = !E.pm f g := fun n => by rw [ho]; unfold wide; simp only [hc, hv]; rfl
        have hop : ∀ n dr t, opA (xN E f n) dr id e o t = mcall E (callN E n) f dr g (a ++ c.args.toList.map e ++ cap) t := fun n dr t => by simp only [opA, ho, hc, hv]; rfl
        cases hp : E.pm f g with
        | true =>
          rw [hp] at h
          obtain ⟨as, ids, v, h1, ⟨n, r, s', ids', h2, h3⟩, h4, h5⟩ := h
          refine ⟨n, v, s, ?_, h5⟩
          have hwr : writes o.op = false := by rw [ho]; simp [writes, hc]
          simp only [opD, hwd, hp, Bool.not_true, cond_false, hop, hwr]
          have : mcall E (callN E n) f true g (a ++ c.args.toList.map e ++ cap) (s.only (shown e o.op s)) = some (v, s.only (shown e o.op s)) := by
            simp only [mcall, hp, if_true, h1, Option.bind_some, h2, h3, h4]
          rw [this]; rfl
        | false =>
          rw [hp] at h
          obtain ⟨r, s', ⟨n, h1⟩, h2⟩ := h
          cases hz : E.fz g with
          | true =>
            rw [hz] at h2
            obtain ⟨v, h3, h4⟩ := Bnd.get h2
            refine ⟨n, v.1, _, ?_, h4⟩
            simp only [opD, hwd, hp, Bool.not_false, cond_true, hop, mcall, Bool.false_eq_true, if_false, h1, Option.bind_some, hz, if_true, h3, Option.map_some]
          | false =>
            rw [hz] at h2
            refine ⟨n, r, _, ?_, h2⟩
            simp only [opD, hwd, hp, Bool.not_false, cond_true, hop, mcall, Bool.false_eq_true, if_false, h1, Option.bind_some, hz, Option.map_some]
      | _ => rw [hv] at h; exact h.elim
  | _ => rw [ho] at h; simp only at h; rw [← ho] at h; exact plain (by rw [ho]; rfl) h
theorem qSt_wide {o : Oper} (h : qSt E f o = true) (e : Operand → AV) (he : ∀ h, e (.func h) = .fn h [] []) : wide (x0 E f) e o.op = false ∧ writes o.op = false := by
  simp only [qSt, Bool.and_eq_true, Bool.not_eq_true'] at h
  refine ⟨?_, h.1⟩
  cases ho : o.op <;> try rfl
  rename_i c
  have h2 := h.2
  rw [ho] at h2
  unfold wide
  simp only at h2
  cases hc : c.callee with
  | value fo =>
    rw [hc] at h2
    cases fo with
    | func g =>
      simp only at h2
      simp only [hc, he]
      show (!E.pm f g) = false
      rw [h2]; rfl
    | _ => cases h2
  | _ => simp only [hc]
theorem eSt_foot {o : Op} (h : eSt o = true) (e : Operand → AV) (s : St) : shown e o s = [] := by
  cases o <;> first | rfl | cases h
theorem disj_nil : ∀ (l : List Nat), disj l [] = true := by
  intro l
  induction l with
  | nil => rfl
  | cons n l ih => simp [disj, memB, ih]
/-- The marks of the operations so far. -/
def LgOk (E : Env) (f : FuncId) (base : Nat) (all : List Oper) (i : Nat) (lg : List Mark) : Prop := ∀ p ∈ lg, ∃ j o e s, j < i ∧ all[j]? = some o ∧ (∀ h, e (.func h) = .fn h [] []) ∧ p = markOf (x0 E f) j (base + j) e o.op s
theorem rowSt_spec {m : Nat} {b : Oper} : ∀ (l : List Oper) (j : Nat), rowSt E f m b j l = true → ∀ k a, l[k]? = some a → (bitOf m (j + k) = true ∨ (qSt E f a = true ∧ qSt E f b = true) ∨ (qSt E f a = true ∧ eSt a.op = true) ∨ (qSt E f b = true ∧ eSt b.op = true)) := by
  intro l
  induction l with
  | nil => intro j _ k a h; simp at h
  | cons x l ih =>
    intro j h k a ha
    simp only [rowSt, Bool.and_eq_true, Bool.or_eq_true] at h
    cases k with
    | zero =>
      simp only [List.getElem?_cons_zero, Option.some.injEq] at ha; subst ha
      rcases h.1 with ((h1 | h1) | h1) | h1
      · exact .inl h1
      · exact .inr (.inl h1)
      · exact .inr (.inr (.inl h1))
      · exact .inr (.inr (.inr h1))
    | succ k =>
      simp only [List.getElem?_cons_succ] at ha
      have := ih (j + 1) h.2 k a ha
      rwa [show j + 1 + k = j + (k + 1) by omega] at this
theorem clear_of_row {base i m : Nat} {all : List Oper} {o : Oper} {lg : List Mark} {e : Operand → AV} {s : St} (he : ∀ h, e (.func h) = .fn h [] []) (hr : rowSt E f m o 0 (all.take i) = true) (hl : LgOk E f base all i lg) :
    clear m (markOf (x0 E f) i (base + i) e o.op s) lg = true := by
  refine List.all_eq_true.2 fun p hp => ?_
  obtain ⟨j, a, e', s', hj, ha, he', rfl⟩ := hl p hp
  have ha' : (all.take i)[j]? = some a := by rw [List.getElem?_take, if_pos hj]; exact ha
  have := rowSt_spec _ 0 hr j a ha'
  rw [Nat.zero_add] at this
  have hi : (markOf (x0 E f) j (base + j) e' a.op s').i = j := by unfold markOf; cases wide (x0 E f) e' a.op <;> rfl
  rw [hi, Bool.or_eq_true]
  rcases this with h1 | ⟨h1, h2⟩ | ⟨h1, h2⟩ | ⟨h1, h2⟩
  · exact .inl h1
  · obtain ⟨a1, a2⟩ := qSt_wide h1 e' he'
    obtain ⟨b1, b2⟩ := qSt_wide h2 e he
    right
    simp [Mark.apart, markOf, a1, a2, b1, b2]
  · obtain ⟨a1, a2⟩ := qSt_wide h1 e' he'
    right
    simp only [markOf, a1, a2, cond_false, Mark.apart, touch, eSt_foot h2, okLo, disj, Bool.and_true, Bool.true_and, Bool.or_eq_true]
    right
    split
    · rfl
    · rfl
  · obtain ⟨b1, b2⟩ := qSt_wide h1 e he
    right
    simp only [markOf, b1, b2, cond_false, Mark.apart, touch, eSt_foot h2, okLo, disj_nil, Bool.and_true, Bool.true_and, Bool.or_eq_true]
    right
    split
    · rfl
    · rfl
theorem clear_sub {m : Nat} {k : Mark} {lg lg' : List Mark} (hs : ∀ p ∈ lg', p ∈ lg) (h : clear m k lg = true) : clear m k lg' = true :=
  List.all_eq_true.2 fun p hp => List.all_eq_true.1 h p (hs p hp)
theorem opsDP_ok {N base : Nat} {all : List Oper} {ms : List Nat} : ∀ (l : List Oper), dstsOk N l = true → ∀ (i : Nat) (lg lg' : List Mark) (tm : List AV) (s : St) (k : Kt), all.drop i = l → tm.length = N → LgOk E f base all i lg → (∀ p ∈ lg', p ∈ lg) → opsDP E f base all ms l i lg (gt tm) s k →
    ∃ n tm' s', opsD (xN E f n) base all ms l i lg' tm s = some (tm', s') ∧ tm'.length = N ∧ k (gt tm') s' := by
  intro l
  induction l with
  | nil => intro _ i lg lg' tm s k _ hN _ _ h; exact ⟨0, tm, s, rfl, hN, h⟩
  | cons o l ih =>
    intro hd i lg lg' tm s k hal hN hlg hsub h
    have hd2 : dstsOk N l = true := by simp only [dstsOk, List.all_cons, Bool.and_eq_true] at hd; exact hd.2
    have hlt := dst_lt hd
    have hoi : all[i]? = some o := by
      have := congrArg (·[0]?) hal
      simpa using this
    have hal' : all.drop (i + 1) = l := by
      have : (all.drop i).drop 1 = l := by rw [hal]; rfl
      rwa [List.drop_drop] at this
    have hev : ∀ h, ev (bX E) (gt tm) (.func h) = .fn h [] [] := fun h => rfl
    have hmk : ∀ n, markOf (xN E f n) i (base + i) (ev (bX E) (gt tm)) o.op s = markOf (x0 E f) i (base + i) (ev (bX E) (gt tm)) o.op s := fun n => rfl
    have hlg2 : LgOk E f base all (i + 1) (markOf (x0 E f) i (base + i) (ev (bX E) (gt tm)) o.op s :: lg) := fun p hp => by
      rcases List.mem_cons.1 hp with rfl | hp
      · exact ⟨i, o, _, _, Nat.lt_succ_self _, hoi, hev, rfl⟩
      · obtain ⟨j, a, e', s', hj, hr⟩ := hlg p hp; exact ⟨j, a, e', s', Nat.lt_succ_of_lt hj, hr⟩
    have hrun : ∀ n, opsD (xN E f n) base all ms (o :: l) i lg' tm s = (wantedA all (gt tm) o).bind fun w => cond w
        (cond (clear (ms.getD i 0) (markOf (x0 E f) i (base + i) (ev (bX E) (gt tm)) o.op s) lg')
          ((opD (xN E f n) (base + i) (ev (bX E) (gt tm)) o s).bind fun r => opsD (xN E f n) base all ms l (i + 1) (markOf (x0 E f) i (base + i) (ev (bX E) (gt tm)) o.op s :: lg') (put tm o.dst r.1) r.2) none)
        (opsD (xN E f n) base all ms l (i + 1) lg' (put tm o.dst (.tup [])) s) := fun n => rfl
    have hboth : clear (ms.getD i 0) (markOf (x0 E f) i (base + i) (ev (bX E) (gt tm)) o.op s) lg = true ∧ (Option.rec (motive := fun _ => Prop)
        (opDP E f (base + i) (ev (bX E) (gt tm)) o s fun v s' => opsDP E f base all ms l (i + 1) (markOf (x0 E f) i (base + i) (ev (bX E) (gt tm)) o.op s :: lg) (putG (gt tm) o.dst v) s' k)
        (fun _ => Gd (wantedA all (gt tm) o) s (opDP E f (base + i) (ev (bX E) (gt tm)) o s) fun v s' => opsDP E f base all ms l (i + 1) (markOf (x0 E f) i (base + i) (ev (bX E) (gt tm)) o.op s :: lg) (putG (gt tm) o.dst v) s' k) o.guard) := by
      change Bool.rec (motive := fun _ => Prop) (_ ∧ _) _ (rowSt E f (ms.getD i 0) o 0 (all.take i)) at h
      cases hr : rowSt E f (ms.getD i 0) o 0 (all.take i) with
      | true => rw [hr] at h; exact ⟨clear_of_row hev hr hlg, h⟩
      | false => rw [hr] at h; exact h
    obtain ⟨hcl, h⟩ := hboth
    have step : opDP E f (base + i) (ev (bX E) (gt tm)) o s (fun v s' => opsDP E f base all ms l (i + 1) (markOf (x0 E f) i (base + i) (ev (bX E) (gt tm)) o.op s :: lg) (putG (gt tm) o.dst v) s' k) → wantedA all (gt tm) o = some true →
        ∃ n tm' s', opsD (xN E f n) base all ms (o :: l) i lg' tm s = some (tm', s') ∧ tm'.length = N ∧ k (gt tm') s' := fun hs hw => by
      obtain ⟨n, r, s1, h1, h2⟩ := opDP_ok hs
      rw [← gt_putG (fun u hu => by rw [hN]; exact hlt u hu)] at h2
      obtain ⟨m, tm', s', h3, h4, h5⟩ := ih hd2 (i + 1) _ (markOf (x0 E f) i (base + i) (ev (bX E) (gt tm)) o.op s :: lg') _ s1 k hal' (by rw [put_len]; exact hN) hlg2 (fun p hp => by
        rcases List.mem_cons.1 hp with rfl | hp
        · exact List.mem_cons_self ..
        · exact List.mem_cons_of_mem _ (hsub p hp)) h2
      refine ⟨max n m, tm', s', ?_, h4, h5⟩
      rw [hrun, hw]
      simp only [Option.bind_some, cond_true]
      rw [clear_sub hsub hcl]
      simp only [cond_true]
      rw [opD_mono (xN_le (Nat.le_max_left n m)) h1]
      exact opsD_mono (xN_le (Nat.le_max_right n m)) _ _ _ _ _ _ h3
    cases hg : o.guard with
    | none =>
      rw [hg] at h
      exact step h (by simp only [wantedA, hg])
    | some jw =>
      rw [hg] at h
      change Gd (wantedA all (gt tm) o) s (opDP E f (base + i) (ev (bX E) (gt tm)) o s) (fun v s' => opsDP E f base all ms l (i + 1) (markOf (x0 E f) i (base + i) (ev (bX E) (gt tm)) o.op s :: lg) (putG (gt tm) o.dst v) s' k) at h
      cases h with
      | t hw h => exact step h hw
      | f hw h =>
          have h : opsDP E f base all ms l (i + 1) (markOf (x0 E f) i (base + i) (ev (bX E) (gt tm)) o.op s :: lg) (putG (gt tm) o.dst (.tup [])) s k := h
          rw [← gt_putG (fun u hu => by rw [hN]; exact hlt u hu)] at h
          obtain ⟨m, tm', s', h3, h4, h5⟩ := ih hd2 (i + 1) _ lg' _ s k hal' (by rw [put_len]; exact hN) hlg2 (fun p hp => List.mem_cons_of_mem _ (hsub p hp)) h
          refine ⟨m, tm', s', ?_, h4, h5⟩
          rw [hrun, hw]
          exact h3
noncomputable def codeOk (N : Nat) (c : Code) : Bool :=
  Code.rec (motive := fun _ => Bool) true (fun _ ops _ => dstsOk N ops.toList) (fun _ _ a b => a && b) (fun _ _ _ a b => a && b) (fun _ _ a => a) (fun _ a => a)
    (fun _ _ _ _ _ _ => true) (fun _ => true) (fun _ a => a) (fun _ => true) (fun _ => true) true (fun _ => true) c
def Post (kN : Kt) (kE : Nat → Kt) (kR : Kt) : Ex → Kt
  | .nm => kN
  | .ex i => kE i
  | .gt _ => fun _ _ => False
  | .rt => kR
noncomputable def codeN (E : Env) (f : FuncId) (n : Nat) (c : Code) : List AV → St → Out := code (xN E f n) (loopN (xN E f n) (E.kp f) n) c
theorem codeN_mono {n m : Nat} (h : n ≤ m) (c : Code) (tm : List AV) (s : St) (r : Ex × List AV × St) (hr : codeN E f n c tm s = some r) : codeN E f m c tm s = some r :=
  code_mono (xN_le h) (loopN_mono (xN_le h) (E.kp f) n m h) c tm s r hr
theorem gt_mask (m : Nat) (tm : List AV) : gt (mask m 0 tm) = fun k => cond (bitOf m k) (gt tm k) .undef := by
  have key : ∀ (l : List AV) (i k : Nat), (mask m i l)[k]? = (l[k]?).map fun v => cond (bitOf m (i + k)) v .undef := by
    intro l
    induction l with
    | nil => intro i k; rfl
    | cons v l ih =>
      intro i k
      cases k with
      | zero => rfl
      | succ k => show (mask m (i + 1) l)[k]? = _; rw [ih, show i + 1 + k = i + (k + 1) by omega]; rfl
  funext k
  simp only [gt, List.getD_eq_getElem?_getD, key tm 0 k, Nat.zero_add]
  cases tm[k]? with
  | none => cases bitOf m k <;> rfl
  | some v => rfl
theorem codeP_ok {N : Nat} (c : Code) : codeOk N c = true → ∀ (kN : Kt) (kE : Nat → Kt) (kR : Kt) (tm : List AV) (s : St), tm.length = N → codeP E f (E.kp f) c kN kE kR (gt tm) s →
    ∃ n e tm' s', codeN E f n c tm s = some (e, tm', s') ∧ tm'.length = N ∧ Post kN kE kR e (gt tm') s' := by
  induction c with
  | skip | label => intro _ kN kE kR tm s hN h; exact ⟨0, .nm, tm, s, rfl, hN, h⟩
  | exit id => intro _ kN kE kR tm s hN h; exact ⟨0, .ex id, tm, s, rfl, hN, h⟩
  | ret => intro _ kN kE kR tm s hN h; exact ⟨0, .rt, tm, s, rfl, hN, h⟩
  | region id ops dr =>
    intro hok kN kE kR tm s hN h
    change Bool.rec (motive := fun _ => Prop) (opsP E f s.nx ops.toList ops.toList 0 (gt tm) (adv s ops.size) kN) (ahK ops.toList [] fun ms => Bool.rec (motive := fun _ => Prop) False (opsDP E f s.nx ops.toList ms ops.toList 0 [] (gt tm) (adv s ops.size) kN) (mixOk ms ops.toList)) dr at h
    cases dr with
    | true =>
      simp only [ahK_eq] at h
      cases hm : mixOk (aheads [] ops.toList) ops.toList with
      | false => rw [hm] at h; exact h.elim
      | true =>
        rw [hm] at h
        obtain ⟨n, tm', s', h1, h2, h3⟩ := opsDP_ok ops.toList hok 0 [] [] tm _ kN (by simp) hN (fun p hp => by cases hp) (fun p hp => by cases hp) h
        refine ⟨n, .nm, tm', s', ?_, h2, h3⟩
        show (cond true (drawn (xN E f n) s.nx ops.toList tm ⟨s.h, s.nx + ops.size⟩) (opsA (xN E f n) false s.nx ops.toList ops.toList 0 tm ⟨s.h, s.nx + ops.size⟩)).map (fun r => (Ex.nm, r.1, r.2)) = _
        simp only [cond_true, drawn, hm]
        have h1 : opsD (xN E f n) s.nx ops.toList (aheads [] ops.toList) ops.toList 0 [] tm ⟨s.h, s.nx + ops.size⟩ = some (tm', s') := h1
        rw [h1]; rfl
    | false =>
      obtain ⟨n, tm', s', h1, h2, h3⟩ := opsP_ok ops.toList hok 0 tm _ kN hN h
      refine ⟨n, .nm, tm', s', ?_, h2, h3⟩
      show (cond false (drawn (xN E f n) s.nx ops.toList tm ⟨s.h, s.nx + ops.size⟩) (opsA (xN E f n) false s.nx ops.toList ops.toList 0 tm ⟨s.h, s.nx + ops.size⟩)).map (fun r => (Ex.nm, r.1, r.2)) = _
      simp only [cond_false]
      have h1 : opsA (xN E f n) false s.nx ops.toList ops.toList 0 tm ⟨s.h, s.nx + ops.size⟩ = some (tm', s') := h1
      rw [h1]; rfl
  | seq a b iha ihb =>
    intro hok kN kE kR tm s hN h
    have hok : (codeOk N a && codeOk N b) = true := hok
    simp only [Bool.and_eq_true] at hok
    obtain ⟨n, e, tm1, s1, h1, h2, h3⟩ := iha hok.1 (codeP E f (E.kp f) b kN kE kR) kE kR tm s hN h
    cases e with
    | nm =>
      obtain ⟨m, e, tm2, s2, k1, k2, k3⟩ := ihb hok.2 kN kE kR tm1 s1 h2 h3
      refine ⟨max n m, e, tm2, s2, ?_, k2, k3⟩
      show thn (codeN E f (max n m) a tm s) (codeN E f (max n m) b) = _
      rw [codeN_mono (Nat.le_max_left n m) a _ _ _ h1]
      exact codeN_mono (Nat.le_max_right n m) b _ _ _ k1
    | ex i => exact ⟨n, .ex i, tm1, s1, by show thn (codeN E f n a tm s) (codeN E f n b) = _; rw [h1]; rfl, h2, h3⟩
    | gt i => exact h3.elim
    | rt => exact ⟨n, .rt, tm1, s1, by show thn (codeN E f n a tm s) (codeN E f n b) = _; rw [h1]; rfl, h2, h3⟩
  | cond c a b iha ihb =>
    intro hok kN kE kR tm s hN h
    have hok : (codeOk N a && codeOk N b) = true := hok
    simp only [Bool.and_eq_true] at hok
    change IfP (ev (bX E) (gt tm) c) (codeP E f (E.kp f) a kN kE kR (gt tm) s) (codeP E f (E.kp f) b kN kE kR (gt tm) s) at h
    cases h with
    | t hv h =>
        obtain ⟨n, e, tm1, s1, h1, h2, h3⟩ := iha hok.1 kN kE kR tm s hN h
        refine ⟨n, e, tm1, s1, ?_, h2, h3⟩
        show (asB (ev (bX E) (gt tm) c)).bind (fun t => cond t (codeN E f n a tm s) (codeN E f n b tm s)) = _
        rw [hv]; exact h1
    | f hv h =>
        obtain ⟨n, e, tm1, s1, h1, h2, h3⟩ := ihb hok.2 kN kE kR tm s hN h
        refine ⟨n, e, tm1, s1, ?_, h2, h3⟩
        show (asB (ev (bX E) (gt tm) c)).bind (fun t => cond t (codeN E f n a tm s) (codeN E f n b tm s)) = _
        rw [hv]; exact h1
  | block id c ih =>
    intro hok kN kE kR tm s hN h
    obtain ⟨n, e, tm1, s1, h1, h2, h3⟩ := ih hok kN (fun i => cond (Nat.beq i id) kN (kE i)) kR tm s hN h
    have hb : codeN E f n (.block id c) tm s = blk id (codeN E f n c tm s) := rfl
    cases e with
    | nm => exact ⟨n, .nm, tm1, s1, by rw [hb, h1]; rfl, h2, h3⟩
    | ex i =>
      by_cases hi : i = id
      · subst hi
        refine ⟨n, .nm, tm1, s1, by rw [hb, h1]; simp [blk], h2, ?_⟩
        simpa [Post] using h3
      · refine ⟨n, .ex i, tm1, s1, by rw [hb, h1]; simp [blk, hi], h2, ?_⟩
        have hne : Nat.beq i id = false := by
          cases hb : Nat.beq i id with
          | false => rfl
          | true => exact absurd (Nat.eq_of_beq_eq_true hb) hi
        simpa [Post, hne] using h3
    | gt i => exact h3.elim
    | rt => exact ⟨n, .rt, tm1, s1, by rw [hb, h1]; rfl, h2, h3⟩
  | loop c ih =>
    intro hok kN kE kR tm s hN h
    change ∃ n, Nat.rec (motive := fun _ => Kt) (fun _ _ => False) (fun _ ih g s => codeP E f (E.kp f) c (fun g s => ih (fun k => cond (bitOf (E.kp f) k) (g k) .undef) s) kE kR g s) n (gt tm) s at h
    obtain ⟨n, h⟩ := h
    suffices hs : ∀ n (tm : List AV) (s : St), tm.length = N → Nat.rec (motive := fun _ => Kt) (fun _ _ => False) (fun _ ih g s => codeP E f (E.kp f) c (fun g s => ih (fun k => cond (bitOf (E.kp f) k) (g k) .undef) s) kE kR g s) n (gt tm) s →
        ∃ m e tm' s', loopN (xN E f m) (E.kp f) m c tm s = some (e, tm', s') ∧ tm'.length = N ∧ Post kN kE kR e (gt tm') s' by
      exact hs n tm s hN h
    intro n
    induction n with
    | zero => intro tm s _ h; exact h.elim
    | succ n ihn =>
      intro tm s hN h
      obtain ⟨m, e, tm1, s1, h1, h2, h3⟩ := ih hok _ kE kR tm s hN h
      cases e with
      | nm =>
        have h3 : Nat.rec (motive := fun _ => Kt) (fun _ _ => False) (fun _ ih g s => codeP E f (E.kp f) c (fun g s => ih (fun k => cond (bitOf (E.kp f) k) (g k) .undef) s) kE kR g s) n (fun k => cond (bitOf (E.kp f) k) (gt tm1 k) .undef) s1 := h3
        rw [← gt_mask] at h3
        obtain ⟨m2, e2, tm2, s2, k1, k2, k3⟩ := ihn (mask (E.kp f) 0 tm1) s1 (by rw [mask_len]; exact h2) h3
        refine ⟨max m m2 + 1, e2, tm2, s2, ?_, k2, k3⟩
        rw [loopN_step]
        have hA := code_mono (xN_le (E := E) (f := f) (Nat.le_trans (Nat.le_max_left m m2) (Nat.le_succ _))) (loopN_mono (xN_le (Nat.le_trans (Nat.le_max_left m m2) (Nat.le_succ _))) (E.kp f) m (max m m2) (Nat.le_max_left m m2)) c tm s _ h1
        rw [hA]
        exact loopN_mono (xN_le (Nat.le_trans (Nat.le_max_right m m2) (Nat.le_succ _))) (E.kp f) m2 (max m m2) (Nat.le_max_right m m2) c _ _ _ k1
      | ex i =>
        refine ⟨m + 1, .ex i, tm1, s1, ?_, h2, h3⟩
        rw [loopN_step]
        have hA := code_mono (xN_le (E := E) (f := f) (Nat.le_succ m)) (loopN_mono (xN_le (Nat.le_succ m)) (E.kp f) m m (Nat.le_refl m)) c tm s _ h1
        rw [hA]; rfl
      | gt i => exact h3.elim
      | rt =>
        refine ⟨m + 1, .rt, tm1, s1, ?_, h2, h3⟩
        rw [loopN_step]
        have hA := code_mono (xN_le (E := E) (f := f) (Nat.le_succ m)) (loopN_mono (xN_le (Nat.le_succ m)) (E.kp f) m m (Nat.le_refl m)) c tm s _ h1
        rw [hA]; rfl
  | scope c ih =>
    intro hok kN kE kR tm s hN h
    obtain ⟨n, e, tm1, s1, h1, h2, h3⟩ := ih hok kN kE kR tm s hN h
    have hb : codeN E f n (.scope c) tm s = noGt (codeN E f n c tm s) := rfl
    cases e with
    | gt i => exact h3.elim
    | nm => exact ⟨n, .nm, tm1, s1, by rw [hb, h1]; rfl, h2, h3⟩
    | ex i => exact ⟨n, .ex i, tm1, s1, by rw [hb, h1]; rfl, h2, h3⟩
    | rt => exact ⟨n, .rt, tm1, s1, by rw [hb, h1]; rfl, h2, h3⟩
  | _ => intro _ kN kE kR tm s hN h; exact h.elim
/-- A function, from its code. -/
theorem wide_of {h : FuncId} {fn : Func} {c : Code} {args : List AV} {s : St} {Q : AV → St → Prop} (hp : E.prim h = none) (hf : E.fns h = some fn) (hb : fn.body = some c) (hok : codeOk fn.ntmps c = true) (hl : args.length ≤ fn.ntmps)
    (hc : codeP E h (E.kp h) c (fun g s => RetP (result E.P fn g s) fun v => Q v s) (fun _ _ _ => False) (fun g s => RetP (result E.P fn g s) fun v => Q v s) (gt (frame fn args)) s) : ∃ r s', WideC E h args s r s' ∧ Q r s' := by
  have hlen : (frame fn args).length = fn.ntmps := by simp [frame]; omega
  obtain ⟨n, e, tm', s', h1, h2, h3⟩ := codeP_ok c hok _ _ _ _ s hlen hc
  have hres : ∀ e, (e = Ex.nm ∨ e = Ex.rt) → codeN E h n c (frame fn args) s = some (e, tm', s') → RetP (result E.P fn (gt tm') s') (fun v => Q v s') → ∃ r s', WideC E h args s r s' ∧ Q r s' := fun e he h1 h3 => by
    obtain ⟨v, k1, k2⟩ : ∃ v, result E.P fn (gt tm') s' = some v ∧ Q v s' := by
      cases hr : result E.P fn (gt tm') s' with
      | none => rw [hr] at h3; exact h3.elim
      | some v => rw [hr] at h3; exact ⟨v, rfl, h3⟩
    refine ⟨v, s', ⟨n + 1, ?_⟩, k2⟩
    rw [callN_step, hp, hf]
    simp only [hb]
    have h1 : code (cx E (callN E n) h) (loopN (cx E (callN E n) h) (E.kp h) n) c (frame fn args) s = some (e, tm', s') := h1
    rw [h1]
    rcases he with rfl | rfl <;> simp only [finish, k1, Option.map_some]
  cases e with
  | nm => exact hres _ (.inl rfl) h1 h3
  | rt => exact hres _ (.inr rfl) h1 h3
  | ex i => exact h3.elim
  | gt i => exact h3.elim
theorem pure_of {h : FuncId} {args : List AV} {v : AV} (hw : ∃ r s', WideC E h args St.empty r s' ∧ ∃ ids, pur E.P s' 12 r = some (v, ids)) : PureC E h args v := by
  obtain ⟨r, s', ⟨n, h1⟩, ids, h2⟩ := hw
  exact ⟨n, r, s', ids, h1, h2⟩
end
end Go.Proofs.YtdehdahimkcakaaGreatDoor.Ai
