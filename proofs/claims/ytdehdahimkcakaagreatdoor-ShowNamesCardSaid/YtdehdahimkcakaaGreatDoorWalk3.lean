/- Words for printed code; how a printed text is held against the code. -/
import Derived.Test.YtdehdahimkcakaaGreatDoorWalk2
set_option linter.unusedVariables false
set_option linter.unusedSimpArgs false
namespace Go.Proofs.YtdehdahimkcakaaGreatDoor.Ai
open Go

def fld (z : Nat) (ag : Bool) (off : Nat) (x : AV) : Option AV := match x with
  | .agg cs => part z ag off cs
  | _ => none
/-- The place of an element of a slice. -/
def ixS (z : Nat) (x ix : AV) : Option AV := (asI ix).bind fun i => match x with
  | .sl _ l => (idx i l.length).bind fun j => (l[j]?).bind fun v => if v.cells.length = z then some (.pel v.cells 0) else none
  | .ref id off n _ _ => (idx i n).bind fun j => some (.ptr id (off + j * z))
  | _ => none
/-- The place of an element of an array. -/
def ixA (n z : Nat) (x ix : AV) : Option AV := (asI ix).bind fun i => (idx i n).bind fun j => shiftP (j * z) x
def ixT (x ix : AV) : Option AV := (asI ix).bind fun i => match x with
  | .str s => (idx i s.length).bind fun j => (s[j]?).map fun b => .int .u8 b.toNat
  | _ => none
def ixR (n z : Nat) (ag : Bool) (x ix : AV) : Option AV := (asI ix).bind fun i => match x with
  | .agg cs => (idx i n).bind fun j => part z ag (j * z) cs
  | _ => none
def resC : List (Option AV) → Option (List AV)
  | [] => some []
  | q :: l => q.bind fun v => (resC l).map (v :: ·)
def tupV (vs : List AV) : AV := match vs with
  | [v] => v
  | vs => .tup vs
def markV (E : Env) (f : FuncId) (i : Nat) (v : AV) (l : List Nat) (s : St) : Mark := cond (match v with
  | .fn g _ _ => !E.pm f g
  | _ => false) ⟨i, true, l, some s.nx⟩ ⟨i, false, l, none⟩
def sub : Code → List Bool → Code
  | c, [] => c
  | .seq a b, t :: p => cond t (sub b p) (sub a p)
  | .cond _ a b, t :: p => cond t (sub b p) (sub a p)
  | .block _ c, _ :: p => sub c p
  | .loop c, _ :: p => sub c p
  | .scope c, _ :: p => sub c p
  | c, _ => c
def bodyOf (fn : Func) : Code := match fn.body with
  | some c => c
  | none => .skip

section
variable {E : Env} {f : FuncId} {kp : Nat} {kN : Kt} {kE : Nat → Kt} {kR : Kt} {φ φ1 φ2 : Kt} {a b c : Code}
theorem seq_eq (h : c = .seq a b) (hb : codeP E f kp b kN kE kR = φ1) (ha : codeP E f kp a φ1 kE kR = φ) : codeP E f kp c kN kE kR = φ := by
  subst h; subst hb; exact ha
theorem cond_eq {x : Operand} (h : c = .cond x a b) (ha : codeP E f kp a kN kE kR = φ1) (hb : codeP E f kp b kN kE kR = φ2) : codeP E f kp c kN kE kR = fun g s => IfP (ev (bX E) g x) (φ1 g s) (φ2 g s) := by
  subst h; subst ha; subst hb; rfl
theorem block_eq {id : Nat} (h : c = .block id a) (ha : codeP E f kp a kN (fun i => cond (Nat.beq i id) kN (kE i)) kR = φ) : codeP E f kp c kN kE kR = φ := by
  subst h; exact ha
theorem scope_eq (h : c = .scope a) (ha : codeP E f kp a kN kE kR = φ) : codeP E f kp c kN kE kR = φ := by
  subst h; exact ha
theorem loop_eq {L : Nat → Kt} (h : c = .loop a) (h0 : L 0 = fun _ _ => False) (hs : ∀ n, codeP E f kp a (fun g s => L n (fun k => cond (bitOf kp k) (g k) .undef) s) kE kR = L (n + 1)) : codeP E f kp c kN kE kR = fun g s => ∃ n, L n g s := by
  subst h
  have key : ∀ n, (Nat.rec (motive := fun _ => Kt) (fun _ _ => False) (fun _ ih g s => codeP E f kp a (fun g s => ih (fun k => cond (bitOf kp k) (g k) .undef) s) kE kR g s) n : Kt) = L n := by
    intro n
    induction n with
    | zero => exact h0.symm
    | succ n ih =>
      rw [← hs n]
      show (fun g s => codeP E f kp a (fun g s => (Nat.rec (motive := fun _ => Kt) (fun _ _ => False) (fun _ ih g s => codeP E f kp a (fun g s => ih (fun k => cond (bitOf kp k) (g k) .undef) s) kE kR g s) n : Kt) (fun k => cond (bitOf kp k) (g k) .undef) s) kE kR g s) = _
      rw [ih]
  funext g s
  show (∃ n, (Nat.rec (motive := fun _ => Kt) (fun _ _ => False) (fun _ ih g s => codeP E f kp a (fun g s => ih (fun k => cond (bitOf kp k) (g k) .undef) s) kE kR g s) n : Kt) g s) = _
  simp only [key]
end
end Go.Proofs.YtdehdahimkcakaaGreatDoor.Ai
