/- What operations give on values of known shapes. -/
import Derived.Test.YtdehdahimkcakaaGreatDoorWords
set_option linter.unusedVariables false
set_option linter.unusedSimpArgs false
namespace Go.Proofs.YtdehdahimkcakaaGreatDoor
open Go Ai

section
variable {T : Ty} {q : TypeId → Bool} {t : TypeId} {k : IntKind} {a b : Int} {x y : List UInt8} {s : St} {n m : Nat}
theorem bin_add : bin T q .add t (.int k a) (.int k b) = some (.int k (k.wrap (a + b))) := by simp [bin, isShift, intBin]
theorem bin_sub : bin T q .sub t (.int k a) (.int k b) = some (.int k (k.wrap (a - b))) := by simp [bin, isShift, intBin]
theorem bin_mul : bin T q .mul t (.int k a) (.int k b) = some (.int k (k.wrap (a * b))) := by simp [bin, isShift, intBin]
theorem bin_lss : bin T q .lss t (.int k a) (.int k b) = some (.bool (decide (a < b))) := by simp [bin, isShift, intBin]
theorem bin_leq : bin T q .leq t (.int k a) (.int k b) = some (.bool (decide (a ≤ b))) := by simp [bin, isShift, intBin]
theorem bin_gtr : bin T q .gtr t (.int k a) (.int k b) = some (.bool (decide (a > b))) := by simp [bin, isShift, intBin]
theorem bin_geq : bin T q .geq t (.int k a) (.int k b) = some (.bool (decide (a ≥ b))) := by simp [bin, isShift, intBin]
theorem bin_eql : bin T q .eql t (.int k a) (.int k b) = some (.bool (a == b)) := by simp [bin, isShift, intBin]
theorem bin_neq : bin T q .neq t (.int k a) (.int k b) = some (.bool (a != b)) := by simp [bin, isShift, intBin]
theorem bin_seql : bin T q .eql t (.str x) (.str y) = some (.bool (x == y)) := rfl
theorem bin_sneq : bin T q .neq t (.str x) (.str y) = some (.bool !(x == y)) := rfl
theorem un_not {b : Bool} : un .not (.bool b) = some (.bool !b) := rfl
theorem wantV_bool {b w : Bool} : wantV (.bool b) w = some (b == w) := rfl
theorem pickV_bool {c : Bool} {u v : AV} : pickV (.bool c) u v = some (cond c u v) := rfl
theorem extr_tup {l : List AV} {i : Nat} : extr (.tup l) i = l[i]? := rfl
theorem shiftP_ptr {i o : Nat} : shiftP n (.ptr i o) = some (.ptr i (o + n)) := rfl
theorem shiftP_pel {c : List AV} {o : Nat} : shiftP n (.pel c o) = some (.pel c (o + n)) := rfl
theorem adv_h : (adv s n).h = s.h := rfl
theorem adv_nx : (adv s n).nx = s.nx + n := rfl
theorem adv_adv : adv (adv s n) m = adv s (n + m) := by simp [adv, Nat.add_assoc]
theorem set_h {o : Option Blk} : (s.set n o).h m = cond (Nat.beq m n) o (s.h m) := rfl
theorem set_nx {o : Option Blk} : (s.set n o).nx = s.nx := rfl
theorem beq_self' : Nat.beq n n = true := by simp
theorem ld_pel {c : List AV} {o z : Nat} {ag : Bool} : ld z ag (.pel c o) s = Ai.part z ag o c := rfl
theorem ld_ptr {i o z : Nat} {ag : Bool} : ld z ag (.ptr i o) s = match s.h i with
    | some (.cells c _ _ _) => Ai.part z ag o c
    | _ => none := rfl
theorem part_one {c : List AV} {o z : Nat} : Ai.part z false o c = c[o]? := rfl
theorem part_agg {c : List AV} {o z : Nat} : Ai.part z true o c = if o + z ≤ c.length then some (.agg ((c.drop o).take z)) else none := rfl
/-- A call that runs alone, its arguments without blocks. -/
theorem callPu {h : FuncId} {args : List AV} {v : AV} {K : AV → St → Prop} (hc : PureC Tryz.env h args v) (hcl : ∀ x ∈ args, x.closed = true) (hk : K v s) : CallPu Tryz.env h args s K := by
  have hp : purL (pur Tryz.env.P s 12) args = some (args, []) := by
    clear hc
    induction args with
    | nil => rfl
    | cons x l ih =>
      have hx : pur Tryz.env.P s 12 x = some (x, []) := by unfold pur; rw [if_pos (hcl x (List.mem_cons_self ..))]
      simp only [purL, hx, ih fun y hy => hcl y (List.mem_cons_of_mem _ hy), List.append_nil]
  refine .mk args [] v hp hc ?_
  simpa using hk
theorem pure_closed {h : FuncId} {args : List AV} {v : AV} (hv : v.closed = true) (hw : ∃ r s', WideC Tryz.env h args St.empty r s' ∧ r = v) : PureC Tryz.env h args v := by
  obtain ⟨r, s', h1, rfl⟩ := hw
  exact pure_of ⟨r, s', h1, [], by unfold pur; rw [if_pos hv]⟩
end
end Go.Proofs.YtdehdahimkcakaaGreatDoor
