/- Literals: what a literal says, code points as a text. -/
import Derived.Test.YtdehdahimkcakaaGreatDoorLLt
import Derived.Test.YtdehdahimkcakaaGreatDoorStr
import Derived.Test.YtdehdahimkcakaaGreatDoorLi
import Derived.Test.YtdehdahimkcakaaGreatDoorBn
import Derived.Test.YtdehdahimkcakaaGreatDoorRun
set_option linter.unusedVariables false
set_option linter.unusedSimpArgs false
set_option maxRecDepth 100000
set_option maxHeartbeats 4000000
namespace Go.Proofs.YtdehdahimkcakaaGreatDoor
open Go Ai

def hexN (c : Nat) : Int := if 48 ≤ c ∧ c ≤ 57 then (c : Int) - 48 else if 97 ≤ c ∧ c ≤ 102 then (c : Int) - 87 else if 65 ≤ c ∧ c ≤ 70 then (c : Int) - 55 else -1
theorem t246 : (List.range 256).map (fun c : Nat => pureF 246 [.int .u8 (c : Int)]) = (List.range 256).map fun c : Nat => some (.int .i64 (hexN c)) := by kernel_rfl
theorem c246 (c : UInt8) : PureC Tryz.env 246 [.int .u8 c.toNat] (.int .i64 (hexN c.toNat)) := pure_table (a := fun c => .int .u8 (c : Int)) t246 (by have := c.toNat_lt; omega)
def numGo : List UInt8 → Int → Int
  | [], n => cond (decide (n > 196607)) (-1) n
  | c :: x, n => cond (decide (hexN c.toNat < 0)) (-1) (numGo x (IntKind.i64.wrap (IntKind.i64.wrap (16 * n) + hexN c.toNat)))
def numM (x : List UInt8) : Int := cond (x == []) (-1) (numGo x 0)
theorem l217 (x : List UInt8) (hx : x.length ≤ maxLen) (Q : AV → St → Prop) (r : Int) (hQ : ∀ s, Q (.int .i64 r) s) : ∀ (m i : Nat) (n : Int) (s : St), i + m = x.length → r = cond (x == []) (-1) (numGo (x.drop i) n) → f217l1 Q (m + 1) (.str x) (.int .i64 n) (.int .i64 x.length) (.int .i64 i) s := by
  intro m
  induction m with
  | zero =>
    intro i n s hi hr
    show f217l1s Q (f217l1 Q 0) _ _ _ _ s
    rw [List.drop_eq_nil_of_le (by omega)] at hr
    simp only [f217l1s, f217j1, Int.ofNat_lt, show ¬ (i < x.length) by omega, decide_false, shiftP_ptr, shiftP_pel, Bnd_some, IfP_bool, Gd_some, ld_ptr, ld_pel, adv_h, adv_nx, set_nx, cond_true, cond_false, part_one, List.getElem?_cons_zero, List.getElem?_cons_succ, un_not, wantV_bool, pickV_bool, extr_tup, bin_lss, bin_leq, bin_gtr, bin_geq, bin_eql, bin_neq, bin_seql, bin_sneq, bin_add, bin_sub, Nat.reduceAdd, beq_self_eq_true, if_true, if_false, Bool.false_eq_true, Bool.not_true, Bool.not_false, show (false == true) = false from rfl, show (true == false) = false from rfl, Bnd_none, get_set, nx_drop, get_drop', adv_set, adv_two, adv_drop, set_set, Nat.add_assoc, Nat.add_left_cancel_iff, Nat.left_eq_add, Nat.add_eq_left, Nat.add_zero, Nat.reduceEqDiff, reduceCtorEq, and_true, true_and, List.mem_nil_iff, List.not_mem_nil, wantV_tup, resC_nil, resC_some, retP_some, map_some', tupV_one, tupV_two, idOf_ref, idOf_nils, idOf_ptr, idOf_sl, idOf_pel, drop_nil, drop_cons, bin_mul, Bool.or_true, Bool.or_false, Bool.and_true, Bool.and_false, Bool.true_and, Bool.false_and, Bool.true_or, Bool.false_or]
    have hq := hQ
    cases h1 : (x == []) with
    | true => simp only [h1, cond_true] at hr; subst hr; simp only [shiftP_ptr, shiftP_pel, Bnd_some, IfP_bool, Gd_some, ld_ptr, ld_pel, adv_h, adv_nx, set_nx, cond_true, cond_false, part_one, List.getElem?_cons_zero, List.getElem?_cons_succ, un_not, wantV_bool, pickV_bool, extr_tup, bin_lss, bin_leq, bin_gtr, bin_geq, bin_eql, bin_neq, bin_seql, bin_sneq, bin_add, bin_sub, Nat.reduceAdd, beq_self_eq_true, if_true, if_false, Bool.false_eq_true, Bool.not_true, Bool.not_false, show (false == true) = false from rfl, show (true == false) = false from rfl, Bnd_none, get_set, nx_drop, get_drop', adv_set, adv_two, adv_drop, set_set, Nat.add_assoc, Nat.add_left_cancel_iff, Nat.left_eq_add, Nat.add_eq_left, Nat.add_zero, Nat.reduceEqDiff, reduceCtorEq, and_true, true_and, List.mem_nil_iff, List.not_mem_nil, wantV_tup, resC_nil, resC_some, retP_some, map_some', tupV_one, tupV_two, idOf_ref, idOf_nils, idOf_ptr, idOf_sl, idOf_pel, drop_nil, drop_cons, bin_mul, Bool.or_true, Bool.or_false, Bool.and_true, Bool.and_false, Bool.true_and, Bool.false_and, Bool.true_or, Bool.false_or]; exact hQ _
    | false =>
      simp only [h1, cond_false, numGo] at hr
      cases h2 : decide (n > 196607) with
      | true => rw [h2] at hr; simp only [shiftP_ptr, shiftP_pel, Bnd_some, IfP_bool, Gd_some, ld_ptr, ld_pel, adv_h, adv_nx, set_nx, cond_true, cond_false, part_one, List.getElem?_cons_zero, List.getElem?_cons_succ, un_not, wantV_bool, pickV_bool, extr_tup, bin_lss, bin_leq, bin_gtr, bin_geq, bin_eql, bin_neq, bin_seql, bin_sneq, bin_add, bin_sub, Nat.reduceAdd, beq_self_eq_true, if_true, if_false, Bool.false_eq_true, Bool.not_true, Bool.not_false, show (false == true) = false from rfl, show (true == false) = false from rfl, Bnd_none, get_set, nx_drop, get_drop', adv_set, adv_two, adv_drop, set_set, Nat.add_assoc, Nat.add_left_cancel_iff, Nat.left_eq_add, Nat.add_eq_left, Nat.add_zero, Nat.reduceEqDiff, reduceCtorEq, and_true, true_and, List.mem_nil_iff, List.not_mem_nil, wantV_tup, resC_nil, resC_some, retP_some, map_some', tupV_one, tupV_two, idOf_ref, idOf_nils, idOf_ptr, idOf_sl, idOf_pel, drop_nil, drop_cons, bin_mul, Bool.or_true, Bool.or_false, Bool.and_true, Bool.and_false, Bool.true_and, Bool.false_and, Bool.true_or, Bool.false_or, h2]; subst hr; exact hQ _
      | false => rw [h2] at hr; simp only [shiftP_ptr, shiftP_pel, Bnd_some, IfP_bool, Gd_some, ld_ptr, ld_pel, adv_h, adv_nx, set_nx, cond_true, cond_false, part_one, List.getElem?_cons_zero, List.getElem?_cons_succ, un_not, wantV_bool, pickV_bool, extr_tup, bin_lss, bin_leq, bin_gtr, bin_geq, bin_eql, bin_neq, bin_seql, bin_sneq, bin_add, bin_sub, Nat.reduceAdd, beq_self_eq_true, if_true, if_false, Bool.false_eq_true, Bool.not_true, Bool.not_false, show (false == true) = false from rfl, show (true == false) = false from rfl, Bnd_none, get_set, nx_drop, get_drop', adv_set, adv_two, adv_drop, set_set, Nat.add_assoc, Nat.add_left_cancel_iff, Nat.left_eq_add, Nat.add_eq_left, Nat.add_zero, Nat.reduceEqDiff, reduceCtorEq, and_true, true_and, List.mem_nil_iff, List.not_mem_nil, wantV_tup, resC_nil, resC_some, retP_some, map_some', tupV_one, tupV_two, idOf_ref, idOf_nils, idOf_ptr, idOf_sl, idOf_pel, drop_nil, drop_cons, bin_mul, Bool.or_true, Bool.or_false, Bool.and_true, Bool.and_false, Bool.true_and, Bool.false_and, Bool.true_or, Bool.false_or, h2]; subst hr; exact hQ _
  | succ m ih =>
    intro i n s hi hr
    obtain ⟨c, hc⟩ : ∃ c, x[i]? = some c := ⟨_, List.getElem?_eq_getElem (by omega)⟩
    have hlt : i < x.length := by omega
    show f217l1s Q (f217l1 Q (m + 1)) _ _ _ _ s
    have hne : (x == []) = false := by cases x with | nil => simp at hlt | cons _ _ => rfl
    rw [get_drop x i c hc, numGo, hne] at hr
    simp only [f217l1s, Int.ofNat_lt, hlt, decide_true, ixa_str _ hc, shiftP_ptr, shiftP_pel, Bnd_some, IfP_bool, Gd_some, ld_ptr, ld_pel, adv_h, adv_nx, set_nx, cond_true, cond_false, part_one, List.getElem?_cons_zero, List.getElem?_cons_succ, un_not, wantV_bool, pickV_bool, extr_tup, bin_lss, bin_leq, bin_gtr, bin_geq, bin_eql, bin_neq, bin_seql, bin_sneq, bin_add, bin_sub, Nat.reduceAdd, beq_self_eq_true, if_true, if_false, Bool.false_eq_true, Bool.not_true, Bool.not_false, show (false == true) = false from rfl, show (true == false) = false from rfl, Bnd_none, get_set, nx_drop, get_drop', adv_set, adv_two, adv_drop, set_set, Nat.add_assoc, Nat.add_left_cancel_iff, Nat.left_eq_add, Nat.add_eq_left, Nat.add_zero, Nat.reduceEqDiff, reduceCtorEq, and_true, true_and, List.mem_nil_iff, List.not_mem_nil, wantV_tup, resC_nil, resC_some, retP_some, map_some', tupV_one, tupV_two, idOf_ref, idOf_nils, idOf_ptr, idOf_sl, idOf_pel, drop_nil, drop_cons, bin_mul, Bool.or_true, Bool.or_false, Bool.and_true, Bool.and_false, Bool.true_and, Bool.false_and, Bool.true_or, Bool.false_or]
    refine callPu (c246 c) (by simp [AV.closed]) ?_
    cases h : decide (hexN c.toNat < 0) with
    | true => rw [h] at hr; simp only [h, shiftP_ptr, shiftP_pel, Bnd_some, IfP_bool, Gd_some, ld_ptr, ld_pel, adv_h, adv_nx, set_nx, cond_true, cond_false, part_one, List.getElem?_cons_zero, List.getElem?_cons_succ, un_not, wantV_bool, pickV_bool, extr_tup, bin_lss, bin_leq, bin_gtr, bin_geq, bin_eql, bin_neq, bin_seql, bin_sneq, bin_add, bin_sub, Nat.reduceAdd, beq_self_eq_true, if_true, if_false, Bool.false_eq_true, Bool.not_true, Bool.not_false, show (false == true) = false from rfl, show (true == false) = false from rfl, Bnd_none, get_set, nx_drop, get_drop', adv_set, adv_two, adv_drop, set_set, Nat.add_assoc, Nat.add_left_cancel_iff, Nat.left_eq_add, Nat.add_eq_left, Nat.add_zero, Nat.reduceEqDiff, reduceCtorEq, and_true, true_and, List.mem_nil_iff, List.not_mem_nil, wantV_tup, resC_nil, resC_some, retP_some, map_some', tupV_one, tupV_two, idOf_ref, idOf_nils, idOf_ptr, idOf_sl, idOf_pel, drop_nil, drop_cons, bin_mul, Bool.or_true, Bool.or_false, Bool.and_true, Bool.and_false, Bool.true_and, Bool.false_and, Bool.true_or, Bool.false_or]; subst hr; exact hQ _
    | false =>
      rw [h] at hr
      simp only [h, f217j2, shiftP_ptr, shiftP_pel, Bnd_some, IfP_bool, Gd_some, ld_ptr, ld_pel, adv_h, adv_nx, set_nx, cond_true, cond_false, part_one, List.getElem?_cons_zero, List.getElem?_cons_succ, un_not, wantV_bool, pickV_bool, extr_tup, bin_lss, bin_leq, bin_gtr, bin_geq, bin_eql, bin_neq, bin_seql, bin_sneq, bin_add, bin_sub, Nat.reduceAdd, beq_self_eq_true, if_true, if_false, Bool.false_eq_true, Bool.not_true, Bool.not_false, show (false == true) = false from rfl, show (true == false) = false from rfl, Bnd_none, get_set, nx_drop, get_drop', adv_set, adv_two, adv_drop, set_set, Nat.add_assoc, Nat.add_left_cancel_iff, Nat.left_eq_add, Nat.add_eq_left, Nat.add_zero, Nat.reduceEqDiff, reduceCtorEq, and_true, true_and, List.mem_nil_iff, List.not_mem_nil, wantV_tup, resC_nil, resC_some, retP_some, map_some', tupV_one, tupV_two, idOf_ref, idOf_nils, idOf_ptr, idOf_sl, idOf_pel, drop_nil, drop_cons, bin_mul, Bool.or_true, Bool.or_false, Bool.and_true, Bool.and_false, Bool.true_and, Bool.false_and, Bool.true_or, Bool.false_or]
      rw [wrap_len i _ hlt hx]
      exact ih (i + 1) _ _ (by omega) (by rw [hne]; exact hr)
theorem c217 (x : List UInt8) (hx : x.length ≤ maxLen) : PureC Tryz.env 217 [.str x] (.int .i64 (numM x)) := by
  refine pure_closed rfl (f217_run _ _ ?_)
  unfold f217
  simp only [ln9t, shiftP_ptr, shiftP_pel, Bnd_some, IfP_bool, Gd_some, ld_ptr, ld_pel, adv_h, adv_nx, set_nx, cond_true, cond_false, part_one, List.getElem?_cons_zero, List.getElem?_cons_succ, un_not, wantV_bool, pickV_bool, extr_tup, bin_lss, bin_leq, bin_gtr, bin_geq, bin_eql, bin_neq, bin_seql, bin_sneq, bin_add, bin_sub, Nat.reduceAdd, beq_self_eq_true, if_true, if_false, Bool.false_eq_true, Bool.not_true, Bool.not_false, show (false == true) = false from rfl, show (true == false) = false from rfl, Bnd_none, get_set, nx_drop, get_drop', adv_set, adv_two, adv_drop, set_set, Nat.add_assoc, Nat.add_left_cancel_iff, Nat.left_eq_add, Nat.add_eq_left, Nat.add_zero, Nat.reduceEqDiff, reduceCtorEq, and_true, true_and, List.mem_nil_iff, List.not_mem_nil, wantV_tup, resC_nil, resC_some, retP_some, map_some', tupV_one, tupV_two, idOf_ref, idOf_nils, idOf_ptr, idOf_sl, idOf_pel, drop_nil, drop_cons, bin_mul, Bool.or_true, Bool.or_false, Bool.and_true, Bool.and_false, Bool.true_and, Bool.false_and, Bool.true_or, Bool.false_or]
  exact ⟨_, l217 x hx _ _ (fun _ => rfl) x.length 0 0 _ (by omega) rfl⟩
theorem c244 (x p : List UInt8) : PureC Tryz.env 244 [.str x, .str p] (.tup [.str (cond (pre p x) (x.drop p.length) x), .bool (pre p x)]) := by
  refine pure_closed rfl (f244_run _ _ _ ?_)
  unfold f244
  refine callPu (c123 x p) (by simp [AV.closed]) ?_
  cases h : pre p x with
  | false => simp only [shiftP_ptr, shiftP_pel, Bnd_some, IfP_bool, Gd_some, ld_ptr, ld_pel, adv_h, adv_nx, set_nx, cond_true, cond_false, part_one, List.getElem?_cons_zero, List.getElem?_cons_succ, un_not, wantV_bool, pickV_bool, extr_tup, bin_lss, bin_leq, bin_gtr, bin_geq, bin_eql, bin_neq, bin_seql, bin_sneq, bin_add, bin_sub, Nat.reduceAdd, beq_self_eq_true, if_true, if_false, Bool.false_eq_true, Bool.not_true, Bool.not_false, show (false == true) = false from rfl, show (true == false) = false from rfl, Bnd_none, get_set, nx_drop, get_drop', adv_set, adv_two, adv_drop, set_set, Nat.add_assoc, Nat.add_left_cancel_iff, Nat.left_eq_add, Nat.add_eq_left, Nat.add_zero, Nat.reduceEqDiff, reduceCtorEq, and_true, true_and, List.mem_nil_iff, List.not_mem_nil, wantV_tup, resC_nil, resC_some, retP_some, map_some', tupV_one, tupV_two, idOf_ref, idOf_nils, idOf_ptr, idOf_sl, idOf_pel, drop_nil, drop_cons, bin_mul, Bool.or_true, Bool.or_false, Bool.and_true, Bool.and_false, Bool.true_and, Bool.false_and, Bool.true_or, Bool.false_or]
  | true =>
    have hl : p.length ≤ x.length := by simp only [pre, Bool.and_eq_true, decide_eq_true_eq] at h; exact h.1
    simp only [ln9t, slc_lo _ hl, shiftP_ptr, shiftP_pel, Bnd_some, IfP_bool, Gd_some, ld_ptr, ld_pel, adv_h, adv_nx, set_nx, cond_true, cond_false, part_one, List.getElem?_cons_zero, List.getElem?_cons_succ, un_not, wantV_bool, pickV_bool, extr_tup, bin_lss, bin_leq, bin_gtr, bin_geq, bin_eql, bin_neq, bin_seql, bin_sneq, bin_add, bin_sub, Nat.reduceAdd, beq_self_eq_true, if_true, if_false, Bool.false_eq_true, Bool.not_true, Bool.not_false, show (false == true) = false from rfl, show (true == false) = false from rfl, Bnd_none, get_set, nx_drop, get_drop', adv_set, adv_two, adv_drop, set_set, Nat.add_assoc, Nat.add_left_cancel_iff, Nat.left_eq_add, Nat.add_eq_left, Nat.add_zero, Nat.reduceEqDiff, reduceCtorEq, and_true, true_and, List.mem_nil_iff, List.not_mem_nil, wantV_tup, resC_nil, resC_some, retP_some, map_some', tupV_one, tupV_two, idOf_ref, idOf_nils, idOf_ptr, idOf_sl, idOf_pel, drop_nil, drop_cons, bin_mul, Bool.or_true, Bool.or_false, Bool.and_true, Bool.and_false, Bool.true_and, Bool.false_and, Bool.true_or, Bool.false_or]
theorem c215 (x p : List UInt8) : PureC Tryz.env 215 [.str x, .str p] (.tup [.str (cond (pre p x) (x.drop p.length) x), .bool (pre p x)]) := by
  refine pure_closed rfl (f215_run _ _ _ ?_)
  unfold f215
  refine callPu (c244 x p) (by simp [AV.closed]) ?_
  simp only [shiftP_ptr, shiftP_pel, Bnd_some, IfP_bool, Gd_some, ld_ptr, ld_pel, adv_h, adv_nx, set_nx, cond_true, cond_false, part_one, List.getElem?_cons_zero, List.getElem?_cons_succ, un_not, wantV_bool, pickV_bool, extr_tup, bin_lss, bin_leq, bin_gtr, bin_geq, bin_eql, bin_neq, bin_seql, bin_sneq, bin_add, bin_sub, Nat.reduceAdd, beq_self_eq_true, if_true, if_false, Bool.false_eq_true, Bool.not_true, Bool.not_false, show (false == true) = false from rfl, show (true == false) = false from rfl, Bnd_none, get_set, nx_drop, get_drop', adv_set, adv_two, adv_drop, set_set, Nat.add_assoc, Nat.add_left_cancel_iff, Nat.left_eq_add, Nat.add_eq_left, Nat.add_zero, Nat.reduceEqDiff, reduceCtorEq, and_true, true_and, List.mem_nil_iff, List.not_mem_nil, wantV_tup, resC_nil, resC_some, retP_some, map_some', tupV_one, tupV_two, idOf_ref, idOf_nils, idOf_ptr, idOf_sl, idOf_pel, drop_nil, drop_cons, bin_mul, Bool.or_true, Bool.or_false, Bool.and_true, Bool.and_false, Bool.true_and, Bool.false_and, Bool.true_or, Bool.false_or]
theorem c285 (x : List UInt8) (c : Int) : PureC Tryz.env 285 [.str x, .int .u8 c] (.int .i64 (idxB (c.toNat % 256) x 0)) :=
  pure_closed rfl ⟨_, _, prim_f (g := indexByteA) (by kernel_rfl) rfl, rfl⟩
theorem idxB_is (c : Nat) : ∀ (x : List UInt8) (k : Nat), idxB c x k = -1 ∨ ∃ i : Nat, idxB c x k = ((k + i : Nat) : Int) ∧ i < x.length := by
  intro x
  induction x with
  | nil => intro k; exact .inl rfl
  | cons b x ih =>
    intro k
    simp only [idxB]
    cases Nat.beq b.toNat c with
    | true => exact .inr ⟨0, by simp, by simp⟩
    | false =>
      rcases ih (k + 1) with h | ⟨i, h, hi⟩
      · exact .inl h
      · exact .inr ⟨i + 1, by simp only [cond_false, h]; congr 1; omega, by simp; omega⟩
theorem c269 (x : List UInt8) (c : Int) : PureC Tryz.env 269 [.str x, .int .u8 c] (.int .i64 (idxB (c.toNat % 256) x 0)) := by
  refine pure_closed rfl (f269_run _ _ _ ?_)
  unfold f269
  refine callPu (c285 x c) (by simp [AV.closed]) ?_
  rfl
theorem c268 (x : List UInt8) (d : UInt8) : PureC Tryz.env 268 [.str x, .str [d]] (.int .i64 (idxB d.toNat x 0)) := by
  refine pure_closed rfl (f268_run _ _ _ ?_)
  unfold f268
  have h : d.toNat % 256 = d.toNat := Nat.mod_eq_of_lt d.toNat_lt
  simp only [ln9t, List.length_cons, List.length_nil, shiftP_ptr, shiftP_pel, Bnd_some, IfP_bool, Gd_some, ld_ptr, ld_pel, adv_h, adv_nx, set_nx, cond_true, cond_false, part_one, List.getElem?_cons_zero, List.getElem?_cons_succ, un_not, wantV_bool, pickV_bool, extr_tup, bin_lss, bin_leq, bin_gtr, bin_geq, bin_eql, bin_neq, bin_seql, bin_sneq, bin_add, bin_sub, Nat.reduceAdd, beq_self_eq_true, if_true, if_false, Bool.false_eq_true, Bool.not_true, Bool.not_false, show (false == true) = false from rfl, show (true == false) = false from rfl, Bnd_none, get_set, nx_drop, get_drop', adv_set, adv_two, adv_drop, set_set, Nat.add_assoc, Nat.add_left_cancel_iff, Nat.left_eq_add, Nat.add_eq_left, Nat.add_zero, Nat.reduceEqDiff, reduceCtorEq, and_true, true_and, List.mem_nil_iff, List.not_mem_nil, wantV_tup, resC_nil, resC_some, retP_some, map_some', tupV_one, tupV_two, idOf_ref, idOf_nils, idOf_ptr, idOf_sl, idOf_pel, drop_nil, drop_cons, bin_mul, Bool.or_true, Bool.or_false, Bool.and_true, Bool.and_false, Bool.true_and, Bool.false_and, Bool.true_or, Bool.false_or, show ((((0 : Nat) + 1 : Nat) : Int) == 0) = false from rfl, show ((((0 : Nat) + 1 : Nat) : Int) == 1) = true from rfl]
  have hix : ixa 9 (.str [d]) (.int .i64 0) = some (.int .u8 d.toNat) := ixa_str (x := [d]) (i := 0) .i64 rfl
  simp only [hix, shiftP_ptr, shiftP_pel, Bnd_some, IfP_bool, Gd_some, ld_ptr, ld_pel, adv_h, adv_nx, set_nx, cond_true, cond_false, part_one, List.getElem?_cons_zero, List.getElem?_cons_succ, un_not, wantV_bool, pickV_bool, extr_tup, bin_lss, bin_leq, bin_gtr, bin_geq, bin_eql, bin_neq, bin_seql, bin_sneq, bin_add, bin_sub, Nat.reduceAdd, beq_self_eq_true, if_true, if_false, Bool.false_eq_true, Bool.not_true, Bool.not_false, show (false == true) = false from rfl, show (true == false) = false from rfl, Bnd_none, get_set, nx_drop, get_drop', adv_set, adv_two, adv_drop, set_set, Nat.add_assoc, Nat.add_left_cancel_iff, Nat.left_eq_add, Nat.add_eq_left, Nat.add_zero, Nat.reduceEqDiff, reduceCtorEq, and_true, true_and, List.mem_nil_iff, List.not_mem_nil, wantV_tup, resC_nil, resC_some, retP_some, map_some', tupV_one, tupV_two, idOf_ref, idOf_nils, idOf_ptr, idOf_sl, idOf_pel, drop_nil, drop_cons, bin_mul, Bool.or_true, Bool.or_false, Bool.and_true, Bool.and_false, Bool.true_and, Bool.false_and, Bool.true_or, Bool.false_or]
  cases hh : ([d] == x) with
  | true =>
    have : [d] = x := by simpa using hh
    subst this
    simp only [hh, shiftP_ptr, shiftP_pel, Bnd_some, IfP_bool, Gd_some, ld_ptr, ld_pel, adv_h, adv_nx, set_nx, cond_true, cond_false, part_one, List.getElem?_cons_zero, List.getElem?_cons_succ, un_not, wantV_bool, pickV_bool, extr_tup, bin_lss, bin_leq, bin_gtr, bin_geq, bin_eql, bin_neq, bin_seql, bin_sneq, bin_add, bin_sub, Nat.reduceAdd, beq_self_eq_true, if_true, if_false, Bool.false_eq_true, Bool.not_true, Bool.not_false, show (false == true) = false from rfl, show (true == false) = false from rfl, Bnd_none, get_set, nx_drop, get_drop', adv_set, adv_two, adv_drop, set_set, Nat.add_assoc, Nat.add_left_cancel_iff, Nat.left_eq_add, Nat.add_eq_left, Nat.add_zero, Nat.reduceEqDiff, reduceCtorEq, and_true, true_and, List.mem_nil_iff, List.not_mem_nil, wantV_tup, resC_nil, resC_some, retP_some, map_some', tupV_one, tupV_two, idOf_ref, idOf_nils, idOf_ptr, idOf_sl, idOf_pel, drop_nil, drop_cons, bin_mul, Bool.or_true, Bool.or_false, Bool.and_true, Bool.and_false, Bool.true_and, Bool.false_and, Bool.true_or, Bool.false_or]
    simp [idxB]
  | false =>
    simp only [hh, shiftP_ptr, shiftP_pel, Bnd_some, IfP_bool, Gd_some, ld_ptr, ld_pel, adv_h, adv_nx, set_nx, cond_true, cond_false, part_one, List.getElem?_cons_zero, List.getElem?_cons_succ, un_not, wantV_bool, pickV_bool, extr_tup, bin_lss, bin_leq, bin_gtr, bin_geq, bin_eql, bin_neq, bin_seql, bin_sneq, bin_add, bin_sub, Nat.reduceAdd, beq_self_eq_true, if_true, if_false, Bool.false_eq_true, Bool.not_true, Bool.not_false, show (false == true) = false from rfl, show (true == false) = false from rfl, Bnd_none, get_set, nx_drop, get_drop', adv_set, adv_two, adv_drop, set_set, Nat.add_assoc, Nat.add_left_cancel_iff, Nat.left_eq_add, Nat.add_eq_left, Nat.add_zero, Nat.reduceEqDiff, reduceCtorEq, and_true, true_and, List.mem_nil_iff, List.not_mem_nil, wantV_tup, resC_nil, resC_some, retP_some, map_some', tupV_one, tupV_two, idOf_ref, idOf_nils, idOf_ptr, idOf_sl, idOf_pel, drop_nil, drop_cons, bin_mul, Bool.or_true, Bool.or_false, Bool.and_true, Bool.and_false, Bool.true_and, Bool.false_and, Bool.true_or, Bool.false_or]
    have hk := c269 x d.toNat
    simp only [Int.toNat_natCast, h] at hk
    refine callPu hk (by simp [AV.closed]) ?_
    rfl
def cutM (d : UInt8) (x : List UInt8) : AV := cond (decide (idxB d.toNat x 0 ≥ 0)) (.tup [.str (x.take (idxB d.toNat x 0).toNat), .str (x.drop ((idxB d.toNat x 0).toNat + 1)), .bool true]) (.tup [.str x, .str [], .bool false])
theorem cut_closed (d : UInt8) (x : List UInt8) : (cutM d x).closed = true := by
  unfold cutM
  cases decide (idxB d.toNat x 0 ≥ 0) <;> rfl
theorem c245 (x : List UInt8) (d : UInt8) (hx : x.length < 2 ^ 60) : PureC Tryz.env 245 [.str x, .str [d]] (cutM d x) := by
  refine pure_closed (cut_closed d x) (f245_run _ _ _ ?_)
  unfold f245
  refine callPu (c268 x d) (by simp [AV.closed]) ?_
  unfold cutM
  rcases idxB_is d.toNat x 0 with h | ⟨i, h, hi⟩
  · simp only [h, show decide ((-1 : Int) ≥ 0) = false from rfl, shiftP_ptr, shiftP_pel, Bnd_some, IfP_bool, Gd_some, ld_ptr, ld_pel, adv_h, adv_nx, set_nx, cond_true, cond_false, part_one, List.getElem?_cons_zero, List.getElem?_cons_succ, un_not, wantV_bool, pickV_bool, extr_tup, bin_lss, bin_leq, bin_gtr, bin_geq, bin_eql, bin_neq, bin_seql, bin_sneq, bin_add, bin_sub, Nat.reduceAdd, beq_self_eq_true, if_true, if_false, Bool.false_eq_true, Bool.not_true, Bool.not_false, show (false == true) = false from rfl, show (true == false) = false from rfl, Bnd_none, get_set, nx_drop, get_drop', adv_set, adv_two, adv_drop, set_set, Nat.add_assoc, Nat.add_left_cancel_iff, Nat.left_eq_add, Nat.add_eq_left, Nat.add_zero, Nat.reduceEqDiff, reduceCtorEq, and_true, true_and, List.mem_nil_iff, List.not_mem_nil, wantV_tup, resC_nil, resC_some, retP_some, map_some', tupV_one, tupV_two, idOf_ref, idOf_nils, idOf_ptr, idOf_sl, idOf_pel, drop_nil, drop_cons, bin_mul, Bool.or_true, Bool.or_false, Bool.and_true, Bool.and_false, Bool.true_and, Bool.false_and, Bool.true_or, Bool.false_or]
  · have hw : IntKind.i64.wrap ((i : Int) + 1) = ((i + 1 : Nat) : Int) := by rw [IntWalk.i64_in _ (by omega)]; rfl
    have hge : decide (((0 + i : Nat) : Int) ≥ 0) = true := by simp
    simp only [h, hge, ln9t, List.length_cons, List.length_nil, shiftP_ptr, shiftP_pel, Bnd_some, IfP_bool, Gd_some, ld_ptr, ld_pel, adv_h, adv_nx, set_nx, cond_true, cond_false, part_one, List.getElem?_cons_zero, List.getElem?_cons_succ, un_not, wantV_bool, pickV_bool, extr_tup, bin_lss, bin_leq, bin_gtr, bin_geq, bin_eql, bin_neq, bin_seql, bin_sneq, bin_add, bin_sub, Nat.reduceAdd, beq_self_eq_true, if_true, if_false, Bool.false_eq_true, Bool.not_true, Bool.not_false, show (false == true) = false from rfl, show (true == false) = false from rfl, Bnd_none, get_set, nx_drop, get_drop', adv_set, adv_two, adv_drop, set_set, Nat.add_assoc, Nat.add_left_cancel_iff, Nat.left_eq_add, Nat.add_eq_left, Nat.add_zero, Nat.reduceEqDiff, reduceCtorEq, and_true, true_and, List.mem_nil_iff, List.not_mem_nil, wantV_tup, resC_nil, resC_some, retP_some, map_some', tupV_one, tupV_two, idOf_ref, idOf_nils, idOf_ptr, idOf_sl, idOf_pel, drop_nil, drop_cons, bin_mul, Bool.or_true, Bool.or_false, Bool.and_true, Bool.and_false, Bool.true_and, Bool.false_and, Bool.true_or, Bool.false_or]
    rw [show ((0 + i : Nat) : Int) = (i : Int) by simp, slc_hi _ (by omega), show (((0 + 1 : Nat) : Nat) : Int) = 1 from rfl]
    simp only [hw, slc_lo _ (show i + 1 ≤ x.length by omega), shiftP_ptr, shiftP_pel, Bnd_some, IfP_bool, Gd_some, ld_ptr, ld_pel, adv_h, adv_nx, set_nx, cond_true, cond_false, part_one, List.getElem?_cons_zero, List.getElem?_cons_succ, un_not, wantV_bool, pickV_bool, extr_tup, bin_lss, bin_leq, bin_gtr, bin_geq, bin_eql, bin_neq, bin_seql, bin_sneq, bin_add, bin_sub, Nat.reduceAdd, beq_self_eq_true, if_true, if_false, Bool.false_eq_true, Bool.not_true, Bool.not_false, show (false == true) = false from rfl, show (true == false) = false from rfl, Bnd_none, get_set, nx_drop, get_drop', adv_set, adv_two, adv_drop, set_set, Nat.add_assoc, Nat.add_left_cancel_iff, Nat.left_eq_add, Nat.add_eq_left, Nat.add_zero, Nat.reduceEqDiff, reduceCtorEq, and_true, true_and, List.mem_nil_iff, List.not_mem_nil, wantV_tup, resC_nil, resC_some, retP_some, map_some', tupV_one, tupV_two, idOf_ref, idOf_nils, idOf_ptr, idOf_sl, idOf_pel, drop_nil, drop_cons, bin_mul, Bool.or_true, Bool.or_false, Bool.and_true, Bool.and_false, Bool.true_and, Bool.false_and, Bool.true_or, Bool.false_or, Int.toNat_natCast]
theorem c216 (x : List UInt8) (d : UInt8) (hx : x.length < 2 ^ 60) : PureC Tryz.env 216 [.str x, .str [d]] (cutM d x) := by
  refine pure_closed (cut_closed d x) (f216_run _ _ _ ?_)
  unfold f216
  refine callPu (c245 x d hx) (by simp [AV.closed]) ?_
  unfold cutM
  cases decide (idxB d.toNat x 0 ≥ 0) <;> simp only [shiftP_ptr, shiftP_pel, Bnd_some, IfP_bool, Gd_some, ld_ptr, ld_pel, adv_h, adv_nx, set_nx, cond_true, cond_false, part_one, List.getElem?_cons_zero, List.getElem?_cons_succ, un_not, wantV_bool, pickV_bool, extr_tup, bin_lss, bin_leq, bin_gtr, bin_geq, bin_eql, bin_neq, bin_seql, bin_sneq, bin_add, bin_sub, Nat.reduceAdd, beq_self_eq_true, if_true, if_false, Bool.false_eq_true, Bool.not_true, Bool.not_false, show (false == true) = false from rfl, show (true == false) = false from rfl, Bnd_none, get_set, nx_drop, get_drop', adv_set, adv_two, adv_drop, set_set, Nat.add_assoc, Nat.add_left_cancel_iff, Nat.left_eq_add, Nat.add_eq_left, Nat.add_zero, Nat.reduceEqDiff, reduceCtorEq, and_true, true_and, List.mem_nil_iff, List.not_mem_nil, wantV_tup, resC_nil, resC_some, retP_some, map_some', tupV_one, tupV_two, idOf_ref, idOf_nils, idOf_ptr, idOf_sl, idOf_pel, drop_nil, drop_cons, bin_mul, Bool.or_true, Bool.or_false, Bool.and_true, Bool.and_false, Bool.true_and, Bool.false_and, Bool.true_or, Bool.false_or]
/-- What a literal begins with, by its number: the code point and the bytes. -/
def escM (x : List UInt8) : Int × Int :=
  cond (pre [92, 117] x)
    (cond (pre [123] (x.drop 2))
      (cond (decide (idxB 125 (x.drop 3) 0 ≥ 0) && !decide (idxB 125 (x.drop 3) 0 > 5)) (numM ((x.drop 3).take (idxB 125 (x.drop 3) 0).toNat), idxB 125 (x.drop 3) 0 + 4) (-1, 0))
      (cond (decide ((x.drop 2).length < 4)) (-1, 0) (numM ((x.drop 2).take 4), 6)))
    (-1, 0)
theorem c182 (x : List UInt8) (hx : x.length < 2 ^ 60) : PureC Tryz.env 182 [.str x] (.tup [.int .i64 (escM x).1, .int .i64 (escM x).2]) := by
  refine pure_closed rfl (f182_run _ _ ?_)
  unfold f182
  refine callPu (c215 x [92, 117]) (by simp [AV.closed]) ?_
  cases h : pre [92, 117] x with
  | false => simp only [escM, h, shiftP_ptr, shiftP_pel, Bnd_some, IfP_bool, Gd_some, ld_ptr, ld_pel, adv_h, adv_nx, set_nx, cond_true, cond_false, part_one, List.getElem?_cons_zero, List.getElem?_cons_succ, un_not, wantV_bool, pickV_bool, extr_tup, bin_lss, bin_leq, bin_gtr, bin_geq, bin_eql, bin_neq, bin_seql, bin_sneq, bin_add, bin_sub, Nat.reduceAdd, beq_self_eq_true, if_true, if_false, Bool.false_eq_true, Bool.not_true, Bool.not_false, show (false == true) = false from rfl, show (true == false) = false from rfl, Bnd_none, get_set, nx_drop, get_drop', adv_set, adv_two, adv_drop, set_set, Nat.add_assoc, Nat.add_left_cancel_iff, Nat.left_eq_add, Nat.add_eq_left, Nat.add_zero, Nat.reduceEqDiff, reduceCtorEq, and_true, true_and, List.mem_nil_iff, List.not_mem_nil, wantV_tup, resC_nil, resC_some, retP_some, map_some', tupV_one, tupV_two, idOf_ref, idOf_nils, idOf_ptr, idOf_sl, idOf_pel, drop_nil, drop_cons, bin_mul, Bool.or_true, Bool.or_false, Bool.and_true, Bool.and_false, Bool.true_and, Bool.false_and, Bool.true_or, Bool.false_or]
  | true =>
    simp only [h, shiftP_ptr, shiftP_pel, Bnd_some, IfP_bool, Gd_some, ld_ptr, ld_pel, adv_h, adv_nx, set_nx, cond_true, cond_false, part_one, List.getElem?_cons_zero, List.getElem?_cons_succ, un_not, wantV_bool, pickV_bool, extr_tup, bin_lss, bin_leq, bin_gtr, bin_geq, bin_eql, bin_neq, bin_seql, bin_sneq, bin_add, bin_sub, Nat.reduceAdd, beq_self_eq_true, if_true, if_false, Bool.false_eq_true, Bool.not_true, Bool.not_false, show (false == true) = false from rfl, show (true == false) = false from rfl, Bnd_none, get_set, nx_drop, get_drop', adv_set, adv_two, adv_drop, set_set, Nat.add_assoc, Nat.add_left_cancel_iff, Nat.left_eq_add, Nat.add_eq_left, Nat.add_zero, Nat.reduceEqDiff, reduceCtorEq, and_true, true_and, List.mem_nil_iff, List.not_mem_nil, wantV_tup, resC_nil, resC_some, retP_some, map_some', tupV_one, tupV_two, idOf_ref, idOf_nils, idOf_ptr, idOf_sl, idOf_pel, drop_nil, drop_cons, bin_mul, Bool.or_true, Bool.or_false, Bool.and_true, Bool.and_false, Bool.true_and, Bool.false_and, Bool.true_or, Bool.false_or, List.length_cons, List.length_nil, Nat.reduceAdd]
    refine callPu (c215 _ [123]) (by simp [AV.closed]) ?_
    cases h2 : pre [123] (x.drop 2) with
    | true =>
      simp only [h2, shiftP_ptr, shiftP_pel, Bnd_some, IfP_bool, Gd_some, ld_ptr, ld_pel, adv_h, adv_nx, set_nx, cond_true, cond_false, part_one, List.getElem?_cons_zero, List.getElem?_cons_succ, un_not, wantV_bool, pickV_bool, extr_tup, bin_lss, bin_leq, bin_gtr, bin_geq, bin_eql, bin_neq, bin_seql, bin_sneq, bin_add, bin_sub, Nat.reduceAdd, beq_self_eq_true, if_true, if_false, Bool.false_eq_true, Bool.not_true, Bool.not_false, show (false == true) = false from rfl, show (true == false) = false from rfl, Bnd_none, get_set, nx_drop, get_drop', adv_set, adv_two, adv_drop, set_set, Nat.add_assoc, Nat.add_left_cancel_iff, Nat.left_eq_add, Nat.add_eq_left, Nat.add_zero, Nat.reduceEqDiff, reduceCtorEq, and_true, true_and, List.mem_nil_iff, List.not_mem_nil, wantV_tup, resC_nil, resC_some, retP_some, map_some', tupV_one, tupV_two, idOf_ref, idOf_nils, idOf_ptr, idOf_sl, idOf_pel, drop_nil, drop_cons, bin_mul, Bool.or_true, Bool.or_false, Bool.and_true, Bool.and_false, Bool.true_and, Bool.false_and, Bool.true_or, Bool.false_or, List.length_cons, List.length_nil, Nat.reduceAdd, List.drop_drop]
      have hm : maxLen = 9223372036854775807 := rfl
      refine callPu (c216 (x.drop 3) 125 (by simp only [List.length_drop]; omega)) (by simp [AV.closed]) ?_
      have e : escM x = cond (decide (idxB 125 (x.drop 3) 0 ≥ 0) && !decide (idxB 125 (x.drop 3) 0 > 5)) (numM ((x.drop 3).take (idxB 125 (x.drop 3) 0).toNat), idxB 125 (x.drop 3) 0 + 4) (-1, 0) := by simp only [escM, h, h2, cond_true]
      rw [e]
      unfold cutM
      show _
      rw [show (125 : UInt8).toNat = 125 from rfl]
      rcases idxB_is 125 (x.drop 3) 0 with hi | ⟨i, hi, hlt⟩
      · simp only [hi, show decide ((-1 : Int) ≥ 0) = false from rfl, shiftP_ptr, shiftP_pel, Bnd_some, IfP_bool, Gd_some, ld_ptr, ld_pel, adv_h, adv_nx, set_nx, cond_true, cond_false, part_one, List.getElem?_cons_zero, List.getElem?_cons_succ, un_not, wantV_bool, pickV_bool, extr_tup, bin_lss, bin_leq, bin_gtr, bin_geq, bin_eql, bin_neq, bin_seql, bin_sneq, bin_add, bin_sub, Nat.reduceAdd, beq_self_eq_true, if_true, if_false, Bool.false_eq_true, Bool.not_true, Bool.not_false, show (false == true) = false from rfl, show (true == false) = false from rfl, Bnd_none, get_set, nx_drop, get_drop', adv_set, adv_two, adv_drop, set_set, Nat.add_assoc, Nat.add_left_cancel_iff, Nat.left_eq_add, Nat.add_eq_left, Nat.add_zero, Nat.reduceEqDiff, reduceCtorEq, and_true, true_and, List.mem_nil_iff, List.not_mem_nil, wantV_tup, resC_nil, resC_some, retP_some, map_some', tupV_one, tupV_two, idOf_ref, idOf_nils, idOf_ptr, idOf_sl, idOf_pel, drop_nil, drop_cons, bin_mul, Bool.or_true, Bool.or_false, Bool.and_true, Bool.and_false, Bool.true_and, Bool.false_and, Bool.true_or, Bool.false_or]
      · rw [Nat.zero_add] at hi
        have hge : decide ((i : Int) ≥ 0) = true := by simp
        have hll : ((x.drop 3).take i).length = i := by rw [List.length_take]; omega
        cases h3 : decide (((i : Nat) : Int) > 5) with
        | true =>
          simp only [hi, hge, ln9t, Int.toNat_natCast, hll, h3, shiftP_ptr, shiftP_pel, Bnd_some, IfP_bool, Gd_some, ld_ptr, ld_pel, adv_h, adv_nx, set_nx, cond_true, cond_false, part_one, List.getElem?_cons_zero, List.getElem?_cons_succ, un_not, wantV_bool, pickV_bool, extr_tup, bin_lss, bin_leq, bin_gtr, bin_geq, bin_eql, bin_neq, bin_seql, bin_sneq, bin_add, bin_sub, Nat.reduceAdd, beq_self_eq_true, if_true, if_false, Bool.false_eq_true, Bool.not_true, Bool.not_false, show (false == true) = false from rfl, show (true == false) = false from rfl, Bnd_none, get_set, nx_drop, get_drop', adv_set, adv_two, adv_drop, set_set, Nat.add_assoc, Nat.add_left_cancel_iff, Nat.left_eq_add, Nat.add_eq_left, Nat.add_zero, Nat.reduceEqDiff, reduceCtorEq, and_true, true_and, List.mem_nil_iff, List.not_mem_nil, wantV_tup, resC_nil, resC_some, retP_some, map_some', tupV_one, tupV_two, idOf_ref, idOf_nils, idOf_ptr, idOf_sl, idOf_pel, drop_nil, drop_cons, bin_mul, Bool.or_true, Bool.or_false, Bool.and_true, Bool.and_false, Bool.true_and, Bool.false_and, Bool.true_or, Bool.false_or]
        | false =>
          simp only [hi, hge, ln9t, Int.toNat_natCast, hll, h3, shiftP_ptr, shiftP_pel, Bnd_some, IfP_bool, Gd_some, ld_ptr, ld_pel, adv_h, adv_nx, set_nx, cond_true, cond_false, part_one, List.getElem?_cons_zero, List.getElem?_cons_succ, un_not, wantV_bool, pickV_bool, extr_tup, bin_lss, bin_leq, bin_gtr, bin_geq, bin_eql, bin_neq, bin_seql, bin_sneq, bin_add, bin_sub, Nat.reduceAdd, beq_self_eq_true, if_true, if_false, Bool.false_eq_true, Bool.not_true, Bool.not_false, show (false == true) = false from rfl, show (true == false) = false from rfl, Bnd_none, get_set, nx_drop, get_drop', adv_set, adv_two, adv_drop, set_set, Nat.add_assoc, Nat.add_left_cancel_iff, Nat.left_eq_add, Nat.add_eq_left, Nat.add_zero, Nat.reduceEqDiff, reduceCtorEq, and_true, true_and, List.mem_nil_iff, List.not_mem_nil, wantV_tup, resC_nil, resC_some, retP_some, map_some', tupV_one, tupV_two, idOf_ref, idOf_nils, idOf_ptr, idOf_sl, idOf_pel, drop_nil, drop_cons, bin_mul, Bool.or_true, Bool.or_false, Bool.and_true, Bool.and_false, Bool.true_and, Bool.false_and, Bool.true_or, Bool.false_or]
          refine callPu (c217 _ (by rw [List.length_take, List.length_drop]; omega)) (by simp [AV.closed]) ?_
          show AV.tup [_, .int .i64 (IntKind.i64.wrap ((i : Int) + 4))] = _
          rw [IntWalk.i64_in _ (by have := of_decide_eq_false h3; omega)]
    | false =>
      have e : escM x = cond (decide ((x.drop 2).length < 4)) (-1, 0) (numM ((x.drop 2).take 4), 6) := by simp only [escM, h, h2, cond_true, cond_false]
      rw [e]
      simp only [h2, ln9t, shiftP_ptr, shiftP_pel, Bnd_some, IfP_bool, Gd_some, ld_ptr, ld_pel, adv_h, adv_nx, set_nx, cond_true, cond_false, part_one, List.getElem?_cons_zero, List.getElem?_cons_succ, un_not, wantV_bool, pickV_bool, extr_tup, bin_lss, bin_leq, bin_gtr, bin_geq, bin_eql, bin_neq, bin_seql, bin_sneq, bin_add, bin_sub, Nat.reduceAdd, beq_self_eq_true, if_true, if_false, Bool.false_eq_true, Bool.not_true, Bool.not_false, show (false == true) = false from rfl, show (true == false) = false from rfl, Bnd_none, get_set, nx_drop, get_drop', adv_set, adv_two, adv_drop, set_set, Nat.add_assoc, Nat.add_left_cancel_iff, Nat.left_eq_add, Nat.add_eq_left, Nat.add_zero, Nat.reduceEqDiff, reduceCtorEq, and_true, true_and, List.mem_nil_iff, List.not_mem_nil, wantV_tup, resC_nil, resC_some, retP_some, map_some', tupV_one, tupV_two, idOf_ref, idOf_nils, idOf_ptr, idOf_sl, idOf_pel, drop_nil, drop_cons, bin_mul, Bool.or_true, Bool.or_false, Bool.and_true, Bool.and_false, Bool.true_and, Bool.false_and, Bool.true_or, Bool.false_or]
      have hc : decide (((x.drop 2).length : Int) < 4) = decide ((x.drop 2).length < 4) := by congr 1; simp; omega
      rw [hc]
      cases h3 : decide ((x.drop 2).length < 4) with
      | true => simp only [shiftP_ptr, shiftP_pel, Bnd_some, IfP_bool, Gd_some, ld_ptr, ld_pel, adv_h, adv_nx, set_nx, cond_true, cond_false, part_one, List.getElem?_cons_zero, List.getElem?_cons_succ, un_not, wantV_bool, pickV_bool, extr_tup, bin_lss, bin_leq, bin_gtr, bin_geq, bin_eql, bin_neq, bin_seql, bin_sneq, bin_add, bin_sub, Nat.reduceAdd, beq_self_eq_true, if_true, if_false, Bool.false_eq_true, Bool.not_true, Bool.not_false, show (false == true) = false from rfl, show (true == false) = false from rfl, Bnd_none, get_set, nx_drop, get_drop', adv_set, adv_two, adv_drop, set_set, Nat.add_assoc, Nat.add_left_cancel_iff, Nat.left_eq_add, Nat.add_eq_left, Nat.add_zero, Nat.reduceEqDiff, reduceCtorEq, and_true, true_and, List.mem_nil_iff, List.not_mem_nil, wantV_tup, resC_nil, resC_some, retP_some, map_some', tupV_one, tupV_two, idOf_ref, idOf_nils, idOf_ptr, idOf_sl, idOf_pel, drop_nil, drop_cons, bin_mul, Bool.or_true, Bool.or_false, Bool.and_true, Bool.and_false, Bool.true_and, Bool.false_and, Bool.true_or, Bool.false_or]
      | false =>
        have h4 : 4 ≤ (x.drop 2).length := by have := of_decide_eq_false h3; omega
        have hs : ∀ s, slc 9 (.str (x.drop 2)) none (some (.int .i64 4)) none s = some (.str ((x.drop 2).take 4)) := fun s => slc_hi (s := s) (x := x.drop 2) (n := 4) .i64 h4
        simp only [hs, shiftP_ptr, shiftP_pel, Bnd_some, IfP_bool, Gd_some, ld_ptr, ld_pel, adv_h, adv_nx, set_nx, cond_true, cond_false, part_one, List.getElem?_cons_zero, List.getElem?_cons_succ, un_not, wantV_bool, pickV_bool, extr_tup, bin_lss, bin_leq, bin_gtr, bin_geq, bin_eql, bin_neq, bin_seql, bin_sneq, bin_add, bin_sub, Nat.reduceAdd, beq_self_eq_true, if_true, if_false, Bool.false_eq_true, Bool.not_true, Bool.not_false, show (false == true) = false from rfl, show (true == false) = false from rfl, Bnd_none, get_set, nx_drop, get_drop', adv_set, adv_two, adv_drop, set_set, Nat.add_assoc, Nat.add_left_cancel_iff, Nat.left_eq_add, Nat.add_eq_left, Nat.add_zero, Nat.reduceEqDiff, reduceCtorEq, and_true, true_and, List.mem_nil_iff, List.not_mem_nil, wantV_tup, resC_nil, resC_some, retP_some, map_some', tupV_one, tupV_two, idOf_ref, idOf_nils, idOf_ptr, idOf_sl, idOf_pel, drop_nil, drop_cons, bin_mul, Bool.or_true, Bool.or_false, Bool.and_true, Bool.and_false, Bool.true_and, Bool.false_and, Bool.true_or, Bool.false_or]
        refine callPu (c217 _ (by have hm : maxLen = 9223372036854775807 := rfl; rw [List.length_take]; omega)) (by simp [AV.closed]) ?_
        rfl
theorem esc_len {x : List UInt8} (h : 0 ≤ (escM x).1) : 1 ≤ (escM x).2 ∧ (escM x).2 ≤ x.length := by
  unfold escM at h ⊢
  cases h1 : pre [92, 117] x with
  | false => rw [h1] at h; simp only [cond_false] at h; omega
  | true =>
    rw [h1] at h
    simp only [cond_true] at h ⊢
    have hl : 2 ≤ x.length := by simp only [pre, Bool.and_eq_true, decide_eq_true_eq] at h1; exact h1.1
    cases h2 : pre [123] (x.drop 2) with
    | true =>
      rw [h2] at h
      simp only [cond_true] at h ⊢
      have hl2 : 1 ≤ (x.drop 2).length := by simp only [pre, Bool.and_eq_true, decide_eq_true_eq] at h2; exact h2.1
      rcases idxB_is 125 (x.drop 3) 0 with hi | ⟨i, hi, hlt⟩
      · rw [hi] at h; simp only [show decide ((-1 : Int) ≥ 0) = false from rfl, Bool.false_and, cond_false] at h; omega
      · rw [Nat.zero_add] at hi
        rw [List.length_drop] at hlt hl2
        rw [hi] at h ⊢
        cases h3 : (decide ((i : Int) ≥ 0) && !decide ((i : Int) > 5)) with
        | false => rw [h3] at h; simp only [cond_false] at h; omega
        | true => simp only [cond_true]; omega
    | false =>
      rw [h2] at h
      simp only [cond_false] at h ⊢
      cases h3 : decide ((x.drop 2).length < 4) with
      | true => rw [h3] at h; simp only [cond_true] at h; omega
      | false =>
        have := of_decide_eq_false h3
        rw [List.length_drop] at this
        simp only [cond_false]; omega
/-- What a literal says. -/
def ptsGo : Nat → List UInt8 → List Int
  | 0, _ => []
  | n + 1, x => match x with
    | [] => []
    | c :: r => cond (decide ((escM (c :: r)).1 < 0)) ((c.toNat : Int) :: ptsGo n r) ((escM (c :: r)).1 :: ptsGo n ((c :: r).drop (escM (c :: r)).2.toNat))
def ptsM (x : List UInt8) : List Int := ptsGo x.length x
theorem encIn : Enc inA 1 := ⟨fun _ => rfl, fun _ => rfl⟩
theorem encRn : Enc rnA 2 := ⟨fun _ => rfl, fun _ => rfl⟩
theorem l129 (x : List UInt8) (hx : x.length ≤ 2 ^ 30) (Q : AV → St → Prop) (l : List Int) (hQ : ∀ y s, Fresh s → Gw 3 1 0 s y (l.map inA) → Q y s) : ∀ (m i : Nat) (y : AV) (p : List Int) (s : St), x.length ≤ i + m → i ≤ x.length → p.length ≤ i → Fresh s → Gw 3 1 0 s y (p.map inA) → l = p ++ ptsGo m (x.drop i) → f129l1 Q (m + 1) (.str x) y (.int .i64 i) s := by
  intro m
  have hx2 : (2 : Nat) ^ 30 = 1073741824 := rfl
  have fin : ∀ i (y : AV) (p : List Int) (s : St) (ih1), i = x.length → Fresh s → Gw 3 1 0 s y (p.map inA) → l = p → f129l1s Q ih1 (.str x) y (.int .i64 i) s := by
    intro i y p s ih1 hi fr g hl
    subst hi; subst hl
    simp only [f129l1s, f129j1, ln9t, ge_iff_le, Int.le_refl, decide_true, shiftP_ptr, shiftP_pel, Bnd_some, IfP_bool, Gd_some, ld_ptr, ld_pel, adv_h, adv_nx, set_nx, cond_true, cond_false, part_one, List.getElem?_cons_zero, List.getElem?_cons_succ, un_not, wantV_bool, pickV_bool, extr_tup, bin_lss, bin_leq, bin_gtr, bin_geq, bin_eql, bin_neq, bin_seql, bin_sneq, bin_add, bin_sub, Nat.reduceAdd, beq_self_eq_true, if_true, if_false, Bool.false_eq_true, Bool.not_true, Bool.not_false, show (false == true) = false from rfl, show (true == false) = false from rfl, Bnd_none, get_set, nx_drop, get_drop', adv_set, adv_two, adv_drop, set_set, Nat.add_assoc, Nat.add_left_cancel_iff, Nat.left_eq_add, Nat.add_eq_left, Nat.add_zero, Nat.reduceEqDiff, reduceCtorEq, and_true, true_and, List.mem_nil_iff, List.not_mem_nil, wantV_tup, resC_nil, resC_some, retP_some, map_some', tupV_one, tupV_two, idOf_ref, idOf_nils, idOf_ptr, idOf_sl, idOf_pel, drop_nil, drop_cons, bin_mul, Bool.or_true, Bool.or_false, Bool.and_true, Bool.and_false, Bool.true_and, Bool.false_and, Bool.true_or, Bool.false_or]
    exact hQ _ _ fr.adv g.adv
  induction m with
  | zero =>
    intro i y p s hm hi hp fr g hl
    exact fin i y p s _ (by omega) fr g (by rw [hl, ptsGo, List.append_nil])
  | succ m ih =>
    intro i y p s hm hi hp fr g hl
    show f129l1s Q (f129l1 Q (m + 1)) _ _ _ s
    by_cases hge : x.length ≤ i
    · refine fin i y p s _ (by omega) fr g ?_
      rw [show i = x.length by omega, List.drop_length] at hl
      simpa [ptsGo] using hl
    · have hge2 : decide ((i : Int) ≥ (x.length : Int)) = false := by simp; omega
      obtain ⟨c, hc⟩ : ∃ c, x[i]? = some c := ⟨_, List.getElem?_eq_getElem (by omega)⟩
      have hd := get_drop x i c hc
      rw [hd, ptsGo] at hl
      simp only [f129l1s, ln9t, hge2, slc_lo _ (show i ≤ x.length by omega), shiftP_ptr, shiftP_pel, Bnd_some, IfP_bool, Gd_some, ld_ptr, ld_pel, adv_h, adv_nx, set_nx, cond_true, cond_false, part_one, List.getElem?_cons_zero, List.getElem?_cons_succ, un_not, wantV_bool, pickV_bool, extr_tup, bin_lss, bin_leq, bin_gtr, bin_geq, bin_eql, bin_neq, bin_seql, bin_sneq, bin_add, bin_sub, Nat.reduceAdd, beq_self_eq_true, if_true, if_false, Bool.false_eq_true, Bool.not_true, Bool.not_false, show (false == true) = false from rfl, show (true == false) = false from rfl, Bnd_none, get_set, nx_drop, get_drop', adv_set, adv_two, adv_drop, set_set, Nat.add_assoc, Nat.add_left_cancel_iff, Nat.left_eq_add, Nat.add_eq_left, Nat.add_zero, Nat.reduceEqDiff, reduceCtorEq, and_true, true_and, List.mem_nil_iff, List.not_mem_nil, wantV_tup, resC_nil, resC_some, retP_some, map_some', tupV_one, tupV_two, idOf_ref, idOf_nils, idOf_ptr, idOf_sl, idOf_pel, drop_nil, drop_cons, bin_mul, Bool.or_true, Bool.or_false, Bool.and_true, Bool.and_false, Bool.true_and, Bool.false_and, Bool.true_or, Bool.false_or]
      refine callPu (c182 (x.drop i) (by rw [List.length_drop]; omega)) (by simp [AV.closed]) ?_
      rw [← hd] at hl
      have bs : ∀ v : Int, bsl 72 1 [(0, .int .i64 v)] = some (.sl true [inA v]) := fun v => bsl_one tf72 (by decide) rfl rfl
      cases h : decide ((escM (x.drop i)).1 < 0) with
      | true =>
        rw [h] at hl
        simp only [h, shiftP_ptr, shiftP_pel, Bnd_some, IfP_bool, Gd_some, ld_ptr, ld_pel, adv_h, adv_nx, set_nx, cond_true, cond_false, part_one, List.getElem?_cons_zero, List.getElem?_cons_succ, un_not, wantV_bool, pickV_bool, extr_tup, bin_lss, bin_leq, bin_gtr, bin_geq, bin_eql, bin_neq, bin_seql, bin_sneq, bin_add, bin_sub, Nat.reduceAdd, beq_self_eq_true, if_true, if_false, Bool.false_eq_true, Bool.not_true, Bool.not_false, show (false == true) = false from rfl, show (true == false) = false from rfl, Bnd_none, get_set, nx_drop, get_drop', adv_set, adv_two, adv_drop, set_set, Nat.add_assoc, Nat.add_left_cancel_iff, Nat.left_eq_add, Nat.add_eq_left, Nat.add_zero, Nat.reduceEqDiff, reduceCtorEq, and_true, true_and, List.mem_nil_iff, List.not_mem_nil, wantV_tup, resC_nil, resC_some, retP_some, map_some', tupV_one, tupV_two, idOf_ref, idOf_nils, idOf_ptr, idOf_sl, idOf_pel, drop_nil, drop_cons, bin_mul, Bool.or_true, Bool.or_false, Bool.and_true, Bool.and_false, Bool.true_and, Bool.false_and, Bool.true_or, Bool.false_or, ixa_str _ hc, cf5_3, f129j2]
        rw [show IntKind.i64.wrap ((c.toNat : Nat) : Int) = (c.toNat : Int) from IntWalk.i64_in _ (by have := c.toNat_lt; omega), bs]
        simp only [shiftP_ptr, shiftP_pel, Bnd_some, IfP_bool, Gd_some, ld_ptr, ld_pel, adv_h, adv_nx, set_nx, cond_true, cond_false, part_one, List.getElem?_cons_zero, List.getElem?_cons_succ, un_not, wantV_bool, pickV_bool, extr_tup, bin_lss, bin_leq, bin_gtr, bin_geq, bin_eql, bin_neq, bin_seql, bin_sneq, bin_add, bin_sub, Nat.reduceAdd, beq_self_eq_true, if_true, if_false, Bool.false_eq_true, Bool.not_true, Bool.not_false, show (false == true) = false from rfl, show (true == false) = false from rfl, Bnd_none, get_set, nx_drop, get_drop', adv_set, adv_two, adv_drop, set_set, Nat.add_assoc, Nat.add_left_cancel_iff, Nat.left_eq_add, Nat.add_eq_left, Nat.add_zero, Nat.reduceEqDiff, reduceCtorEq, and_true, true_and, List.mem_nil_iff, List.not_mem_nil, wantV_tup, resC_nil, resC_some, retP_some, map_some', tupV_one, tupV_two, idOf_ref, idOf_nils, idOf_ptr, idOf_sl, idOf_pel, drop_nil, drop_cons, bin_mul, Bool.or_true, Bool.or_false, Bool.and_true, Bool.and_false, Bool.true_and, Bool.false_and, Bool.true_or, Bool.false_or]
        rw [app_map tf72 encIn g.adv (by omega) (by omega)]
        simp only [shiftP_ptr, shiftP_pel, Bnd_some, IfP_bool, Gd_some, ld_ptr, ld_pel, adv_h, adv_nx, set_nx, cond_true, cond_false, part_one, List.getElem?_cons_zero, List.getElem?_cons_succ, un_not, wantV_bool, pickV_bool, extr_tup, bin_lss, bin_leq, bin_gtr, bin_geq, bin_eql, bin_neq, bin_seql, bin_sneq, bin_add, bin_sub, Nat.reduceAdd, beq_self_eq_true, if_true, if_false, Bool.false_eq_true, Bool.not_true, Bool.not_false, show (false == true) = false from rfl, show (true == false) = false from rfl, Bnd_none, get_set, nx_drop, get_drop', adv_set, adv_two, adv_drop, set_set, Nat.add_assoc, Nat.add_left_cancel_iff, Nat.left_eq_add, Nat.add_eq_left, Nat.add_zero, Nat.reduceEqDiff, reduceCtorEq, and_true, true_and, List.mem_nil_iff, List.not_mem_nil, wantV_tup, resC_nil, resC_some, retP_some, map_some', tupV_one, tupV_two, idOf_ref, idOf_nils, idOf_ptr, idOf_sl, idOf_pel, drop_nil, drop_cons, bin_mul, Bool.or_true, Bool.or_false, Bool.and_true, Bool.and_false, Bool.true_and, Bool.false_and, Bool.true_or, Bool.false_or]
        rw [wrap_len i _ (show i < x.length by omega) (by have hm : maxLen = 9223372036854775807 := rfl; omega)]
        refine ih (i + 1) _ (p ++ [(c.toNat : Int)]) _ (by omega) (by omega) (by simp; omega) (fresh_app fr _ _ (by omega)) (gw_map1 encIn) ?_
        rw [hl]; simp only [cond_true, List.append_assoc, List.singleton_append]
      | false =>
        rw [h] at hl
        obtain ⟨h1, h2⟩ := esc_len (show 0 ≤ (escM (x.drop i)).1 by have := of_decide_eq_false h; omega)
        rw [List.length_drop] at h2
        simp only [h, shiftP_ptr, shiftP_pel, Bnd_some, IfP_bool, Gd_some, ld_ptr, ld_pel, adv_h, adv_nx, set_nx, cond_true, cond_false, part_one, List.getElem?_cons_zero, List.getElem?_cons_succ, un_not, wantV_bool, pickV_bool, extr_tup, bin_lss, bin_leq, bin_gtr, bin_geq, bin_eql, bin_neq, bin_seql, bin_sneq, bin_add, bin_sub, Nat.reduceAdd, beq_self_eq_true, if_true, if_false, Bool.false_eq_true, Bool.not_true, Bool.not_false, show (false == true) = false from rfl, show (true == false) = false from rfl, Bnd_none, get_set, nx_drop, get_drop', adv_set, adv_two, adv_drop, set_set, Nat.add_assoc, Nat.add_left_cancel_iff, Nat.left_eq_add, Nat.add_eq_left, Nat.add_zero, Nat.reduceEqDiff, reduceCtorEq, and_true, true_and, List.mem_nil_iff, List.not_mem_nil, wantV_tup, resC_nil, resC_some, retP_some, map_some', tupV_one, tupV_two, idOf_ref, idOf_nils, idOf_ptr, idOf_sl, idOf_pel, drop_nil, drop_cons, bin_mul, Bool.or_true, Bool.or_false, Bool.and_true, Bool.and_false, Bool.true_and, Bool.false_and, Bool.true_or, Bool.false_or, f129j2, bs]
        rw [app_map tf72 encIn g.adv (by omega) (by omega)]
        simp only [shiftP_ptr, shiftP_pel, Bnd_some, IfP_bool, Gd_some, ld_ptr, ld_pel, adv_h, adv_nx, set_nx, cond_true, cond_false, part_one, List.getElem?_cons_zero, List.getElem?_cons_succ, un_not, wantV_bool, pickV_bool, extr_tup, bin_lss, bin_leq, bin_gtr, bin_geq, bin_eql, bin_neq, bin_seql, bin_sneq, bin_add, bin_sub, Nat.reduceAdd, beq_self_eq_true, if_true, if_false, Bool.false_eq_true, Bool.not_true, Bool.not_false, show (false == true) = false from rfl, show (true == false) = false from rfl, Bnd_none, get_set, nx_drop, get_drop', adv_set, adv_two, adv_drop, set_set, Nat.add_assoc, Nat.add_left_cancel_iff, Nat.left_eq_add, Nat.add_eq_left, Nat.add_zero, Nat.reduceEqDiff, reduceCtorEq, and_true, true_and, List.mem_nil_iff, List.not_mem_nil, wantV_tup, resC_nil, resC_some, retP_some, map_some', tupV_one, tupV_two, idOf_ref, idOf_nils, idOf_ptr, idOf_sl, idOf_pel, drop_nil, drop_cons, bin_mul, Bool.or_true, Bool.or_false, Bool.and_true, Bool.and_false, Bool.true_and, Bool.false_and, Bool.true_or, Bool.false_or]
        obtain ⟨k, hk⟩ : ∃ k : Nat, (escM (x.drop i)).2 = (k : Int) := ⟨(escM (x.drop i)).2.toNat, by omega⟩
        rw [hk] at h1 h2 hl ⊢
        rw [show IntKind.i64.wrap ((i : Int) + (k : Int)) = ((i + k : Nat) : Int) by rw [IntWalk.i64_in _ (by omega)]; rfl]
        refine ih (i + k) _ (p ++ [(escM (x.drop i)).1]) _ (by omega) (by omega) (by simp; omega) (fresh_app fr _ _ (by omega)) (gw_map1 encIn) ?_
        rw [hl]; simp only [cond_false, List.append_assoc, List.singleton_append, Int.toNat_natCast, List.drop_drop]
theorem c129 (x : List UInt8) (hx : x.length ≤ 2 ^ 30) : PureC Tryz.env 129 [.str x] (.sl false ((ptsM x).map inA)) := by
  refine pure_q (f129_run _ _ ?_)
  unfold f129
  exact ⟨x.length + 1, l129 x hx _ (ptsM x) (fun y s fr g => pureQ_of (pur_map1 tf72 g (fun _ _ => rfl) (fun _ _ => rfl) 11)) x.length 0 .nils [] _ (by omega) (by omega) (by simp) fresh_empty.adv gw_nil rfl⟩
/-! ### Code points as a text -/
def stepRun (out : List (Int × Int)) (c : Int) : List (Int × Int) := match out.getLast? with
  | none => out ++ [(c, 1)]
  | some r => cond (r.1 == c) (out.dropLast ++ [(r.1, IntKind.i64.wrap (r.2 + 1))]) (out ++ [(c, 1)])
def runGo : List Int → List (Int × Int) → List (Int × Int) × Int
  | [], out => cond (decide ((out.length : Int) > 65536)) ([], 2) (out, 0)
  | c :: l, out => cond (point c) (runGo l (stepRun out c)) ([], 1)
def rtA (r : List (Int × Int) × Int) : AV := .tup [.sl false (r.1.map rnA), .int .i64 r.2]
theorem stepRun_len (out : List (Int × Int)) (c : Int) : (stepRun out c).length ≤ out.length + 1 := by
  unfold stepRun
  cases h : out.getLast? with
  | none => simp
  | some r =>
    simp only
    cases (r.1 == c) <;> simp
theorem flat_snoc (o : List (Int × Int)) (r : Int × Int) (v : AV) : (((o ++ [r]).map rnA).flatMap AV.cells).set (o.length * 2 + 1) v = ((o.map rnA).flatMap AV.cells) ++ [.int .i64 r.1, v] := by
  have hl : ((o.map rnA).flatMap AV.cells).length = o.length * 2 := by
    rw [flat_len (z := 2) (cells_map encRn.len encRn.ones o), List.length_map]
  rw [List.map_append, List.flatMap_append, List.set_append_right _ _ (by omega), hl]
  simp [rnA, AV.cells]
theorem l128 (l : List Int) (hl : l.length ≤ 2 ^ 30) (Q : AV → St → Prop) (r : List (Int × Int) × Int) (hQ1 : ∀ s e, r = ([], e) → Q (.tup [.nils, .int .i64 e]) s) (hQ2 : ∀ y s out, Fresh s → Gw 109 2 0 s y (out.map rnA) → r = (out, 0) → Q (.tup [y, .int .i64 0]) s) :
    ∀ (m i : Nat) (y : AV) (out : List (Int × Int)) (s : St), i + m = l.length → out.length ≤ i → Fresh s → Gw 109 2 0 s y (out.map rnA) → r = runGo (l.drop i) out → f128l1 Q (m + 1) y (.sl false (l.map inA)) (.int .i64 l.length) (.int .i64 i) s := by
  intro m
  have hx2 : (2 : Nat) ^ 30 = 1073741824 := rfl
  induction m with
  | zero =>
    intro i y out s hi hp fr g hr
    show f128l1s Q (f128l1 Q 0) _ _ _ _ s
    rw [List.drop_eq_nil_of_le (by omega), runGo] at hr
    have hl25 := fun k => ln25g (g.adv (n := 4)) k
    simp only [List.length_map] at hl25
    simp only [f128l1s, f128j1, Int.ofNat_lt, show ¬ (i < l.length) by omega, decide_false, hl25, shiftP_ptr, shiftP_pel, Bnd_some, IfP_bool, Gd_some, ld_ptr, ld_pel, adv_h, adv_nx, set_nx, cond_true, cond_false, part_one, List.getElem?_cons_zero, List.getElem?_cons_succ, un_not, wantV_bool, pickV_bool, extr_tup, bin_lss, bin_leq, bin_gtr, bin_geq, bin_eql, bin_neq, bin_seql, bin_sneq, bin_add, bin_sub, Nat.reduceAdd, beq_self_eq_true, if_true, if_false, Bool.false_eq_true, Bool.not_true, Bool.not_false, show (false == true) = false from rfl, show (true == false) = false from rfl, Bnd_none, get_set, nx_drop, get_drop', adv_set, adv_two, adv_drop, set_set, Nat.add_assoc, Nat.add_left_cancel_iff, Nat.left_eq_add, Nat.add_eq_left, Nat.add_zero, Nat.reduceEqDiff, reduceCtorEq, and_true, true_and, List.mem_nil_iff, List.not_mem_nil, wantV_tup, resC_nil, resC_some, retP_some, map_some', tupV_one, tupV_two, idOf_ref, idOf_nils, idOf_ptr, idOf_sl, idOf_pel, drop_nil, drop_cons, bin_mul, Bool.or_true, Bool.or_false, Bool.and_true, Bool.and_false, Bool.true_and, Bool.false_and, Bool.true_or, Bool.false_or]
    cases h : decide ((out.length : Int) > 65536) with
    | true => rw [h] at hr; simp only [shiftP_ptr, shiftP_pel, Bnd_some, IfP_bool, Gd_some, ld_ptr, ld_pel, adv_h, adv_nx, set_nx, cond_true, cond_false, part_one, List.getElem?_cons_zero, List.getElem?_cons_succ, un_not, wantV_bool, pickV_bool, extr_tup, bin_lss, bin_leq, bin_gtr, bin_geq, bin_eql, bin_neq, bin_seql, bin_sneq, bin_add, bin_sub, Nat.reduceAdd, beq_self_eq_true, if_true, if_false, Bool.false_eq_true, Bool.not_true, Bool.not_false, show (false == true) = false from rfl, show (true == false) = false from rfl, Bnd_none, get_set, nx_drop, get_drop', adv_set, adv_two, adv_drop, set_set, Nat.add_assoc, Nat.add_left_cancel_iff, Nat.left_eq_add, Nat.add_eq_left, Nat.add_zero, Nat.reduceEqDiff, reduceCtorEq, and_true, true_and, List.mem_nil_iff, List.not_mem_nil, wantV_tup, resC_nil, resC_some, retP_some, map_some', tupV_one, tupV_two, idOf_ref, idOf_nils, idOf_ptr, idOf_sl, idOf_pel, drop_nil, drop_cons, bin_mul, Bool.or_true, Bool.or_false, Bool.and_true, Bool.and_false, Bool.true_and, Bool.false_and, Bool.true_or, Bool.false_or]; exact hQ1 _ 2 hr
    | false => rw [h] at hr; simp only [shiftP_ptr, shiftP_pel, Bnd_some, IfP_bool, Gd_some, ld_ptr, ld_pel, adv_h, adv_nx, set_nx, cond_true, cond_false, part_one, List.getElem?_cons_zero, List.getElem?_cons_succ, un_not, wantV_bool, pickV_bool, extr_tup, bin_lss, bin_leq, bin_gtr, bin_geq, bin_eql, bin_neq, bin_seql, bin_sneq, bin_add, bin_sub, Nat.reduceAdd, beq_self_eq_true, if_true, if_false, Bool.false_eq_true, Bool.not_true, Bool.not_false, show (false == true) = false from rfl, show (true == false) = false from rfl, Bnd_none, get_set, nx_drop, get_drop', adv_set, adv_two, adv_drop, set_set, Nat.add_assoc, Nat.add_left_cancel_iff, Nat.left_eq_add, Nat.add_eq_left, Nat.add_zero, Nat.reduceEqDiff, reduceCtorEq, and_true, true_and, List.mem_nil_iff, List.not_mem_nil, wantV_tup, resC_nil, resC_some, retP_some, map_some', tupV_one, tupV_two, idOf_ref, idOf_nils, idOf_ptr, idOf_sl, idOf_pel, drop_nil, drop_cons, bin_mul, Bool.or_true, Bool.or_false, Bool.and_true, Bool.and_false, Bool.true_and, Bool.false_and, Bool.true_or, Bool.false_or]; exact hQ2 _ _ out fr.adv g.adv hr
  | succ m ih =>
    intro i y out s hi hp fr g hr
    show f128l1s Q (f128l1 Q (m + 1)) _ _ _ _ s
    obtain ⟨c, hc⟩ : ∃ c, l[i]? = some c := ⟨_, List.getElem?_eq_getElem (by omega)⟩
    have hlt : i < l.length := by omega
    rw [get_drop l i c hc, runGo] at hr
    simp only [f128l1s, Int.ofNat_lt, hlt, decide_true, ix_map encIn false hc, shiftP_ptr, shiftP_pel, Bnd_some, IfP_bool, Gd_some, ld_ptr, ld_pel, adv_h, adv_nx, set_nx, cond_true, cond_false, part_one, List.getElem?_cons_zero, List.getElem?_cons_succ, un_not, wantV_bool, pickV_bool, extr_tup, bin_lss, bin_leq, bin_gtr, bin_geq, bin_eql, bin_neq, bin_seql, bin_sneq, bin_add, bin_sub, Nat.reduceAdd, beq_self_eq_true, if_true, if_false, Bool.false_eq_true, Bool.not_true, Bool.not_false, show (false == true) = false from rfl, show (true == false) = false from rfl, Bnd_none, get_set, nx_drop, get_drop', adv_set, adv_two, adv_drop, set_set, Nat.add_assoc, Nat.add_left_cancel_iff, Nat.left_eq_add, Nat.add_eq_left, Nat.add_zero, Nat.reduceEqDiff, reduceCtorEq, and_true, true_and, List.mem_nil_iff, List.not_mem_nil, wantV_tup, resC_nil, resC_some, retP_some, map_some', tupV_one, tupV_two, idOf_ref, idOf_nils, idOf_ptr, idOf_sl, idOf_pel, drop_nil, drop_cons, bin_mul, Bool.or_true, Bool.or_false, Bool.and_true, Bool.and_false, Bool.true_and, Bool.false_and, Bool.true_or, Bool.false_or]
    have hin : (inA c).cells[0]? = some (.int .i64 c) := rfl
    simp only [hin, shiftP_ptr, shiftP_pel, Bnd_some, IfP_bool, Gd_some, ld_ptr, ld_pel, adv_h, adv_nx, set_nx, cond_true, cond_false, part_one, List.getElem?_cons_zero, List.getElem?_cons_succ, un_not, wantV_bool, pickV_bool, extr_tup, bin_lss, bin_leq, bin_gtr, bin_geq, bin_eql, bin_neq, bin_seql, bin_sneq, bin_add, bin_sub, Nat.reduceAdd, beq_self_eq_true, if_true, if_false, Bool.false_eq_true, Bool.not_true, Bool.not_false, show (false == true) = false from rfl, show (true == false) = false from rfl, Bnd_none, get_set, nx_drop, get_drop', adv_set, adv_two, adv_drop, set_set, Nat.add_assoc, Nat.add_left_cancel_iff, Nat.left_eq_add, Nat.add_eq_left, Nat.add_zero, Nat.reduceEqDiff, reduceCtorEq, and_true, true_and, List.mem_nil_iff, List.not_mem_nil, wantV_tup, resC_nil, resC_some, retP_some, map_some', tupV_one, tupV_two, idOf_ref, idOf_nils, idOf_ptr, idOf_sl, idOf_pel, drop_nil, drop_cons, bin_mul, Bool.or_true, Bool.or_false, Bool.and_true, Bool.and_false, Bool.true_and, Bool.false_and, Bool.true_or, Bool.false_or]
    refine callPu (c181 c) (by simp [AV.closed]) ?_
    cases hp2 : point c with
    | false => rw [hp2] at hr; simp only [shiftP_ptr, shiftP_pel, Bnd_some, IfP_bool, Gd_some, ld_ptr, ld_pel, adv_h, adv_nx, set_nx, cond_true, cond_false, part_one, List.getElem?_cons_zero, List.getElem?_cons_succ, un_not, wantV_bool, pickV_bool, extr_tup, bin_lss, bin_leq, bin_gtr, bin_geq, bin_eql, bin_neq, bin_seql, bin_sneq, bin_add, bin_sub, Nat.reduceAdd, beq_self_eq_true, if_true, if_false, Bool.false_eq_true, Bool.not_true, Bool.not_false, show (false == true) = false from rfl, show (true == false) = false from rfl, Bnd_none, get_set, nx_drop, get_drop', adv_set, adv_two, adv_drop, set_set, Nat.add_assoc, Nat.add_left_cancel_iff, Nat.left_eq_add, Nat.add_eq_left, Nat.add_zero, Nat.reduceEqDiff, reduceCtorEq, and_true, true_and, List.mem_nil_iff, List.not_mem_nil, wantV_tup, resC_nil, resC_some, retP_some, map_some', tupV_one, tupV_two, idOf_ref, idOf_nils, idOf_ptr, idOf_sl, idOf_pel, drop_nil, drop_cons, bin_mul, Bool.or_true, Bool.or_false, Bool.and_true, Bool.and_false, Bool.true_and, Bool.false_and, Bool.true_or, Bool.false_or]; exact hQ1 _ 1 hr
    | true =>
      rw [hp2] at hr
      have hl25 := fun n k => ln25g (g.adv (n := n)) k
      simp only [List.length_map] at hl25
      have hw : IntKind.i64.wrap ((out.length : Int) - 1) = (out.length : Int) - 1 := IntWalk.i64_in _ (by omega)
      have hm : maxLen = 9223372036854775807 := rfl
      have bs : bsl 25 1 [(0, rnA (c, 1))] = some (.sl true [rnA (c, 1)]) := bsl_one tf25 (by decide) rfl rfl
      have bl : bld 109 [(0, .int .i64 c), (1, .int .i64 1)] = some (rnA (c, 1)) := by rw [bf109]; rfl
      have hnew : ∀ q, Fresh q → Gw 109 2 0 q y (out.map rnA) → q.nx = s.nx → stepRun out c = out ++ [(c, 1)] → ∀ k, f128j2 Q (f128l1 Q (m + 1)) (.int .i64 i) (.ref (s.nx + k) 0 (out.length + 1) none 109) (.sl false (l.map inA)) (.int .i64 l.length) (Ai.adv ((q.drop (idOf y)).set (s.nx + k) (some (.cells (((out ++ [(c, 1)]).map rnA).flatMap AV.cells) 109 false true))) (k + 2)) := by
        intro q fq gq hq hst k
        simp only [f128j2, shiftP_ptr, shiftP_pel, Bnd_some, IfP_bool, Gd_some, ld_ptr, ld_pel, adv_h, adv_nx, set_nx, cond_true, cond_false, part_one, List.getElem?_cons_zero, List.getElem?_cons_succ, un_not, wantV_bool, pickV_bool, extr_tup, bin_lss, bin_leq, bin_gtr, bin_geq, bin_eql, bin_neq, bin_seql, bin_sneq, bin_add, bin_sub, Nat.reduceAdd, beq_self_eq_true, if_true, if_false, Bool.false_eq_true, Bool.not_true, Bool.not_false, show (false == true) = false from rfl, show (true == false) = false from rfl, Bnd_none, get_set, nx_drop, get_drop', adv_set, adv_two, adv_drop, set_set, Nat.add_assoc, Nat.add_left_cancel_iff, Nat.left_eq_add, Nat.add_eq_left, Nat.add_zero, Nat.reduceEqDiff, reduceCtorEq, and_true, true_and, List.mem_nil_iff, List.not_mem_nil, wantV_tup, resC_nil, resC_some, retP_some, map_some', tupV_one, tupV_two, idOf_ref, idOf_nils, idOf_ptr, idOf_sl, idOf_pel, drop_nil, drop_cons, bin_mul, Bool.or_true, Bool.or_false, Bool.and_true, Bool.and_false, Bool.true_and, Bool.false_and, Bool.true_or, Bool.false_or]
        rw [wrap_len i _ hlt (by omega)]
        exact ih (i + 1) _ (out ++ [(c, 1)]) _ (by omega) (by simp; omega) (fresh_app fq _ _ (by omega)) (gw_map1 encRn) (by rw [hr, hst]; rfl)
      cases ho : out.getLast? with
      | none =>
        have ho2 : out = [] := by simpa using ho
        subst ho2
        simp only [hl25, shiftP_ptr, shiftP_pel, Bnd_some, IfP_bool, Gd_some, ld_ptr, ld_pel, adv_h, adv_nx, set_nx, cond_true, cond_false, part_one, List.getElem?_cons_zero, List.getElem?_cons_succ, un_not, wantV_bool, pickV_bool, extr_tup, bin_lss, bin_leq, bin_gtr, bin_geq, bin_eql, bin_neq, bin_seql, bin_sneq, bin_add, bin_sub, Nat.reduceAdd, beq_self_eq_true, if_true, if_false, Bool.false_eq_true, Bool.not_true, Bool.not_false, show (false == true) = false from rfl, show (true == false) = false from rfl, Bnd_none, get_set, nx_drop, get_drop', adv_set, adv_two, adv_drop, set_set, Nat.add_assoc, Nat.add_left_cancel_iff, Nat.left_eq_add, Nat.add_eq_left, Nat.add_zero, Nat.reduceEqDiff, reduceCtorEq, and_true, true_and, List.mem_nil_iff, List.not_mem_nil, wantV_tup, resC_nil, resC_some, retP_some, map_some', tupV_one, tupV_two, idOf_ref, idOf_nils, idOf_ptr, idOf_sl, idOf_pel, drop_nil, drop_cons, bin_mul, Bool.or_true, Bool.or_false, Bool.and_true, Bool.and_false, Bool.true_and, Bool.false_and, Bool.true_or, Bool.false_or, List.length_nil, show IntKind.i64.wrap (((0 : Nat) : Int) - 1) = -1 from rfl, show decide ((-1 : Int) ≥ 0) = false from rfl, bl, bs]
        rw [app_map tf25 encRn g.adv (by simp) (by simp)]
        simp only [shiftP_ptr, shiftP_pel, Bnd_some, IfP_bool, Gd_some, ld_ptr, ld_pel, adv_h, adv_nx, set_nx, cond_true, cond_false, part_one, List.getElem?_cons_zero, List.getElem?_cons_succ, un_not, wantV_bool, pickV_bool, extr_tup, bin_lss, bin_leq, bin_gtr, bin_geq, bin_eql, bin_neq, bin_seql, bin_sneq, bin_add, bin_sub, Nat.reduceAdd, beq_self_eq_true, if_true, if_false, Bool.false_eq_true, Bool.not_true, Bool.not_false, show (false == true) = false from rfl, show (true == false) = false from rfl, Bnd_none, get_set, nx_drop, get_drop', adv_set, adv_two, adv_drop, set_set, Nat.add_assoc, Nat.add_left_cancel_iff, Nat.left_eq_add, Nat.add_eq_left, Nat.add_zero, Nat.reduceEqDiff, reduceCtorEq, and_true, true_and, List.mem_nil_iff, List.not_mem_nil, wantV_tup, resC_nil, resC_some, retP_some, map_some', tupV_one, tupV_two, idOf_ref, idOf_nils, idOf_ptr, idOf_sl, idOf_pel, drop_nil, drop_cons, bin_mul, Bool.or_true, Bool.or_false, Bool.and_true, Bool.and_false, Bool.true_and, Bool.false_and, Bool.true_or, Bool.false_or]
        exact hnew s fr g rfl rfl _
      | some q =>
        obtain ⟨o, hoo⟩ : ∃ o, out = o ++ [q] := ⟨out.dropLast, by
          have := List.getLast?_eq_some_iff.1 ho
          obtain ⟨ys, rfl⟩ := this
          simp⟩
        subst hoo
        have hk : ((o ++ [q]).length : Int) - 1 = (o.length : Int) := by simp
        obtain ⟨_, ⟨_, hbad⟩ | ⟨b, _, rfl, hb⟩⟩ := id g
        · simp at hbad
        have hixr : ∀ e, ixS 2 (.ref b 0 ((o ++ [q]).map rnA).length none e) (.int .i64 (o.length : Int)) = some (.ptr b (o.length * 2)) := fun e => by
          have := ix_ref (e := e) (z := 2) (id := b) (off := 0) (c := none) (show o.length < ((o ++ [q]).map rnA).length by simp) .i64
          rw [this]; simp
        have hc0 : (((o ++ [q]).map rnA).flatMap AV.cells)[o.length * 2]? = some (.int .i64 q.1) := by
          have := getElem_flat (vs := (o ++ [q]).map rnA) (z := 2) (fun v hv => (g.1 v hv).1) (i := o.length) (v := rnA q) (by simp) (k := 0) (by omega)
          rw [← Nat.add_zero (o.length * 2), this]; rfl
        have hc1 : (((o ++ [q]).map rnA).flatMap AV.cells)[o.length * 2 + 1]? = some (.int .i64 q.2) := by
          have := getElem_flat (vs := (o ++ [q]).map rnA) (z := 2) (fun v hv => (g.1 v hv).1) (i := o.length) (v := rnA q) (by simp) (k := 1) (by omega)
          rw [this]; rfl
        have hw2 : IntKind.i64.wrap (o.length : Int) = (o.length : Int) := wrapN (by simp at hp; omega)
        simp only [hl25, hk, hw2, hixr, hb, hc0, shiftP_ptr, shiftP_pel, Bnd_some, IfP_bool, Gd_some, ld_ptr, ld_pel, adv_h, adv_nx, set_nx, cond_true, cond_false, part_one, List.getElem?_cons_zero, List.getElem?_cons_succ, un_not, wantV_bool, pickV_bool, extr_tup, bin_lss, bin_leq, bin_gtr, bin_geq, bin_eql, bin_neq, bin_seql, bin_sneq, bin_add, bin_sub, Nat.reduceAdd, beq_self_eq_true, if_true, if_false, Bool.false_eq_true, Bool.not_true, Bool.not_false, show (false == true) = false from rfl, show (true == false) = false from rfl, Bnd_none, get_set, nx_drop, get_drop', adv_set, adv_two, adv_drop, set_set, Nat.add_assoc, Nat.add_left_cancel_iff, Nat.left_eq_add, Nat.add_eq_left, Nat.add_zero, Nat.reduceEqDiff, reduceCtorEq, and_true, true_and, List.mem_nil_iff, List.not_mem_nil, wantV_tup, resC_nil, resC_some, retP_some, map_some', tupV_one, tupV_two, idOf_ref, idOf_nils, idOf_ptr, idOf_sl, idOf_pel, drop_nil, drop_cons, bin_mul, Bool.or_true, Bool.or_false, Bool.and_true, Bool.and_false, Bool.true_and, Bool.false_and, Bool.true_or, Bool.false_or, show decide ((o.length : Int) ≥ 0) = true by simp]
        cases hq : (q.1 == c) with
        | true =>
          simp only [hixr, hb, hc1, shiftP_ptr, shiftP_pel, Bnd_some, IfP_bool, Gd_some, ld_ptr, ld_pel, adv_h, adv_nx, set_nx, cond_true, cond_false, part_one, List.getElem?_cons_zero, List.getElem?_cons_succ, un_not, wantV_bool, pickV_bool, extr_tup, bin_lss, bin_leq, bin_gtr, bin_geq, bin_eql, bin_neq, bin_seql, bin_sneq, bin_add, bin_sub, Nat.reduceAdd, beq_self_eq_true, if_true, if_false, Bool.false_eq_true, Bool.not_true, Bool.not_false, show (false == true) = false from rfl, show (true == false) = false from rfl, Bnd_none, get_set, nx_drop, get_drop', adv_set, adv_two, adv_drop, set_set, Nat.add_assoc, Nat.add_left_cancel_iff, Nat.left_eq_add, Nat.add_eq_left, Nat.add_zero, Nat.reduceEqDiff, reduceCtorEq, and_true, true_and, List.mem_nil_iff, List.not_mem_nil, wantV_tup, resC_nil, resC_some, retP_some, map_some', tupV_one, tupV_two, idOf_ref, idOf_nils, idOf_ptr, idOf_sl, idOf_pel, drop_nil, drop_cons, bin_mul, Bool.or_true, Bool.or_false, Bool.and_true, Bool.and_false, Bool.true_and, Bool.false_and, Bool.true_or, Bool.false_or]
          have hsto : ∀ v n, sto 1 (.ptr b (o.length * 2 + 1)) (.int .i64 v) (adv s n) = some (adv (s.set b (some (.cells (((o.map rnA).flatMap AV.cells) ++ [.int .i64 q.1, .int .i64 v]) 109 false true))) n) := fun v n => by
            have := sto_c (id := b) (off := o.length * 2 + 1) (v := .int .i64 v) (s := adv s n) hb (by rw [flat_len (fun v hv => g.1 v hv)]; simp; omega) rfl rfl
            rw [this, flat_snoc]; rfl
          simp only [hsto, f128j2, shiftP_ptr, shiftP_pel, Bnd_some, IfP_bool, Gd_some, ld_ptr, ld_pel, adv_h, adv_nx, set_nx, cond_true, cond_false, part_one, List.getElem?_cons_zero, List.getElem?_cons_succ, un_not, wantV_bool, pickV_bool, extr_tup, bin_lss, bin_leq, bin_gtr, bin_geq, bin_eql, bin_neq, bin_seql, bin_sneq, bin_add, bin_sub, Nat.reduceAdd, beq_self_eq_true, if_true, if_false, Bool.false_eq_true, Bool.not_true, Bool.not_false, show (false == true) = false from rfl, show (true == false) = false from rfl, Bnd_none, get_set, nx_drop, get_drop', adv_set, adv_two, adv_drop, set_set, Nat.add_assoc, Nat.add_left_cancel_iff, Nat.left_eq_add, Nat.add_eq_left, Nat.add_zero, Nat.reduceEqDiff, reduceCtorEq, and_true, true_and, List.mem_nil_iff, List.not_mem_nil, wantV_tup, resC_nil, resC_some, retP_some, map_some', tupV_one, tupV_two, idOf_ref, idOf_nils, idOf_ptr, idOf_sl, idOf_pel, drop_nil, drop_cons, bin_mul, Bool.or_true, Bool.or_false, Bool.and_true, Bool.and_false, Bool.true_and, Bool.false_and, Bool.true_or, Bool.false_or]
          rw [wrap_len i _ hlt (by omega)]
          have e : stepRun (o ++ [q]) c = o ++ [(q.1, IntKind.i64.wrap (q.2 + 1))] := by
            simp only [stepRun, ho, hq, cond_true, List.dropLast_concat]
          refine ih (i + 1) _ (o ++ [(q.1, IntKind.i64.wrap (q.2 + 1))]) _ (by omega) (by simp at hp ⊢; omega) (fresh_set fr _ ?_) ?_ (by rw [hr, e]; rfl)
          · have := g.id_lt fr b (by simp [idOf]); omega
          · refine ⟨cells_map encRn.len encRn.ones _, .inr ⟨b, Nat.zero_le _, by simp, ?_⟩⟩
            rw [adv_h, st_same, List.map_append, List.flatMap_append]
            rfl
        | false =>
          simp only [shiftP_ptr, shiftP_pel, Bnd_some, IfP_bool, Gd_some, ld_ptr, ld_pel, adv_h, adv_nx, set_nx, cond_true, cond_false, part_one, List.getElem?_cons_zero, List.getElem?_cons_succ, un_not, wantV_bool, pickV_bool, extr_tup, bin_lss, bin_leq, bin_gtr, bin_geq, bin_eql, bin_neq, bin_seql, bin_sneq, bin_add, bin_sub, Nat.reduceAdd, beq_self_eq_true, if_true, if_false, Bool.false_eq_true, Bool.not_true, Bool.not_false, show (false == true) = false from rfl, show (true == false) = false from rfl, Bnd_none, get_set, nx_drop, get_drop', adv_set, adv_two, adv_drop, set_set, Nat.add_assoc, Nat.add_left_cancel_iff, Nat.left_eq_add, Nat.add_eq_left, Nat.add_zero, Nat.reduceEqDiff, reduceCtorEq, and_true, true_and, List.mem_nil_iff, List.not_mem_nil, wantV_tup, resC_nil, resC_some, retP_some, map_some', tupV_one, tupV_two, idOf_ref, idOf_nils, idOf_ptr, idOf_sl, idOf_pel, drop_nil, drop_cons, bin_mul, Bool.or_true, Bool.or_false, Bool.and_true, Bool.and_false, Bool.true_and, Bool.false_and, Bool.true_or, Bool.false_or, bl, bs]
          rw [app_map tf25 encRn g.adv (by simp at hp ⊢; omega) (by simp at hp ⊢; omega)]
          simp only [shiftP_ptr, shiftP_pel, Bnd_some, IfP_bool, Gd_some, ld_ptr, ld_pel, adv_h, adv_nx, set_nx, cond_true, cond_false, part_one, List.getElem?_cons_zero, List.getElem?_cons_succ, un_not, wantV_bool, pickV_bool, extr_tup, bin_lss, bin_leq, bin_gtr, bin_geq, bin_eql, bin_neq, bin_seql, bin_sneq, bin_add, bin_sub, Nat.reduceAdd, beq_self_eq_true, if_true, if_false, Bool.false_eq_true, Bool.not_true, Bool.not_false, show (false == true) = false from rfl, show (true == false) = false from rfl, Bnd_none, get_set, nx_drop, get_drop', adv_set, adv_two, adv_drop, set_set, Nat.add_assoc, Nat.add_left_cancel_iff, Nat.left_eq_add, Nat.add_eq_left, Nat.add_zero, Nat.reduceEqDiff, reduceCtorEq, and_true, true_and, List.mem_nil_iff, List.not_mem_nil, wantV_tup, resC_nil, resC_some, retP_some, map_some', tupV_one, tupV_two, idOf_ref, idOf_nils, idOf_ptr, idOf_sl, idOf_pel, drop_nil, drop_cons, bin_mul, Bool.or_true, Bool.or_false, Bool.and_true, Bool.and_false, Bool.true_and, Bool.false_and, Bool.true_or, Bool.false_or]
          have e : stepRun (o ++ [q]) c = (o ++ [q]) ++ [(c, 1)] := by simp only [stepRun, ho, hq, cond_false]
          exact hnew s fr g rfl e _
theorem c128 (l : List Int) (hl : l.length ≤ 2 ^ 30) : PureC Tryz.env 128 [.sl false (l.map inA)] (rtA (runGo l [])) := by
  refine pure_q (f128_run _ _ ?_)
  unfold f128
  simp only [ln72s, List.length_map, shiftP_ptr, shiftP_pel, Bnd_some, IfP_bool, Gd_some, ld_ptr, ld_pel, adv_h, adv_nx, set_nx, cond_true, cond_false, part_one, List.getElem?_cons_zero, List.getElem?_cons_succ, un_not, wantV_bool, pickV_bool, extr_tup, bin_lss, bin_leq, bin_gtr, bin_geq, bin_eql, bin_neq, bin_seql, bin_sneq, bin_add, bin_sub, Nat.reduceAdd, beq_self_eq_true, if_true, if_false, Bool.false_eq_true, Bool.not_true, Bool.not_false, show (false == true) = false from rfl, show (true == false) = false from rfl, Bnd_none, get_set, nx_drop, get_drop', adv_set, adv_two, adv_drop, set_set, Nat.add_assoc, Nat.add_left_cancel_iff, Nat.left_eq_add, Nat.add_eq_left, Nat.add_zero, Nat.reduceEqDiff, reduceCtorEq, and_true, true_and, List.mem_nil_iff, List.not_mem_nil, wantV_tup, resC_nil, resC_some, retP_some, map_some', tupV_one, tupV_two, idOf_ref, idOf_nils, idOf_ptr, idOf_sl, idOf_pel, drop_nil, drop_cons, bin_mul, Bool.or_true, Bool.or_false, Bool.and_true, Bool.and_false, Bool.true_and, Bool.false_and, Bool.true_or, Bool.false_or]
  refine ⟨l.length + 1, l128 l hl _ (runGo l []) (fun s e h => ?_) (fun y s out fr g h => ?_) l.length 0 .nils [] _ (by omega) (by simp) fresh_empty.adv gw_nil rfl⟩
  · rw [h]; exact ⟨[], rfl⟩
  · rw [h]
    obtain ⟨ids, hp, _⟩ := pur_map tf25 g (fun _ _ => rfl) (fun _ _ => rfl) 10
    exact ⟨ids, pur_tup2 g.not_closed hp rfl⟩
end Go.Proofs.YtdehdahimkcakaaGreatDoor
