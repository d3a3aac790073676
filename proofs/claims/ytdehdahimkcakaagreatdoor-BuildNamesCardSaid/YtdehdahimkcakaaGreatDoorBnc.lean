/- BuildNames: its law's function. -/
import Derived.Test.YtdehdahimkcakaaGreatDoorBn
set_option linter.unusedVariables false
set_option linter.unusedSimpArgs false
set_option maxRecDepth 100000
namespace Go.Proofs.YtdehdahimkcakaaGreatDoor
open Go Ai

theorem part_sx (l k x p a v) : Ai.part 6 true 0 (sxA l k x p a v).cells = some (sxA l k x p a v) := rfl
theorem sx_closed (l k x p a) {v : AV} (hc : v.closed = true) : (sxA l k x p a v).closed = true := by
  show (true && (true && (true && (true && (true && (v.closed && true)))))) = true
  rw [hc]; rfl
theorem bn_int34 (a b : Int) : bn .eql 34 (.int .i64 a) (.int .i64 b) = some (.bool (a == b)) := bin_eql
theorem c6 (l : Bool) (k : Int) (x : List UInt8) (p a : Int) (v : AV) (hv : v.one = true) (hc : v.closed = true) (name : List UInt8) : ∃ s', WideC Tryz.env 6 [sxA l k x p a v, .str name] St.empty (.bool true) s' := by
  have h := f6_run (sxA l k x p a v) (.str name) St.empty (Q := fun r _ => r = .bool true) (by
    unfold f6
    refine ⟨sx_one l k x p a hv, ?_⟩
    refine callPu awake10 (by simp) ?_
    have hl : ∀ s : St, ∀ i z, (s.h i = some (.cells (sxA l k x p a v).cells 33 true true)) → (ld z true (.ptr i 0) s) = Ai.part z true 0 (sxA l k x p a v).cells := fun s i z h => by simp only [ld_ptr, h]
    have hx : (sxA l k x p a v).cells[2]? = some (AV.str x) := rfl
    simp only [len_str, hx, shiftP_ptr, shiftP_pel, Bnd_some, IfP_bool, Gd_some, ld_ptr, ld_pel, adv_h, adv_nx, set_h, set_nx, beq_self', cond_true, cond_false, part_one, List.getElem?_cons_zero, List.getElem?_cons_succ, un_not, wantV_bool, pickV_bool, extr_tup, bin_lss, bin_leq, bin_gtr, bin_geq, bin_eql, bin_neq, bin_seql, bin_sneq, bin_add, bin_sub, Nat.zero_add, Nat.reduceAdd, beq_self_eq_true, if_true, if_false, Bool.false_eq_true, Bool.not_true, Bool.not_false, show (false == true) = false from rfl, show (true == false) = false from rfl]
    cases h1 : decide ((name.length : Int) > 200) with
    | true => simp only [len_str, hx, h1, shiftP_ptr, shiftP_pel, Bnd_some, IfP_bool, Gd_some, ld_ptr, ld_pel, adv_h, adv_nx, set_h, set_nx, beq_self', cond_true, cond_false, part_one, List.getElem?_cons_zero, List.getElem?_cons_succ, un_not, wantV_bool, pickV_bool, extr_tup, bin_lss, bin_leq, bin_gtr, bin_geq, bin_eql, bin_neq, bin_seql, bin_sneq, bin_add, bin_sub, Nat.zero_add, Nat.reduceAdd, beq_self_eq_true, if_true, if_false, Bool.false_eq_true, Bool.not_true, Bool.not_false, show (false == true) = false from rfl, show (true == false) = false from rfl]
    | false =>
      simp only [len_str, hx, h1, shiftP_ptr, shiftP_pel, Bnd_some, IfP_bool, Gd_some, ld_ptr, ld_pel, adv_h, adv_nx, set_h, set_nx, beq_self', cond_true, cond_false, part_one, List.getElem?_cons_zero, List.getElem?_cons_succ, un_not, wantV_bool, pickV_bool, extr_tup, bin_lss, bin_leq, bin_gtr, bin_geq, bin_eql, bin_neq, bin_seql, bin_sneq, bin_add, bin_sub, Nat.zero_add, Nat.reduceAdd, beq_self_eq_true, if_true, if_false, Bool.false_eq_true, Bool.not_true, Bool.not_false, show (false == true) = false from rfl, show (true == false) = false from rfl]
      cases h2 : decide ((x.length : Int) > 200) with
      | true => simp only [len_str, hx, h2, shiftP_ptr, shiftP_pel, Bnd_some, IfP_bool, Gd_some, ld_ptr, ld_pel, adv_h, adv_nx, set_h, set_nx, beq_self', cond_true, cond_false, part_one, List.getElem?_cons_zero, List.getElem?_cons_succ, un_not, wantV_bool, pickV_bool, extr_tup, bin_lss, bin_leq, bin_gtr, bin_geq, bin_eql, bin_neq, bin_seql, bin_sneq, bin_add, bin_sub, Nat.zero_add, Nat.reduceAdd, beq_self_eq_true, if_true, if_false, Bool.false_eq_true, Bool.not_true, Bool.not_false, show (false == true) = false from rfl, show (true == false) = false from rfl]
      | false =>
        simp only [len_str, hx, h2, shiftP_ptr, shiftP_pel, Bnd_some, IfP_bool, Gd_some, ld_ptr, ld_pel, adv_h, adv_nx, set_h, set_nx, beq_self', cond_true, cond_false, part_one, List.getElem?_cons_zero, List.getElem?_cons_succ, un_not, wantV_bool, pickV_bool, extr_tup, bin_lss, bin_leq, bin_gtr, bin_geq, bin_eql, bin_neq, bin_seql, bin_sneq, bin_add, bin_sub, Nat.zero_add, Nat.reduceAdd, beq_self_eq_true, if_true, if_false, Bool.false_eq_true, Bool.not_true, Bool.not_false, show (false == true) = false from rfl, show (true == false) = false from rfl, part_sx]
        refine callPu (c26 l k x p a v hv) (by simp [sx_closed l k x p a hc]) ?_
        simp only [sortA, shiftP_ptr, shiftP_pel, Bnd_some, IfP_bool, Gd_some, ld_ptr, ld_pel, adv_h, adv_nx, set_h, set_nx, beq_self', cond_true, cond_false, part_one, List.getElem?_cons_zero, List.getElem?_cons_succ, un_not, wantV_bool, pickV_bool, extr_tup, bin_lss, bin_leq, bin_gtr, bin_geq, bin_eql, bin_neq, bin_seql, bin_sneq, bin_add, bin_sub, Nat.zero_add, Nat.reduceAdd, beq_self_eq_true, if_true, if_false, Bool.false_eq_true, Bool.not_true, Bool.not_false, show (false == true) = false from rfl, show (true == false) = false from rfl, part_sx]
        refine callPu (c27 l k x p a v hv) (by simp [sx_closed l k x p a hc]) ?_
        simp only [sort_same, sortA, bn_int34, shiftP_ptr, shiftP_pel, Bnd_some, IfP_bool, Gd_some, ld_ptr, ld_pel, adv_h, adv_nx, set_h, set_nx, beq_self', cond_true, cond_false, part_one, List.getElem?_cons_zero, List.getElem?_cons_succ, un_not, wantV_bool, pickV_bool, extr_tup, bin_lss, bin_leq, bin_gtr, bin_geq, bin_eql, bin_neq, bin_seql, bin_sneq, bin_add, bin_sub, Nat.zero_add, Nat.reduceAdd, beq_self_eq_true, if_true, if_false, Bool.false_eq_true, Bool.not_true, Bool.not_false, show (false == true) = false from rfl, show (true == false) = false from rfl]
        refine callPu (c24 name) (by simp [AV.closed]) ?_
        refine callPu (c28 name) (by simp [AV.closed]) ?_
        simp only [bn_bool, res_same, shiftP_ptr, shiftP_pel, Bnd_some, IfP_bool, Gd_some, ld_ptr, ld_pel, adv_h, adv_nx, set_h, set_nx, beq_self', cond_true, cond_false, part_one, List.getElem?_cons_zero, List.getElem?_cons_succ, un_not, wantV_bool, pickV_bool, extr_tup, bin_lss, bin_leq, bin_gtr, bin_geq, bin_eql, bin_neq, bin_seql, bin_sneq, bin_add, bin_sub, Nat.zero_add, Nat.reduceAdd, beq_self_eq_true, if_true, if_false, Bool.false_eq_true, Bool.not_true, Bool.not_false, show (false == true) = false from rfl, show (true == false) = false from rfl])
  obtain ⟨r, s', h1, rfl⟩ := h
  exact ⟨s', h1⟩
end Go.Proofs.YtdehdahimkcakaaGreatDoor
