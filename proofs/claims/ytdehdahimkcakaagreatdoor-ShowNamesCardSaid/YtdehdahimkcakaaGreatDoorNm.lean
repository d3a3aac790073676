/- ShowNames: its law's function. -/
import Derived.Test.YtdehdahimkcakaaGreatDoorSw
set_option linter.unusedVariables false
set_option linter.unusedSimpArgs false
set_option maxRecDepth 100000
set_option maxHeartbeats 4000000
namespace Go.Proofs.YtdehdahimkcakaaGreatDoor
open Go Ai

def nmL : List (List UInt8) := [[], [], [], [], [], [], [110, 111, 116], [97, 110, 100], [111, 114], [61, 62], [120, 111, 114], [61], [100, 105, 115, 116, 105, 110, 99, 116], [105, 116, 101], [45], [43], [45], [42], [60, 61], [60], [62, 61], [62], [115, 116, 114, 46, 43, 43], [115, 116, 114, 46, 108, 101, 110], [115, 116, 114, 46, 97, 116], [115, 116, 114, 46, 115, 117, 98, 115, 116, 114], [115, 116, 114, 46, 112, 114, 101, 102, 105, 120, 111, 102], [115, 116, 114, 46, 115, 117, 102, 102, 105, 120, 111, 102], [115, 116, 114, 46, 99, 111, 110, 116, 97, 105, 110, 115], [115, 116, 114, 46, 105, 110, 100, 101, 120, 111, 102], [115, 116, 114, 46, 114, 101, 112, 108, 97, 99, 101]]
def nmN (c : Nat) : List UInt8 := nmL.getD c []
theorem t22 : (List.range 31).map (fun c : Nat => pureF 22 [.int .i64 (c : Int)]) = (List.range 31).map fun c : Nat => some (.str (nmN c)) := by kernel_rfl
def nmM (c : Int) : List UInt8 := cond (decide (0 ≤ c) && decide (c < 31)) (nmN c.toNat) []
theorem c22 (c : Int) : PureC Tryz.env 22 [.int .i64 c] (.str (nmM c)) := by
  by_cases h : 0 ≤ c ∧ c < 31
  · obtain ⟨k, rfl⟩ : ∃ k : Nat, c = (k : Int) := ⟨c.toNat, by omega⟩
    have := pure_table (a := fun c : Nat => .int .i64 (c : Int)) t22 (c := k) (by omega)
    have e : nmM (k : Int) = nmN k := by simp only [nmM, decide_eq_true h.1, decide_eq_true h.2, Bool.and_self, cond_true, Int.toNat_natCast]
    rw [e]; exact this
  · refine pure_closed rfl (f22_run _ _ ?_)
    unfold f22
    have e : nmM c = [] := by
      simp only [nmM]
      by_cases h0 : 0 ≤ c
      · have h1 : ¬ c < 31 := fun h1 => h ⟨h0, h1⟩
        simp [h1]
      · simp [h0]
    rw [e]
    by_cases h0 : c < 0
    · simp only [decide_eq_true h0, shiftP_ptr, shiftP_pel, Bnd_some, IfP_bool, Gd_some, ld_ptr, ld_pel, adv_h, adv_nx, set_nx, cond_true, cond_false, part_one, List.getElem?_cons_zero, List.getElem?_cons_succ, un_not, wantV_bool, pickV_bool, extr_tup, bin_lss, bin_leq, bin_gtr, bin_geq, bin_eql, bin_neq, bin_seql, bin_sneq, bin_add, bin_sub, Nat.reduceAdd, beq_self_eq_true, if_true, if_false, Bool.false_eq_true, Bool.not_true, Bool.not_false, show (false == true) = false from rfl, show (true == false) = false from rfl, Bnd_none, get_set, nx_drop, get_drop', adv_set, adv_two, adv_drop, set_set, Nat.add_assoc, Nat.add_left_cancel_iff, Nat.left_eq_add, Nat.add_eq_left, Nat.add_zero, Nat.reduceEqDiff, reduceCtorEq, and_true, true_and, List.mem_nil_iff, List.not_mem_nil, wantV_tup, resC_nil, resC_some, retP_some, map_some', tupV_one, tupV_two, idOf_ref, idOf_nils, idOf_ptr, idOf_sl, idOf_pel, drop_nil, drop_cons, bin_mul, Bool.or_true, Bool.or_false, Bool.and_true, Bool.and_false, Bool.true_and, Bool.false_and, Bool.true_or, Bool.false_or]
    · have h1 : decide (c ≥ 31) = true := by simp; omega
      simp only [decide_eq_false h0, h1, shiftP_ptr, shiftP_pel, Bnd_some, IfP_bool, Gd_some, ld_ptr, ld_pel, adv_h, adv_nx, set_nx, cond_true, cond_false, part_one, List.getElem?_cons_zero, List.getElem?_cons_succ, un_not, wantV_bool, pickV_bool, extr_tup, bin_lss, bin_leq, bin_gtr, bin_geq, bin_eql, bin_neq, bin_seql, bin_sneq, bin_add, bin_sub, Nat.reduceAdd, beq_self_eq_true, if_true, if_false, Bool.false_eq_true, Bool.not_true, Bool.not_false, show (false == true) = false from rfl, show (true == false) = false from rfl, Bnd_none, get_set, nx_drop, get_drop', adv_set, adv_two, adv_drop, set_set, Nat.add_assoc, Nat.add_left_cancel_iff, Nat.left_eq_add, Nat.add_eq_left, Nat.add_zero, Nat.reduceEqDiff, reduceCtorEq, and_true, true_and, List.mem_nil_iff, List.not_mem_nil, wantV_tup, resC_nil, resC_some, retP_some, map_some', tupV_one, tupV_two, idOf_ref, idOf_nils, idOf_ptr, idOf_sl, idOf_pel, drop_nil, drop_cons, bin_mul, Bool.or_true, Bool.or_false, Bool.and_true, Bool.and_false, Bool.true_and, Bool.false_and, Bool.true_or, Bool.false_or]
def ptsN (c : Nat) : Int := if c = 14 then 1 else 2
theorem t23 : ((List.range 25).all fun c : Nat => match pureF 23 [.str (nmN (c + 6)), .int .i64 (ptsN (c + 6))], pureF 24 [.str (nmN (c + 6))] with
    | some (.int .i64 n), some (.bool true) => n == ((c + 6 : Nat) : Int)
    | _, _ => false) = true := by kernel_rfl
theorem c23n {c : Nat} (h1 : 6 ≤ c) (h2 : c < 31) : PureC Tryz.env 23 [.str (nmN c), .int .i64 (ptsN c)] (.int .i64 c) ∧ PureC Tryz.env 24 [.str (nmN c)] (.bool true) := by
  obtain ⟨k, rfl⟩ : ∃ k, c = k + 6 := ⟨c - 6, by omega⟩
  have h := List.all_eq_true.1 t23 k (by simp; omega)
  split at h
  · rename_i n e1 e2
    simp only [beq_iff_eq] at h
    subst h
    exact ⟨pure_f e1, pure_f e2⟩
  · cases h
theorem nm_uni : ((List.range 31).all fun c => (List.range 31).all fun d => (nmN c == []) || (c == d) || !(nmN c == nmN d) || ((c == 14 || c == 16) && (d == 14 || d == 16))) = true := by decide
theorem nm_small : ((List.range 6).all fun c => nmN c == []) = true := by decide
theorem c5 (op other : Int) : ∃ s', WideC Tryz.env 5 [.int .i64 op, .int .i64 other] St.empty (.bool true) s' := by
  suffices h : f5 (fun r _ => r = .bool true) (.int .i64 op) (.int .i64 other) St.empty by
    obtain ⟨r, s', h1, rfl⟩ := f5_run _ _ _ h
    exact ⟨s', h1⟩
  unfold f5
  refine callPu awake12 (by simp) ?_
  refine callPu (c22 op) (by simp [AV.closed]) ?_
  refine callPu (c22 other) (by simp [AV.closed]) ?_
  cases h : (nmM op == []) with
  | true =>
    simp only [h, shiftP_ptr, shiftP_pel, Bnd_some, IfP_bool, Gd_some, ld_ptr, ld_pel, adv_h, adv_nx, set_nx, cond_true, cond_false, part_one, List.getElem?_cons_zero, List.getElem?_cons_succ, un_not, wantV_bool, pickV_bool, extr_tup, bin_lss, bin_leq, bin_gtr, bin_geq, bin_eql, bin_neq, bin_seql, bin_sneq, bin_add, bin_sub, Nat.reduceAdd, beq_self_eq_true, if_true, if_false, Bool.false_eq_true, Bool.not_true, Bool.not_false, show (false == true) = false from rfl, show (true == false) = false from rfl, Bnd_none, get_set, nx_drop, get_drop', adv_set, adv_two, adv_drop, set_set, Nat.add_assoc, Nat.add_left_cancel_iff, Nat.left_eq_add, Nat.add_eq_left, Nat.add_zero, Nat.reduceEqDiff, reduceCtorEq, and_true, true_and, List.mem_nil_iff, List.not_mem_nil, wantV_tup, resC_nil, resC_some, retP_some, map_some', tupV_one, tupV_two, idOf_ref, idOf_nils, idOf_ptr, idOf_sl, idOf_pel, drop_nil, drop_cons, bin_mul, Bool.or_true, Bool.or_false, Bool.and_true, Bool.and_false, Bool.true_and, Bool.false_and, Bool.true_or, Bool.false_or]
  | false =>
    simp only [h, shiftP_ptr, shiftP_pel, Bnd_some, IfP_bool, Gd_some, ld_ptr, ld_pel, adv_h, adv_nx, set_nx, cond_true, cond_false, part_one, List.getElem?_cons_zero, List.getElem?_cons_succ, un_not, wantV_bool, pickV_bool, extr_tup, bin_lss, bin_leq, bin_gtr, bin_geq, bin_eql, bin_neq, bin_seql, bin_sneq, bin_add, bin_sub, Nat.reduceAdd, beq_self_eq_true, if_true, if_false, Bool.false_eq_true, Bool.not_true, Bool.not_false, show (false == true) = false from rfl, show (true == false) = false from rfl, Bnd_none, get_set, nx_drop, get_drop', adv_set, adv_two, adv_drop, set_set, Nat.add_assoc, Nat.add_left_cancel_iff, Nat.left_eq_add, Nat.add_eq_left, Nat.add_zero, Nat.reduceEqDiff, reduceCtorEq, and_true, true_and, List.mem_nil_iff, List.not_mem_nil, wantV_tup, resC_nil, resC_some, retP_some, map_some', tupV_one, tupV_two, idOf_ref, idOf_nils, idOf_ptr, idOf_sl, idOf_pel, drop_nil, drop_cons, bin_mul, Bool.or_true, Bool.or_false, Bool.and_true, Bool.and_false, Bool.true_and, Bool.false_and, Bool.true_or, Bool.false_or]
    have hr : 0 ≤ op ∧ op < 31 := by
      by_cases h0 : 0 ≤ op ∧ op < 31
      · exact h0
      · exfalso
        have : nmM op = [] := by
          simp only [nmM]
          by_cases h1 : 0 ≤ op
          · have h2 : ¬ op < 31 := fun h2 => h0 ⟨h1, h2⟩
            simp [h2]
          · simp [h1]
        rw [this] at h; cases h
    obtain ⟨c, rfl⟩ : ∃ k : Nat, op = (k : Int) := ⟨op.toNat, by omega⟩
    have e : nmM (c : Int) = nmN c := by simp only [nmM, decide_eq_true hr.1, decide_eq_true hr.2, Bool.and_self, cond_true, Int.toNat_natCast]
    rw [e] at h ⊢
    have hc : 6 ≤ c := by
      refine Nat.le_of_not_lt fun hlt => ?_
      have := List.all_eq_true.1 nm_small c (by simp; omega)
      rw [this] at h; cases h
    obtain ⟨k1, k2⟩ := c23n hc (by omega)
    -- what other is
    have hoth : ((c : Int) == other) = true ∨ (!(nmN c == nmM other)) = true ∨ (((c : Int) == 14 || (c : Int) == 16) && (other == 14 || other == 16)) = true := by
      by_cases h0 : 0 ≤ other ∧ other < 31
      · obtain ⟨d, rfl⟩ : ∃ k : Nat, other = (k : Int) := ⟨other.toNat, by omega⟩
        have e2 : nmM (d : Int) = nmN d := by simp only [nmM, decide_eq_true h0.1, decide_eq_true h0.2, Bool.and_self, cond_true, Int.toNat_natCast]
        rw [e2]
        have := List.all_eq_true.1 (List.all_eq_true.1 nm_uni c (by simp; omega)) d (by simp; omega)
        rw [h] at this
        simp only [Bool.false_or, Bool.or_eq_true, beq_iff_eq] at this ⊢
        rcases this with (h1 | h1) | h1
        · left; omega
        · right; left; exact h1
        · right; right
          simp only [Bool.and_eq_true, Bool.or_eq_true, beq_iff_eq] at h1 ⊢
          omega
      · right; left
        have : nmM other = [] := by
          simp only [nmM]
          by_cases h1 : 0 ≤ other
          · have h2 : ¬ other < 31 := fun h2 => h0 ⟨h1, h2⟩
            simp [h2]
          · simp [h1]
        rw [this, h]; rfl
    have hj : ∀ (p : Int) s, p = ptsN c → f5j1 (fun r _ => r = .bool true) (.int .i64 c) (.int .i64 other) (.str (nmN c)) (.int .i64 p) (.str (nmM other)) s := by
      intro p s hp
      subst hp
      unfold f5j1
      cases h14 : ((c : Int) == 14) <;> cases h16 : ((c : Int) == 16) <;> cases o14 : (other == 14) <;> cases o16 : (other == 16)
      all_goals
        simp only [h14, h16, o14, o16, shiftP_ptr, shiftP_pel, Bnd_some, IfP_bool, Gd_some, ld_ptr, ld_pel, adv_h, adv_nx, set_nx, cond_true, cond_false, part_one, List.getElem?_cons_zero, List.getElem?_cons_succ, un_not, wantV_bool, pickV_bool, extr_tup, bin_lss, bin_leq, bin_gtr, bin_geq, bin_eql, bin_neq, bin_seql, bin_sneq, bin_add, bin_sub, Nat.reduceAdd, beq_self_eq_true, if_true, if_false, Bool.false_eq_true, Bool.not_true, Bool.not_false, show (false == true) = false from rfl, show (true == false) = false from rfl, Bnd_none, get_set, nx_drop, get_drop', adv_set, adv_two, adv_drop, set_set, Nat.add_assoc, Nat.add_left_cancel_iff, Nat.left_eq_add, Nat.add_eq_left, Nat.add_zero, Nat.reduceEqDiff, reduceCtorEq, and_true, true_and, List.mem_nil_iff, List.not_mem_nil, wantV_tup, resC_nil, resC_some, retP_some, map_some', tupV_one, tupV_two, idOf_ref, idOf_nils, idOf_ptr, idOf_sl, idOf_pel, drop_nil, drop_cons, bin_mul, Bool.or_true, Bool.or_false, Bool.and_true, Bool.and_false, Bool.true_and, Bool.false_and, Bool.true_or, Bool.false_or]
        refine callPu k1 (by simp [AV.closed]) ?_
        simp only [beq_self_eq_true, shiftP_ptr, shiftP_pel, Bnd_some, IfP_bool, Gd_some, ld_ptr, ld_pel, adv_h, adv_nx, set_nx, cond_true, cond_false, part_one, List.getElem?_cons_zero, List.getElem?_cons_succ, un_not, wantV_bool, pickV_bool, extr_tup, bin_lss, bin_leq, bin_gtr, bin_geq, bin_eql, bin_neq, bin_seql, bin_sneq, bin_add, bin_sub, Nat.reduceAdd, beq_self_eq_true, if_true, if_false, Bool.false_eq_true, Bool.not_true, Bool.not_false, show (false == true) = false from rfl, show (true == false) = false from rfl, Bnd_none, get_set, nx_drop, get_drop', adv_set, adv_two, adv_drop, set_set, Nat.add_assoc, Nat.add_left_cancel_iff, Nat.left_eq_add, Nat.add_eq_left, Nat.add_zero, Nat.reduceEqDiff, reduceCtorEq, and_true, true_and, List.mem_nil_iff, List.not_mem_nil, wantV_tup, resC_nil, resC_some, retP_some, map_some', tupV_one, tupV_two, idOf_ref, idOf_nils, idOf_ptr, idOf_sl, idOf_pel, drop_nil, drop_cons, bin_mul, Bool.or_true, Bool.or_false, Bool.and_true, Bool.and_false, Bool.true_and, Bool.false_and, Bool.true_or, Bool.false_or]
        refine callPu k2 (by simp [AV.closed]) ?_
        rw [h14, h16, o14, o16] at hoth
        cases hco : ((c : Int) == other) <;> cases hnn : (nmN c == nmM other) <;> simp only [hco, hnn, shiftP_ptr, shiftP_pel, Bnd_some, IfP_bool, Gd_some, ld_ptr, ld_pel, adv_h, adv_nx, set_nx, cond_true, cond_false, part_one, List.getElem?_cons_zero, List.getElem?_cons_succ, un_not, wantV_bool, pickV_bool, extr_tup, bin_lss, bin_leq, bin_gtr, bin_geq, bin_eql, bin_neq, bin_seql, bin_sneq, bin_add, bin_sub, Nat.reduceAdd, beq_self_eq_true, if_true, if_false, Bool.false_eq_true, Bool.not_true, Bool.not_false, show (false == true) = false from rfl, show (true == false) = false from rfl, Bnd_none, get_set, nx_drop, get_drop', adv_set, adv_two, adv_drop, set_set, Nat.add_assoc, Nat.add_left_cancel_iff, Nat.left_eq_add, Nat.add_eq_left, Nat.add_zero, Nat.reduceEqDiff, reduceCtorEq, and_true, true_and, List.mem_nil_iff, List.not_mem_nil, wantV_tup, resC_nil, resC_some, retP_some, map_some', tupV_one, tupV_two, idOf_ref, idOf_nils, idOf_ptr, idOf_sl, idOf_pel, drop_nil, drop_cons, bin_mul, Bool.or_true, Bool.or_false, Bool.and_true, Bool.and_false, Bool.true_and, Bool.false_and, Bool.true_or, Bool.false_or] <;> first | rfl | (rw [hco, hnn] at hoth; simp at hoth)
    cases h14 : ((c : Int) == 14) with
    | true =>
      simp only [h14, shiftP_ptr, shiftP_pel, Bnd_some, IfP_bool, Gd_some, ld_ptr, ld_pel, adv_h, adv_nx, set_nx, cond_true, cond_false, part_one, List.getElem?_cons_zero, List.getElem?_cons_succ, un_not, wantV_bool, pickV_bool, extr_tup, bin_lss, bin_leq, bin_gtr, bin_geq, bin_eql, bin_neq, bin_seql, bin_sneq, bin_add, bin_sub, Nat.reduceAdd, beq_self_eq_true, if_true, if_false, Bool.false_eq_true, Bool.not_true, Bool.not_false, show (false == true) = false from rfl, show (true == false) = false from rfl, Bnd_none, get_set, nx_drop, get_drop', adv_set, adv_two, adv_drop, set_set, Nat.add_assoc, Nat.add_left_cancel_iff, Nat.left_eq_add, Nat.add_eq_left, Nat.add_zero, Nat.reduceEqDiff, reduceCtorEq, and_true, true_and, List.mem_nil_iff, List.not_mem_nil, wantV_tup, resC_nil, resC_some, retP_some, map_some', tupV_one, tupV_two, idOf_ref, idOf_nils, idOf_ptr, idOf_sl, idOf_pel, drop_nil, drop_cons, bin_mul, Bool.or_true, Bool.or_false, Bool.and_true, Bool.and_false, Bool.true_and, Bool.false_and, Bool.true_or, Bool.false_or]
      exact hj 1 _ (by have : (c : Int) = 14 := by simpa using h14
                       simp [ptsN]; omega)
    | false =>
      simp only [h14, shiftP_ptr, shiftP_pel, Bnd_some, IfP_bool, Gd_some, ld_ptr, ld_pel, adv_h, adv_nx, set_nx, cond_true, cond_false, part_one, List.getElem?_cons_zero, List.getElem?_cons_succ, un_not, wantV_bool, pickV_bool, extr_tup, bin_lss, bin_leq, bin_gtr, bin_geq, bin_eql, bin_neq, bin_seql, bin_sneq, bin_add, bin_sub, Nat.reduceAdd, beq_self_eq_true, if_true, if_false, Bool.false_eq_true, Bool.not_true, Bool.not_false, show (false == true) = false from rfl, show (true == false) = false from rfl, Bnd_none, get_set, nx_drop, get_drop', adv_set, adv_two, adv_drop, set_set, Nat.add_assoc, Nat.add_left_cancel_iff, Nat.left_eq_add, Nat.add_eq_left, Nat.add_zero, Nat.reduceEqDiff, reduceCtorEq, and_true, true_and, List.mem_nil_iff, List.not_mem_nil, wantV_tup, resC_nil, resC_some, retP_some, map_some', tupV_one, tupV_two, idOf_ref, idOf_nils, idOf_ptr, idOf_sl, idOf_pel, drop_nil, drop_cons, bin_mul, Bool.or_true, Bool.or_false, Bool.and_true, Bool.and_false, Bool.true_and, Bool.false_and, Bool.true_or, Bool.false_or]
      exact hj 2 _ (by have : ¬ (c : Int) = 14 := by simpa using h14
                       simp [ptsN]; omega)
end Go.Proofs.YtdehdahimkcakaaGreatDoor
