/- 'show.text': what a text is told by. -/
import Derived.Test.YtdehdahimkcakaaGreatDoorLSw
import Derived.Test.YtdehdahimkcakaaGreatDoorCc
import Derived.Test.YtdehdahimkcakaaGreatDoorLt
set_option linter.unusedVariables false
set_option linter.unusedSimpArgs false
set_option maxRecDepth 100000
set_option maxHeartbeats 4000000
namespace Go.Proofs.YtdehdahimkcakaaGreatDoor
open Go Ai

/-- How many runs have no more than 1000 code points together. -/
def greedy : List (Int × Int) → Int → Nat
  | [], _ => 0
  | r :: l, n => cond (decide (IntKind.i64.wrap (n + r.2) ≤ 1000)) (greedy l (IntKind.i64.wrap (n + r.2)) + 1) 0
theorem greedy_le : ∀ (l : List (Int × Int)) (n : Int), greedy l n ≤ l.length := by
  intro l
  induction l with
  | nil => intro n; simp [greedy]
  | cons r l ih =>
    intro n
    simp only [greedy]
    have := ih (IntKind.i64.wrap (n + r.2))
    cases decide (IntKind.i64.wrap (n + r.2) ≤ 1000) <;> simp only [cond_true, cond_false, List.length_cons] <;> omega
theorem l61b (ex : Bool) (l : List (Int × Int)) (hl : l.length ≤ 2 ^ 40) (Q : AV → St → Prop) (ih1 : AV → AV → AV → St → Prop) (t2 t4 : AV) (s0 : St) :
    ∀ (m k : Nat) (n : Int) (c : Nat), k + m = l.length → (∀ c', f61j3 Q ih1 (.int .i64 ((k + greedy (l.drop k) n : Nat) : Int)) t4 (.sl ex (l.map rnA)) t2 (adv s0 c')) →
      f61l2 Q ih1 (m + 1) (.sl ex (l.map rnA)) t2 t4 (.int .i64 n) (.int .i64 k) (adv s0 c) := by
  intro m
  have h40 : (2 : Nat) ^ 40 = 1099511627776 := rfl
  induction m with
  | zero =>
    intro k n c hk hf
    show f61l2s Q ih1 (f61l2 Q ih1 0) _ _ _ _ _ _
    rw [List.drop_eq_nil_of_le (by omega)] at hf
    simp only [f61l2s, ln25s, List.length_map, Int.ofNat_lt, show ¬ (k < l.length) by omega, decide_false, shiftP_ptr, shiftP_pel, Bnd_some, IfP_bool, Gd_some, ld_ptr, ld_pel, adv_h, adv_nx, set_nx, cond_true, cond_false, part_one, List.getElem?_cons_zero, List.getElem?_cons_succ, un_not, wantV_bool, pickV_bool, extr_tup, bin_lss, bin_leq, bin_gtr, bin_geq, bin_eql, bin_neq, bin_seql, bin_sneq, bin_add, bin_sub, Nat.reduceAdd, beq_self_eq_true, if_true, if_false, Bool.false_eq_true, Bool.not_true, Bool.not_false, show (false == true) = false from rfl, show (true == false) = false from rfl, Bnd_none, get_set, nx_drop, get_drop', adv_set, adv_two, adv_drop, set_set, Nat.add_assoc, Nat.add_left_cancel_iff, Nat.left_eq_add, Nat.add_eq_left, Nat.add_zero, Nat.reduceEqDiff, reduceCtorEq, and_true, true_and, List.mem_nil_iff, List.not_mem_nil, wantV_tup, resC_nil, resC_some, retP_some, map_some', tupV_one, tupV_two, idOf_ref, idOf_nils, idOf_ptr, idOf_sl, idOf_pel, drop_nil, drop_cons, bin_mul, Bool.or_true, Bool.or_false, Bool.and_true, Bool.and_false, Bool.true_and, Bool.false_and, Bool.true_or, Bool.false_or]
    exact hf _
  | succ m ih =>
    intro k n c hk hf
    show f61l2s Q ih1 (f61l2 Q ih1 (m + 1)) _ _ _ _ _ _
    obtain ⟨r, hr⟩ : ∃ r, l[k]? = some r := ⟨_, List.getElem?_eq_getElem (by omega)⟩
    have hlt : k < l.length := by omega
    rw [get_drop l k r hr, greedy] at hf
    have h1 : (rnA r).cells[1]? = some (.int .i64 r.2) := rfl
    simp only [f61l2s, ln25s, List.length_map, Int.ofNat_lt, hlt, decide_true, ix_map encRn ex hr, h1, shiftP_ptr, shiftP_pel, Bnd_some, IfP_bool, Gd_some, ld_ptr, ld_pel, adv_h, adv_nx, set_nx, cond_true, cond_false, part_one, List.getElem?_cons_zero, List.getElem?_cons_succ, un_not, wantV_bool, pickV_bool, extr_tup, bin_lss, bin_leq, bin_gtr, bin_geq, bin_eql, bin_neq, bin_seql, bin_sneq, bin_add, bin_sub, Nat.reduceAdd, beq_self_eq_true, if_true, if_false, Bool.false_eq_true, Bool.not_true, Bool.not_false, show (false == true) = false from rfl, show (true == false) = false from rfl, Bnd_none, get_set, nx_drop, get_drop', adv_set, adv_two, adv_drop, set_set, Nat.add_assoc, Nat.add_left_cancel_iff, Nat.left_eq_add, Nat.add_eq_left, Nat.add_zero, Nat.reduceEqDiff, reduceCtorEq, and_true, true_and, List.mem_nil_iff, List.not_mem_nil, wantV_tup, resC_nil, resC_some, retP_some, map_some', tupV_one, tupV_two, idOf_ref, idOf_nils, idOf_ptr, idOf_sl, idOf_pel, drop_nil, drop_cons, bin_mul, Bool.or_true, Bool.or_false, Bool.and_true, Bool.and_false, Bool.true_and, Bool.false_and, Bool.true_or, Bool.false_or]
    cases h : decide (IntKind.i64.wrap (n + r.2) ≤ 1000) with
    | true =>
      rw [h] at hf
      simp only [h, ix_map encRn ex hr, h1, shiftP_ptr, shiftP_pel, Bnd_some, IfP_bool, Gd_some, ld_ptr, ld_pel, adv_h, adv_nx, set_nx, cond_true, cond_false, part_one, List.getElem?_cons_zero, List.getElem?_cons_succ, un_not, wantV_bool, pickV_bool, extr_tup, bin_lss, bin_leq, bin_gtr, bin_geq, bin_eql, bin_neq, bin_seql, bin_sneq, bin_add, bin_sub, Nat.reduceAdd, beq_self_eq_true, if_true, if_false, Bool.false_eq_true, Bool.not_true, Bool.not_false, show (false == true) = false from rfl, show (true == false) = false from rfl, Bnd_none, get_set, nx_drop, get_drop', adv_set, adv_two, adv_drop, set_set, Nat.add_assoc, Nat.add_left_cancel_iff, Nat.left_eq_add, Nat.add_eq_left, Nat.add_zero, Nat.reduceEqDiff, reduceCtorEq, and_true, true_and, List.mem_nil_iff, List.not_mem_nil, wantV_tup, resC_nil, resC_some, retP_some, map_some', tupV_one, tupV_two, idOf_ref, idOf_nils, idOf_ptr, idOf_sl, idOf_pel, drop_nil, drop_cons, bin_mul, Bool.or_true, Bool.or_false, Bool.and_true, Bool.and_false, Bool.true_and, Bool.false_and, Bool.true_or, Bool.false_or]
      rw [wrap_len k _ hlt (by have : maxLen = 9223372036854775807 := rfl; omega)]
      refine ih (k + 1) _ _ (by omega) fun c' => ?_
      have := hf c'
      simp only [cond_true] at this
      rw [show k + 1 + greedy (l.drop (k + 1)) (IntKind.i64.wrap (n + r.2)) = k + (greedy (l.drop (k + 1)) (IntKind.i64.wrap (n + r.2)) + 1) by omega]
      exact this
    | false =>
      rw [h] at hf
      simp only [h, shiftP_ptr, shiftP_pel, Bnd_some, IfP_bool, Gd_some, ld_ptr, ld_pel, adv_h, adv_nx, set_nx, cond_true, cond_false, part_one, List.getElem?_cons_zero, List.getElem?_cons_succ, un_not, wantV_bool, pickV_bool, extr_tup, bin_lss, bin_leq, bin_gtr, bin_geq, bin_eql, bin_neq, bin_seql, bin_sneq, bin_add, bin_sub, Nat.reduceAdd, beq_self_eq_true, if_true, if_false, Bool.false_eq_true, Bool.not_true, Bool.not_false, show (false == true) = false from rfl, show (true == false) = false from rfl, Bnd_none, get_set, nx_drop, get_drop', adv_set, adv_two, adv_drop, set_set, Nat.add_assoc, Nat.add_left_cancel_iff, Nat.left_eq_add, Nat.add_eq_left, Nat.add_zero, Nat.reduceEqDiff, reduceCtorEq, and_true, true_and, List.mem_nil_iff, List.not_mem_nil, wantV_tup, resC_nil, resC_some, retP_some, map_some', tupV_one, tupV_two, idOf_ref, idOf_nils, idOf_ptr, idOf_sl, idOf_pel, drop_nil, drop_cons, bin_mul, Bool.or_true, Bool.or_false, Bool.and_true, Bool.and_false, Bool.true_and, Bool.false_and, Bool.true_or, Bool.false_or]
      exact hf _
/-- The pieces. -/
def txtGo (LT : List (Int × Int) → Sx) (LG : Int × Int → Sx) : Nat → List (Int × Int) → List Sx
  | 0, _ => []
  | n + 1, l => match l with
    | [] => []
    | r :: t => cond (greedy (r :: t) 0 == 0) (LG r :: txtGo LT LG n t) (LT ((r :: t).take (greedy (r :: t) 0)) :: txtGo LT LG n ((r :: t).drop (greedy (r :: t) 0)))
section
variable (LT : List (Int × Int) → Sx) (LG : Int × Int → Sx) (Q : AV → St → Prop)
theorem l61a (ok : Int × Int → Bool) (hL : ∀ (l : List (Int × Int)), (∀ r ∈ l, ok r = true) → greedy l 0 ≠ 0 → PureC Tryz.env 115 [.sl false ((l.take (greedy l 0)).map rnA)] (.tup [(LT (l.take (greedy l 0))).av, .int .i64 0]))
    (hG : ∀ r, ok r = true → ¬ (IntKind.i64.wrap (0 + r.2) ≤ 1000) → PureC Tryz.env 114 [rnA r] (LG r).av) (t2 : AV) (N : Nat) (hN : N ≤ 2 ^ 24) (ps : List Sx) (B : Blk) (n2 : Nat) (ht2 : t2 = .ptr n2 0)
    (hQ : ∀ x s, Fresh s → Gw 33 6 0 s x (ps.map Sx.av) → s.h n2 = some B → (∀ j ∈ idOf x, j ≠ n2) → n2 < s.nx → f61j1 Q x t2 s) :
    ∀ (m : Nat) (ex : Bool) (l : List (Int × Int)) (x : AV) (p : List Sx) (s : St), l.length ≤ m → p.length + l.length ≤ N → (∀ r ∈ l, ok r = true) → Fresh s → Gw 33 6 0 s x (p.map Sx.av) → s.h n2 = some B → (∀ j ∈ idOf x, j ≠ n2) → n2 < s.nx → ps = p ++ txtGo LT LG m l →
      f61l1 Q (m + 1) (.sl ex (l.map rnA)) t2 x s := by
  intro m
  have h24 : (2 : Nat) ^ 24 = 16777216 := rfl
  induction m with
  | zero =>
    intro ex l x p s hm hpl hok fr g h2 hd hn2 hps
    show f61l1s Q (f61l1 Q 0) _ _ _ _
    have : l = [] := List.length_eq_zero_iff.1 (by omega)
    subst this
    simp only [txtGo, List.append_nil] at hps
    subst hps
    simp only [f61l1s, ln25s, List.map_nil, List.length_nil, show decide (((0 : Nat) : Int) > 0) = false from rfl, shiftP_ptr, shiftP_pel, Bnd_some, IfP_bool, Gd_some, ld_ptr, ld_pel, adv_h, adv_nx, set_nx, cond_true, cond_false, part_one, List.getElem?_cons_zero, List.getElem?_cons_succ, un_not, wantV_bool, pickV_bool, extr_tup, bin_lss, bin_leq, bin_gtr, bin_geq, bin_eql, bin_neq, bin_seql, bin_sneq, bin_add, bin_sub, Nat.reduceAdd, beq_self_eq_true, if_true, if_false, Bool.false_eq_true, Bool.not_true, Bool.not_false, show (false == true) = false from rfl, show (true == false) = false from rfl, Bnd_none, get_set, nx_drop, get_drop', adv_set, adv_two, adv_drop, set_set, Nat.add_assoc, Nat.add_left_cancel_iff, Nat.left_eq_add, Nat.add_eq_left, Nat.add_zero, Nat.reduceEqDiff, reduceCtorEq, and_true, true_and, List.mem_nil_iff, List.not_mem_nil, wantV_tup, resC_nil, resC_some, retP_some, map_some', tupV_one, tupV_two, idOf_ref, idOf_nils, idOf_ptr, idOf_sl, idOf_pel, drop_nil, drop_cons, bin_mul, Bool.or_true, Bool.or_false, Bool.and_true, Bool.and_false, Bool.true_and, Bool.false_and, Bool.true_or, Bool.false_or]
    exact hQ _ _ fr.adv g.adv (by simpa [adv_h] using h2) hd (by simp only [adv_nx]; omega)
  | succ m ih =>
    intro ex l x p s hm hpl hok fr g h2 hd hn2 hps
    show f61l1s Q (f61l1 Q (m + 1)) _ _ _ _
    cases l with
    | nil =>
      simp only [txtGo, List.append_nil] at hps
      subst hps
      simp only [f61l1s, ln25s, List.map_nil, List.length_nil, show decide (((0 : Nat) : Int) > 0) = false from rfl, shiftP_ptr, shiftP_pel, Bnd_some, IfP_bool, Gd_some, ld_ptr, ld_pel, adv_h, adv_nx, set_nx, cond_true, cond_false, part_one, List.getElem?_cons_zero, List.getElem?_cons_succ, un_not, wantV_bool, pickV_bool, extr_tup, bin_lss, bin_leq, bin_gtr, bin_geq, bin_eql, bin_neq, bin_seql, bin_sneq, bin_add, bin_sub, Nat.reduceAdd, beq_self_eq_true, if_true, if_false, Bool.false_eq_true, Bool.not_true, Bool.not_false, show (false == true) = false from rfl, show (true == false) = false from rfl, Bnd_none, get_set, nx_drop, get_drop', adv_set, adv_two, adv_drop, set_set, Nat.add_assoc, Nat.add_left_cancel_iff, Nat.left_eq_add, Nat.add_eq_left, Nat.add_zero, Nat.reduceEqDiff, reduceCtorEq, and_true, true_and, List.mem_nil_iff, List.not_mem_nil, wantV_tup, resC_nil, resC_some, retP_some, map_some', tupV_one, tupV_two, idOf_ref, idOf_nils, idOf_ptr, idOf_sl, idOf_pel, drop_nil, drop_cons, bin_mul, Bool.or_true, Bool.or_false, Bool.and_true, Bool.and_false, Bool.true_and, Bool.false_and, Bool.true_or, Bool.false_or]
      exact hQ _ _ fr.adv g.adv (by simpa [adv_h] using h2) hd (by simp only [adv_nx]; omega)
    | cons r t =>
      have hpos : decide ((((r :: t).map rnA).length : Int) > 0) = true := by simp
      simp only [f61l1s, ln25s, hpos, shiftP_ptr, shiftP_pel, Bnd_some, IfP_bool, Gd_some, ld_ptr, ld_pel, adv_h, adv_nx, set_nx, cond_true, cond_false, part_one, List.getElem?_cons_zero, List.getElem?_cons_succ, un_not, wantV_bool, pickV_bool, extr_tup, bin_lss, bin_leq, bin_gtr, bin_geq, bin_eql, bin_neq, bin_seql, bin_sneq, bin_add, bin_sub, Nat.reduceAdd, beq_self_eq_true, if_true, if_false, Bool.false_eq_true, Bool.not_true, Bool.not_false, show (false == true) = false from rfl, show (true == false) = false from rfl, Bnd_none, get_set, nx_drop, get_drop', adv_set, adv_two, adv_drop, set_set, Nat.add_assoc, Nat.add_left_cancel_iff, Nat.left_eq_add, Nat.add_eq_left, Nat.add_zero, Nat.reduceEqDiff, reduceCtorEq, and_true, true_and, List.mem_nil_iff, List.not_mem_nil, wantV_tup, resC_nil, resC_some, retP_some, map_some', tupV_one, tupV_two, idOf_ref, idOf_nils, idOf_ptr, idOf_sl, idOf_pel, drop_nil, drop_cons, bin_mul, Bool.or_true, Bool.or_false, Bool.and_true, Bool.and_false, Bool.true_and, Bool.false_and, Bool.true_or, Bool.false_or]
      refine ⟨(r :: t).length + 1, l61b ex (r :: t) (by omega) Q _ t2 x s (r :: t).length 0 0 _ (by omega) fun c' => ?_⟩
      rw [Nat.zero_add, List.drop_zero]
      simp only [List.length_cons] at hm hpl
      have b31 : ∀ v : Sx, bsl 31 1 [(0, v.av)] = some (.sl true [v.av]) := fun v => bsl_one tf31 (by decide) (sx_len v) (sx_ones v)
      have hle := greedy_le (r :: t) 0
      unfold f61j3
      by_cases h0 : greedy (r :: t) 0 = 0
      · have hnw : ¬ (IntKind.i64.wrap (0 + r.2) ≤ 1000) := fun hc => by
          simp only [greedy, decide_eq_true hc, cond_true] at h0; omega
        have hix : ixS 2 (.sl ex ((r :: t).map rnA)) (.int .i64 0) = some (.pel (rnA r).cells 0) := ix_map encRn ex (l := r :: t) (i := 0) rfl .i64
        have hs1 : ∀ s, slc 25 (.sl ex ((r :: t).map rnA)) (some (.int .i64 1)) none none s = some (.sl ex (t.map rnA)) := fun s => slc_drop tf25 encRn.len ex (r :: t) (k := 1) (by simp) .i64
        simp only [h0, shiftP_ptr, shiftP_pel, Bnd_some, IfP_bool, Gd_some, ld_ptr, ld_pel, adv_h, adv_nx, set_nx, cond_true, cond_false, part_one, List.getElem?_cons_zero, List.getElem?_cons_succ, un_not, wantV_bool, pickV_bool, extr_tup, bin_lss, bin_leq, bin_gtr, bin_geq, bin_eql, bin_neq, bin_seql, bin_sneq, bin_add, bin_sub, Nat.reduceAdd, beq_self_eq_true, if_true, if_false, Bool.false_eq_true, Bool.not_true, Bool.not_false, show (false == true) = false from rfl, show (true == false) = false from rfl, Bnd_none, get_set, nx_drop, get_drop', adv_set, adv_two, adv_drop, set_set, Nat.add_assoc, Nat.add_left_cancel_iff, Nat.left_eq_add, Nat.add_eq_left, Nat.add_zero, Nat.reduceEqDiff, reduceCtorEq, and_true, true_and, List.mem_nil_iff, List.not_mem_nil, wantV_tup, resC_nil, resC_some, retP_some, map_some', tupV_one, tupV_two, idOf_ref, idOf_nils, idOf_ptr, idOf_sl, idOf_pel, drop_nil, drop_cons, bin_mul, Bool.or_true, Bool.or_false, Bool.and_true, Bool.and_false, Bool.true_and, Bool.false_and, Bool.true_or, Bool.false_or, show (((0 : Nat) : Int) == 0) = true from rfl, hix, rn_part]
        refine callPuD (hG r (hok r (List.mem_cons_self ..)) hnw) (by simp [rnA, AV.closed, closedL]) ?_
        simp only [b31, shiftP_ptr, shiftP_pel, Bnd_some, IfP_bool, Gd_some, ld_ptr, ld_pel, adv_h, adv_nx, set_nx, cond_true, cond_false, part_one, List.getElem?_cons_zero, List.getElem?_cons_succ, un_not, wantV_bool, pickV_bool, extr_tup, bin_lss, bin_leq, bin_gtr, bin_geq, bin_eql, bin_neq, bin_seql, bin_sneq, bin_add, bin_sub, Nat.reduceAdd, beq_self_eq_true, if_true, if_false, Bool.false_eq_true, Bool.not_true, Bool.not_false, show (false == true) = false from rfl, show (true == false) = false from rfl, Bnd_none, get_set, nx_drop, get_drop', adv_set, adv_two, adv_drop, set_set, Nat.add_assoc, Nat.add_left_cancel_iff, Nat.left_eq_add, Nat.add_eq_left, Nat.add_zero, Nat.reduceEqDiff, reduceCtorEq, and_true, true_and, List.mem_nil_iff, List.not_mem_nil, wantV_tup, resC_nil, resC_some, retP_some, map_some', tupV_one, tupV_two, idOf_ref, idOf_nils, idOf_ptr, idOf_sl, idOf_pel, drop_nil, drop_cons, bin_mul, Bool.or_true, Bool.or_false, Bool.and_true, Bool.and_false, Bool.true_and, Bool.false_and, Bool.true_or, Bool.false_or]
        refine ⟨fr _ (by omega), ?_⟩
        rw [app_map tf31 encSx g.adv (by omega) (by omega)]
        simp only [hs1, shiftP_ptr, shiftP_pel, Bnd_some, IfP_bool, Gd_some, ld_ptr, ld_pel, adv_h, adv_nx, set_nx, cond_true, cond_false, part_one, List.getElem?_cons_zero, List.getElem?_cons_succ, un_not, wantV_bool, pickV_bool, extr_tup, bin_lss, bin_leq, bin_gtr, bin_geq, bin_eql, bin_neq, bin_seql, bin_sneq, bin_add, bin_sub, Nat.reduceAdd, beq_self_eq_true, if_true, if_false, Bool.false_eq_true, Bool.not_true, Bool.not_false, show (false == true) = false from rfl, show (true == false) = false from rfl, Bnd_none, get_set, nx_drop, get_drop', adv_set, adv_two, adv_drop, set_set, Nat.add_assoc, Nat.add_left_cancel_iff, Nat.left_eq_add, Nat.add_eq_left, Nat.add_zero, Nat.reduceEqDiff, reduceCtorEq, and_true, true_and, List.mem_nil_iff, List.not_mem_nil, wantV_tup, resC_nil, resC_some, retP_some, map_some', tupV_one, tupV_two, idOf_ref, idOf_nils, idOf_ptr, idOf_sl, idOf_pel, drop_nil, drop_cons, bin_mul, Bool.or_true, Bool.or_false, Bool.and_true, Bool.and_false, Bool.true_and, Bool.false_and, Bool.true_or, Bool.false_or]
        refine ⟨by simp only [clear, List.all_cons, List.all_nil, Mark.apart, okLo, disj_nil, bit_of, Nat.reduceShiftRight, Nat.reduceMod, Bool.not_true, Bool.not_false, Option.isNone_none, Option.isNone_some, decide_true, decide_false, Nat.reduceEqDiff, Nat.zero_ne_one, shiftP_ptr, shiftP_pel, Bnd_some, IfP_bool, Gd_some, ld_ptr, ld_pel, adv_h, adv_nx, set_nx, cond_true, cond_false, part_one, List.getElem?_cons_zero, List.getElem?_cons_succ, un_not, wantV_bool, pickV_bool, extr_tup, bin_lss, bin_leq, bin_gtr, bin_geq, bin_eql, bin_neq, bin_seql, bin_sneq, bin_add, bin_sub, Nat.reduceAdd, beq_self_eq_true, if_true, if_false, Bool.false_eq_true, Bool.not_true, Bool.not_false, show (false == true) = false from rfl, show (true == false) = false from rfl, Bnd_none, get_set, nx_drop, get_drop', adv_set, adv_two, adv_drop, set_set, Nat.add_assoc, Nat.add_left_cancel_iff, Nat.left_eq_add, Nat.add_eq_left, Nat.add_zero, Nat.reduceEqDiff, reduceCtorEq, and_true, true_and, List.mem_nil_iff, List.not_mem_nil, wantV_tup, resC_nil, resC_some, retP_some, map_some', tupV_one, tupV_two, idOf_ref, idOf_nils, idOf_ptr, idOf_sl, idOf_pel, drop_nil, drop_cons, bin_mul, Bool.or_true, Bool.or_false, Bool.and_true, Bool.and_false, Bool.true_and, Bool.false_and, Bool.true_or, Bool.false_or], ?_⟩
        simp only [txtGo, h0, beq_self_eq_true, cond_true] at hps
        refine ih ex t _ (p ++ [LG r]) _ (by omega) (by simp; omega) (fun r hr => hok r (List.mem_cons_of_mem _ hr)) (fresh_app fr _ _ (by omega)) (gw_map1 encSx) ?_ ?_ ?_ (by rw [hps]; simp)
        · rw [adv_h, st_other (by omega), get_drop', if_neg (fun hh => hd _ hh rfl)]; exact h2
        · intro j hj; simp only [idOf, List.mem_cons, List.mem_nil_iff, or_false] at hj; omega
        · simp only [adv_nx, set_nx, nx_drop]; omega
      · generalize hk : greedy (r :: t) 0 = k at *
        have hne : ((k : Int) == 0) = false := by simp; omega
        have hs1 : ∀ s, slc 25 (.sl ex ((r :: t).map rnA)) none (some (.int .i64 k)) none s = some (.sl (ex && k == (r :: t).length) (((r :: t).take k).map rnA)) := fun s => slc_take tf25 encRn.len ex (r :: t) hle .i64
        have hs2 : ∀ s, slc 25 (.sl ex ((r :: t).map rnA)) (some (.int .i64 k)) none none s = some (.sl ex (((r :: t).drop k).map rnA)) := fun s => slc_drop tf25 encRn.len ex (r :: t) hle .i64
        simp only [hne, shiftP_ptr, shiftP_pel, Bnd_some, IfP_bool, Gd_some, ld_ptr, ld_pel, adv_h, adv_nx, set_nx, cond_true, cond_false, part_one, List.getElem?_cons_zero, List.getElem?_cons_succ, un_not, wantV_bool, pickV_bool, extr_tup, bin_lss, bin_leq, bin_gtr, bin_geq, bin_eql, bin_neq, bin_seql, bin_sneq, bin_add, bin_sub, Nat.reduceAdd, beq_self_eq_true, if_true, if_false, Bool.false_eq_true, Bool.not_true, Bool.not_false, show (false == true) = false from rfl, show (true == false) = false from rfl, Bnd_none, get_set, nx_drop, get_drop', adv_set, adv_two, adv_drop, set_set, Nat.add_assoc, Nat.add_left_cancel_iff, Nat.left_eq_add, Nat.add_eq_left, Nat.add_zero, Nat.reduceEqDiff, reduceCtorEq, and_true, true_and, List.mem_nil_iff, List.not_mem_nil, wantV_tup, resC_nil, resC_some, retP_some, map_some', tupV_one, tupV_two, idOf_ref, idOf_nils, idOf_ptr, idOf_sl, idOf_pel, drop_nil, drop_cons, bin_mul, Bool.or_true, Bool.or_false, Bool.and_true, Bool.and_false, Bool.true_and, Bool.false_and, Bool.true_or, Bool.false_or, hs1]
        have hcall := hL (r :: t) hok (by rw [hk]; exact h0)
        rw [hk] at hcall
        refine callPur (args2 := [.sl false (((r :: t).take k).map rnA)]) (ids := []) ?_ hcall ?_
        · obtain ⟨ids, e1, e2⟩ := pur_sl (s := Ai.adv s (c' + 12)) (ex := (ex && k == (r :: t).length)) (k := 11) (closedL_map' rnA ((r :: t).take k) fun _ _ => rfl)
          subst e2
          simp only [purL, e1, List.append_nil]
        · simp only [List.isEmpty_nil, Bool.true_or, if_true, zf33, shiftP_ptr, shiftP_pel, Bnd_some, IfP_bool, Gd_some, ld_ptr, ld_pel, adv_h, adv_nx, set_nx, cond_true, cond_false, part_one, List.getElem?_cons_zero, List.getElem?_cons_succ, un_not, wantV_bool, pickV_bool, extr_tup, bin_lss, bin_leq, bin_gtr, bin_geq, bin_eql, bin_neq, bin_seql, bin_sneq, bin_add, bin_sub, Nat.reduceAdd, beq_self_eq_true, if_true, if_false, Bool.false_eq_true, Bool.not_true, Bool.not_false, show (false == true) = false from rfl, show (true == false) = false from rfl, Bnd_none, get_set, nx_drop, get_drop', adv_set, adv_two, adv_drop, set_set, Nat.add_assoc, Nat.add_left_cancel_iff, Nat.left_eq_add, Nat.add_eq_left, Nat.add_zero, Nat.reduceEqDiff, reduceCtorEq, and_true, true_and, List.mem_nil_iff, List.not_mem_nil, wantV_tup, resC_nil, resC_some, retP_some, map_some', tupV_one, tupV_two, idOf_ref, idOf_nils, idOf_ptr, idOf_sl, idOf_pel, drop_nil, drop_cons, bin_mul, Bool.or_true, Bool.or_false, Bool.and_true, Bool.and_false, Bool.true_and, Bool.false_and, Bool.true_or, Bool.false_or]
          have hst' : ∀ (v : Sx) (q : St) (i n : Nat), sto 6 (.ptr i 0) v.av (Ai.adv (q.set i (some (.cells (AV.agg [.bool false, .int .i64 0, .str [], .int .i64 0, .int .i64 0, .nils]).cells 33 true true))) n) = some (Ai.adv (q.set i (some (.cells v.av.cells 33 true true))) n) := fun v q i n => by
            rw [sto_all (z := 6) (by rw [adv_h, st_same]) rfl (sx_len v) (sx_ones v), adv_set, set_set]
          simp only [hst', shiftP_ptr, shiftP_pel, Bnd_some, IfP_bool, Gd_some, ld_ptr, ld_pel, adv_h, adv_nx, set_nx, cond_true, cond_false, part_one, List.getElem?_cons_zero, List.getElem?_cons_succ, un_not, wantV_bool, pickV_bool, extr_tup, bin_lss, bin_leq, bin_gtr, bin_geq, bin_eql, bin_neq, bin_seql, bin_sneq, bin_add, bin_sub, Nat.reduceAdd, beq_self_eq_true, if_true, if_false, Bool.false_eq_true, Bool.not_true, Bool.not_false, show (false == true) = false from rfl, show (true == false) = false from rfl, Bnd_none, get_set, nx_drop, get_drop', adv_set, adv_two, adv_drop, set_set, Nat.add_assoc, Nat.add_left_cancel_iff, Nat.left_eq_add, Nat.add_eq_left, Nat.add_zero, Nat.reduceEqDiff, reduceCtorEq, and_true, true_and, List.mem_nil_iff, List.not_mem_nil, wantV_tup, resC_nil, resC_some, retP_some, map_some', tupV_one, tupV_two, idOf_ref, idOf_nils, idOf_ptr, idOf_sl, idOf_pel, drop_nil, drop_cons, bin_mul, Bool.or_true, Bool.or_false, Bool.and_true, Bool.and_false, Bool.true_and, Bool.false_and, Bool.true_or, Bool.false_or, ld_ptr, sx_part, b31]
          have e33 : s.h (s.nx + (c' + 9)) = none := fr _ (by omega)
          have gg : Gw 33 6 0 (Ai.adv (s.set (s.nx + (c' + 9)) (some (.cells (LT ((r :: t).take k)).av.cells 33 true true))) (c' + 21)) x (p.map Sx.av) := by
            refine g.keep fun j hj => ?_
            have := g.id_lt fr j hj
            rw [adv_h, st_other (by omega)]
          refine ⟨fr _ (by omega), ?_⟩
          rw [app_map tf31 encSx gg (by omega) (by omega)]
          simp only [shiftP_ptr, shiftP_pel, Bnd_some, IfP_bool, Gd_some, ld_ptr, ld_pel, adv_h, adv_nx, set_nx, cond_true, cond_false, part_one, List.getElem?_cons_zero, List.getElem?_cons_succ, un_not, wantV_bool, pickV_bool, extr_tup, bin_lss, bin_leq, bin_gtr, bin_geq, bin_eql, bin_neq, bin_seql, bin_sneq, bin_add, bin_sub, Nat.reduceAdd, beq_self_eq_true, if_true, if_false, Bool.false_eq_true, Bool.not_true, Bool.not_false, show (false == true) = false from rfl, show (true == false) = false from rfl, Bnd_none, get_set, nx_drop, get_drop', adv_set, adv_two, adv_drop, set_set, Nat.add_assoc, Nat.add_left_cancel_iff, Nat.left_eq_add, Nat.add_eq_left, Nat.add_zero, Nat.reduceEqDiff, reduceCtorEq, and_true, true_and, List.mem_nil_iff, List.not_mem_nil, wantV_tup, resC_nil, resC_some, retP_some, map_some', tupV_one, tupV_two, idOf_ref, idOf_nils, idOf_ptr, idOf_sl, idOf_pel, drop_nil, drop_cons, bin_mul, Bool.or_true, Bool.or_false, Bool.and_true, Bool.and_false, Bool.true_and, Bool.false_and, Bool.true_or, Bool.false_or]
          refine ⟨by simp only [clear, List.all_cons, List.all_nil, Mark.apart, okLo, disj_nil, bit_of, Nat.reduceShiftRight, Nat.reduceMod, Bool.not_true, Bool.not_false, Option.isNone_none, Option.isNone_some, decide_true, decide_false, Nat.reduceEqDiff, Nat.zero_ne_one, shiftP_ptr, shiftP_pel, Bnd_some, IfP_bool, Gd_some, ld_ptr, ld_pel, adv_h, adv_nx, set_nx, cond_true, cond_false, part_one, List.getElem?_cons_zero, List.getElem?_cons_succ, un_not, wantV_bool, pickV_bool, extr_tup, bin_lss, bin_leq, bin_gtr, bin_geq, bin_eql, bin_neq, bin_seql, bin_sneq, bin_add, bin_sub, Nat.reduceAdd, beq_self_eq_true, if_true, if_false, Bool.false_eq_true, Bool.not_true, Bool.not_false, show (false == true) = false from rfl, show (true == false) = false from rfl, Bnd_none, get_set, nx_drop, get_drop', adv_set, adv_two, adv_drop, set_set, Nat.add_assoc, Nat.add_left_cancel_iff, Nat.left_eq_add, Nat.add_eq_left, Nat.add_zero, Nat.reduceEqDiff, reduceCtorEq, and_true, true_and, List.mem_nil_iff, List.not_mem_nil, wantV_tup, resC_nil, resC_some, retP_some, map_some', tupV_one, tupV_two, idOf_ref, idOf_nils, idOf_ptr, idOf_sl, idOf_pel, drop_nil, drop_cons, bin_mul, Bool.or_true, Bool.or_false, Bool.and_true, Bool.and_false, Bool.true_and, Bool.false_and, Bool.true_or, Bool.false_or], ?_⟩
          simp only [hs2, shiftP_ptr, shiftP_pel, Bnd_some, IfP_bool, Gd_some, ld_ptr, ld_pel, adv_h, adv_nx, set_nx, cond_true, cond_false, part_one, List.getElem?_cons_zero, List.getElem?_cons_succ, un_not, wantV_bool, pickV_bool, extr_tup, bin_lss, bin_leq, bin_gtr, bin_geq, bin_eql, bin_neq, bin_seql, bin_sneq, bin_add, bin_sub, Nat.reduceAdd, beq_self_eq_true, if_true, if_false, Bool.false_eq_true, Bool.not_true, Bool.not_false, show (false == true) = false from rfl, show (true == false) = false from rfl, Bnd_none, get_set, nx_drop, get_drop', adv_set, adv_two, adv_drop, set_set, Nat.add_assoc, Nat.add_left_cancel_iff, Nat.left_eq_add, Nat.add_eq_left, Nat.add_zero, Nat.reduceEqDiff, reduceCtorEq, and_true, true_and, List.mem_nil_iff, List.not_mem_nil, wantV_tup, resC_nil, resC_some, retP_some, map_some', tupV_one, tupV_two, idOf_ref, idOf_nils, idOf_ptr, idOf_sl, idOf_pel, drop_nil, drop_cons, bin_mul, Bool.or_true, Bool.or_false, Bool.and_true, Bool.and_false, Bool.true_and, Bool.false_and, Bool.true_or, Bool.false_or]
          have hf : (k == 0) = false := by simpa using h0
          simp only [txtGo, hk, hf, cond_false] at hps
          refine ih ex _ _ (p ++ [LT ((r :: t).take k)]) _ (by simp; omega) (by simp; omega) (fun r hr => hok r (List.mem_of_mem_drop hr)) ?_ (gw_map1 encSx) ?_ ?_ ?_ (by rw [hps]; simp)
          · rw [← adv_set]
            refine Fresh.set ?_ (by simp only [adv_nx, nx_drop, set_nx]; omega)
            rw [← adv_drop]
            exact fresh_drop (fresh_set fr _ (by omega)) _
          · rw [adv_h, st_other (by omega), get_drop', if_neg (fun hh => hd _ hh rfl), st_other (by omega)]; exact h2
          · intro j hj; simp only [idOf, List.mem_cons, List.mem_nil_iff, or_false] at hj; omega
          · simp only [adv_nx, set_nx, nx_drop]; omega
end
/-! ### How great an s-expression is, as show counts -/
mutual
def Sx.siz : Sx → Int
  | .mk _ _ _ _ _ items => Sx.sizs items 1
def Sx.sizs : List Sx → Int → Int
  | [], n => n
  | s :: l, n => Sx.sizs l (IntKind.i64.wrap (n + s.siz))
end
theorem sto_sx (v : Sx) (q : St) (i n : Nat) : sto 6 (.ptr i 0) v.av (Ai.adv (q.set i (some (.cells (AV.agg [.bool false, .int .i64 0, .str [], .int .i64 0, .int .i64 0, .nils]).cells 33 true true))) n) = some (Ai.adv (q.set i (some (.cells v.av.cells 33 true true))) n) := by
  rw [sto_all (z := 6) (by rw [adv_h, st_same]) rfl (sx_len v) (sx_ones v), adv_set, set_set]
theorem sto_sx0 (v : Sx) (q : St) (i : Nat) : sto 6 (.ptr i 0) v.av (q.set i (some (.cells (AV.agg [.bool false, .int .i64 0, .str [], .int .i64 0, .int .i64 0, .nils]).cells 33 true true))) = some (q.set i (some (.cells v.av.cells 33 true true))) := by
  rw [sto_all (z := 6) st_same rfl (sx_len v) (sx_ones v), set_set]
theorem l116 (items : List Sx) (hlen : items.length ≤ maxLen) (ih0 : ∀ s ∈ items, PureC Tryz.env 116 [s.av] (.int .i64 s.siz)) (Q : AV → St → Prop) (r : Int) (hQ : ∀ s, Q (.int .i64 r) s) :
    ∀ (m i : Nat) (n : Int) (s : St), i + m = items.length → r = Sx.sizs (items.drop i) n → f116l1 Q (m + 1) (.int .i64 n) (.sl false (Sx.avs items)) (.int .i64 items.length) (.int .i64 i) s := by
  intro m
  induction m with
  | zero =>
    intro i n s hi hr
    show f116l1s Q (f116l1 Q 0) _ _ _ _ s
    rw [List.drop_eq_nil_of_le (by omega)] at hr
    have hr : r = n := hr
    subst hr
    simp only [f116l1s, f116j1, Int.ofNat_lt, show ¬ (i < items.length) by omega, decide_false, shiftP_ptr, shiftP_pel, Bnd_some, IfP_bool, Gd_some, ld_ptr, ld_pel, adv_h, adv_nx, set_nx, cond_true, cond_false, part_one, List.getElem?_cons_zero, List.getElem?_cons_succ, un_not, wantV_bool, pickV_bool, extr_tup, bin_lss, bin_leq, bin_gtr, bin_geq, bin_eql, bin_neq, bin_seql, bin_sneq, bin_add, bin_sub, Nat.reduceAdd, beq_self_eq_true, if_true, if_false, Bool.false_eq_true, Bool.not_true, Bool.not_false, show (false == true) = false from rfl, show (true == false) = false from rfl, Bnd_none, get_set, nx_drop, get_drop', adv_set, adv_two, adv_drop, set_set, Nat.add_assoc, Nat.add_left_cancel_iff, Nat.left_eq_add, Nat.add_eq_left, Nat.add_zero, Nat.reduceEqDiff, reduceCtorEq, and_true, true_and, List.mem_nil_iff, List.not_mem_nil, wantV_tup, resC_nil, resC_some, retP_some, map_some', tupV_one, tupV_two, idOf_ref, idOf_nils, idOf_ptr, idOf_sl, idOf_pel, drop_nil, drop_cons, bin_mul, Bool.or_true, Bool.or_false, Bool.and_true, Bool.and_false, Bool.true_and, Bool.false_and, Bool.true_or, Bool.false_or]
    exact hQ _
  | succ m ih =>
    intro i n s hi hr
    show f116l1s Q (f116l1 Q (m + 1)) _ _ _ _ s
    obtain ⟨y, hy⟩ : ∃ y, items[i]? = some y := ⟨_, List.getElem?_eq_getElem (by omega)⟩
    have hlt : i < items.length := by omega
    rw [get_drop items i y hy, Sx.sizs] at hr
    simp only [f116l1s, Int.ofNat_lt, hlt, decide_true, ix_avs false items i y hy, sx_part, zf33, sto_sx, shiftP_ptr, shiftP_pel, Bnd_some, IfP_bool, Gd_some, ld_ptr, ld_pel, adv_h, adv_nx, set_nx, cond_true, cond_false, part_one, List.getElem?_cons_zero, List.getElem?_cons_succ, un_not, wantV_bool, pickV_bool, extr_tup, bin_lss, bin_leq, bin_gtr, bin_geq, bin_eql, bin_neq, bin_seql, bin_sneq, bin_add, bin_sub, Nat.reduceAdd, beq_self_eq_true, if_true, if_false, Bool.false_eq_true, Bool.not_true, Bool.not_false, show (false == true) = false from rfl, show (true == false) = false from rfl, Bnd_none, get_set, nx_drop, get_drop', adv_set, adv_two, adv_drop, set_set, Nat.add_assoc, Nat.add_left_cancel_iff, Nat.left_eq_add, Nat.add_eq_left, Nat.add_zero, Nat.reduceEqDiff, reduceCtorEq, and_true, true_and, List.mem_nil_iff, List.not_mem_nil, wantV_tup, resC_nil, resC_some, retP_some, map_some', tupV_one, tupV_two, idOf_ref, idOf_nils, idOf_ptr, idOf_sl, idOf_pel, drop_nil, drop_cons, bin_mul, Bool.or_true, Bool.or_false, Bool.and_true, Bool.and_false, Bool.true_and, Bool.false_and, Bool.true_or, Bool.false_or, if_true]
    refine callPu (ih0 y (List.mem_of_getElem? hy)) (by simp [sx_closed]) ?_
    simp only [f116j2, shiftP_ptr, shiftP_pel, Bnd_some, IfP_bool, Gd_some, ld_ptr, ld_pel, adv_h, adv_nx, set_nx, cond_true, cond_false, part_one, List.getElem?_cons_zero, List.getElem?_cons_succ, un_not, wantV_bool, pickV_bool, extr_tup, bin_lss, bin_leq, bin_gtr, bin_geq, bin_eql, bin_neq, bin_seql, bin_sneq, bin_add, bin_sub, Nat.reduceAdd, beq_self_eq_true, if_true, if_false, Bool.false_eq_true, Bool.not_true, Bool.not_false, show (false == true) = false from rfl, show (true == false) = false from rfl, Bnd_none, get_set, nx_drop, get_drop', adv_set, adv_two, adv_drop, set_set, Nat.add_assoc, Nat.add_left_cancel_iff, Nat.left_eq_add, Nat.add_eq_left, Nat.add_zero, Nat.reduceEqDiff, reduceCtorEq, and_true, true_and, List.mem_nil_iff, List.not_mem_nil, wantV_tup, resC_nil, resC_some, retP_some, map_some', tupV_one, tupV_two, idOf_ref, idOf_nils, idOf_ptr, idOf_sl, idOf_pel, drop_nil, drop_cons, bin_mul, Bool.or_true, Bool.or_false, Bool.and_true, Bool.and_false, Bool.true_and, Bool.false_and, Bool.true_or, Bool.false_or]
    rw [wrap_len i _ hlt hlen]
    exact ih (i + 1) _ _ (by omega) hr
theorem c116 : ∀ (x : Sx), x.ok = true → PureC Tryz.env 116 [x.av] (.int .i64 x.siz) := by
  refine fun x => sx_all (p := fun x => x.ok = true → PureC Tryz.env 116 [x.av] (.int .i64 x.siz)) (fun l k x p a items ih hok => ?_) x
  obtain ⟨h1, h2⟩ := ok_items hok
  refine pure_closed rfl (f116_run _ _ ?_)
  unfold f116
  refine ⟨sx_ones _, ?_⟩
  simp only [mk_cells, ln31s, avs_length, shiftP_ptr, shiftP_pel, Bnd_some, IfP_bool, Gd_some, ld_ptr, ld_pel, adv_h, adv_nx, set_nx, cond_true, cond_false, part_one, List.getElem?_cons_zero, List.getElem?_cons_succ, un_not, wantV_bool, pickV_bool, extr_tup, bin_lss, bin_leq, bin_gtr, bin_geq, bin_eql, bin_neq, bin_seql, bin_sneq, bin_add, bin_sub, Nat.reduceAdd, beq_self_eq_true, if_true, if_false, Bool.false_eq_true, Bool.not_true, Bool.not_false, show (false == true) = false from rfl, show (true == false) = false from rfl, Bnd_none, get_set, nx_drop, get_drop', adv_set, adv_two, adv_drop, set_set, Nat.add_assoc, Nat.add_left_cancel_iff, Nat.left_eq_add, Nat.add_eq_left, Nat.add_zero, Nat.reduceEqDiff, reduceCtorEq, and_true, true_and, List.mem_nil_iff, List.not_mem_nil, wantV_tup, resC_nil, resC_some, retP_some, map_some', tupV_one, tupV_two, idOf_ref, idOf_nils, idOf_ptr, idOf_sl, idOf_pel, drop_nil, drop_cons, bin_mul, Bool.or_true, Bool.or_false, Bool.and_true, Bool.and_false, Bool.true_and, Bool.false_and, Bool.true_or, Bool.false_or]
  exact ⟨items.length + 1, l116 items h1 (fun s hs => ih s hs (h2 s hs)) _ _ (fun _ => rfl) items.length 0 1 _ (by omega) rfl⟩
def stpp : List UInt8 := [115, 116, 114, 46, 43, 43]
/-- What a text's pieces are told by. -/
def txtM (ps : List Sx) : Sx × Int := cond (ps.length == 0) (atS 6 [], 0) (cond (decide ((ps.length : Int) > 200)) (zeroSx0, 2) (match ps with
  | [p] => (p, 0)
  | _ => cond (decide ((lstS stpp ps).siz > 2000)) (zeroSx0, 2) (lstS stpp ps, 0)))
theorem lst_ok {nm : List UInt8} {l : List Sx} (h1 : nm.length ≤ maxLen) (h2 : l.length + 1 ≤ maxLen) (h : ∀ x ∈ l, x.ok = true) : (lstS nm l).ok = true := by
  have hl : Sx.oks l = true := by
    clear h2
    induction l with
    | nil => rfl
    | cons a l ih => simp only [Sx.oks, h a (List.mem_cons_self ..), ih fun x hx => h x (List.mem_cons_of_mem _ hx), Bool.and_self]
  have h0 : isInt 0 = true := by decide
  have h3 : isInt 3 = true := by decide
  simp [lstS, atS, Sx.ok, Sx.oks, hl, h0, h3, h1, h2]
theorem j61 (ps : List Sx) (hok : ∀ p ∈ ps, p.ok = true) (hps : ps.length ≤ 2 ^ 20) (n2 : Nat) (x : AV) (s : St) (fr : Fresh s) (g : Gw 33 6 0 s x (ps.map Sx.av)) (h2 : s.h n2 = some (.cells zeroB.cells 33 true true)) (hd : ∀ j ∈ idOf x, j ≠ n2) (hn2 : n2 < s.nx) :
    f61j1 (PureQ (.tup [(txtM ps).1.av, .int .i64 (txtM ps).2])) x (.ptr n2 0) s := by
  have h20 : (2 : Nat) ^ 20 = 1048576 := rfl
  have hl31 := fun n k => ln31g (g.adv (n := n)) k
  simp only [List.length_map] at hl31
  have hfin : ∀ (v : Sx) (e : Int) (q : St) (n : Nat), PureQ (.tup [v.av, .int .i64 e]) (.tup [v.av, .int .i64 e]) q := fun v e q n => pureQ_closed (by simp only [AV.closed, closedL, sx_closed v, Bool.and_self])
  have hzb : bld 33 [] = some zeroB := by rw [bf33]; rfl
  have hzq : ∀ q, PureQ (.tup [zeroSx0.av, .int .i64 2]) (.tup [zeroB, .int .i64 2]) q := fun q => ⟨[], rfl⟩
  have hstz : ∀ n, sto 6 (.ptr n2 0) zeroB (Ai.adv s n) = some (Ai.adv (s.set n2 (some (.cells zeroB.cells 33 true true))) n) := fun n => sto_all (z := 6) (by rw [adv_h]; exact h2) rfl rfl rfl
  have hsto : ∀ (v : Sx) n, sto 6 (.ptr n2 0) v.av (Ai.adv s n) = some (Ai.adv (s.set n2 (some (.cells v.av.cells 33 true true))) n) := fun v n => sto_all (z := 6) (by rw [adv_h]; exact h2) rfl (sx_len v) (sx_ones v)
  have hpz : Ai.part 6 true 0 zeroB.cells = some zeroB := rfl
  unfold f61j1
  simp only [hl31, shiftP_ptr, shiftP_pel, Bnd_some, IfP_bool, Gd_some, ld_ptr, ld_pel, adv_h, adv_nx, set_nx, cond_true, cond_false, part_one, List.getElem?_cons_zero, List.getElem?_cons_succ, un_not, wantV_bool, pickV_bool, extr_tup, bin_lss, bin_leq, bin_gtr, bin_geq, bin_eql, bin_neq, bin_seql, bin_sneq, bin_add, bin_sub, Nat.reduceAdd, beq_self_eq_true, if_true, if_false, Bool.false_eq_true, Bool.not_true, Bool.not_false, show (false == true) = false from rfl, show (true == false) = false from rfl, Bnd_none, get_set, nx_drop, get_drop', adv_set, adv_two, adv_drop, set_set, Nat.add_assoc, Nat.add_left_cancel_iff, Nat.left_eq_add, Nat.add_eq_left, Nat.add_zero, Nat.reduceEqDiff, reduceCtorEq, and_true, true_and, List.mem_nil_iff, List.not_mem_nil, wantV_tup, resC_nil, resC_some, retP_some, map_some', tupV_one, tupV_two, idOf_ref, idOf_nils, idOf_ptr, idOf_sl, idOf_pel, drop_nil, drop_cons, bin_mul, Bool.or_true, Bool.or_false, Bool.and_true, Bool.and_false, Bool.true_and, Bool.false_and, Bool.true_or, Bool.false_or]
  cases h0 : (ps.length == 0) with
  | true =>
    have e : txtM ps = (atS 6 [], 0) := by simp only [txtM, h0, cond_true]
    have h0' : (((ps.length : Nat) : Int) == 0) = true := by simpa using h0
    simp only [h0', shiftP_ptr, shiftP_pel, Bnd_some, IfP_bool, Gd_some, ld_ptr, ld_pel, adv_h, adv_nx, set_nx, cond_true, cond_false, part_one, List.getElem?_cons_zero, List.getElem?_cons_succ, un_not, wantV_bool, pickV_bool, extr_tup, bin_lss, bin_leq, bin_gtr, bin_geq, bin_eql, bin_neq, bin_seql, bin_sneq, bin_add, bin_sub, Nat.reduceAdd, beq_self_eq_true, if_true, if_false, Bool.false_eq_true, Bool.not_true, Bool.not_false, show (false == true) = false from rfl, show (true == false) = false from rfl, Bnd_none, get_set, nx_drop, get_drop', adv_set, adv_two, adv_drop, set_set, Nat.add_assoc, Nat.add_left_cancel_iff, Nat.left_eq_add, Nat.add_eq_left, Nat.add_zero, Nat.reduceEqDiff, reduceCtorEq, and_true, true_and, List.mem_nil_iff, List.not_mem_nil, wantV_tup, resC_nil, resC_some, retP_some, map_some', tupV_one, tupV_two, idOf_ref, idOf_nils, idOf_ptr, idOf_sl, idOf_pel, drop_nil, drop_cons, bin_mul, Bool.or_true, Bool.or_false, Bool.and_true, Bool.and_false, Bool.true_and, Bool.false_and, Bool.true_or, Bool.false_or]
    refine callPu (c58 6 []) (by simp [AV.closed]) ?_
    simp only [hsto, shiftP_ptr, shiftP_pel, Bnd_some, IfP_bool, Gd_some, ld_ptr, ld_pel, adv_h, adv_nx, set_nx, cond_true, cond_false, part_one, List.getElem?_cons_zero, List.getElem?_cons_succ, un_not, wantV_bool, pickV_bool, extr_tup, bin_lss, bin_leq, bin_gtr, bin_geq, bin_eql, bin_neq, bin_seql, bin_sneq, bin_add, bin_sub, Nat.reduceAdd, beq_self_eq_true, if_true, if_false, Bool.false_eq_true, Bool.not_true, Bool.not_false, show (false == true) = false from rfl, show (true == false) = false from rfl, Bnd_none, get_set, nx_drop, get_drop', adv_set, adv_two, adv_drop, set_set, Nat.add_assoc, Nat.add_left_cancel_iff, Nat.left_eq_add, Nat.add_eq_left, Nat.add_zero, Nat.reduceEqDiff, reduceCtorEq, and_true, true_and, List.mem_nil_iff, List.not_mem_nil, wantV_tup, resC_nil, resC_some, retP_some, map_some', tupV_one, tupV_two, idOf_ref, idOf_nils, idOf_ptr, idOf_sl, idOf_pel, drop_nil, drop_cons, bin_mul, Bool.or_true, Bool.or_false, Bool.and_true, Bool.and_false, Bool.true_and, Bool.false_and, Bool.true_or, Bool.false_or, if_true, sx_part, e]
    exact hfin _ _ _ 0
  | false =>
    have h0' : (((ps.length : Nat) : Int) == 0) = false := by simpa using h0
    simp only [h0', shiftP_ptr, shiftP_pel, Bnd_some, IfP_bool, Gd_some, ld_ptr, ld_pel, adv_h, adv_nx, set_nx, cond_true, cond_false, part_one, List.getElem?_cons_zero, List.getElem?_cons_succ, un_not, wantV_bool, pickV_bool, extr_tup, bin_lss, bin_leq, bin_gtr, bin_geq, bin_eql, bin_neq, bin_seql, bin_sneq, bin_add, bin_sub, Nat.reduceAdd, beq_self_eq_true, if_true, if_false, Bool.false_eq_true, Bool.not_true, Bool.not_false, show (false == true) = false from rfl, show (true == false) = false from rfl, Bnd_none, get_set, nx_drop, get_drop', adv_set, adv_two, adv_drop, set_set, Nat.add_assoc, Nat.add_left_cancel_iff, Nat.left_eq_add, Nat.add_eq_left, Nat.add_zero, Nat.reduceEqDiff, reduceCtorEq, and_true, true_and, List.mem_nil_iff, List.not_mem_nil, wantV_tup, resC_nil, resC_some, retP_some, map_some', tupV_one, tupV_two, idOf_ref, idOf_nils, idOf_ptr, idOf_sl, idOf_pel, drop_nil, drop_cons, bin_mul, Bool.or_true, Bool.or_false, Bool.and_true, Bool.and_false, Bool.true_and, Bool.false_and, Bool.true_or, Bool.false_or]
    cases h1 : decide ((ps.length : Int) > 200) with
    | true =>
      have h1' := h1
      have e : txtM ps = (zeroSx0, 2) := by simp only [txtM, h0, h1, cond_true, cond_false]
      simp only [h1', hzb, hstz, hpz, e, if_true, shiftP_ptr, shiftP_pel, Bnd_some, IfP_bool, Gd_some, ld_ptr, ld_pel, adv_h, adv_nx, set_nx, cond_true, cond_false, part_one, List.getElem?_cons_zero, List.getElem?_cons_succ, un_not, wantV_bool, pickV_bool, extr_tup, bin_lss, bin_leq, bin_gtr, bin_geq, bin_eql, bin_neq, bin_seql, bin_sneq, bin_add, bin_sub, Nat.reduceAdd, beq_self_eq_true, if_true, if_false, Bool.false_eq_true, Bool.not_true, Bool.not_false, show (false == true) = false from rfl, show (true == false) = false from rfl, Bnd_none, get_set, nx_drop, get_drop', adv_set, adv_two, adv_drop, set_set, Nat.add_assoc, Nat.add_left_cancel_iff, Nat.left_eq_add, Nat.add_eq_left, Nat.add_zero, Nat.reduceEqDiff, reduceCtorEq, and_true, true_and, List.mem_nil_iff, List.not_mem_nil, wantV_tup, resC_nil, resC_some, retP_some, map_some', tupV_one, tupV_two, idOf_ref, idOf_nils, idOf_ptr, idOf_sl, idOf_pel, drop_nil, drop_cons, bin_mul, Bool.or_true, Bool.or_false, Bool.and_true, Bool.and_false, Bool.true_and, Bool.false_and, Bool.true_or, Bool.false_or]
      exact hzq _
    | false =>
      have h1' := h1
      simp only [h1', shiftP_ptr, shiftP_pel, Bnd_some, IfP_bool, Gd_some, ld_ptr, ld_pel, adv_h, adv_nx, set_nx, cond_true, cond_false, part_one, List.getElem?_cons_zero, List.getElem?_cons_succ, un_not, wantV_bool, pickV_bool, extr_tup, bin_lss, bin_leq, bin_gtr, bin_geq, bin_eql, bin_neq, bin_seql, bin_sneq, bin_add, bin_sub, Nat.reduceAdd, beq_self_eq_true, if_true, if_false, Bool.false_eq_true, Bool.not_true, Bool.not_false, show (false == true) = false from rfl, show (true == false) = false from rfl, Bnd_none, get_set, nx_drop, get_drop', adv_set, adv_two, adv_drop, set_set, Nat.add_assoc, Nat.add_left_cancel_iff, Nat.left_eq_add, Nat.add_eq_left, Nat.add_zero, Nat.reduceEqDiff, reduceCtorEq, and_true, true_and, List.mem_nil_iff, List.not_mem_nil, wantV_tup, resC_nil, resC_some, retP_some, map_some', tupV_one, tupV_two, idOf_ref, idOf_nils, idOf_ptr, idOf_sl, idOf_pel, drop_nil, drop_cons, bin_mul, Bool.or_true, Bool.or_false, Bool.and_true, Bool.and_false, Bool.true_and, Bool.false_and, Bool.true_or, Bool.false_or]
      match ps, h0, h1, g, hl31, hok, hps with
      | [p], h0, h1, g, hl31, hok, hps =>
        have e : txtM [p] = (p, 0) := rfl
        obtain ⟨_, ⟨_, hbad⟩ | ⟨b, _, rfl, hb⟩⟩ := id g
        · simp at hbad
        · have hix : ixS 6 (.ref b 0 ([p].map Sx.av).length none 33) (.int .i64 0) = some (.ptr b 0) := rfl
          have hpt : Ai.part 6 true 0 (([p].map Sx.av).flatMap AV.cells) = some p.av := by
            simp only [List.map_cons, List.map_nil, List.flatMap_cons, List.flatMap_nil, List.append_nil, sx_part]
          simp only [show ((([p] : List Sx).length : Int) == 1) = true from rfl, hix, hb, hpt, hsto, e, sx_part, if_true, shiftP_ptr, shiftP_pel, Bnd_some, IfP_bool, Gd_some, ld_ptr, ld_pel, adv_h, adv_nx, set_nx, cond_true, cond_false, part_one, List.getElem?_cons_zero, List.getElem?_cons_succ, un_not, wantV_bool, pickV_bool, extr_tup, bin_lss, bin_leq, bin_gtr, bin_geq, bin_eql, bin_neq, bin_seql, bin_sneq, bin_add, bin_sub, Nat.reduceAdd, beq_self_eq_true, if_true, if_false, Bool.false_eq_true, Bool.not_true, Bool.not_false, show (false == true) = false from rfl, show (true == false) = false from rfl, Bnd_none, get_set, nx_drop, get_drop', adv_set, adv_two, adv_drop, set_set, Nat.add_assoc, Nat.add_left_cancel_iff, Nat.left_eq_add, Nat.add_eq_left, Nat.add_zero, Nat.reduceEqDiff, reduceCtorEq, and_true, true_and, List.mem_nil_iff, List.not_mem_nil, wantV_tup, resC_nil, resC_some, retP_some, map_some', tupV_one, tupV_two, idOf_ref, idOf_nils, idOf_ptr, idOf_sl, idOf_pel, drop_nil, drop_cons, bin_mul, Bool.or_true, Bool.or_false, Bool.and_true, Bool.and_false, Bool.true_and, Bool.false_and, Bool.true_or, Bool.false_or]
          exact hfin _ _ _ 0
      | p :: q :: ps, h0, h1, g, hl31, hok, hps =>
        have hne : ((((p :: q :: ps).length : Nat) : Int) == 1) = false := by simp; omega
        simp only [hne, f61j2, shiftP_ptr, shiftP_pel, Bnd_some, IfP_bool, Gd_some, ld_ptr, ld_pel, adv_h, adv_nx, set_nx, cond_true, cond_false, part_one, List.getElem?_cons_zero, List.getElem?_cons_succ, un_not, wantV_bool, pickV_bool, extr_tup, bin_lss, bin_leq, bin_gtr, bin_geq, bin_eql, bin_neq, bin_seql, bin_sneq, bin_add, bin_sub, Nat.reduceAdd, beq_self_eq_true, if_true, if_false, Bool.false_eq_true, Bool.not_true, Bool.not_false, show (false == true) = false from rfl, show (true == false) = false from rfl, Bnd_none, get_set, nx_drop, get_drop', adv_set, adv_two, adv_drop, set_set, Nat.add_assoc, Nat.add_left_cancel_iff, Nat.left_eq_add, Nat.add_eq_left, Nat.add_zero, Nat.reduceEqDiff, reduceCtorEq, and_true, true_and, List.mem_nil_iff, List.not_mem_nil, wantV_tup, resC_nil, resC_some, retP_some, map_some', tupV_one, tupV_two, idOf_ref, idOf_nils, idOf_ptr, idOf_sl, idOf_pel, drop_nil, drop_cons, bin_mul, Bool.or_true, Bool.or_false, Bool.and_true, Bool.and_false, Bool.true_and, Bool.false_and, Bool.true_or, Bool.false_or]
        refine c57 (l := p :: q :: ps) (M := idOf x) (by omega) fr.adv (fun s' hE => ?_) g.one.1 g.one.2 fun s' hE => ?_
        · have g' : Gw 33 6 0 s' x ((p :: q :: ps).map Sx.av) := (g.adv).ext fr.adv hE (fun _ _ h => by cases h)
          obtain ⟨ids, h3, h4⟩ := pur_map tf31 g' (fun a _ => sx_closed a) (fun a _ => by cases a; rfl) 10
          subst h4
          exact ⟨_, h3, fun i hi => ⟨hi, by have := g.id_lt fr i hi; simp only [adv_nx]; omega⟩⟩
        · have h2' : s'.h n2 = some (.cells zeroB.cells 33 true true) := by
            rw [hE.h n2 (by simp only [adv_nx]; omega) (fun hh => hd _ hh rfl)]; exact h2
          have hnx := hE.nx
          simp only [adv_nx] at hnx
          have hls : (lstS stpp (p :: q :: ps)).ok = true := lst_ok (by decide) (by have : maxLen = 9223372036854775807 := rfl; simp only [List.length_cons] at hps ⊢; omega) hok
          have ne1 : ∀ k, k < 16 → ((n2 = s.nx + k) = False) := fun k _ => by simp; omega
          have hpp : stpp = [115, 116, 114, 46, 43, 43] := rfl
          simp only [hpp] at hls
          have e : txtM (p :: q :: ps) = cond (decide ((lstS stpp (p :: q :: ps)).siz > 2000)) (zeroSx0, 2) (lstS stpp (p :: q :: ps), 0) := by simp only [txtM, h0, h1, cond_false]
          have hst2 : ∀ (v : AV) (N n k : Nat) (B : Blk), v.cells.length = 6 → v.cells.all AV.one = true → N ≠ n2 → sto 6 (.ptr n2 0) v (Ai.adv (s'.set N (some B)) n) = some (Ai.adv ((s'.set N (some B)).set n2 (some (.cells v.cells 33 true true))) n) := fun v N n k B e1 e2 hN =>
            sto_all (z := 6) (by rw [adv_h, st_other (fun h => hN h.symm)]; exact h2') rfl e1 e2
          simp only [zf33, sto_sx0, sx_part, if_true, shiftP_ptr, shiftP_pel, Bnd_some, IfP_bool, Gd_some, ld_ptr, ld_pel, adv_h, adv_nx, set_nx, cond_true, cond_false, part_one, List.getElem?_cons_zero, List.getElem?_cons_succ, un_not, wantV_bool, pickV_bool, extr_tup, bin_lss, bin_leq, bin_gtr, bin_geq, bin_eql, bin_neq, bin_seql, bin_sneq, bin_add, bin_sub, Nat.reduceAdd, beq_self_eq_true, if_true, if_false, Bool.false_eq_true, Bool.not_true, Bool.not_false, show (false == true) = false from rfl, show (true == false) = false from rfl, Bnd_none, get_set, nx_drop, get_drop', adv_set, adv_two, adv_drop, set_set, Nat.add_assoc, Nat.add_left_cancel_iff, Nat.left_eq_add, Nat.add_eq_left, Nat.add_zero, Nat.reduceEqDiff, reduceCtorEq, and_true, true_and, List.mem_nil_iff, List.not_mem_nil, wantV_tup, resC_nil, resC_some, retP_some, map_some', tupV_one, tupV_two, idOf_ref, idOf_nils, idOf_ptr, idOf_sl, idOf_pel, drop_nil, drop_cons, bin_mul, Bool.or_true, Bool.or_false, Bool.and_true, Bool.and_false, Bool.true_and, Bool.false_and, Bool.true_or, Bool.false_or]
          refine callPu (c116 _ hls) (by simp [sx_closed]) ?_
          rw [e]
          cases h4 : decide ((lstS stpp (p :: q :: ps)).siz > 2000) with
          | true =>
            simp only [← hpp, h4, hzb, shiftP_ptr, shiftP_pel, Bnd_some, IfP_bool, Gd_some, ld_ptr, ld_pel, adv_h, adv_nx, set_nx, cond_true, cond_false, part_one, List.getElem?_cons_zero, List.getElem?_cons_succ, un_not, wantV_bool, pickV_bool, extr_tup, bin_lss, bin_leq, bin_gtr, bin_geq, bin_eql, bin_neq, bin_seql, bin_sneq, bin_add, bin_sub, Nat.reduceAdd, beq_self_eq_true, if_true, if_false, Bool.false_eq_true, Bool.not_true, Bool.not_false, show (false == true) = false from rfl, show (true == false) = false from rfl, Bnd_none, get_set, nx_drop, get_drop', adv_set, adv_two, adv_drop, set_set, Nat.add_assoc, Nat.add_left_cancel_iff, Nat.left_eq_add, Nat.add_eq_left, Nat.add_zero, Nat.reduceEqDiff, reduceCtorEq, and_true, true_and, List.mem_nil_iff, List.not_mem_nil, wantV_tup, resC_nil, resC_some, retP_some, map_some', tupV_one, tupV_two, idOf_ref, idOf_nils, idOf_ptr, idOf_sl, idOf_pel, drop_nil, drop_cons, bin_mul, Bool.or_true, Bool.or_false, Bool.and_true, Bool.and_false, Bool.true_and, Bool.false_and, Bool.true_or, Bool.false_or]
            rw [hst2 _ _ _ 0 _ rfl rfl (by omega)]
            simp only [hpz, shiftP_ptr, shiftP_pel, Bnd_some, IfP_bool, Gd_some, ld_ptr, ld_pel, adv_h, adv_nx, set_nx, cond_true, cond_false, part_one, List.getElem?_cons_zero, List.getElem?_cons_succ, un_not, wantV_bool, pickV_bool, extr_tup, bin_lss, bin_leq, bin_gtr, bin_geq, bin_eql, bin_neq, bin_seql, bin_sneq, bin_add, bin_sub, Nat.reduceAdd, beq_self_eq_true, if_true, if_false, Bool.false_eq_true, Bool.not_true, Bool.not_false, show (false == true) = false from rfl, show (true == false) = false from rfl, Bnd_none, get_set, nx_drop, get_drop', adv_set, adv_two, adv_drop, set_set, Nat.add_assoc, Nat.add_left_cancel_iff, Nat.left_eq_add, Nat.add_eq_left, Nat.add_zero, Nat.reduceEqDiff, reduceCtorEq, and_true, true_and, List.mem_nil_iff, List.not_mem_nil, wantV_tup, resC_nil, resC_some, retP_some, map_some', tupV_one, tupV_two, idOf_ref, idOf_nils, idOf_ptr, idOf_sl, idOf_pel, drop_nil, drop_cons, bin_mul, Bool.or_true, Bool.or_false, Bool.and_true, Bool.and_false, Bool.true_and, Bool.false_and, Bool.true_or, Bool.false_or]
            exact hzq _
          | false =>
            simp only [← hpp, h4, sx_part, if_true, shiftP_ptr, shiftP_pel, Bnd_some, IfP_bool, Gd_some, ld_ptr, ld_pel, adv_h, adv_nx, set_nx, cond_true, cond_false, part_one, List.getElem?_cons_zero, List.getElem?_cons_succ, un_not, wantV_bool, pickV_bool, extr_tup, bin_lss, bin_leq, bin_gtr, bin_geq, bin_eql, bin_neq, bin_seql, bin_sneq, bin_add, bin_sub, Nat.reduceAdd, beq_self_eq_true, if_true, if_false, Bool.false_eq_true, Bool.not_true, Bool.not_false, show (false == true) = false from rfl, show (true == false) = false from rfl, Bnd_none, get_set, nx_drop, get_drop', adv_set, adv_two, adv_drop, set_set, Nat.add_assoc, Nat.add_left_cancel_iff, Nat.left_eq_add, Nat.add_eq_left, Nat.add_zero, Nat.reduceEqDiff, reduceCtorEq, and_true, true_and, List.mem_nil_iff, List.not_mem_nil, wantV_tup, resC_nil, resC_some, retP_some, map_some', tupV_one, tupV_two, idOf_ref, idOf_nils, idOf_ptr, idOf_sl, idOf_pel, drop_nil, drop_cons, bin_mul, Bool.or_true, Bool.or_false, Bool.and_true, Bool.and_false, Bool.true_and, Bool.false_and, Bool.true_or, Bool.false_or]
            rw [hst2 _ _ _ 0 _ (sx_len _) (sx_ones _) (by omega)]
            simp only [sx_part, shiftP_ptr, shiftP_pel, Bnd_some, IfP_bool, Gd_some, ld_ptr, ld_pel, adv_h, adv_nx, set_nx, cond_true, cond_false, part_one, List.getElem?_cons_zero, List.getElem?_cons_succ, un_not, wantV_bool, pickV_bool, extr_tup, bin_lss, bin_leq, bin_gtr, bin_geq, bin_eql, bin_neq, bin_seql, bin_sneq, bin_add, bin_sub, Nat.reduceAdd, beq_self_eq_true, if_true, if_false, Bool.false_eq_true, Bool.not_true, Bool.not_false, show (false == true) = false from rfl, show (true == false) = false from rfl, Bnd_none, get_set, nx_drop, get_drop', adv_set, adv_two, adv_drop, set_set, Nat.add_assoc, Nat.add_left_cancel_iff, Nat.left_eq_add, Nat.add_eq_left, Nat.add_zero, Nat.reduceEqDiff, reduceCtorEq, and_true, true_and, List.mem_nil_iff, List.not_mem_nil, wantV_tup, resC_nil, resC_some, retP_some, map_some', tupV_one, tupV_two, idOf_ref, idOf_nils, idOf_ptr, idOf_sl, idOf_pel, drop_nil, drop_cons, bin_mul, Bool.or_true, Bool.or_false, Bool.and_true, Bool.and_false, Bool.true_and, Bool.false_and, Bool.true_or, Bool.false_or]
            exact hfin _ _ _ 0
theorem c61 (LT : List (Int × Int) → Sx) (LG : Int × Int → Sx) (ok : Int × Int → Bool) (hL : ∀ (l : List (Int × Int)), (∀ r ∈ l, ok r = true) → greedy l 0 ≠ 0 → PureC Tryz.env 115 [.sl false ((l.take (greedy l 0)).map rnA)] (.tup [(LT (l.take (greedy l 0))).av, .int .i64 0]))
    (hG : ∀ r, ok r = true → ¬ (IntKind.i64.wrap (0 + r.2) ≤ 1000) → PureC Tryz.env 114 [rnA r] (LG r).av) (l : List (Int × Int)) (hok : ∀ p ∈ txtGo LT LG l.length l, p.ok = true) (hl : ∀ r ∈ l, ok r = true) (hlen : l.length ≤ 2 ^ 20) :
    PureC Tryz.env 61 [.sl false (l.map rnA)] (.tup [(txtM (txtGo LT LG l.length l)).1.av, .int .i64 (txtM (txtGo LT LG l.length l)).2]) := by
  refine pure_q (f61_run _ _ ?_)
  have h20 : (2 : Nat) ^ 20 = 1048576 := rfl
  have h24 : (2 : Nat) ^ 24 = 16777216 := rfl
  have hgo : ∀ n (l : List (Int × Int)), (txtGo LT LG n l).length ≤ n := by
    intro n
    induction n with
    | zero => intro l; simp [txtGo]
    | succ n ih =>
      intro l
      cases l with
      | nil => simp [txtGo]
      | cons r t =>
        simp only [txtGo]
        cases (greedy (r :: t) 0 == 0)
        · simp only [cond_false, List.length_cons]; have := ih ((r :: t).drop (greedy (r :: t) 0)); omega
        · simp only [cond_true, List.length_cons]; have := ih t; omega
  unfold f61
  simp only [zf33, shiftP_ptr, shiftP_pel, Bnd_some, IfP_bool, Gd_some, ld_ptr, ld_pel, adv_h, adv_nx, set_nx, cond_true, cond_false, part_one, List.getElem?_cons_zero, List.getElem?_cons_succ, un_not, wantV_bool, pickV_bool, extr_tup, bin_lss, bin_leq, bin_gtr, bin_geq, bin_eql, bin_neq, bin_seql, bin_sneq, bin_add, bin_sub, Nat.reduceAdd, beq_self_eq_true, if_true, if_false, Bool.false_eq_true, Bool.not_true, Bool.not_false, show (false == true) = false from rfl, show (true == false) = false from rfl, Bnd_none, get_set, nx_drop, get_drop', adv_set, adv_two, adv_drop, set_set, Nat.add_assoc, Nat.add_left_cancel_iff, Nat.left_eq_add, Nat.add_eq_left, Nat.add_zero, Nat.reduceEqDiff, reduceCtorEq, and_true, true_and, List.mem_nil_iff, List.not_mem_nil, wantV_tup, resC_nil, resC_some, retP_some, map_some', tupV_one, tupV_two, idOf_ref, idOf_nils, idOf_ptr, idOf_sl, idOf_pel, drop_nil, drop_cons, bin_mul, Bool.or_true, Bool.or_false, Bool.and_true, Bool.and_false, Bool.true_and, Bool.false_and, Bool.true_or, Bool.false_or]
  refine ⟨l.length + 1, l61a LT LG _ ok hL hG _ (2 ^ 24) (by omega) (txtGo LT LG l.length l) (.cells zeroB.cells 33 true true) St.empty.nx rfl (fun x s fr g h2 hd hn2 => j61 _ hok (by have := hgo l.length l; omega) _ x s fr g h2 hd hn2) l.length false l .nils [] _ (by omega) (by simp; omega) hl ?_ gw_nil ?_ (fun j hj => by cases hj) (by decide) rfl⟩
  · exact fresh_set fresh_empty _ (by omega)
  · rw [adv_h, st_same]; rfl
/-! ### What a piece has -/
def expand (a : List (Int × Int)) : List Int := a.flatMap fun r => List.replicate r.2.toNat r.1
/-- A run that a text may have. -/
def runOk (r : Int × Int) : Bool := point r.1 && decide (1 ≤ r.2) && decide (r.2 ≤ 2 ^ 40)
def sumR : List (Int × Int) → Int
  | [] => 0
  | r :: l => r.2 + sumR l
theorem sumR_pos : ∀ (l : List (Int × Int)), (∀ r ∈ l, runOk r = true) → 0 ≤ sumR l := by
  intro l
  induction l with
  | nil => intro _; exact Int.le_refl 0
  | cons r l ih =>
    intro h
    have h1 := h r (List.mem_cons_self ..)
    simp only [runOk, Bool.and_eq_true, decide_eq_true_eq] at h1
    have := ih fun x hx => h x (List.mem_cons_of_mem _ hx)
    simp only [sumR]; omega
theorem greedy_sum : ∀ (l : List (Int × Int)) (n : Int), (∀ r ∈ l, runOk r = true) → 0 ≤ n → n ≤ 1000 → n + sumR (l.take (greedy l n)) ≤ 1000 := by
  intro l
  induction l with
  | nil => intro n _ _ h; simpa [greedy, sumR] using h
  | cons r l ih =>
    intro n h h0 h1
    have hr := h r (List.mem_cons_self ..)
    simp only [runOk, Bool.and_eq_true, decide_eq_true_eq] at hr
    have hw : IntKind.i64.wrap (n + r.2) = n + r.2 := IntWalk.i64_in _ (by omega)
    simp only [greedy, hw]
    cases hd : decide (n + r.2 ≤ 1000) with
    | true =>
      have := ih (n + r.2) (fun x hx => h x (List.mem_cons_of_mem _ hx)) (by omega) (of_decide_eq_true hd)
      simp only [cond_true, List.take_succ_cons, sumR]; omega
    | false => simp only [cond_false, List.take_zero, sumR]; omega
theorem listGo_exp : ∀ (a : List (Int × Int)) (out : List Int), (∀ r ∈ a, runOk r = true) → (out.length : Int) + sumR a ≤ 1000 → listGo 1000 a out = some (out ++ expand a) := by
  intro a
  induction a with
  | nil => intro out _ _; simp [listGo, expand]
  | cons r a ih =>
    intro out h hs
    have hr := h r (List.mem_cons_self ..)
    simp only [runOk, Bool.and_eq_true, decide_eq_true_eq] at hr
    have hp := sumR_pos a fun x hx => h x (List.mem_cons_of_mem _ hx)
    simp only [sumR] at hs
    have hw : IntKind.i64.wrap (1000 - (out.length : Int)) = 1000 - out.length := IntWalk.i64_in _ (by omega)
    have hd : decide (r.2 > 1000 - (out.length : Int)) = false := by simp; omega
    simp only [listGo, hw, hd, cond_false]
    rw [ih _ (fun x hx => h x (List.mem_cons_of_mem _ hx)) (by simp; omega)]
    simp [expand]
theorem expand_len (a : List (Int × Int)) (h : ∀ r ∈ a, runOk r = true) : ((expand a).length : Int) = sumR a := by
  induction a with
  | nil => rfl
  | cons r a ih =>
    have hr := h r (List.mem_cons_self ..)
    simp only [runOk, Bool.and_eq_true, decide_eq_true_eq] at hr
    have := ih fun x hx => h x (List.mem_cons_of_mem _ hx)
    simp only [expand, List.flatMap_cons, List.length_append, List.length_replicate, sumR] at this ⊢
    omega
theorem chunk_list (l : List (Int × Int)) (h : ∀ r ∈ l, runOk r = true) : listM (l.take (greedy l 0)) 1000 = (expand (l.take (greedy l 0)), 0) ∧ (expand (l.take (greedy l 0))).length ≤ 1000 := by
  have ht : ∀ r ∈ l.take (greedy l 0), runOk r = true := fun r hr => h r (List.mem_of_mem_take hr)
  have hs := greedy_sum l 0 h (by omega) (by omega)
  have hb : (l.take (greedy l 0)).any bad = false := by
    rw [List.any_eq_false]
    intro r hr
    have := ht r hr
    simp only [runOk, Bool.and_eq_true, decide_eq_true_eq] at this
    simp [bad, this.1.1]; omega
  have he := expand_len _ ht
  refine ⟨?_, by omega⟩
  simp only [listM, hb, cond_false]
  rw [listGo_exp _ [] ht (by simp; omega)]
  rfl
end Go.Proofs.YtdehdahimkcakaaGreatDoor
