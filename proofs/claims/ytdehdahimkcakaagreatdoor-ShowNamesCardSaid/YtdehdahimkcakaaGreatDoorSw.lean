/- The examples of the package gudgeonlaw12 hold. -/
import Derived.Test.YtdehdahimkcakaaGreatDoorTx
import Derived.Test.YtdehdahimkcakaaGreatDoorSwr
import Derived.Test.YtdehdahimkcakaaGreatDoorCc
import Derived.Test.YtdehdahimkcakaaGreatDoorLt
set_option linter.unusedVariables false
set_option linter.unusedSimpArgs false
set_option maxRecDepth 100000
set_option maxHeartbeats 4000000
namespace Go.Proofs.YtdehdahimkcakaaGreatDoor
open Go Ai

def ascS (a : List (Int × Int)) : Sx := atS 6 ((expand a).map ascB)
theorem t61 : PureC Tryz.env 61 [.sl false ([(97, 1000), (98, 1)].map rnA)] (.tup [(lstS stpp [ascS [(97, 1000)], ascS [(98, 1)]]).av, .int .i64 0]) := by
  refine c61 ascS (fun _ => zeroSx0) (fun r => asc r.1 && runOk r && decide (r.2 ≤ 1000)) (fun l hl hg => ?_) (fun r hr hn => ?_) [(97, 1000), (98, 1)] (fun p hp => ?_) (by decide) (by decide)
  · have hok : ∀ r ∈ l, runOk r = true := fun r hr => by have := hl r hr; simp only [Bool.and_eq_true] at this; exact this.1.2
    obtain ⟨h1, h2⟩ := chunk_list l hok
    refine c115 false _ (sl_closed_map rnA _ fun _ _ => rfl) ?_ _ h1 h2 fun c hc => ?_
    · have : ∀ (a : List (Int × Int)), (∀ r ∈ a, runOk r = true) → a.length ≤ (expand a).length := by
        intro a
        induction a with
        | nil => intro _; simp
        | cons r a ih =>
          intro h
          have hr := h r (List.mem_cons_self ..)
          simp only [runOk, Bool.and_eq_true, decide_eq_true_eq] at hr
          have := ih fun x hx => h x (List.mem_cons_of_mem _ hx)
          simp only [expand, List.flatMap_cons, List.length_append, List.length_replicate, List.length_cons] at this ⊢
          omega
      have hm : maxLen = 9223372036854775807 := rfl
      have := this (l.take (greedy l 0)) fun r hr => hok r (List.mem_of_mem_take hr)
      omega
    · obtain ⟨r, hr, hc⟩ := List.mem_flatMap.1 hc
      obtain ⟨_, rfl⟩ := List.mem_replicate.1 hc
      have := hl r (List.mem_of_mem_take hr)
      simp only [Bool.and_eq_true] at this; exact this.1.1
  · simp only [Bool.and_eq_true, decide_eq_true_eq, runOk] at hr
    exfalso
    apply hn
    rw [Int.zero_add, IntWalk.i64_in _ (by omega)]; omega
  · have : txtGo ascS (fun _ => zeroSx0) [((97 : Int), (1000 : Int)), (98, 1)].length [(97, 1000), (98, 1)] = [ascS [(97, 1000)], ascS [(98, 1)]] := rfl
    rw [this] at hp
    simp only [List.mem_cons, List.mem_nil_iff, or_false] at hp
    have h0 : isInt 0 = true := by decide
    have h6 : isInt 6 = true := by decide
    rcases hp with rfl | rfl
    · have : ((expand [((97 : Int), (1000 : Int))]).map ascB).length = 1000 := by simp [expand]
      simp [ascS, atS, Sx.ok, Sx.oks, h0, h6, expand, maxLen]
    · simp [ascS, atS, Sx.ok, Sx.oks, h0, h6, expand, maxLen]
/-! ### The examples -/
def xb : Sx := lstS stpp [ascS [(97, 1000)], ascS [(98, 1)]]
theorem r16b : PureC Tryz.env 16 [valA 3 false false [] [rnA (97, 1000), rnA (98, 1)]] (.tup [xb.av, .int .i64 0]) := by
  refine pure_q (f16_run _ _ ?_)
  unfold f16
  refine ⟨rfl, ?_⟩
  have hc : (valA 3 false false [] [rnA (97, 1000), rnA (98, 1)]).cells = [.int .i64 3, .bool false, .bool false, .sl false [], .sl false [rnA (97, 1000), rnA (98, 1)]] := rfl
  simp only [zf33, hc, shiftP_ptr, shiftP_pel, Bnd_some, IfP_bool, Gd_some, ld_ptr, ld_pel, adv_h, adv_nx, set_nx, cond_true, cond_false, part_one, List.getElem?_cons_zero, List.getElem?_cons_succ, un_not, wantV_bool, pickV_bool, extr_tup, bin_lss, bin_leq, bin_gtr, bin_geq, bin_eql, bin_neq, bin_seql, bin_sneq, bin_add, bin_sub, Nat.reduceAdd, beq_self_eq_true, if_true, if_false, Bool.false_eq_true, Bool.not_true, Bool.not_false, show (false == true) = false from rfl, show (true == false) = false from rfl, Bnd_none, get_set, nx_drop, get_drop', adv_set, adv_two, adv_drop, set_set, Nat.add_assoc, Nat.add_left_cancel_iff, Nat.left_eq_add, Nat.add_eq_left, Nat.add_zero, Nat.reduceEqDiff, reduceCtorEq, and_true, true_and, List.mem_nil_iff, List.not_mem_nil, wantV_tup, resC_nil, resC_some, retP_some, map_some', tupV_one, tupV_two, idOf_ref, idOf_nils, idOf_ptr, idOf_sl, idOf_pel, drop_nil, drop_cons, bin_mul, Bool.or_true, Bool.or_false, Bool.and_true, Bool.and_false, Bool.true_and, Bool.false_and, Bool.true_or, Bool.false_or, show ((3 : Int) == 1) = false from rfl, show ((3 : Int) == 2) = false from rfl, show ((3 : Int) == 3) = true from rfl]
  refine callPu (pure_f r60) (by simp [AV.closed, closedL, rnA]) ?_
  simp only [shiftP_ptr, shiftP_pel, Bnd_some, IfP_bool, Gd_some, ld_ptr, ld_pel, adv_h, adv_nx, set_nx, cond_true, cond_false, part_one, List.getElem?_cons_zero, List.getElem?_cons_succ, un_not, wantV_bool, pickV_bool, extr_tup, bin_lss, bin_leq, bin_gtr, bin_geq, bin_eql, bin_neq, bin_seql, bin_sneq, bin_add, bin_sub, Nat.reduceAdd, beq_self_eq_true, if_true, if_false, Bool.false_eq_true, Bool.not_true, Bool.not_false, show (false == true) = false from rfl, show (true == false) = false from rfl, Bnd_none, get_set, nx_drop, get_drop', adv_set, adv_two, adv_drop, set_set, Nat.add_assoc, Nat.add_left_cancel_iff, Nat.left_eq_add, Nat.add_eq_left, Nat.add_zero, Nat.reduceEqDiff, reduceCtorEq, and_true, true_and, List.mem_nil_iff, List.not_mem_nil, wantV_tup, resC_nil, resC_some, retP_some, map_some', tupV_one, tupV_two, idOf_ref, idOf_nils, idOf_ptr, idOf_sl, idOf_pel, drop_nil, drop_cons, bin_mul, Bool.or_true, Bool.or_false, Bool.and_true, Bool.and_false, Bool.true_and, Bool.false_and, Bool.true_or, Bool.false_or]
  refine callPu t61 (by simp [AV.closed, closedL, rnA]) ?_
  simp only [sto_sx, sx_part, if_true, shiftP_ptr, shiftP_pel, Bnd_some, IfP_bool, Gd_some, ld_ptr, ld_pel, adv_h, adv_nx, set_nx, cond_true, cond_false, part_one, List.getElem?_cons_zero, List.getElem?_cons_succ, un_not, wantV_bool, pickV_bool, extr_tup, bin_lss, bin_leq, bin_gtr, bin_geq, bin_eql, bin_neq, bin_seql, bin_sneq, bin_add, bin_sub, Nat.reduceAdd, beq_self_eq_true, if_true, if_false, Bool.false_eq_true, Bool.not_true, Bool.not_false, show (false == true) = false from rfl, show (true == false) = false from rfl, Bnd_none, get_set, nx_drop, get_drop', adv_set, adv_two, adv_drop, set_set, Nat.add_assoc, Nat.add_left_cancel_iff, Nat.left_eq_add, Nat.add_eq_left, Nat.add_zero, Nat.reduceEqDiff, reduceCtorEq, and_true, true_and, List.mem_nil_iff, List.not_mem_nil, wantV_tup, resC_nil, resC_some, retP_some, map_some', tupV_one, tupV_two, idOf_ref, idOf_nils, idOf_ptr, idOf_sl, idOf_pel, drop_nil, drop_cons, bin_mul, Bool.or_true, Bool.or_false, Bool.and_true, Bool.and_false, Bool.true_and, Bool.false_and, Bool.true_or, Bool.false_or]
  exact pureQ_closed (by simp only [AV.closed, closedL, sx_closed xb, Bool.and_self])
theorem awake12 : PureC Tryz.env 15 [] (.bool true) := by
  obtain ⟨cs, q1, q2, q3, q4, q5⟩ := r16c
  refine pure_q (f15_run _ ?_)
  unfold f15
  refine callPu (pure_f z54) (by simp [AV.closed]) ?_
  have b1 : bld 27 [(0, .int .i64 2), (2, .agg [.bool true, .sl false [.int .u32 5]])] = some (.agg [.int .i64 2, .bool false, .bool true, .sl false [.int .u32 5], .nils]) := by rw [bf27]; rfl
  have b2 : bsl 25 2 [(0, rnA (97, 1000)), (1, rnA (98, 1))] = some (.sl true [rnA (97, 1000), rnA (98, 1)]) := by kernel_rfl
  have b3 : bsl 25 1 [(0, rnA (97, 1001))] = some (.sl true [rnA (97, 1001)]) := by kernel_rfl
  have b4 : ∀ l, bld 27 [(0, .int .i64 3), (3, .sl true l)] = some (.agg [.int .i64 3, .bool false, .bool false, .nils, .sl true l]) := fun l => by rw [bf27]; rfl
  have b5 : ∀ a b : Int, bld 109 [(0, .int .i64 a), (1, .int .i64 b)] = some (rnA (a, b)) := fun a b => by rw [bf109]; rfl
  simp only [b1, shiftP_ptr, shiftP_pel, Bnd_some, IfP_bool, Gd_some, ld_ptr, ld_pel, adv_h, adv_nx, set_nx, cond_true, cond_false, part_one, List.getElem?_cons_zero, List.getElem?_cons_succ, un_not, wantV_bool, pickV_bool, extr_tup, bin_lss, bin_leq, bin_gtr, bin_geq, bin_eql, bin_neq, bin_seql, bin_sneq, bin_add, bin_sub, Nat.reduceAdd, beq_self_eq_true, if_true, if_false, Bool.false_eq_true, Bool.not_true, Bool.not_false, show (false == true) = false from rfl, show (true == false) = false from rfl, Bnd_none, get_set, nx_drop, get_drop', adv_set, adv_two, adv_drop, set_set, Nat.add_assoc, Nat.add_left_cancel_iff, Nat.left_eq_add, Nat.add_eq_left, Nat.add_zero, Nat.reduceEqDiff, reduceCtorEq, and_true, true_and, List.mem_nil_iff, List.not_mem_nil, wantV_tup, resC_nil, resC_some, retP_some, map_some', tupV_one, tupV_two, idOf_ref, idOf_nils, idOf_ptr, idOf_sl, idOf_pel, drop_nil, drop_cons, bin_mul, Bool.or_true, Bool.or_false, Bool.and_true, Bool.and_false, Bool.true_and, Bool.false_and, Bool.true_or, Bool.false_or]
  refine callPur (args2 := [valA 2 false true [.int .u32 5] []]) (ids := []) rfl (pure_f r16a) ?_
  have st1 : ∀ (v : AV) (q : St) (i n : Nat), v.cells.length = 6 → v.cells.all AV.one = true → sto 6 (.ptr i 0) v (Ai.adv (q.set i (some (.cells (AV.agg [.bool false, .int .i64 0, .str [], .int .i64 0, .int .i64 0, .nils]).cells 33 true true))) n) = some (Ai.adv (q.set i (some (.cells v.cells 33 true true))) n) := fun v q i n e1 e2 => by
    rw [sto_all (z := 6) (by rw [adv_h, st_same]) rfl e1 e2, adv_set, set_set]
  have p1 : Ai.part 6 true 0 minus5.cells = some minus5 := rfl
  simp only [List.isEmpty_nil, Bool.true_or, if_true, shiftP_ptr, shiftP_pel, Bnd_some, IfP_bool, Gd_some, ld_ptr, ld_pel, adv_h, adv_nx, set_nx, cond_true, cond_false, part_one, List.getElem?_cons_zero, List.getElem?_cons_succ, un_not, wantV_bool, pickV_bool, extr_tup, bin_lss, bin_leq, bin_gtr, bin_geq, bin_eql, bin_neq, bin_seql, bin_sneq, bin_add, bin_sub, Nat.reduceAdd, beq_self_eq_true, if_true, if_false, Bool.false_eq_true, Bool.not_true, Bool.not_false, show (false == true) = false from rfl, show (true == false) = false from rfl, Bnd_none, get_set, nx_drop, get_drop', adv_set, adv_two, adv_drop, set_set, Nat.add_assoc, Nat.add_left_cancel_iff, Nat.left_eq_add, Nat.add_eq_left, Nat.add_zero, Nat.reduceEqDiff, reduceCtorEq, and_true, true_and, List.mem_nil_iff, List.not_mem_nil, wantV_tup, resC_nil, resC_some, retP_some, map_some', tupV_one, tupV_two, idOf_ref, idOf_nils, idOf_ptr, idOf_sl, idOf_pel, drop_nil, drop_cons, bin_mul, Bool.or_true, Bool.or_false, Bool.and_true, Bool.and_false, Bool.true_and, Bool.false_and, Bool.true_or, Bool.false_or, zf33]
  rw [st1 _ _ _ _ rfl rfl]
  simp only [shiftP_ptr, shiftP_pel, Bnd_some, IfP_bool, Gd_some, ld_ptr, ld_pel, adv_h, adv_nx, set_nx, cond_true, cond_false, part_one, List.getElem?_cons_zero, List.getElem?_cons_succ, un_not, wantV_bool, pickV_bool, extr_tup, bin_lss, bin_leq, bin_gtr, bin_geq, bin_eql, bin_neq, bin_seql, bin_sneq, bin_add, bin_sub, Nat.reduceAdd, beq_self_eq_true, if_true, if_false, Bool.false_eq_true, Bool.not_true, Bool.not_false, show (false == true) = false from rfl, show (true == false) = false from rfl, Bnd_none, get_set, nx_drop, get_drop', adv_set, adv_two, adv_drop, set_set, Nat.add_assoc, Nat.add_left_cancel_iff, Nat.left_eq_add, Nat.add_eq_left, Nat.add_zero, Nat.reduceEqDiff, reduceCtorEq, and_true, true_and, List.mem_nil_iff, List.not_mem_nil, wantV_tup, resC_nil, resC_some, retP_some, map_some', tupV_one, tupV_two, idOf_ref, idOf_nils, idOf_ptr, idOf_sl, idOf_pel, drop_nil, drop_cons, bin_mul, Bool.or_true, Bool.or_false, Bool.and_true, Bool.and_false, Bool.true_and, Bool.false_and, Bool.true_or, Bool.false_or, if_true, p1]
  refine callPu (pure_f r55) (by simp [AV.closed, closedL, minus5]) ?_
  simp only [shiftP_ptr, shiftP_pel, Bnd_some, IfP_bool, Gd_some, ld_ptr, ld_pel, adv_h, adv_nx, set_nx, cond_true, cond_false, part_one, List.getElem?_cons_zero, List.getElem?_cons_succ, un_not, wantV_bool, pickV_bool, extr_tup, bin_lss, bin_leq, bin_gtr, bin_geq, bin_eql, bin_neq, bin_seql, bin_sneq, bin_add, bin_sub, Nat.reduceAdd, beq_self_eq_true, if_true, if_false, Bool.false_eq_true, Bool.not_true, Bool.not_false, show (false == true) = false from rfl, show (true == false) = false from rfl, Bnd_none, get_set, nx_drop, get_drop', adv_set, adv_two, adv_drop, set_set, Nat.add_assoc, Nat.add_left_cancel_iff, Nat.left_eq_add, Nat.add_eq_left, Nat.add_zero, Nat.reduceEqDiff, reduceCtorEq, and_true, true_and, List.mem_nil_iff, List.not_mem_nil, wantV_tup, resC_nil, resC_some, retP_some, map_some', tupV_one, tupV_two, idOf_ref, idOf_nils, idOf_ptr, idOf_sl, idOf_pel, drop_nil, drop_cons, bin_mul, Bool.or_true, Bool.or_false, Bool.and_true, Bool.and_false, Bool.true_and, Bool.false_and, Bool.true_or, Bool.false_or, b5, b2, b4]
  refine callPur (args2 := [valA 3 false false [] [rnA (97, 1000), rnA (98, 1)]]) (ids := []) rfl r16b ?_
  simp only [List.isEmpty_nil, Bool.true_or, if_true, shiftP_ptr, shiftP_pel, Bnd_some, IfP_bool, Gd_some, ld_ptr, ld_pel, adv_h, adv_nx, set_nx, cond_true, cond_false, part_one, List.getElem?_cons_zero, List.getElem?_cons_succ, un_not, wantV_bool, pickV_bool, extr_tup, bin_lss, bin_leq, bin_gtr, bin_geq, bin_eql, bin_neq, bin_seql, bin_sneq, bin_add, bin_sub, Nat.reduceAdd, beq_self_eq_true, if_true, if_false, Bool.false_eq_true, Bool.not_true, Bool.not_false, show (false == true) = false from rfl, show (true == false) = false from rfl, Bnd_none, get_set, nx_drop, get_drop', adv_set, adv_two, adv_drop, set_set, Nat.add_assoc, Nat.add_left_cancel_iff, Nat.left_eq_add, Nat.add_eq_left, Nat.add_zero, Nat.reduceEqDiff, reduceCtorEq, and_true, true_and, List.mem_nil_iff, List.not_mem_nil, wantV_tup, resC_nil, resC_some, retP_some, map_some', tupV_one, tupV_two, idOf_ref, idOf_nils, idOf_ptr, idOf_sl, idOf_pel, drop_nil, drop_cons, bin_mul, Bool.or_true, Bool.or_false, Bool.and_true, Bool.and_false, Bool.true_and, Bool.false_and, Bool.true_or, Bool.false_or, zf33]
  rw [st1 _ _ _ _ (sx_len _) (sx_ones _)]
  simp only [shiftP_ptr, shiftP_pel, Bnd_some, IfP_bool, Gd_some, ld_ptr, ld_pel, adv_h, adv_nx, set_nx, cond_true, cond_false, part_one, List.getElem?_cons_zero, List.getElem?_cons_succ, un_not, wantV_bool, pickV_bool, extr_tup, bin_lss, bin_leq, bin_gtr, bin_geq, bin_eql, bin_neq, bin_seql, bin_sneq, bin_add, bin_sub, Nat.reduceAdd, beq_self_eq_true, if_true, if_false, Bool.false_eq_true, Bool.not_true, Bool.not_false, show (false == true) = false from rfl, show (true == false) = false from rfl, Bnd_none, get_set, nx_drop, get_drop', adv_set, adv_two, adv_drop, set_set, Nat.add_assoc, Nat.add_left_cancel_iff, Nat.left_eq_add, Nat.add_eq_left, Nat.add_zero, Nat.reduceEqDiff, reduceCtorEq, and_true, true_and, List.mem_nil_iff, List.not_mem_nil, wantV_tup, resC_nil, resC_some, retP_some, map_some', tupV_one, tupV_two, idOf_ref, idOf_nils, idOf_ptr, idOf_sl, idOf_pel, drop_nil, drop_cons, bin_mul, Bool.or_true, Bool.or_false, Bool.and_true, Bool.and_false, Bool.true_and, Bool.false_and, Bool.true_or, Bool.false_or, b5, b3, b4]
  refine callPur (args2 := [valA 3 false false [] [rnA (97, 1001)]]) (ids := []) rfl q1 ?_
  simp only [List.isEmpty_nil, Bool.true_or, if_true, shiftP_ptr, shiftP_pel, Bnd_some, IfP_bool, Gd_some, ld_ptr, ld_pel, adv_h, adv_nx, set_nx, cond_true, cond_false, part_one, List.getElem?_cons_zero, List.getElem?_cons_succ, un_not, wantV_bool, pickV_bool, extr_tup, bin_lss, bin_leq, bin_gtr, bin_geq, bin_eql, bin_neq, bin_seql, bin_sneq, bin_add, bin_sub, Nat.reduceAdd, beq_self_eq_true, if_true, if_false, Bool.false_eq_true, Bool.not_true, Bool.not_false, show (false == true) = false from rfl, show (true == false) = false from rfl, Bnd_none, get_set, nx_drop, get_drop', adv_set, adv_two, adv_drop, set_set, Nat.add_assoc, Nat.add_left_cancel_iff, Nat.left_eq_add, Nat.add_eq_left, Nat.add_zero, Nat.reduceEqDiff, reduceCtorEq, and_true, true_and, List.mem_nil_iff, List.not_mem_nil, wantV_tup, resC_nil, resC_some, retP_some, map_some', tupV_one, tupV_two, idOf_ref, idOf_nils, idOf_ptr, idOf_sl, idOf_pel, drop_nil, drop_cons, bin_mul, Bool.or_true, Bool.or_false, Bool.and_true, Bool.and_false, Bool.true_and, Bool.false_and, Bool.true_or, Bool.false_or, zf33]
  rw [st1 (.agg cs) _ _ _ q3 q4]
  have e0 : ((0 : Int) == 0) = true := rfl
  have hx5 : xb.av.cells[5]? = some (.sl false (Sx.avs [atS 3 stpp, ascS [(97, 1000)], ascS [(98, 1)]])) := rfl
  have hl3 : ((Sx.avs [atS 3 stpp, ascS [(97, 1000)], ascS [(98, 1)]]).length : Int) = 3 := rfl
  have p2 : Ai.part 6 true 0 cs = some (.agg cs) := by
    simp only [part_agg, q3, List.drop_zero, Nat.zero_add, Nat.le_refl, if_true]
    rw [List.take_of_length_le (by omega)]
  simp only [shiftP_ptr, shiftP_pel, Bnd_some, IfP_bool, Gd_some, ld_ptr, ld_pel, adv_h, adv_nx, set_nx, cond_true, cond_false, part_one, List.getElem?_cons_zero, List.getElem?_cons_succ, un_not, wantV_bool, pickV_bool, extr_tup, bin_lss, bin_leq, bin_gtr, bin_geq, bin_eql, bin_neq, bin_seql, bin_sneq, bin_add, bin_sub, Nat.reduceAdd, beq_self_eq_true, if_true, if_false, Bool.false_eq_true, Bool.not_true, Bool.not_false, show (false == true) = false from rfl, show (true == false) = false from rfl, Bnd_none, get_set, nx_drop, get_drop', adv_set, adv_two, adv_drop, set_set, Nat.add_assoc, Nat.add_left_cancel_iff, Nat.left_eq_add, Nat.add_eq_left, Nat.add_zero, Nat.reduceEqDiff, reduceCtorEq, and_true, true_and, List.mem_nil_iff, List.not_mem_nil, wantV_tup, resC_nil, resC_some, retP_some, map_some', tupV_one, tupV_two, idOf_ref, idOf_nils, idOf_ptr, idOf_sl, idOf_pel, drop_nil, drop_cons, bin_mul, Bool.or_true, Bool.or_false, Bool.and_true, Bool.and_false, Bool.true_and, Bool.false_and, Bool.true_or, Bool.false_or, e0, show (([40, 45, 32, 53, 41] : List UInt8) == [40, 45, 32, 53, 41]) = true from rfl, hx5, ln31s, hl3, if_true, show ((3 : Int) == 3) = true from rfl, show (AV.agg cs).cells = cs from rfl, p2]
  refine callPu q5 (by simp [AV.closed, q2]) ?_
  simp only [shiftP_ptr, shiftP_pel, Bnd_some, IfP_bool, Gd_some, ld_ptr, ld_pel, adv_h, adv_nx, set_nx, cond_true, cond_false, part_one, List.getElem?_cons_zero, List.getElem?_cons_succ, un_not, wantV_bool, pickV_bool, extr_tup, bin_lss, bin_leq, bin_gtr, bin_geq, bin_eql, bin_neq, bin_seql, bin_sneq, bin_add, bin_sub, Nat.reduceAdd, beq_self_eq_true, if_true, if_false, Bool.false_eq_true, Bool.not_true, Bool.not_false, show (false == true) = false from rfl, show (true == false) = false from rfl, Bnd_none, get_set, nx_drop, get_drop', adv_set, adv_two, adv_drop, set_set, Nat.add_assoc, Nat.add_left_cancel_iff, Nat.left_eq_add, Nat.add_eq_left, Nat.add_zero, Nat.reduceEqDiff, reduceCtorEq, and_true, true_and, List.mem_nil_iff, List.not_mem_nil, wantV_tup, resC_nil, resC_some, retP_some, map_some', tupV_one, tupV_two, idOf_ref, idOf_nils, idOf_ptr, idOf_sl, idOf_pel, drop_nil, drop_cons, bin_mul, Bool.or_true, Bool.or_false, Bool.and_true, Bool.and_false, Bool.true_and, Bool.false_and, Bool.true_or, Bool.false_or, show ((13 : Int) == 13) = true from rfl]
  refine callPu (pure_f r22) (by simp [AV.closed]) ?_
  simp only [shiftP_ptr, shiftP_pel, Bnd_some, IfP_bool, Gd_some, ld_ptr, ld_pel, adv_h, adv_nx, set_nx, cond_true, cond_false, part_one, List.getElem?_cons_zero, List.getElem?_cons_succ, un_not, wantV_bool, pickV_bool, extr_tup, bin_lss, bin_leq, bin_gtr, bin_geq, bin_eql, bin_neq, bin_seql, bin_sneq, bin_add, bin_sub, Nat.reduceAdd, beq_self_eq_true, if_true, if_false, Bool.false_eq_true, Bool.not_true, Bool.not_false, show (false == true) = false from rfl, show (true == false) = false from rfl, Bnd_none, get_set, nx_drop, get_drop', adv_set, adv_two, adv_drop, set_set, Nat.add_assoc, Nat.add_left_cancel_iff, Nat.left_eq_add, Nat.add_eq_left, Nat.add_zero, Nat.reduceEqDiff, reduceCtorEq, and_true, true_and, List.mem_nil_iff, List.not_mem_nil, wantV_tup, resC_nil, resC_some, retP_some, map_some', tupV_one, tupV_two, idOf_ref, idOf_nils, idOf_ptr, idOf_sl, idOf_pel, drop_nil, drop_cons, bin_mul, Bool.or_true, Bool.or_false, Bool.and_true, Bool.and_false, Bool.true_and, Bool.false_and, Bool.true_or, Bool.false_or, show (([115, 116, 114, 46, 43, 43] : List UInt8) == [115, 116, 114, 46, 43, 43]) = true from rfl]
  exact pureQ_closed rfl
end Go.Proofs.YtdehdahimkcakaaGreatDoor
