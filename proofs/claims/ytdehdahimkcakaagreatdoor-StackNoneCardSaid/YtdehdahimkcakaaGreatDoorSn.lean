/- StackNone: what its functions answer. -/
import Derived.Test.YtdehdahimkcakaaGreatDoorCl
import Derived.Test.YtdehdahimkcakaaGreatDoorLSn
import Derived.Test.YtdehdahimkcakaaGreatDoorAwa
set_option linter.unusedVariables false
set_option linter.unusedSimpArgs false
set_option maxRecDepth 100000
set_option maxHeartbeats 4000000
namespace Go.Proofs.YtdehdahimkcakaaGreatDoor
open Go Ai

/-! ### With no stack -/
theorem eq_nilp : bn .eql 81 .nilp .nilp = some (.bool true) := by kernel_rfl
theorem len49n (id : Nat) (s : St) : bt .len #[49] [.nils] id s = some (.int .i64 0, s) := by kernel_rfl
theorem len31n (id : Nat) (s : St) : bt .len #[31] [.nils] id s = some (.int .i64 0, s) := by kernel_rfl
theorem len72n (id : Nat) (s : St) : bt .len #[72] [.nils] id s = some (.int .i64 0, s) := by kernel_rfl
/-- A call on one's own blocks, its result kept as it is. -/
theorem callWi {h : FuncId} {args : List AV} {s : St} {K : AV → St → Prop} (hz : Tryz.env.fz h = false) (hc : ∃ r s', WideC Tryz.env h args s r s' ∧ K r s') : CallWi Tryz.env h args s K := by
  obtain ⟨r, s', h1, h2⟩ := hc
  exact .mk r s' h1 (by rw [hz]; exact h2)
theorem fz44 : Tryz.env.fz 44 = false := by kernel_rfl
theorem fz45 : Tryz.env.fz 45 = false := by kernel_rfl
theorem fz46 : Tryz.env.fz 46 = false := by kernel_rfl
theorem fz47 : Tryz.env.fz 47 = false := by kernel_rfl
theorem fz50 : Tryz.env.fz 50 = false := by kernel_rfl
theorem fz51 : Tryz.env.fz 51 = false := by kernel_rfl
theorem fz52 : Tryz.env.fz 52 = false := by kernel_rfl
theorem fz91 : Tryz.env.fz 91 = false := by kernel_rfl
theorem fz92 : Tryz.env.fz 92 = false := by kernel_rfl
theorem fz99 : Tryz.env.fz 99 = false := by kernel_rfl
section
variable {s : St} {K : AV → St → Prop}
theorem n44 (h : K .nils (adv s 4)) : CallWi Tryz.env 44 [.nilp] s K := callWi fz44 (f44_run _ _ (by
  unfold f44
  simp only [eq_nilp, shiftP_ptr, shiftP_pel, Bnd_some, IfP_bool, Gd_some, ld_ptr, ld_pel, adv_h, adv_nx, set_h, set_nx, beq_self', cond_true, cond_false, part_one, List.getElem?_cons_zero, List.getElem?_cons_succ, un_not, wantV_bool, pickV_bool, extr_tup, bin_lss, bin_leq, bin_gtr, bin_geq, bin_eql, bin_neq, bin_seql, bin_sneq, bin_add, bin_sub, Nat.zero_add, Nat.reduceAdd, beq_self_eq_true, if_true, if_false, Bool.false_eq_true, Bool.not_true, Bool.not_false, show (false == true) = false from rfl, show (true == false) = false from rfl]; exact h))
theorem n45 (h : K .nils (adv s 4)) : CallWi Tryz.env 45 [.nilp] s K := callWi fz45 (f45_run _ _ (by
  unfold f45
  simp only [eq_nilp, shiftP_ptr, shiftP_pel, Bnd_some, IfP_bool, Gd_some, ld_ptr, ld_pel, adv_h, adv_nx, set_h, set_nx, beq_self', cond_true, cond_false, part_one, List.getElem?_cons_zero, List.getElem?_cons_succ, un_not, wantV_bool, pickV_bool, extr_tup, bin_lss, bin_leq, bin_gtr, bin_geq, bin_eql, bin_neq, bin_seql, bin_sneq, bin_add, bin_sub, Nat.zero_add, Nat.reduceAdd, beq_self_eq_true, if_true, if_false, Bool.false_eq_true, Bool.not_true, Bool.not_false, show (false == true) = false from rfl, show (true == false) = false from rfl]; exact h))
theorem n46 (h : K (.int .i64 0) (adv s 4)) : CallWi Tryz.env 46 [.nilp] s K := callWi fz46 (f46_run _ _ (by
  unfold f46
  simp only [eq_nilp, shiftP_ptr, shiftP_pel, Bnd_some, IfP_bool, Gd_some, ld_ptr, ld_pel, adv_h, adv_nx, set_h, set_nx, beq_self', cond_true, cond_false, part_one, List.getElem?_cons_zero, List.getElem?_cons_succ, un_not, wantV_bool, pickV_bool, extr_tup, bin_lss, bin_leq, bin_gtr, bin_geq, bin_eql, bin_neq, bin_seql, bin_sneq, bin_add, bin_sub, Nat.zero_add, Nat.reduceAdd, beq_self_eq_true, if_true, if_false, Bool.false_eq_true, Bool.not_true, Bool.not_false, show (false == true) = false from rfl, show (true == false) = false from rfl]; exact h))
theorem n52 {b : AV} (h : ∀ s', s'.h = s.h → s.nx ≤ s'.nx → K (.tup [.nils, .int .i64 0]) s') : CallWi Tryz.env 52 [.nilp, b] s K := callWi fz52 (f52_run _ _ _ (by
  unfold f52
  refine n44 (n45 ?_)
  simp only [len31n, Bnd_some]
  refine ⟨1, ?_⟩
  show f52l1s K (f52l1 K 0) _ _ _ _ _ _ _
  unfold f52l1s f52j1
  simp only [shiftP_ptr, shiftP_pel, Bnd_some, IfP_bool, Gd_some, ld_ptr, ld_pel, adv_h, adv_nx, set_h, set_nx, beq_self', cond_true, cond_false, part_one, List.getElem?_cons_zero, List.getElem?_cons_succ, un_not, wantV_bool, pickV_bool, extr_tup, bin_lss, bin_leq, bin_gtr, bin_geq, bin_eql, bin_neq, bin_seql, bin_sneq, bin_add, bin_sub, Nat.zero_add, Nat.reduceAdd, beq_self_eq_true, if_true, if_false, Bool.false_eq_true, Bool.not_true, Bool.not_false, show (false == true) = false from rfl, show (true == false) = false from rfl, Int.reduceLT, decide_false]
  exact h _ rfl (by simp only [adv_nx]; omega)))
theorem n91 {x y : AV} (h : ∀ s', s'.h = s.h → s.nx ≤ s'.nx → K (.int .i64 1) s') : CallWi Tryz.env 91 [.nilp, x, y] s K := callWi fz91 (f91_run _ _ _ _ (by
  unfold f91
  simp only [eq_nilp, shiftP_ptr, shiftP_pel, Bnd_some, IfP_bool, Gd_some, ld_ptr, ld_pel, adv_h, adv_nx, set_h, set_nx, beq_self', cond_true, cond_false, part_one, List.getElem?_cons_zero, List.getElem?_cons_succ, un_not, wantV_bool, pickV_bool, extr_tup, bin_lss, bin_leq, bin_gtr, bin_geq, bin_eql, bin_neq, bin_seql, bin_sneq, bin_add, bin_sub, Nat.zero_add, Nat.reduceAdd, beq_self_eq_true, if_true, if_false, Bool.false_eq_true, Bool.not_true, Bool.not_false, show (false == true) = false from rfl, show (true == false) = false from rfl]
  exact h _ rfl (by simp only [adv_nx]; omega)))
theorem n99 {x : AV} (hx : x.cells.all AV.one = true) (h : ∀ s', (∀ j, j < s.nx → s'.h j = s.h j) → s.nx ≤ s'.nx → K (.int .i64 1) s') : CallWi Tryz.env 99 [.nilp, x] s K := callWi fz99 (f99_run _ _ _ (by
  unfold f99
  refine ⟨hx, ?_⟩
  simp only [eq_nilp, shiftP_ptr, shiftP_pel, Bnd_some, IfP_bool, Gd_some, ld_ptr, ld_pel, adv_h, adv_nx, set_h, set_nx, beq_self', cond_true, cond_false, part_one, List.getElem?_cons_zero, List.getElem?_cons_succ, un_not, wantV_bool, pickV_bool, extr_tup, bin_lss, bin_leq, bin_gtr, bin_geq, bin_eql, bin_neq, bin_seql, bin_sneq, bin_add, bin_sub, Nat.zero_add, Nat.reduceAdd, beq_self_eq_true, if_true, if_false, Bool.false_eq_true, Bool.not_true, Bool.not_false, show (false == true) = false from rfl, show (true == false) = false from rfl]
  exact h _ (fun j hj => by simp only [adv_h]; rw [st_other (by omega)]; rfl) (by simp only [adv_nx, set_nx]; omega)))
theorem n92 {x : AV} (hx : x.cells.all AV.one = true) (h : ∀ s', (∀ j, j < s.nx → s'.h j = s.h j) → s.nx ≤ s'.nx → K (.int .i64 1) s') : CallWi Tryz.env 92 [.nilp, x] s K := callWi fz92 (f92_run _ _ _ (by
  unfold f92
  refine ⟨hx, ?_⟩
  simp only [eq_nilp, shiftP_ptr, shiftP_pel, Bnd_some, IfP_bool, Gd_some, ld_ptr, ld_pel, adv_h, adv_nx, set_h, set_nx, beq_self', cond_true, cond_false, part_one, List.getElem?_cons_zero, List.getElem?_cons_succ, un_not, wantV_bool, pickV_bool, extr_tup, bin_lss, bin_leq, bin_gtr, bin_geq, bin_eql, bin_neq, bin_seql, bin_sneq, bin_add, bin_sub, Nat.zero_add, Nat.reduceAdd, beq_self_eq_true, if_true, if_false, Bool.false_eq_true, Bool.not_true, Bool.not_false, show (false == true) = false from rfl, show (true == false) = false from rfl]
  exact h _ (fun j hj => by simp only [adv_h]; rw [st_other (by omega)]; rfl) (by simp only [adv_nx, set_nx]; omega)))
theorem n50 {x : AV} (h : ∀ s', s'.h = s.h → s.nx ≤ s'.nx → K (.int .i64 1) s') : CallWi Tryz.env 50 [.nilp, x] s K := callWi fz50 (f50_run _ _ _ (by
  unfold f50 f50j4
  simp only [eq_nilp, shiftP_ptr, shiftP_pel, Bnd_some, IfP_bool, Gd_some, ld_ptr, ld_pel, adv_h, adv_nx, set_h, set_nx, beq_self', cond_true, cond_false, part_one, List.getElem?_cons_zero, List.getElem?_cons_succ, un_not, wantV_bool, pickV_bool, extr_tup, bin_lss, bin_leq, bin_gtr, bin_geq, bin_eql, bin_neq, bin_seql, bin_sneq, bin_add, bin_sub, Nat.zero_add, Nat.reduceAdd, beq_self_eq_true, if_true, if_false, Bool.false_eq_true, Bool.not_true, Bool.not_false, show (false == true) = false from rfl, show (true == false) = false from rfl]
  exact h _ rfl (by simp only [adv_nx]; omega)))
theorem n51 {x : AV} (h : ∀ s', s'.h = s.h → s.nx ≤ s'.nx → K (.int .i64 1) s') : CallWi Tryz.env 51 [.nilp, x] s K := callWi fz51 (f51_run _ _ _ (by
  unfold f51 f51j6
  simp only [eq_nilp, shiftP_ptr, shiftP_pel, Bnd_some, IfP_bool, Gd_some, ld_ptr, ld_pel, adv_h, adv_nx, set_h, set_nx, beq_self', cond_true, cond_false, part_one, List.getElem?_cons_zero, List.getElem?_cons_succ, un_not, wantV_bool, pickV_bool, extr_tup, bin_lss, bin_leq, bin_gtr, bin_geq, bin_eql, bin_neq, bin_seql, bin_sneq, bin_add, bin_sub, Nat.zero_add, Nat.reduceAdd, beq_self_eq_true, if_true, if_false, Bool.false_eq_true, Bool.not_true, Bool.not_false, show (false == true) = false from rfl, show (true == false) = false from rfl]
  exact h _ rfl (by simp only [adv_nx]; omega)))
theorem n47 (c : Cl) (h : ∀ s', K (.int .i64 1) s') : CallWi Tryz.env 47 [.nilp, c.av] s K := callWi fz47 (f47_run _ _ _ (by
  unfold f47
  refine ⟨cl_ones c, ?_⟩
  simp only [cl0, shiftP_ptr, shiftP_pel, Bnd_some, IfP_bool, Gd_some, ld_ptr, ld_pel, adv_h, adv_nx, set_h, set_nx, beq_self', cond_true, cond_false, part_one, List.getElem?_cons_zero, List.getElem?_cons_succ, un_not, wantV_bool, pickV_bool, extr_tup, bin_lss, bin_leq, bin_gtr, bin_geq, bin_eql, bin_neq, bin_seql, bin_sneq, bin_add, bin_sub, Nat.zero_add, Nat.reduceAdd, beq_self_eq_true, if_true, if_false, Bool.false_eq_true, Bool.not_true, Bool.not_false, show (false == true) = false from rfl, show (true == false) = false from rfl]
  cases h0 : (c.kind == 0) with
  | true =>
    simp only [cl2, cl3, shiftP_ptr, shiftP_pel, Bnd_some, IfP_bool, Gd_some, ld_ptr, ld_pel, adv_h, adv_nx, set_h, set_nx, beq_self', cond_true, cond_false, part_one, List.getElem?_cons_zero, List.getElem?_cons_succ, un_not, wantV_bool, pickV_bool, extr_tup, bin_lss, bin_leq, bin_gtr, bin_geq, bin_eql, bin_neq, bin_seql, bin_sneq, bin_add, bin_sub, Nat.zero_add, Nat.reduceAdd, beq_self_eq_true, if_true, if_false, Bool.false_eq_true, Bool.not_true, Bool.not_false, show (false == true) = false from rfl, show (true == false) = false from rfl]
    exact n91 fun s' _ _ => h s'
  | false =>
  cases h1 : (c.kind == 1) with
  | true =>
    simp only [cl_d, shiftP_ptr, shiftP_pel, Bnd_some, IfP_bool, Gd_some, ld_ptr, ld_pel, adv_h, adv_nx, set_h, set_nx, beq_self', cond_true, cond_false, part_one, List.getElem?_cons_zero, List.getElem?_cons_succ, un_not, wantV_bool, pickV_bool, extr_tup, bin_lss, bin_leq, bin_gtr, bin_geq, bin_eql, bin_neq, bin_seql, bin_sneq, bin_add, bin_sub, Nat.zero_add, Nat.reduceAdd, beq_self_eq_true, if_true, if_false, Bool.false_eq_true, Bool.not_true, Bool.not_false, show (false == true) = false from rfl, show (true == false) = false from rfl]
    exact n99 (dc_ones c.d) fun s' _ _ => h s'
  | false =>
  cases h2 : (c.kind == 2) with
  | true =>
    simp only [cl_x, shiftP_ptr, shiftP_pel, Bnd_some, IfP_bool, Gd_some, ld_ptr, ld_pel, adv_h, adv_nx, set_h, set_nx, beq_self', cond_true, cond_false, part_one, List.getElem?_cons_zero, List.getElem?_cons_succ, un_not, wantV_bool, pickV_bool, extr_tup, bin_lss, bin_leq, bin_gtr, bin_geq, bin_eql, bin_neq, bin_seql, bin_sneq, bin_add, bin_sub, Nat.zero_add, Nat.reduceAdd, beq_self_eq_true, if_true, if_false, Bool.false_eq_true, Bool.not_true, Bool.not_false, show (false == true) = false from rfl, show (true == false) = false from rfl]
    exact n92 (sx_ones c.x) fun s' _ _ => h s'
  | false =>
  cases h3 : (c.kind == 3) with
  | true =>
    simp only [cl1, shiftP_ptr, shiftP_pel, Bnd_some, IfP_bool, Gd_some, ld_ptr, ld_pel, adv_h, adv_nx, set_h, set_nx, beq_self', cond_true, cond_false, part_one, List.getElem?_cons_zero, List.getElem?_cons_succ, un_not, wantV_bool, pickV_bool, extr_tup, bin_lss, bin_leq, bin_gtr, bin_geq, bin_eql, bin_neq, bin_seql, bin_sneq, bin_add, bin_sub, Nat.zero_add, Nat.reduceAdd, beq_self_eq_true, if_true, if_false, Bool.false_eq_true, Bool.not_true, Bool.not_false, show (false == true) = false from rfl, show (true == false) = false from rfl]
    exact n50 fun s' _ _ => h s'
  | false =>
    simp only [f47j1, cl1, shiftP_ptr, shiftP_pel, Bnd_some, IfP_bool, Gd_some, ld_ptr, ld_pel, adv_h, adv_nx, set_h, set_nx, beq_self', cond_true, cond_false, part_one, List.getElem?_cons_zero, List.getElem?_cons_succ, un_not, wantV_bool, pickV_bool, extr_tup, bin_lss, bin_leq, bin_gtr, bin_geq, bin_eql, bin_neq, bin_seql, bin_sneq, bin_add, bin_sub, Nat.zero_add, Nat.reduceAdd, beq_self_eq_true, if_true, if_false, Bool.false_eq_true, Bool.not_true, Bool.not_false, show (false == true) = false from rfl, show (true == false) = false from rfl]
    exact n51 fun s' _ _ => h s'))
end
theorem bsl79 (c : Cl) : bsl 79 1 [(0, c.av)] = some (.sl true [c.av]) := by
  have ty79 : SlTy 79 93 18 true 216 := ⟨by kernel_rfl, by kernel_rfl, by kernel_rfl, by kernel_rfl, by decide⟩
  exact bsl_one ty79 (by decide) (cl_len c) (cl_ones c)
theorem bld58 : ∃ v, bld 58 [] = some v ∧ v.cells.all AV.one = true := by
  have h : (bld 58 []).map (fun v => v.cells.all AV.one) = some true := by kernel_rfl
  obtain ⟨v, h1, h2⟩ := Option.map_eq_some_iff.1 h
  exact ⟨v, h1, h2⟩
theorem bn34 (a b : Int) : bn .eql 34 (.int .i64 a) (.int .i64 b) = some (.bool (a == b)) := bin_eql
theorem c14 (c : Cl) (hc : c.ok = true) : ∃ s', WideC Tryz.env 14 [c.av] St.empty (.bool true) s' := by
  have h := f14_run c.av St.empty (Q := fun r _ => r = .bool true) (by
    unfold f14
    refine ⟨cl_ones c, ?_⟩
    refine callPu awake23 (by simp) ?_
    simp only [cl_part, bsl79, shiftP_ptr, shiftP_pel, Bnd_some, IfP_bool, Gd_some, ld_ptr, ld_pel, adv_h, adv_nx, set_h, set_nx, beq_self', cond_true, cond_false, part_one, List.getElem?_cons_zero, List.getElem?_cons_succ, un_not, wantV_bool, pickV_bool, extr_tup, bin_lss, bin_leq, bin_gtr, bin_geq, bin_eql, bin_neq, bin_seql, bin_sneq, bin_add, bin_sub, Nat.zero_add, Nat.reduceAdd, beq_self_eq_true, if_true, if_false, Bool.false_eq_true, Bool.not_true, Bool.not_false, show (false == true) = false from rfl, show (true == false) = false from rfl]
    refine callPuF (args2 := [.sl false ([c].map Cl.av)]) (ids := []) ?_ (sfew_c false [c] (fun x hx => by simp at hx; subst hx; exact hc)) rfl ?_
    · have h1 := pur_closed (s := (adv (adv ((adv St.empty 2).set St.empty.nx (some (.cells c.av.cells 93 true true))) 2) 4)) 11 (cl_closed c)
      have h2 : (AV.sl true [c.av]).closed = false := rfl
      simp only [purL]
      unfold pur
      simp only [h2, Bool.false_eq_true, if_false, purL, h1]
      rfl
    cases hf : sfew [c] with
    | false => simp only [shiftP_ptr, shiftP_pel, Bnd_some, IfP_bool, Gd_some, ld_ptr, ld_pel, adv_h, adv_nx, set_h, set_nx, beq_self', cond_true, cond_false, part_one, List.getElem?_cons_zero, List.getElem?_cons_succ, un_not, wantV_bool, pickV_bool, extr_tup, bin_lss, bin_leq, bin_gtr, bin_geq, bin_eql, bin_neq, bin_seql, bin_sneq, bin_add, bin_sub, Nat.zero_add, Nat.reduceAdd, beq_self_eq_true, if_true, if_false, Bool.false_eq_true, Bool.not_true, Bool.not_false, show (false == true) = false from rfl, show (true == false) = false from rfl]
    | true =>
      obtain ⟨v, e1, e2⟩ := bld58
      simp only [e1, shiftP_ptr, shiftP_pel, Bnd_some, IfP_bool, Gd_some, ld_ptr, ld_pel, adv_h, adv_nx, set_h, set_nx, beq_self', cond_true, cond_false, part_one, List.getElem?_cons_zero, List.getElem?_cons_succ, un_not, wantV_bool, pickV_bool, extr_tup, bin_lss, bin_leq, bin_gtr, bin_geq, bin_eql, bin_neq, bin_seql, bin_sneq, bin_add, bin_sub, Nat.zero_add, Nat.reduceAdd, beq_self_eq_true, if_true, if_false, Bool.false_eq_true, Bool.not_true, Bool.not_false, show (false == true) = false from rfl, show (true == false) = false from rfl]
      refine ⟨e2, ?_⟩
      refine n52 fun s' hh hn => ?_
      have hcell : s'.h St.empty.nx = some (.cells c.av.cells 93 true true) := by
        rw [hh]
        rw [st_other (by decide)]
        exact st_same (s := adv St.empty 2) (id := St.empty.nx)
      simp only [hcell, cl_part, shiftP_ptr, shiftP_pel, Bnd_some, IfP_bool, Gd_some, ld_ptr, ld_pel, adv_h, adv_nx, set_h, set_nx, beq_self', cond_true, cond_false, part_one, List.getElem?_cons_zero, List.getElem?_cons_succ, un_not, wantV_bool, pickV_bool, extr_tup, bin_lss, bin_leq, bin_gtr, bin_geq, bin_eql, bin_neq, bin_seql, bin_sneq, bin_add, bin_sub, Nat.zero_add, Nat.reduceAdd, beq_self_eq_true, if_true, if_false, Bool.false_eq_true, Bool.not_true, Bool.not_false, show (false == true) = false from rfl, show (true == false) = false from rfl]
      refine n47 c fun s6 => ?_
      simp only [bn34, shiftP_ptr, shiftP_pel, Bnd_some, IfP_bool, Gd_some, ld_ptr, ld_pel, adv_h, adv_nx, set_h, set_nx, beq_self', cond_true, cond_false, part_one, List.getElem?_cons_zero, List.getElem?_cons_succ, un_not, wantV_bool, pickV_bool, extr_tup, bin_lss, bin_leq, bin_gtr, bin_geq, bin_eql, bin_neq, bin_seql, bin_sneq, bin_add, bin_sub, Nat.zero_add, Nat.reduceAdd, beq_self_eq_true, if_true, if_false, Bool.false_eq_true, Bool.not_true, Bool.not_false, show (false == true) = false from rfl, show (true == false) = false from rfl, show ((1 : Int) == 1) = true from rfl]
      refine n44 ?_
      simp only [len49n, shiftP_ptr, shiftP_pel, Bnd_some, IfP_bool, Gd_some, ld_ptr, ld_pel, adv_h, adv_nx, set_h, set_nx, beq_self', cond_true, cond_false, part_one, List.getElem?_cons_zero, List.getElem?_cons_succ, un_not, wantV_bool, pickV_bool, extr_tup, bin_lss, bin_leq, bin_gtr, bin_geq, bin_eql, bin_neq, bin_seql, bin_sneq, bin_add, bin_sub, Nat.zero_add, Nat.reduceAdd, beq_self_eq_true, if_true, if_false, Bool.false_eq_true, Bool.not_true, Bool.not_false, show (false == true) = false from rfl, show (true == false) = false from rfl]
      refine n45 ?_
      simp only [len31n, shiftP_ptr, shiftP_pel, Bnd_some, IfP_bool, Gd_some, ld_ptr, ld_pel, adv_h, adv_nx, set_h, set_nx, beq_self', cond_true, cond_false, part_one, List.getElem?_cons_zero, List.getElem?_cons_succ, un_not, wantV_bool, pickV_bool, extr_tup, bin_lss, bin_leq, bin_gtr, bin_geq, bin_eql, bin_neq, bin_seql, bin_sneq, bin_add, bin_sub, Nat.zero_add, Nat.reduceAdd, beq_self_eq_true, if_true, if_false, Bool.false_eq_true, Bool.not_true, Bool.not_false, show (false == true) = false from rfl, show (true == false) = false from rfl]
      refine n46 ?_
      simp only [len72n, bn34, shiftP_ptr, shiftP_pel, Bnd_some, IfP_bool, Gd_some, ld_ptr, ld_pel, adv_h, adv_nx, set_h, set_nx, beq_self', cond_true, cond_false, part_one, List.getElem?_cons_zero, List.getElem?_cons_succ, un_not, wantV_bool, pickV_bool, extr_tup, bin_lss, bin_leq, bin_gtr, bin_geq, bin_eql, bin_neq, bin_seql, bin_sneq, bin_add, bin_sub, Nat.zero_add, Nat.reduceAdd, beq_self_eq_true, if_true, if_false, Bool.false_eq_true, Bool.not_true, Bool.not_false, show (false == true) = false from rfl, show (true == false) = false from rfl])
  obtain ⟨r, s', h1, rfl⟩ := h
  exact ⟨s', h1⟩
end Go.Proofs.YtdehdahimkcakaaGreatDoor
