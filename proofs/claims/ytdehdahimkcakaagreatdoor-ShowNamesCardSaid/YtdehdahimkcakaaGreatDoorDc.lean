/- Declarations: how great they are. -/
import Derived.Test.YtdehdahimkcakaaGreatDoorSx
set_option linter.unusedVariables false
set_option linter.unusedSimpArgs false
set_option maxRecDepth 100000
set_option maxHeartbeats 4000000
namespace Go.Proofs.YtdehdahimkcakaaGreatDoor
open Go Ai

/-- A declaration. -/
structure Dc : Type where
  nm : List UInt8
  so : Int
  mac : Bool
  ps : List (List UInt8 × Int)
  body : Sx
def pmA (p : List UInt8 × Int) : AV := .agg [.str p.1, .int .i64 p.2]
def Dc.av (d : Dc) : AV := .agg (.str d.nm :: .int .i64 d.so :: .bool d.mac :: .sl false (d.ps.map pmA) :: d.body.av.cells)
def Dc.ok (d : Dc) : Bool := decide (d.nm.length ≤ maxLen) && isInt d.so && decide (d.ps.length ≤ maxLen) && d.body.ok
theorem dc_cells (d : Dc) : d.av.cells = .str d.nm :: .int .i64 d.so :: .bool d.mac :: .sl false (d.ps.map pmA) :: d.body.av.cells := rfl
theorem dc0 (d : Dc) : d.av.cells[0]? = some (AV.str d.nm) := rfl
theorem dc1 (d : Dc) : d.av.cells[1]? = some (AV.int .i64 d.so) := rfl
theorem dc2 (d : Dc) : d.av.cells[2]? = some (AV.bool d.mac) := rfl
theorem dc3 (d : Dc) : d.av.cells[3]? = some (AV.sl false (d.ps.map pmA)) := rfl
theorem dc_body (d : Dc) : Ai.part 6 true 4 d.av.cells = some d.body.av := by
  obtain ⟨a, b, c, e, f⟩ := d
  cases f; rfl
theorem dc_part (d : Dc) : Ai.part 10 true 0 d.av.cells = some d.av := by
  obtain ⟨a, b, c, e, f⟩ := d
  cases f; rfl
theorem dc_len (d : Dc) : d.av.cells.length = 10 := by
  obtain ⟨a, b, c, e, f⟩ := d
  cases f; rfl
theorem closedL_map {α : Type} (f : α → AV) (l : List α) (h : ∀ x, (f x).closed = true) : closedL (l.map f) = true := by
  induction l with
  | nil => rfl
  | cons x l ih => simp only [List.map_cons, closedL, h, ih, Bool.and_self]
theorem dc_closed (d : Dc) : d.av.closed = true := by
  have h1 : closedL (d.ps.map pmA) = true := closedL_map _ _ fun p => rfl
  have h2 := cells_closed (sx_closed d.body)
  simp only [Dc.av, AV.closed, closedL, h1, h2, Bool.not_false, Bool.and_self]
theorem dc_ones (d : Dc) : d.av.cells.all AV.one = true := by
  have := sx_ones d.body
  rw [dc_cells]
  simp only [List.all_cons, this, Bool.and_true]
  rfl
theorem len49 (ex : Bool) (l : List AV) (id : Nat) (s : St) : bt .len #[49] [.sl ex l] id s = some (.int .i64 l.length, s) := by kernel_rfl
theorem len65 (ex : Bool) (l : List AV) (id : Nat) (s : St) : bt .len #[65] [.sl ex l] id s = some (.int .i64 l.length, s) := by kernel_rfl
theorem ix_dc (ex : Bool) (l : List Dc) (i : Nat) (d : Dc) (h : l[i]? = some d) : ixS 10 (.sl ex (l.map Dc.av)) (.int .i64 (i : Int)) = some (.pel d.av.cells 0) := by
  obtain ⟨hi, rfl⟩ := List.getElem?_eq_some_iff.1 h
  simp [ixS, asI, idx, hi, dc_len]

def dfew : List Dc → Int → Int → Bool
  | [], _, _ => true
  | d :: l, n, f => cond (decide ((d.ps.length : Int) > 3) || (decide (d.body.depth > 64) || (decide (IntKind.i64.wrap (n + d.body.size) > 600) || decide (cond d.mac (IntKind.i64.wrap (f + 1)) f > 8)))) false
      (dfew l (IntKind.i64.wrap (n + d.body.size)) (cond d.mac (IntKind.i64.wrap (f + 1)) f))
def few10 (l : List Dc) (x : Sx) : Bool := cond (decide ((l.length : Int) > 60) || (decide (x.size > 600) || decide (x.depth > 64))) false (dfew l 0 0)
theorem l29 (ex : Bool) (l : List Dc) (hlen : l.length ≤ maxLen) (hok : ∀ d ∈ l, d.ok = true) (Q : AV → St → Prop) (r : Bool) (hQ : ∀ s, Q (.bool r) s) :
    ∀ (m i : Nat) (n f : Int) (s : St), i + m = l.length → r = dfew (l.drop i) n f → ∃ g, f29l1 Q g (.sl ex (l.map Dc.av)) (.int .i64 n) (.int .i64 f) (.int .i64 i) s := by
  intro m
  induction m with
  | zero =>
    intro i n f s hi hr
    refine ⟨1, ?_⟩
    show f29l1s Q (f29l1 Q 0) _ _ _ _ s
    rw [List.drop_eq_nil_of_le (by omega)] at hr
    have hr : r = true := hr
    subst hr
    simp only [f29l1s, f29j1, len49, List.length_map, Int.ofNat_lt, show ¬ (i < l.length) by omega, decide_false, shiftP_ptr, shiftP_pel, Bnd_some, IfP_bool, Gd_some, ld_ptr, ld_pel, adv_h, adv_nx, set_h, set_nx, beq_self', cond_true, cond_false, part_one, List.getElem?_cons_zero, List.getElem?_cons_succ, un_not, wantV_bool, pickV_bool, extr_tup, bin_lss, bin_leq, bin_gtr, bin_geq, bin_eql, bin_neq, bin_seql, bin_sneq, bin_add, bin_sub, Nat.zero_add, Nat.reduceAdd, beq_self_eq_true, if_true, if_false, Bool.false_eq_true, Bool.not_true, Bool.not_false, show (false == true) = false from rfl, show (true == false) = false from rfl]
    exact hQ _
  | succ m ihm =>
    intro i n f s hi hr
    obtain ⟨d, hd⟩ : ∃ d, l[i]? = some d := ⟨_, List.getElem?_eq_getElem (by omega)⟩
    rw [get_drop l i d hd] at hr
    have hix := ix_dc ex l i d hd
    have hlt : i < l.length := by omega
    have hmem : d ∈ l := List.mem_of_getElem? hd
    have hdo : d.body.ok = true := by have := hok d hmem; simp only [Dc.ok, Bool.and_eq_true] at this; exact this.2
    have hsz := size_c d.body hdo
    have hdp := depth_c d.body hdo
    generalize hn' : IntKind.i64.wrap (n + d.body.size) = n' at hr
    generalize hf' : cond d.mac (IntKind.i64.wrap (f + 1)) f = f' at hr
    have key : ∀ s, (∃ g, f29j3 Q (f29l1 Q g) (.sl ex (l.map Dc.av)) (.int .i64 i) (.int .i64 n') (.int .i64 f') s) := by
      intro s
      rw [dfew, hn', hf'] at hr
      cases h1 : decide ((d.ps.length : Int) > 3) with
      | true =>
        refine ⟨0, ?_⟩
        rw [h1] at hr
        have hr : r = false := hr
        subst hr
        simp only [f29j3, hix, dc0, dc1, dc2, dc3, len65, List.length_map, h1, shiftP_ptr, shiftP_pel, Bnd_some, IfP_bool, Gd_some, ld_ptr, ld_pel, adv_h, adv_nx, set_h, set_nx, beq_self', cond_true, cond_false, part_one, List.getElem?_cons_zero, List.getElem?_cons_succ, un_not, wantV_bool, pickV_bool, extr_tup, bin_lss, bin_leq, bin_gtr, bin_geq, bin_eql, bin_neq, bin_seql, bin_sneq, bin_add, bin_sub, Nat.zero_add, Nat.reduceAdd, beq_self_eq_true, if_true, if_false, Bool.false_eq_true, Bool.not_true, Bool.not_false, show (false == true) = false from rfl, show (true == false) = false from rfl]
        exact hQ _
      | false =>
        cases h2 : decide (d.body.depth > 64) with
        | true =>
          refine ⟨0, ?_⟩
          rw [h1, h2] at hr
          have hr : r = false := hr
          subst hr
          simp only [f29j3, hix, dc0, dc1, dc2, dc3, len65, List.length_map, h1, dc_body, shiftP_ptr, shiftP_pel, Bnd_some, IfP_bool, Gd_some, ld_ptr, ld_pel, adv_h, adv_nx, set_h, set_nx, beq_self', cond_true, cond_false, part_one, List.getElem?_cons_zero, List.getElem?_cons_succ, un_not, wantV_bool, pickV_bool, extr_tup, bin_lss, bin_leq, bin_gtr, bin_geq, bin_eql, bin_neq, bin_seql, bin_sneq, bin_add, bin_sub, Nat.zero_add, Nat.reduceAdd, beq_self_eq_true, if_true, if_false, Bool.false_eq_true, Bool.not_true, Bool.not_false, show (false == true) = false from rfl, show (true == false) = false from rfl]
          refine callPu hdp (by simp [sx_closed]) ?_
          simp only [h2, shiftP_ptr, shiftP_pel, Bnd_some, IfP_bool, Gd_some, ld_ptr, ld_pel, adv_h, adv_nx, set_h, set_nx, beq_self', cond_true, cond_false, part_one, List.getElem?_cons_zero, List.getElem?_cons_succ, un_not, wantV_bool, pickV_bool, extr_tup, bin_lss, bin_leq, bin_gtr, bin_geq, bin_eql, bin_neq, bin_seql, bin_sneq, bin_add, bin_sub, Nat.zero_add, Nat.reduceAdd, beq_self_eq_true, if_true, if_false, Bool.false_eq_true, Bool.not_true, Bool.not_false, show (false == true) = false from rfl, show (true == false) = false from rfl]
          exact hQ _
        | false =>
          cases h3 : decide (n' > 600) with
          | true =>
            refine ⟨0, ?_⟩
            rw [h1, h2, h3] at hr
            have hr : r = false := hr
            subst hr
            simp only [f29j3, hix, dc0, dc1, dc2, dc3, len65, List.length_map, h1, dc_body, shiftP_ptr, shiftP_pel, Bnd_some, IfP_bool, Gd_some, ld_ptr, ld_pel, adv_h, adv_nx, set_h, set_nx, beq_self', cond_true, cond_false, part_one, List.getElem?_cons_zero, List.getElem?_cons_succ, un_not, wantV_bool, pickV_bool, extr_tup, bin_lss, bin_leq, bin_gtr, bin_geq, bin_eql, bin_neq, bin_seql, bin_sneq, bin_add, bin_sub, Nat.zero_add, Nat.reduceAdd, beq_self_eq_true, if_true, if_false, Bool.false_eq_true, Bool.not_true, Bool.not_false, show (false == true) = false from rfl, show (true == false) = false from rfl]
            refine callPu hdp (by simp [sx_closed]) ?_
            simp only [h2, h3, shiftP_ptr, shiftP_pel, Bnd_some, IfP_bool, Gd_some, ld_ptr, ld_pel, adv_h, adv_nx, set_h, set_nx, beq_self', cond_true, cond_false, part_one, List.getElem?_cons_zero, List.getElem?_cons_succ, un_not, wantV_bool, pickV_bool, extr_tup, bin_lss, bin_leq, bin_gtr, bin_geq, bin_eql, bin_neq, bin_seql, bin_sneq, bin_add, bin_sub, Nat.zero_add, Nat.reduceAdd, beq_self_eq_true, if_true, if_false, Bool.false_eq_true, Bool.not_true, Bool.not_false, show (false == true) = false from rfl, show (true == false) = false from rfl]
            exact hQ _
          | false =>
            cases h4 : decide (f' > 8) with
            | true =>
              refine ⟨0, ?_⟩
              rw [h1, h2, h3, h4] at hr
              have hr : r = false := hr
              subst hr
              simp only [f29j3, hix, dc0, dc1, dc2, dc3, len65, List.length_map, h1, dc_body, shiftP_ptr, shiftP_pel, Bnd_some, IfP_bool, Gd_some, ld_ptr, ld_pel, adv_h, adv_nx, set_h, set_nx, beq_self', cond_true, cond_false, part_one, List.getElem?_cons_zero, List.getElem?_cons_succ, un_not, wantV_bool, pickV_bool, extr_tup, bin_lss, bin_leq, bin_gtr, bin_geq, bin_eql, bin_neq, bin_seql, bin_sneq, bin_add, bin_sub, Nat.zero_add, Nat.reduceAdd, beq_self_eq_true, if_true, if_false, Bool.false_eq_true, Bool.not_true, Bool.not_false, show (false == true) = false from rfl, show (true == false) = false from rfl]
              refine callPu hdp (by simp [sx_closed]) ?_
              simp only [h2, h3, h4, shiftP_ptr, shiftP_pel, Bnd_some, IfP_bool, Gd_some, ld_ptr, ld_pel, adv_h, adv_nx, set_h, set_nx, beq_self', cond_true, cond_false, part_one, List.getElem?_cons_zero, List.getElem?_cons_succ, un_not, wantV_bool, pickV_bool, extr_tup, bin_lss, bin_leq, bin_gtr, bin_geq, bin_eql, bin_neq, bin_seql, bin_sneq, bin_add, bin_sub, Nat.zero_add, Nat.reduceAdd, beq_self_eq_true, if_true, if_false, Bool.false_eq_true, Bool.not_true, Bool.not_false, show (false == true) = false from rfl, show (true == false) = false from rfl]
              exact hQ _
            | false =>
              rw [h1, h2, h3, h4] at hr
              have hr : r = dfew (l.drop (i + 1)) n' f' := hr
              obtain ⟨g, hg⟩ := ihm (i + 1) n' f' (adv (adv s 24) 3) (by omega) hr
              refine ⟨g, ?_⟩
              simp only [f29j3, f29j2, hix, dc0, dc1, dc2, dc3, len65, List.length_map, h1, dc_body, shiftP_ptr, shiftP_pel, Bnd_some, IfP_bool, Gd_some, ld_ptr, ld_pel, adv_h, adv_nx, set_h, set_nx, beq_self', cond_true, cond_false, part_one, List.getElem?_cons_zero, List.getElem?_cons_succ, un_not, wantV_bool, pickV_bool, extr_tup, bin_lss, bin_leq, bin_gtr, bin_geq, bin_eql, bin_neq, bin_seql, bin_sneq, bin_add, bin_sub, Nat.zero_add, Nat.reduceAdd, beq_self_eq_true, if_true, if_false, Bool.false_eq_true, Bool.not_true, Bool.not_false, show (false == true) = false from rfl, show (true == false) = false from rfl]
              refine callPu hdp (by simp [sx_closed]) ?_
              simp only [h2, h3, h4, shiftP_ptr, shiftP_pel, Bnd_some, IfP_bool, Gd_some, ld_ptr, ld_pel, adv_h, adv_nx, set_h, set_nx, beq_self', cond_true, cond_false, part_one, List.getElem?_cons_zero, List.getElem?_cons_succ, un_not, wantV_bool, pickV_bool, extr_tup, bin_lss, bin_leq, bin_gtr, bin_geq, bin_eql, bin_neq, bin_seql, bin_sneq, bin_add, bin_sub, Nat.zero_add, Nat.reduceAdd, beq_self_eq_true, if_true, if_false, Bool.false_eq_true, Bool.not_true, Bool.not_false, show (false == true) = false from rfl, show (true == false) = false from rfl]
              rw [wrap_len i _ hlt hlen]
              exact hg
    cases hm : d.mac with
    | true =>
      obtain ⟨g, hg⟩ := key (adv (adv (adv (adv s 4) 9) 5) 3)
      rw [hm] at hf'
      refine ⟨g + 1, ?_⟩
      show f29l1s Q (f29l1 Q g) _ _ _ _ s
      simp only [f29l1s, len49, List.length_map, Int.ofNat_lt, hlt, decide_true, hix, dc2, hm, dc_body, shiftP_ptr, shiftP_pel, Bnd_some, IfP_bool, Gd_some, ld_ptr, ld_pel, adv_h, adv_nx, set_h, set_nx, beq_self', cond_true, cond_false, part_one, List.getElem?_cons_zero, List.getElem?_cons_succ, un_not, wantV_bool, pickV_bool, extr_tup, bin_lss, bin_leq, bin_gtr, bin_geq, bin_eql, bin_neq, bin_seql, bin_sneq, bin_add, bin_sub, Nat.zero_add, Nat.reduceAdd, beq_self_eq_true, if_true, if_false, Bool.false_eq_true, Bool.not_true, Bool.not_false, show (false == true) = false from rfl, show (true == false) = false from rfl]
      refine callPu hsz (by simp [sx_closed]) ?_
      have hf' : IntKind.i64.wrap (f + 1) = f' := hf'
      simp only [hix, dc2, hm, hn', hf', shiftP_ptr, shiftP_pel, Bnd_some, IfP_bool, Gd_some, ld_ptr, ld_pel, adv_h, adv_nx, set_h, set_nx, beq_self', cond_true, cond_false, part_one, List.getElem?_cons_zero, List.getElem?_cons_succ, un_not, wantV_bool, pickV_bool, extr_tup, bin_lss, bin_leq, bin_gtr, bin_geq, bin_eql, bin_neq, bin_seql, bin_sneq, bin_add, bin_sub, Nat.zero_add, Nat.reduceAdd, beq_self_eq_true, if_true, if_false, Bool.false_eq_true, Bool.not_true, Bool.not_false, show (false == true) = false from rfl, show (true == false) = false from rfl]
      exact hg
    | false =>
      obtain ⟨g, hg⟩ := key (adv (adv (adv s 4) 9) 5)
      rw [hm] at hf'
      refine ⟨g + 1, ?_⟩
      show f29l1s Q (f29l1 Q g) _ _ _ _ s
      simp only [f29l1s, len49, List.length_map, Int.ofNat_lt, hlt, decide_true, hix, dc2, hm, dc_body, shiftP_ptr, shiftP_pel, Bnd_some, IfP_bool, Gd_some, ld_ptr, ld_pel, adv_h, adv_nx, set_h, set_nx, beq_self', cond_true, cond_false, part_one, List.getElem?_cons_zero, List.getElem?_cons_succ, un_not, wantV_bool, pickV_bool, extr_tup, bin_lss, bin_leq, bin_gtr, bin_geq, bin_eql, bin_neq, bin_seql, bin_sneq, bin_add, bin_sub, Nat.zero_add, Nat.reduceAdd, beq_self_eq_true, if_true, if_false, Bool.false_eq_true, Bool.not_true, Bool.not_false, show (false == true) = false from rfl, show (true == false) = false from rfl]
      refine callPu hsz (by simp [sx_closed]) ?_
      have hf' : f = f' := hf'
      simp only [hix, dc2, hm, hn', hf', shiftP_ptr, shiftP_pel, Bnd_some, IfP_bool, Gd_some, ld_ptr, ld_pel, adv_h, adv_nx, set_h, set_nx, beq_self', cond_true, cond_false, part_one, List.getElem?_cons_zero, List.getElem?_cons_succ, un_not, wantV_bool, pickV_bool, extr_tup, bin_lss, bin_leq, bin_gtr, bin_geq, bin_eql, bin_neq, bin_seql, bin_sneq, bin_add, bin_sub, Nat.zero_add, Nat.reduceAdd, beq_self_eq_true, if_true, if_false, Bool.false_eq_true, Bool.not_true, Bool.not_false, show (false == true) = false from rfl, show (true == false) = false from rfl]
      exact hg
theorem few_c (ex : Bool) (l : List Dc) (x : Sx) (hlen : l.length ≤ maxLen) (hok : ∀ d ∈ l, d.ok = true) (hx : x.ok = true) : PureC Tryz.env 29 [.sl ex (l.map Dc.av), x.av] (.bool (few10 l x)) := by
  refine pure_closed rfl (f29_run _ _ _ ?_)
  refine ⟨sx_ones _, ?_⟩
  unfold few10
  have hs := size_c x hx
  have hd := depth_c x hx
  cases h1 : decide ((l.length : Int) > 60) with
  | true => simp only [len49, List.length_map, h1, shiftP_ptr, shiftP_pel, Bnd_some, IfP_bool, Gd_some, ld_ptr, ld_pel, adv_h, adv_nx, set_h, set_nx, beq_self', cond_true, cond_false, part_one, List.getElem?_cons_zero, List.getElem?_cons_succ, un_not, wantV_bool, pickV_bool, extr_tup, bin_lss, bin_leq, bin_gtr, bin_geq, bin_eql, bin_neq, bin_seql, bin_sneq, bin_add, bin_sub, Nat.zero_add, Nat.reduceAdd, beq_self_eq_true, if_true, if_false, Bool.false_eq_true, Bool.not_true, Bool.not_false, show (false == true) = false from rfl, show (true == false) = false from rfl]; rfl
  | false =>
    simp only [len49, List.length_map, h1, sx_part, shiftP_ptr, shiftP_pel, Bnd_some, IfP_bool, Gd_some, ld_ptr, ld_pel, adv_h, adv_nx, set_h, set_nx, beq_self', cond_true, cond_false, part_one, List.getElem?_cons_zero, List.getElem?_cons_succ, un_not, wantV_bool, pickV_bool, extr_tup, bin_lss, bin_leq, bin_gtr, bin_geq, bin_eql, bin_neq, bin_seql, bin_sneq, bin_add, bin_sub, Nat.zero_add, Nat.reduceAdd, beq_self_eq_true, if_true, if_false, Bool.false_eq_true, Bool.not_true, Bool.not_false, show (false == true) = false from rfl, show (true == false) = false from rfl]
    refine callPu hs (by simp [sx_closed]) ?_
    cases h2 : decide (x.size > 600) with
    | true => simp only [h2, shiftP_ptr, shiftP_pel, Bnd_some, IfP_bool, Gd_some, ld_ptr, ld_pel, adv_h, adv_nx, set_h, set_nx, beq_self', cond_true, cond_false, part_one, List.getElem?_cons_zero, List.getElem?_cons_succ, un_not, wantV_bool, pickV_bool, extr_tup, bin_lss, bin_leq, bin_gtr, bin_geq, bin_eql, bin_neq, bin_seql, bin_sneq, bin_add, bin_sub, Nat.zero_add, Nat.reduceAdd, beq_self_eq_true, if_true, if_false, Bool.false_eq_true, Bool.not_true, Bool.not_false, show (false == true) = false from rfl, show (true == false) = false from rfl]; rfl
    | false =>
      simp only [h2, sx_part, shiftP_ptr, shiftP_pel, Bnd_some, IfP_bool, Gd_some, ld_ptr, ld_pel, adv_h, adv_nx, set_h, set_nx, beq_self', cond_true, cond_false, part_one, List.getElem?_cons_zero, List.getElem?_cons_succ, un_not, wantV_bool, pickV_bool, extr_tup, bin_lss, bin_leq, bin_gtr, bin_geq, bin_eql, bin_neq, bin_seql, bin_sneq, bin_add, bin_sub, Nat.zero_add, Nat.reduceAdd, beq_self_eq_true, if_true, if_false, Bool.false_eq_true, Bool.not_true, Bool.not_false, show (false == true) = false from rfl, show (true == false) = false from rfl]
      refine callPu hd (by simp [sx_closed]) ?_
      cases h3 : decide (x.depth > 64) with
      | true => simp only [h3, shiftP_ptr, shiftP_pel, Bnd_some, IfP_bool, Gd_some, ld_ptr, ld_pel, adv_h, adv_nx, set_h, set_nx, beq_self', cond_true, cond_false, part_one, List.getElem?_cons_zero, List.getElem?_cons_succ, un_not, wantV_bool, pickV_bool, extr_tup, bin_lss, bin_leq, bin_gtr, bin_geq, bin_eql, bin_neq, bin_seql, bin_sneq, bin_add, bin_sub, Nat.zero_add, Nat.reduceAdd, beq_self_eq_true, if_true, if_false, Bool.false_eq_true, Bool.not_true, Bool.not_false, show (false == true) = false from rfl, show (true == false) = false from rfl]; rfl
      | false =>
        simp only [h3, shiftP_ptr, shiftP_pel, Bnd_some, IfP_bool, Gd_some, ld_ptr, ld_pel, adv_h, adv_nx, set_h, set_nx, beq_self', cond_true, cond_false, part_one, List.getElem?_cons_zero, List.getElem?_cons_succ, un_not, wantV_bool, pickV_bool, extr_tup, bin_lss, bin_leq, bin_gtr, bin_geq, bin_eql, bin_neq, bin_seql, bin_sneq, bin_add, bin_sub, Nat.zero_add, Nat.reduceAdd, beq_self_eq_true, if_true, if_false, Bool.false_eq_true, Bool.not_true, Bool.not_false, show (false == true) = false from rfl, show (true == false) = false from rfl]
        exact l29 ex l hlen hok _ _ (fun _ => rfl) l.length 0 0 0 _ (by omega) rfl
theorem great_c (ex : Bool) (l : List Dc) (x : Sx) (hcl : (AV.sl ex (l.map Dc.av)).closed = true) (hlen : l.length ≤ maxLen) (hok : ∀ d ∈ l, d.ok = true) (hx : x.ok = true) : PureC Tryz.env 93 [.sl ex (l.map Dc.av), x.av] (.int .i64 (cond (few10 l x) 0 1)) := by
  refine pure_closed rfl (f93_run _ _ _ ?_)
  refine ⟨sx_ones _, ?_⟩
  simp only [sx_part, shiftP_ptr, shiftP_pel, Bnd_some, IfP_bool, Gd_some, ld_ptr, ld_pel, adv_h, adv_nx, set_h, set_nx, beq_self', cond_true, cond_false, part_one, List.getElem?_cons_zero, List.getElem?_cons_succ, un_not, wantV_bool, pickV_bool, extr_tup, bin_lss, bin_leq, bin_gtr, bin_geq, bin_eql, bin_neq, bin_seql, bin_sneq, bin_add, bin_sub, Nat.zero_add, Nat.reduceAdd, beq_self_eq_true, if_true, if_false, Bool.false_eq_true, Bool.not_true, Bool.not_false, show (false == true) = false from rfl, show (true == false) = false from rfl]
  refine callPu (few_c ex l x hlen hok hx) (by simp only [List.mem_cons, List.mem_nil_iff, or_false, forall_eq_or_imp, forall_eq]; exact ⟨hcl, sx_closed x⟩) ?_
  cases few10 l x <;> simp only [shiftP_ptr, shiftP_pel, Bnd_some, IfP_bool, Gd_some, ld_ptr, ld_pel, adv_h, adv_nx, set_h, set_nx, beq_self', cond_true, cond_false, part_one, List.getElem?_cons_zero, List.getElem?_cons_succ, un_not, wantV_bool, pickV_bool, extr_tup, bin_lss, bin_leq, bin_gtr, bin_geq, bin_eql, bin_neq, bin_seql, bin_sneq, bin_add, bin_sub, Nat.zero_add, Nat.reduceAdd, beq_self_eq_true, if_true, if_false, Bool.false_eq_true, Bool.not_true, Bool.not_false, show (false == true) = false from rfl, show (true == false) = false from rfl]
end Go.Proofs.YtdehdahimkcakaaGreatDoor
