/- Calls of a stack: how great they are. -/
import Derived.Test.YtdehdahimkcakaaGreatDoorDc
import Derived.Test.YtdehdahimkcakaaGreatDoorLCl
import Derived.Test.YtdehdahimkcakaaGreatDoorGrow
set_option linter.unusedVariables false
set_option linter.unusedSimpArgs false
set_option maxRecDepth 100000
set_option maxHeartbeats 4000000
namespace Go.Proofs.YtdehdahimkcakaaGreatDoor
open Go Ai

/-- A call. -/
structure Cl : Type where
  kind : Int
  n : Int
  d : Dc
  x : Sx
def Cl.av (c : Cl) : AV := .agg (.int .i64 c.kind :: .int .i64 c.n :: (c.d.av.cells ++ c.x.av.cells))
def Cl.ok (c : Cl) : Bool := isInt c.kind && isInt c.n && c.d.ok && c.x.ok
theorem cl0 (c : Cl) : c.av.cells[0]? = some (AV.int .i64 c.kind) := rfl
theorem cl1 (c : Cl) : c.av.cells[1]? = some (AV.int .i64 c.n) := rfl
theorem cl2 (c : Cl) : c.av.cells[2]? = some (AV.str c.d.nm) := by
  obtain ⟨k, n, ⟨a, b, e, f, g⟩, x⟩ := c; rfl
theorem cl3 (c : Cl) : c.av.cells[3]? = some (AV.int .i64 c.d.so) := by
  obtain ⟨k, n, ⟨a, b, e, f, g⟩, x⟩ := c; rfl
theorem cl_x (c : Cl) : Ai.part 6 true 12 c.av.cells = some c.x.av := by
  obtain ⟨k, n, ⟨a, b, e, f, ⟨⟩⟩, ⟨⟩⟩ := c; rfl
theorem cl_d (c : Cl) : Ai.part 10 true 2 c.av.cells = some c.d.av := by
  obtain ⟨k, n, ⟨a, b, e, f, ⟨⟩⟩, ⟨⟩⟩ := c; rfl
theorem cl_b (c : Cl) : Ai.part 6 true 6 c.av.cells = some c.d.body.av := by
  obtain ⟨k, n, ⟨a, b, e, f, ⟨⟩⟩, ⟨⟩⟩ := c; rfl
theorem cl_part (c : Cl) : Ai.part 18 true 0 c.av.cells = some c.av := by
  obtain ⟨k, n, ⟨a, b, e, f, ⟨⟩⟩, ⟨⟩⟩ := c; rfl
theorem cl_len (c : Cl) : c.av.cells.length = 18 := by
  obtain ⟨k, n, ⟨a, b, e, f, ⟨⟩⟩, ⟨⟩⟩ := c; rfl
theorem cl_ones (c : Cl) : c.av.cells.all AV.one = true := by
  obtain ⟨k, n, ⟨a, b, e, f, ⟨⟩⟩, ⟨⟩⟩ := c; rfl
theorem cl_closed (c : Cl) : c.av.closed = true := by
  have h1 := cells_closed (dc_closed c.d)
  have h2 := cells_closed (sx_closed c.x)
  simp only [Cl.av, AV.closed, closedL, closedL_append h1 h2, Bool.and_self]
theorem len79 (ex : Bool) (l : List AV) (id : Nat) (s : St) : bt .len #[79] [.sl ex l] id s = some (.int .i64 l.length, s) := by kernel_rfl
theorem ix_cl (ex : Bool) (l : List Cl) (i : Nat) (d : Cl) (h : l[i]? = some d) : ixS 18 (.sl ex (l.map Cl.av)) (.int .i64 (i : Int)) = some (.pel d.av.cells 0) := by
  obtain ⟨hi, rfl⟩ := List.getElem?_eq_some_iff.1 h
  simp [ixS, asI, idx, hi, cl_len]
theorem ty49 : SlTy 49 67 10 true 128 := ⟨by kernel_rfl, by kernel_rfl, by kernel_rfl, by kernel_rfl, by decide⟩
theorem len_str (x : List UInt8) (id : Nat) (s : St) : bt .len #[9] [.str x] id s = some (.int .i64 x.length, s) := by kernel_rfl
theorem st_nx {s : St} {n : Nat} {o : Option Blk} : (s.set n o).nx = s.nx := rfl
theorem zr93 : ∃ v, zr 93 = some v ∧ v.cells.length = 18 := by
  have h : (zr 93).map (fun v => v.cells.length) = some 18 := by kernel_rfl
  obtain ⟨v, h1, h2⟩ := Option.map_eq_some_iff.1 h
  exact ⟨v, h1, h2⟩
def zeroSx : Sx := .mk false 0 [] 0 0 []
def zeroA : AV := .agg [.bool false, .int .i64 0, .str [], .int .i64 0, .int .i64 0, .nils]
theorem bld33 : bld 33 [] = some zeroA := by kernel_rfl
theorem pur_zero (s : St) : pur Tryz.env.P s 12 zeroA = some (zeroSx.av, []) := rfl
theorem dc_agg (d : Dc) : d.av = .agg d.av.cells := rfl

def sfewL : List Cl → List Dc → Bool
  | [], ds => few10 ds zeroSx
  | c :: l, ds => cond (decide (c.x.size > 60) || (decide (c.x.depth > 64) || (decide (c.d.body.size > 60) || decide ((c.d.nm.length : Int) > 200)))) false
      (sfewL l (cond (c.kind == 0 || c.kind == 1) (ds ++ [c.d]) ds))
/-- Are calls not too great? -/
def sfew (l : List Cl) : Bool := cond (decide ((l.length : Int) > 60)) false (sfewL l [])
theorem j43 (ds : List Dc) (hlen : ds.length ≤ 60) (hok : ∀ d ∈ ds, d.ok = true) (Q : AV → St → Prop) (hQ : ∀ s, Q (.bool (few10 ds zeroSx)) s) (x : AV) (s : St) (g : Gw 67 10 0 s x (ds.map Dc.av)) : f43j1 Q x s := by
  have hc : ∀ v ∈ ds.map Dc.av, v.closed = true := fun v hv => by
    obtain ⟨d, _, rfl⟩ := List.mem_map.1 hv; exact dc_closed d
  obtain ⟨ids, hp⟩ := gw_pur ty49 (g.adv (n := 5)) hc (fun v hv => by obtain ⟨d, _, rfl⟩ := List.mem_map.1 hv; rfl)
  have hcl : (AV.sl false (ds.map Dc.av)).closed = true := by
    simp only [AV.closed, Bool.not_false, Bool.true_and]
    exact closedL_map _ _ dc_closed
  unfold f43j1
  simp only [bld33, shiftP_ptr, shiftP_pel, Bnd_some, IfP_bool, Gd_some, ld_ptr, ld_pel, adv_h, adv_nx, set_h, set_nx, beq_self', cond_true, cond_false, part_one, List.getElem?_cons_zero, List.getElem?_cons_succ, un_not, wantV_bool, pickV_bool, extr_tup, bin_lss, bin_leq, bin_gtr, bin_geq, bin_eql, bin_neq, bin_seql, bin_sneq, bin_add, bin_sub, Nat.zero_add, Nat.reduceAdd, beq_self_eq_true, if_true, if_false, Bool.false_eq_true, Bool.not_true, Bool.not_false, show (false == true) = false from rfl, show (true == false) = false from rfl]
  refine callPuF (args2 := [.sl false (ds.map Dc.av), zeroSx.av]) (ids := ids ++ []) (by simp only [purL, hp, pur_zero, List.append_nil]) (great_c false ds zeroSx hcl (by have : maxLen = 9223372036854775807 := rfl; omega) hok rfl) rfl ?_
  simp only [shiftP_ptr, shiftP_pel, Bnd_some, IfP_bool, Gd_some, ld_ptr, ld_pel, adv_h, adv_nx, set_h, set_nx, beq_self', cond_true, cond_false, part_one, List.getElem?_cons_zero, List.getElem?_cons_succ, un_not, wantV_bool, pickV_bool, extr_tup, bin_lss, bin_leq, bin_gtr, bin_geq, bin_eql, bin_neq, bin_seql, bin_sneq, bin_add, bin_sub, Nat.zero_add, Nat.reduceAdd, beq_self_eq_true, if_true, if_false, Bool.false_eq_true, Bool.not_true, Bool.not_false, show (false == true) = false from rfl, show (true == false) = false from rfl]
  have hq := hQ (adv s 5)
  cases h : few10 ds zeroSx <;> rw [h] at hq <;> simpa using hq
theorem l43 (ex : Bool) (l : List Cl) (hlen : l.length ≤ 60) (hok : ∀ c ∈ l, c.ok = true) (Q : AV → St → Prop) (r : Bool) (hQ : ∀ s, Q (.bool r) s) :
    ∀ (m i : Nat) (ds : List Dc) (x : AV) (s : St), i + m = l.length → ds.length ≤ i → (∀ d ∈ ds, d.ok = true) → Fresh s → Gw 67 10 0 s x (ds.map Dc.av) → r = sfewL (l.drop i) ds → ∃ g, f43l1 Q g (.sl ex (l.map Cl.av)) x (.int .i64 i) s := by
  intro m
  induction m with
  | zero =>
    intro i ds x s hi hdl hdo fr g hr
    refine ⟨1, ?_⟩
    show f43l1s Q (f43l1 Q 0) _ _ _ s
    rw [List.drop_eq_nil_of_le (by omega)] at hr
    have hr : r = few10 ds zeroSx := hr
    subst hr
    simp only [f43l1s, len79, List.length_map, Int.ofNat_lt, show ¬ (i < l.length) by omega, decide_false, shiftP_ptr, shiftP_pel, Bnd_some, IfP_bool, Gd_some, ld_ptr, ld_pel, adv_h, adv_nx, set_h, set_nx, beq_self', cond_true, cond_false, part_one, List.getElem?_cons_zero, List.getElem?_cons_succ, un_not, wantV_bool, pickV_bool, extr_tup, bin_lss, bin_leq, bin_gtr, bin_geq, bin_eql, bin_neq, bin_seql, bin_sneq, bin_add, bin_sub, Nat.zero_add, Nat.reduceAdd, beq_self_eq_true, if_true, if_false, Bool.false_eq_true, Bool.not_true, Bool.not_false, show (false == true) = false from rfl, show (true == false) = false from rfl]
    exact j43 ds (by omega) hdo Q hQ x _ g.adv
  | succ m ihm =>
    intro i ds x s hi hdl hdo fr g hr
    obtain ⟨c, hc⟩ : ∃ c, l[i]? = some c := ⟨_, List.getElem?_eq_getElem (by omega)⟩
    rw [get_drop l i c hc, sfewL] at hr
    have hix := ix_cl ex l i c hc
    have hlt : i < l.length := by omega
    have hco := hok c (List.mem_of_getElem? hc)
    simp only [Cl.ok, Bool.and_eq_true] at hco
    obtain ⟨⟨⟨_, _⟩, hcd⟩, hcx⟩ := hco
    have hcb : c.d.body.ok = true := by simp only [Dc.ok, Bool.and_eq_true] at hcd; exact hcd.2
    have hs1 := size_c c.x hcx
    have hs2 := depth_c c.x hcx
    have hs3 := size_c c.d.body hcb
    obtain ⟨Z, hZ, hZl⟩ := zr93
    have hst : ∀ (q : St) (N : Nat), sto 18 (.ptr N 0) c.av (q.set N (some (.cells Z.cells 93 true true))) = some ((q.set N (some (.cells Z.cells 93 true true))).set N (some (.cells c.av.cells 93 true true))) := fun q N =>
      sto_all (by rw [st_same]) hZl (cl_len c) (cl_ones c)
    cases h1 : decide (c.x.size > 60) with
    | true =>
      rw [h1] at hr
      have hr : r = false := hr
      subst hr
      refine ⟨1, ?_⟩
      show f43l1s Q (f43l1 Q 0) _ _ _ s
      simp only [f43l1s, len79, List.length_map, Int.ofNat_lt, hlt, decide_true, hix, cl_part, hZ, hst, cl_x, shiftP_ptr, shiftP_pel, Bnd_some, IfP_bool, Gd_some, ld_ptr, ld_pel, adv_h, adv_nx, set_h, set_nx, beq_self', cond_true, cond_false, part_one, List.getElem?_cons_zero, List.getElem?_cons_succ, un_not, wantV_bool, pickV_bool, extr_tup, bin_lss, bin_leq, bin_gtr, bin_geq, bin_eql, bin_neq, bin_seql, bin_sneq, bin_add, bin_sub, Nat.zero_add, Nat.reduceAdd, beq_self_eq_true, if_true, if_false, Bool.false_eq_true, Bool.not_true, Bool.not_false, show (false == true) = false from rfl, show (true == false) = false from rfl]
      refine callPu hs1 (by simp [sx_closed]) ?_
      simp only [h1, shiftP_ptr, shiftP_pel, Bnd_some, IfP_bool, Gd_some, ld_ptr, ld_pel, adv_h, adv_nx, set_h, set_nx, beq_self', cond_true, cond_false, part_one, List.getElem?_cons_zero, List.getElem?_cons_succ, un_not, wantV_bool, pickV_bool, extr_tup, bin_lss, bin_leq, bin_gtr, bin_geq, bin_eql, bin_neq, bin_seql, bin_sneq, bin_add, bin_sub, Nat.zero_add, Nat.reduceAdd, beq_self_eq_true, if_true, if_false, Bool.false_eq_true, Bool.not_true, Bool.not_false, show (false == true) = false from rfl, show (true == false) = false from rfl]
      exact hQ _
    | false =>
    cases h2 : decide (c.x.depth > 64) with
    | true =>
      rw [h1, h2] at hr
      have hr : r = false := hr
      subst hr
      refine ⟨1, ?_⟩
      show f43l1s Q (f43l1 Q 0) _ _ _ s
      simp only [f43l1s, len79, List.length_map, Int.ofNat_lt, hlt, decide_true, hix, cl_part, hZ, hst, cl_x, shiftP_ptr, shiftP_pel, Bnd_some, IfP_bool, Gd_some, ld_ptr, ld_pel, adv_h, adv_nx, set_h, set_nx, beq_self', cond_true, cond_false, part_one, List.getElem?_cons_zero, List.getElem?_cons_succ, un_not, wantV_bool, pickV_bool, extr_tup, bin_lss, bin_leq, bin_gtr, bin_geq, bin_eql, bin_neq, bin_seql, bin_sneq, bin_add, bin_sub, Nat.zero_add, Nat.reduceAdd, beq_self_eq_true, if_true, if_false, Bool.false_eq_true, Bool.not_true, Bool.not_false, show (false == true) = false from rfl, show (true == false) = false from rfl]
      refine callPu hs1 (by simp [sx_closed]) ?_
      simp only [h1, cl_x, shiftP_ptr, shiftP_pel, Bnd_some, IfP_bool, Gd_some, ld_ptr, ld_pel, adv_h, adv_nx, set_h, set_nx, beq_self', cond_true, cond_false, part_one, List.getElem?_cons_zero, List.getElem?_cons_succ, un_not, wantV_bool, pickV_bool, extr_tup, bin_lss, bin_leq, bin_gtr, bin_geq, bin_eql, bin_neq, bin_seql, bin_sneq, bin_add, bin_sub, Nat.zero_add, Nat.reduceAdd, beq_self_eq_true, if_true, if_false, Bool.false_eq_true, Bool.not_true, Bool.not_false, show (false == true) = false from rfl, show (true == false) = false from rfl]
      refine callPu hs2 (by simp [sx_closed]) ?_
      simp only [h2, shiftP_ptr, shiftP_pel, Bnd_some, IfP_bool, Gd_some, ld_ptr, ld_pel, adv_h, adv_nx, set_h, set_nx, beq_self', cond_true, cond_false, part_one, List.getElem?_cons_zero, List.getElem?_cons_succ, un_not, wantV_bool, pickV_bool, extr_tup, bin_lss, bin_leq, bin_gtr, bin_geq, bin_eql, bin_neq, bin_seql, bin_sneq, bin_add, bin_sub, Nat.zero_add, Nat.reduceAdd, beq_self_eq_true, if_true, if_false, Bool.false_eq_true, Bool.not_true, Bool.not_false, show (false == true) = false from rfl, show (true == false) = false from rfl]
      exact hQ _
    | false =>
    cases h3 : decide (c.d.body.size > 60) with
    | true =>
      rw [h1, h2, h3] at hr
      have hr : r = false := hr
      subst hr
      refine ⟨1, ?_⟩
      show f43l1s Q (f43l1 Q 0) _ _ _ s
      simp only [f43l1s, len79, List.length_map, Int.ofNat_lt, hlt, decide_true, hix, cl_part, hZ, hst, cl_x, shiftP_ptr, shiftP_pel, Bnd_some, IfP_bool, Gd_some, ld_ptr, ld_pel, adv_h, adv_nx, set_h, set_nx, beq_self', cond_true, cond_false, part_one, List.getElem?_cons_zero, List.getElem?_cons_succ, un_not, wantV_bool, pickV_bool, extr_tup, bin_lss, bin_leq, bin_gtr, bin_geq, bin_eql, bin_neq, bin_seql, bin_sneq, bin_add, bin_sub, Nat.zero_add, Nat.reduceAdd, beq_self_eq_true, if_true, if_false, Bool.false_eq_true, Bool.not_true, Bool.not_false, show (false == true) = false from rfl, show (true == false) = false from rfl]
      refine callPu hs1 (by simp [sx_closed]) ?_
      simp only [h1, cl_x, shiftP_ptr, shiftP_pel, Bnd_some, IfP_bool, Gd_some, ld_ptr, ld_pel, adv_h, adv_nx, set_h, set_nx, beq_self', cond_true, cond_false, part_one, List.getElem?_cons_zero, List.getElem?_cons_succ, un_not, wantV_bool, pickV_bool, extr_tup, bin_lss, bin_leq, bin_gtr, bin_geq, bin_eql, bin_neq, bin_seql, bin_sneq, bin_add, bin_sub, Nat.zero_add, Nat.reduceAdd, beq_self_eq_true, if_true, if_false, Bool.false_eq_true, Bool.not_true, Bool.not_false, show (false == true) = false from rfl, show (true == false) = false from rfl]
      refine callPu hs2 (by simp [sx_closed]) ?_
      simp only [h2, cl_b, shiftP_ptr, shiftP_pel, Bnd_some, IfP_bool, Gd_some, ld_ptr, ld_pel, adv_h, adv_nx, set_h, set_nx, beq_self', cond_true, cond_false, part_one, List.getElem?_cons_zero, List.getElem?_cons_succ, un_not, wantV_bool, pickV_bool, extr_tup, bin_lss, bin_leq, bin_gtr, bin_geq, bin_eql, bin_neq, bin_seql, bin_sneq, bin_add, bin_sub, Nat.zero_add, Nat.reduceAdd, beq_self_eq_true, if_true, if_false, Bool.false_eq_true, Bool.not_true, Bool.not_false, show (false == true) = false from rfl, show (true == false) = false from rfl]
      refine callPu hs3 (by simp [sx_closed]) ?_
      simp only [h3, shiftP_ptr, shiftP_pel, Bnd_some, IfP_bool, Gd_some, ld_ptr, ld_pel, adv_h, adv_nx, set_h, set_nx, beq_self', cond_true, cond_false, part_one, List.getElem?_cons_zero, List.getElem?_cons_succ, un_not, wantV_bool, pickV_bool, extr_tup, bin_lss, bin_leq, bin_gtr, bin_geq, bin_eql, bin_neq, bin_seql, bin_sneq, bin_add, bin_sub, Nat.zero_add, Nat.reduceAdd, beq_self_eq_true, if_true, if_false, Bool.false_eq_true, Bool.not_true, Bool.not_false, show (false == true) = false from rfl, show (true == false) = false from rfl]
      exact hQ _
    | false =>
    cases h4 : decide ((c.d.nm.length : Int) > 200) with
    | true =>
      rw [h1, h2, h3, h4] at hr
      have hr : r = false := hr
      subst hr
      refine ⟨1, ?_⟩
      show f43l1s Q (f43l1 Q 0) _ _ _ s
      simp only [f43l1s, len79, List.length_map, Int.ofNat_lt, hlt, decide_true, hix, cl_part, hZ, hst, cl_x, shiftP_ptr, shiftP_pel, Bnd_some, IfP_bool, Gd_some, ld_ptr, ld_pel, adv_h, adv_nx, set_h, set_nx, beq_self', cond_true, cond_false, part_one, List.getElem?_cons_zero, List.getElem?_cons_succ, un_not, wantV_bool, pickV_bool, extr_tup, bin_lss, bin_leq, bin_gtr, bin_geq, bin_eql, bin_neq, bin_seql, bin_sneq, bin_add, bin_sub, Nat.zero_add, Nat.reduceAdd, beq_self_eq_true, if_true, if_false, Bool.false_eq_true, Bool.not_true, Bool.not_false, show (false == true) = false from rfl, show (true == false) = false from rfl]
      refine callPu hs1 (by simp [sx_closed]) ?_
      simp only [h1, cl_x, shiftP_ptr, shiftP_pel, Bnd_some, IfP_bool, Gd_some, ld_ptr, ld_pel, adv_h, adv_nx, set_h, set_nx, beq_self', cond_true, cond_false, part_one, List.getElem?_cons_zero, List.getElem?_cons_succ, un_not, wantV_bool, pickV_bool, extr_tup, bin_lss, bin_leq, bin_gtr, bin_geq, bin_eql, bin_neq, bin_seql, bin_sneq, bin_add, bin_sub, Nat.zero_add, Nat.reduceAdd, beq_self_eq_true, if_true, if_false, Bool.false_eq_true, Bool.not_true, Bool.not_false, show (false == true) = false from rfl, show (true == false) = false from rfl]
      refine callPu hs2 (by simp [sx_closed]) ?_
      simp only [h2, cl_b, shiftP_ptr, shiftP_pel, Bnd_some, IfP_bool, Gd_some, ld_ptr, ld_pel, adv_h, adv_nx, set_h, set_nx, beq_self', cond_true, cond_false, part_one, List.getElem?_cons_zero, List.getElem?_cons_succ, un_not, wantV_bool, pickV_bool, extr_tup, bin_lss, bin_leq, bin_gtr, bin_geq, bin_eql, bin_neq, bin_seql, bin_sneq, bin_add, bin_sub, Nat.zero_add, Nat.reduceAdd, beq_self_eq_true, if_true, if_false, Bool.false_eq_true, Bool.not_true, Bool.not_false, show (false == true) = false from rfl, show (true == false) = false from rfl]
      refine callPu hs3 (by simp [sx_closed]) ?_
      simp only [h3, cl2, len_str, h4, shiftP_ptr, shiftP_pel, Bnd_some, IfP_bool, Gd_some, ld_ptr, ld_pel, adv_h, adv_nx, set_h, set_nx, beq_self', cond_true, cond_false, part_one, List.getElem?_cons_zero, List.getElem?_cons_succ, un_not, wantV_bool, pickV_bool, extr_tup, bin_lss, bin_leq, bin_gtr, bin_geq, bin_eql, bin_neq, bin_seql, bin_sneq, bin_add, bin_sub, Nat.zero_add, Nat.reduceAdd, beq_self_eq_true, if_true, if_false, Bool.false_eq_true, Bool.not_true, Bool.not_false, show (false == true) = false from rfl, show (true == false) = false from rfl]
      exact hQ _
    | false =>
    rw [h1, h2, h3, h4] at hr
    have hr : r = sfewL (l.drop (i + 1)) (cond (c.kind == 0 || c.kind == 1) (ds ++ [c.d]) ds) := hr
    have hN : s.h (s.nx + 4 + 4) = none := fr _ (by omega)
    have hB : ∀ Z c : Option Blk, Fresh (((adv (adv s 4) 6).set (s.nx + 4 + 4) Z).set (s.nx + 4 + 4) c) := fun Z c =>
      (fr.adv.adv.set (by show s.nx + 4 + 4 < s.nx + 4 + 6; omega)).set (by show s.nx + 4 + 4 < s.nx + 4 + 6; omega)
    have hG : ∀ Z c : Option Blk, Gw 67 10 0 (((adv (adv s 4) 6).set (s.nx + 4 + 4) Z).set (s.nx + 4 + 4) c) x (ds.map Dc.av) := fun Z c =>
      g.mono fun j _ hj => by
        have hne : j ≠ s.nx + 4 + 4 := fun he => hj (by rw [he]; exact hN)
        rw [st_other hne, st_other hne]; rfl
    have hml : l.length ≤ maxLen := by have : maxLen = 9223372036854775807 := rfl; omega
    cases hk : (c.kind == 0 || c.kind == 1) with
    | false =>
      rw [hk] at hr
      simp only [Bool.or_eq_false_iff] at hk
      obtain ⟨n, hn⟩ := ihm (i + 1) ds x (adv (adv (adv (((adv (adv s 4) 6).set (s.nx + 4 + 4) (some (.cells Z.cells 93 true true))).set (s.nx + 4 + 4) (some (.cells c.av.cells 93 true true))) 24) 8) 3) (by omega) (by omega) hdo (hB _ _).adv.adv.adv (hG _ _).adv.adv.adv hr
      refine ⟨n + 1, ?_⟩
      show f43l1s Q (f43l1 Q n) _ _ _ s
      simp only [f43l1s, len79, List.length_map, Int.ofNat_lt, hlt, decide_true, hix, cl_part, hZ, hst, cl_x, shiftP_ptr, shiftP_pel, Bnd_some, IfP_bool, Gd_some, ld_ptr, ld_pel, adv_h, adv_nx, set_h, set_nx, beq_self', cond_true, cond_false, part_one, List.getElem?_cons_zero, List.getElem?_cons_succ, un_not, wantV_bool, pickV_bool, extr_tup, bin_lss, bin_leq, bin_gtr, bin_geq, bin_eql, bin_neq, bin_seql, bin_sneq, bin_add, bin_sub, Nat.zero_add, Nat.reduceAdd, beq_self_eq_true, if_true, if_false, Bool.false_eq_true, Bool.not_true, Bool.not_false, show (false == true) = false from rfl, show (true == false) = false from rfl]
      refine callPu hs1 (by simp [sx_closed]) ?_
      simp only [h1, cl_x, shiftP_ptr, shiftP_pel, Bnd_some, IfP_bool, Gd_some, ld_ptr, ld_pel, adv_h, adv_nx, set_h, set_nx, beq_self', cond_true, cond_false, part_one, List.getElem?_cons_zero, List.getElem?_cons_succ, un_not, wantV_bool, pickV_bool, extr_tup, bin_lss, bin_leq, bin_gtr, bin_geq, bin_eql, bin_neq, bin_seql, bin_sneq, bin_add, bin_sub, Nat.zero_add, Nat.reduceAdd, beq_self_eq_true, if_true, if_false, Bool.false_eq_true, Bool.not_true, Bool.not_false, show (false == true) = false from rfl, show (true == false) = false from rfl]
      refine callPu hs2 (by simp [sx_closed]) ?_
      simp only [h2, cl_b, shiftP_ptr, shiftP_pel, Bnd_some, IfP_bool, Gd_some, ld_ptr, ld_pel, adv_h, adv_nx, set_h, set_nx, beq_self', cond_true, cond_false, part_one, List.getElem?_cons_zero, List.getElem?_cons_succ, un_not, wantV_bool, pickV_bool, extr_tup, bin_lss, bin_leq, bin_gtr, bin_geq, bin_eql, bin_neq, bin_seql, bin_sneq, bin_add, bin_sub, Nat.zero_add, Nat.reduceAdd, beq_self_eq_true, if_true, if_false, Bool.false_eq_true, Bool.not_true, Bool.not_false, show (false == true) = false from rfl, show (true == false) = false from rfl]
      refine callPu hs3 (by simp [sx_closed]) ?_
      simp only [h3, cl2, len_str, h4, cl0, hk.1, hk.2, f43j2, shiftP_ptr, shiftP_pel, Bnd_some, IfP_bool, Gd_some, ld_ptr, ld_pel, adv_h, adv_nx, set_h, set_nx, beq_self', cond_true, cond_false, part_one, List.getElem?_cons_zero, List.getElem?_cons_succ, un_not, wantV_bool, pickV_bool, extr_tup, bin_lss, bin_leq, bin_gtr, bin_geq, bin_eql, bin_neq, bin_seql, bin_sneq, bin_add, bin_sub, Nat.zero_add, Nat.reduceAdd, beq_self_eq_true, if_true, if_false, Bool.false_eq_true, Bool.not_true, Bool.not_false, show (false == true) = false from rfl, show (true == false) = false from rfl]
      rw [wrap_len i _ hlt hml]
      exact hn
    | true =>
      rw [hk] at hr
      have hdo' : ∀ d ∈ ds ++ [c.d], d.ok = true := fun d hd => by
        rcases List.mem_append.1 hd with hd | hd
        · exact hdo d hd
        · simp at hd; subst hd; exact hcd
      have hfit : fitsA ((ds.map Dc.av).length + 1) 128 = true := by
        rw [List.length_map]
        have h1 : (ds.length + 1) * 128 ≤ most := by unfold most; omega
        have h2 : ds.length + 1 ≤ most := by unfold most; omega
        simp only [fitsA, Nat.ble_eq_true_of_le h1, Nat.ble_eq_true_of_le h2, Bool.and_self]
      have hbs : bsl 49 1 [(0, c.d.av)] = some (.sl true [c.d.av]) := bsl_one ty49 (by decide) (dc_len c.d) (dc_ones c.d)
      have fin : ∀ q : St, Fresh q → Gw 67 10 0 q x (ds.map Dc.av) → ∃ x' s' n, bt .append #[49, 49] [x, .sl true [c.d.av]] (q.nx + 4) (adv q 6) = some (x', s') ∧ f43l1 Q n (.sl ex (l.map Cl.av)) x' (.int .i64 ((i + 1 : Nat) : Int)) (adv s' 3) := by
        intro q fq gq
        obtain ⟨x', s', e1, e2, e3, _, _⟩ := gw_step (id := q.nx + 4) ty49 (gq.adv (n := 6)) fq.adv (dc_len c.d) (dc_ones c.d) hfit (Nat.zero_le _) (by show q.nx + 4 < q.nx + 6; omega) true
        obtain ⟨n, hn⟩ := ihm (i + 1) (ds ++ [c.d]) x' (adv s' 3) (by omega) (by simp; omega) hdo' e3.adv (by rw [List.map_append]; exact e2.adv) hr
        exact ⟨x', s', n, e1, hn⟩
      obtain ⟨x', s', n, e1, e2⟩ := fin (adv (adv (((adv (adv s 4) 6).set (s.nx + 4 + 4) (some (.cells Z.cells 93 true true))).set (s.nx + 4 + 4) (some (.cells c.av.cells 93 true true))) 24) 8) (hB _ _).adv.adv (hG _ _).adv.adv
      refine ⟨n + 1, ?_⟩
      show f43l1s Q (f43l1 Q n) _ _ _ s
      simp only [f43l1s, len79, List.length_map, Int.ofNat_lt, hlt, decide_true, hix, cl_part, hZ, hst, cl_x, shiftP_ptr, shiftP_pel, Bnd_some, IfP_bool, Gd_some, ld_ptr, ld_pel, adv_h, adv_nx, set_h, set_nx, beq_self', cond_true, cond_false, part_one, List.getElem?_cons_zero, List.getElem?_cons_succ, un_not, wantV_bool, pickV_bool, extr_tup, bin_lss, bin_leq, bin_gtr, bin_geq, bin_eql, bin_neq, bin_seql, bin_sneq, bin_add, bin_sub, Nat.zero_add, Nat.reduceAdd, beq_self_eq_true, if_true, if_false, Bool.false_eq_true, Bool.not_true, Bool.not_false, show (false == true) = false from rfl, show (true == false) = false from rfl]
      refine callPu hs1 (by simp [sx_closed]) ?_
      simp only [h1, cl_x, shiftP_ptr, shiftP_pel, Bnd_some, IfP_bool, Gd_some, ld_ptr, ld_pel, adv_h, adv_nx, set_h, set_nx, beq_self', cond_true, cond_false, part_one, List.getElem?_cons_zero, List.getElem?_cons_succ, un_not, wantV_bool, pickV_bool, extr_tup, bin_lss, bin_leq, bin_gtr, bin_geq, bin_eql, bin_neq, bin_seql, bin_sneq, bin_add, bin_sub, Nat.zero_add, Nat.reduceAdd, beq_self_eq_true, if_true, if_false, Bool.false_eq_true, Bool.not_true, Bool.not_false, show (false == true) = false from rfl, show (true == false) = false from rfl]
      refine callPu hs2 (by simp [sx_closed]) ?_
      simp only [h2, cl_b, shiftP_ptr, shiftP_pel, Bnd_some, IfP_bool, Gd_some, ld_ptr, ld_pel, adv_h, adv_nx, set_h, set_nx, beq_self', cond_true, cond_false, part_one, List.getElem?_cons_zero, List.getElem?_cons_succ, un_not, wantV_bool, pickV_bool, extr_tup, bin_lss, bin_leq, bin_gtr, bin_geq, bin_eql, bin_neq, bin_seql, bin_sneq, bin_add, bin_sub, Nat.zero_add, Nat.reduceAdd, beq_self_eq_true, if_true, if_false, Bool.false_eq_true, Bool.not_true, Bool.not_false, show (false == true) = false from rfl, show (true == false) = false from rfl]
      refine callPu hs3 (by simp [sx_closed]) ?_
      cases hk0 : (c.kind == 0) with
      | true =>
        simp only [h3, cl2, len_str, h4, cl0, cl_d, hk0, hbs, f43j2, shiftP_ptr, shiftP_pel, Bnd_some, IfP_bool, Gd_some, ld_ptr, ld_pel, adv_h, adv_nx, set_h, set_nx, beq_self', cond_true, cond_false, part_one, List.getElem?_cons_zero, List.getElem?_cons_succ, un_not, wantV_bool, pickV_bool, extr_tup, bin_lss, bin_leq, bin_gtr, bin_geq, bin_eql, bin_neq, bin_seql, bin_sneq, bin_add, bin_sub, Nat.zero_add, Nat.reduceAdd, beq_self_eq_true, if_true, if_false, Bool.false_eq_true, Bool.not_true, Bool.not_false, show (false == true) = false from rfl, show (true == false) = false from rfl]
        simp only [adv_nx, st_nx] at e1
        rw [e1]
        simp only [Bnd_some, bin_add]
        rw [wrap_len i _ hlt hml]
        exact e2
      | false =>
        rw [hk0] at hk
        have hk1 : (c.kind == 1) = true := hk
        simp only [h3, cl2, len_str, h4, cl0, cl_d, hk0, hk1, hbs, f43j2, shiftP_ptr, shiftP_pel, Bnd_some, IfP_bool, Gd_some, ld_ptr, ld_pel, adv_h, adv_nx, set_h, set_nx, beq_self', cond_true, cond_false, part_one, List.getElem?_cons_zero, List.getElem?_cons_succ, un_not, wantV_bool, pickV_bool, extr_tup, bin_lss, bin_leq, bin_gtr, bin_geq, bin_eql, bin_neq, bin_seql, bin_sneq, bin_add, bin_sub, Nat.zero_add, Nat.reduceAdd, beq_self_eq_true, if_true, if_false, Bool.false_eq_true, Bool.not_true, Bool.not_false, show (false == true) = false from rfl, show (true == false) = false from rfl]
        simp only [adv_nx, st_nx] at e1
        rw [e1]
        simp only [Bnd_some, bin_add]
        rw [wrap_len i _ hlt hml]
        exact e2
theorem sfew_c (ex : Bool) (l : List Cl) (hok : ∀ c ∈ l, c.ok = true) : PureC Tryz.env 43 [.sl ex (l.map Cl.av)] (.bool (sfew l)) := by
  refine pure_closed rfl (f43_run _ _ ?_)
  unfold f43 sfew
  cases h1 : decide ((l.length : Int) > 60) with
  | true => simp only [len79, List.length_map, h1, shiftP_ptr, shiftP_pel, Bnd_some, IfP_bool, Gd_some, ld_ptr, ld_pel, adv_h, adv_nx, set_h, set_nx, beq_self', cond_true, cond_false, part_one, List.getElem?_cons_zero, List.getElem?_cons_succ, un_not, wantV_bool, pickV_bool, extr_tup, bin_lss, bin_leq, bin_gtr, bin_geq, bin_eql, bin_neq, bin_seql, bin_sneq, bin_add, bin_sub, Nat.zero_add, Nat.reduceAdd, beq_self_eq_true, if_true, if_false, Bool.false_eq_true, Bool.not_true, Bool.not_false, show (false == true) = false from rfl, show (true == false) = false from rfl]
  | false =>
    simp only [len79, List.length_map, h1, shiftP_ptr, shiftP_pel, Bnd_some, IfP_bool, Gd_some, ld_ptr, ld_pel, adv_h, adv_nx, set_h, set_nx, beq_self', cond_true, cond_false, part_one, List.getElem?_cons_zero, List.getElem?_cons_succ, un_not, wantV_bool, pickV_bool, extr_tup, bin_lss, bin_leq, bin_gtr, bin_geq, bin_eql, bin_neq, bin_seql, bin_sneq, bin_add, bin_sub, Nat.zero_add, Nat.reduceAdd, beq_self_eq_true, if_true, if_false, Bool.false_eq_true, Bool.not_true, Bool.not_false, show (false == true) = false from rfl, show (true == false) = false from rfl]
    have : ¬ ((l.length : Int) > 60) := of_decide_eq_false h1
    exact l43 ex l (by omega) hok _ _ (fun _ => rfl) l.length 0 [] .nils _ (by omega) (by simp) (fun _ h => by cases h) fresh_empty.adv.adv gw_nil rfl
end Go.Proofs.YtdehdahimkcakaaGreatDoor
