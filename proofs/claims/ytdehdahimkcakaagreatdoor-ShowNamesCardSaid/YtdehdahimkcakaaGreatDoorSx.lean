/- S-expressions and declarations: how great they are, as the program and the document count. -/
import Derived.Test.YtdehdahimkcakaaGreatDoorLSx
import Derived.Test.YtdehdahimkcakaaGreatDoorStep
import Derived.Test.YtdehdahimkcakaaGreatDoorRow
import Derived.IntWalk
set_option linter.unusedVariables false
set_option linter.unusedSimpArgs false
set_option maxRecDepth 100000
set_option maxHeartbeats 4000000
namespace Go.Proofs.YtdehdahimkcakaaGreatDoor
open Go Ai

mutual
theorem sx_all {p : Sx → Prop} (h : ∀ l k x p' a items, (∀ s ∈ items, p s) → p (.mk l k x p' a items)) : (s : Sx) → p s
  | .mk l k x p' a items => h l k x p' a items (sxs_all h items)
theorem sxs_all {p : Sx → Prop} (h : ∀ l k x p' a items, (∀ s ∈ items, p s) → p (.mk l k x p' a items)) : (l : List Sx) → ∀ s ∈ l, p s
  | [] => fun _ h => nomatch h
  | s :: l => fun t ht => (List.mem_cons.1 ht).elim (fun e => e ▸ sx_all h s) (sxs_all h l t)
end
mutual
theorem sx_closed : (s : Sx) → s.av.closed = true
  | .mk l k x p a items => by simp only [Sx.av, AV.closed, closedL, sxs_closed items, Bool.not_false, Bool.and_self]
theorem sxs_closed : (l : List Sx) → closedL (Sx.avs l) = true
  | [] => rfl
  | s :: l => by simp only [Sx.avs, closedL, sx_closed s, sxs_closed l, Bool.and_self]
end
theorem sx_ones (s : Sx) : s.av.cells.all AV.one = true := by cases s; rfl
theorem sx_len (s : Sx) : s.av.cells.length = 6 := by cases s; rfl
theorem mk_cells (l k x p a items) : (Sx.mk l k x p a items).av.cells = [.bool l, .int .i64 k, .str x, .int .i64 p, .int .i64 a, .sl false (Sx.avs items)] := rfl
theorem sx_part (s : Sx) : Ai.part 6 true 0 s.av.cells = some s.av := by cases s; rfl
theorem oks_mem {l : List Sx} (h : Sx.oks l = true) : ∀ s ∈ l, s.ok = true := by
  induction l with
  | nil => intro s hs; cases hs
  | cons a l ih =>
    simp only [Sx.oks, Bool.and_eq_true] at h
    intro s hs
    rcases List.mem_cons.1 hs with rfl | hs
    · exact h.1
    · exact ih h.2 s hs
theorem ok_items {l k x p a items} (h : (Sx.mk l k x p a items).ok = true) : items.length ≤ maxLen ∧ ∀ s ∈ items, s.ok = true := by
  simp only [Sx.ok, Bool.and_eq_true, decide_eq_true_eq] at h
  exact ⟨h.1.2, oks_mem h.2⟩
theorem len31 (ex : Bool) (l : List AV) (id : Nat) (s : St) : bt .len #[31] [.sl ex l] id s = some (.int .i64 l.length, s) := by kernel_rfl
theorem avs_length (l : List Sx) : (Sx.avs l).length = l.length := by rw [Sx.avs_eq, List.length_map]
theorem ix_avs (ex : Bool) (l : List Sx) (i : Nat) (s : Sx) (h : l[i]? = some s) : ixS 6 (.sl ex (Sx.avs l)) (.int .i64 (i : Int)) = some (.pel s.av.cells 0) := by
  obtain ⟨hi, rfl⟩ := List.getElem?_eq_some_iff.1 h
  rw [Sx.avs_eq]
  simp [ixS, asI, idx, hi, sx_len]
theorem wrap_len (i n : Nat) (h : i < n) (hn : n ≤ maxLen) : IntKind.i64.wrap ((i : Int) + 1) = ((i + 1 : Nat) : Int) := by
  have : maxLen = 9223372036854775807 := rfl
  rw [IntWalk.i64_in _ (by omega)]; rfl
theorem get_drop {α : Type} (l : List α) (i : Nat) (y : α) (h : l[i]? = some y) : l.drop i = y :: l.drop (i + 1) := by
  obtain ⟨h', e⟩ := List.getElem?_eq_some_iff.1 h
  rw [← e]; exact List.drop_eq_getElem_cons h'

/-! ### Size -/
mutual
def Sx.size : Sx → Int
  | .mk _ _ _ _ _ items => Sx.sizes items 1
def Sx.sizes : List Sx → Int → Int
  | [], n => n
  | s :: l, n => cond (decide (n ≤ 5000)) (Sx.sizes l (IntKind.i64.wrap (n + s.size))) n
end
theorem l33 (s0 : Sx) (items : List Sx) (hlen : items.length ≤ maxLen) (hc : ∃ l k x p a, s0 = .mk l k x p a items) (ih : ∀ s ∈ items, PureC Tryz.env 33 [s.av] (.int .i64 s.size)) (b : Nat) (e : TypeId) (Q : AV → St → Prop) (r : Int) (hQ : ∀ s, Q (.int .i64 r) s) :
    ∀ (m i : Nat) (n : Int) (s : St), i + m = items.length → s.h b = some (.cells s0.av.cells e true true) → r = Sx.sizes (items.drop i) n → ∃ f, f33l1 Q f (.ptr b 0) (.int .i64 n) (.int .i64 i) s := by
  obtain ⟨l, k, x, p, a, rfl⟩ := hc
  intro m
  induction m with
  | zero =>
    intro i n s hi hs hr
    refine ⟨1, ?_⟩
    show f33l1s Q (f33l1 Q 0) _ _ _ s
    rw [List.drop_eq_nil_of_le (by omega)] at hr
    have hr : r = n := hr
    subst hr
    simp only [f33l1s, f33j1, hs, mk_cells, len31, avs_length, Int.ofNat_lt, show ¬ (i < items.length) by omega, decide_false, shiftP_ptr, shiftP_pel, Bnd_some, IfP_bool, Gd_some, ld_ptr, ld_pel, adv_h, adv_nx, set_h, set_nx, beq_self', cond_true, cond_false, part_one, List.getElem?_cons_zero, List.getElem?_cons_succ, un_not, wantV_bool, pickV_bool, extr_tup, bin_lss, bin_leq, bin_gtr, bin_geq, bin_eql, bin_neq, bin_seql, bin_sneq, bin_add, bin_sub, Nat.zero_add, Nat.reduceAdd, beq_self_eq_true, if_true, if_false, Bool.false_eq_true, Bool.not_true, Bool.not_false, show (false == true) = false from rfl, show (true == false) = false from rfl]
    exact hQ _
  | succ m ihm =>
    intro i n s hi hs hr
    obtain ⟨y, hy⟩ : ∃ y, items[i]? = some y := ⟨_, List.getElem?_eq_getElem (by omega)⟩
    rw [get_drop items i y hy] at hr
    have hix := fun ex => ix_avs ex items i y hy
    have hlt : i < items.length := by omega
    cases hn : decide (n ≤ 5000) with
    | false =>
      have hr : r = n := by rw [hr, Sx.sizes, hn]; rfl
      subst hr
      refine ⟨1, ?_⟩
      show f33l1s Q (f33l1 Q 0) _ _ _ s
      simp only [f33l1s, f33j1, hs, mk_cells, len31, avs_length, Int.ofNat_lt, hlt, decide_true, hn, shiftP_ptr, shiftP_pel, Bnd_some, IfP_bool, Gd_some, ld_ptr, ld_pel, adv_h, adv_nx, set_h, set_nx, beq_self', cond_true, cond_false, part_one, List.getElem?_cons_zero, List.getElem?_cons_succ, un_not, wantV_bool, pickV_bool, extr_tup, bin_lss, bin_leq, bin_gtr, bin_geq, bin_eql, bin_neq, bin_seql, bin_sneq, bin_add, bin_sub, Nat.zero_add, Nat.reduceAdd, beq_self_eq_true, if_true, if_false, Bool.false_eq_true, Bool.not_true, Bool.not_false, show (false == true) = false from rfl, show (true == false) = false from rfl]
      exact hQ _
    | true =>
      have hr : r = Sx.sizes (items.drop (i + 1)) (IntKind.i64.wrap (n + y.size)) := by rw [hr, Sx.sizes, hn]; rfl
      have hgo := fun s' h => ihm (i + 1) _ s' (by omega) h hr
      have hmem : y ∈ items := List.mem_of_getElem? hy
      obtain ⟨f, hf⟩ := hgo (adv (adv (adv s 9) 9) 3) hs
      refine ⟨f + 1, ?_⟩
      show f33l1s Q (f33l1 Q f) _ _ _ s
      simp only [f33l1s, f33j2, hs, mk_cells, len31, avs_length, Int.ofNat_lt, hlt, decide_true, hn, hix, sx_part, shiftP_ptr, shiftP_pel, Bnd_some, IfP_bool, Gd_some, ld_ptr, ld_pel, adv_h, adv_nx, set_h, set_nx, beq_self', cond_true, cond_false, part_one, List.getElem?_cons_zero, List.getElem?_cons_succ, un_not, wantV_bool, pickV_bool, extr_tup, bin_lss, bin_leq, bin_gtr, bin_geq, bin_eql, bin_neq, bin_seql, bin_sneq, bin_add, bin_sub, Nat.zero_add, Nat.reduceAdd, beq_self_eq_true, if_true, if_false, Bool.false_eq_true, Bool.not_true, Bool.not_false, show (false == true) = false from rfl, show (true == false) = false from rfl]
      refine callPu (ih y hmem) (by simp [sx_closed]) ?_
      simp only [shiftP_ptr, shiftP_pel, Bnd_some, IfP_bool, Gd_some, ld_ptr, ld_pel, adv_h, adv_nx, set_h, set_nx, beq_self', cond_true, cond_false, part_one, List.getElem?_cons_zero, List.getElem?_cons_succ, un_not, wantV_bool, pickV_bool, extr_tup, bin_lss, bin_leq, bin_gtr, bin_geq, bin_eql, bin_neq, bin_seql, bin_sneq, bin_add, bin_sub, Nat.zero_add, Nat.reduceAdd, beq_self_eq_true, if_true, if_false, Bool.false_eq_true, Bool.not_true, Bool.not_false, show (false == true) = false from rfl, show (true == false) = false from rfl]
      rw [wrap_len i _ hlt hlen]
      exact hf
theorem size_c : ∀ s : Sx, s.ok = true → PureC Tryz.env 33 [s.av] (.int .i64 s.size) := by
  refine sx_all fun l k x p a items ih ho => ?_
  obtain ⟨h1, h2⟩ := ok_items ho
  refine pure_closed rfl (f33_run _ _ ?_)
  refine ⟨sx_ones _, ?_⟩
  exact l33 (.mk l k x p a items) items h1 ⟨l, k, x, p, a, rfl⟩ (fun s hs => ih s hs (h2 s hs)) _ 33 _ _ (fun _ => rfl) items.length 0 1 _ (by omega) (by simp only [adv_h, set_h, beq_self', cond_true]) rfl

/-! ### Depth -/
mutual
def Sx.dep : Sx → Int → Int
  | .mk l _ _ _ _ items, most => cond (!l || most == 0) 0 (IntKind.i64.wrap (Sx.deps items most 0 + 1))
def Sx.deps : List Sx → Int → Int → Int
  | [], _, n => n
  | s :: l, most, n => Sx.deps l most (cond (decide (s.dep (IntKind.i64.wrap (most - 1)) > n)) (s.dep (IntKind.i64.wrap (most - 1))) n)
end
theorem l125 (s0 : Sx) (items : List Sx) (most : Int) (hlen : items.length ≤ maxLen) (hc : ∃ l k x p a, s0 = .mk l k x p a items) (ih : ∀ s ∈ items, PureC Tryz.env 125 [s.av, .int .i64 (IntKind.i64.wrap (most - 1))] (.int .i64 (s.dep (IntKind.i64.wrap (most - 1))))) (b : Nat) (e : TypeId) (Q : AV → St → Prop) (r : Int) (hQ : ∀ s, Q (.int .i64 (IntKind.i64.wrap (r + 1))) s) :
    ∀ (m i : Nat) (n : Int) (s : St), i + m = items.length → s.h b = some (.cells s0.av.cells e true true) → r = Sx.deps (items.drop i) most n → ∃ f, f125l1 Q f (.int .i64 most) (.ptr b 0) (.int .i64 n) (.int .i64 i) s := by
  obtain ⟨l, k, x, p, a, rfl⟩ := hc
  intro m
  induction m with
  | zero =>
    intro i n s hi hs hr
    refine ⟨1, ?_⟩
    show f125l1s Q (f125l1 Q 0) _ _ _ _ s
    rw [List.drop_eq_nil_of_le (by omega)] at hr
    have hr : r = n := hr
    subst hr
    simp only [f125l1s, f125j1, hs, mk_cells, len31, avs_length, Int.ofNat_lt, show ¬ (i < items.length) by omega, decide_false, shiftP_ptr, shiftP_pel, Bnd_some, IfP_bool, Gd_some, ld_ptr, ld_pel, adv_h, adv_nx, set_h, set_nx, beq_self', cond_true, cond_false, part_one, List.getElem?_cons_zero, List.getElem?_cons_succ, un_not, wantV_bool, pickV_bool, extr_tup, bin_lss, bin_leq, bin_gtr, bin_geq, bin_eql, bin_neq, bin_seql, bin_sneq, bin_add, bin_sub, Nat.zero_add, Nat.reduceAdd, beq_self_eq_true, if_true, if_false, Bool.false_eq_true, Bool.not_true, Bool.not_false, show (false == true) = false from rfl, show (true == false) = false from rfl]
    exact hQ _
  | succ m ihm =>
    intro i n s hi hs hr
    obtain ⟨y, hy⟩ : ∃ y, items[i]? = some y := ⟨_, List.getElem?_eq_getElem (by omega)⟩
    rw [get_drop items i y hy] at hr
    have hix := fun ex => ix_avs ex items i y hy
    have hlt : i < items.length := by omega
    have hmem : y ∈ items := List.mem_of_getElem? hy
    cases hn : decide (y.dep (IntKind.i64.wrap (most - 1)) > n) with
    | false =>
      have hr : r = Sx.deps (items.drop (i + 1)) most n := by rw [hr, Sx.deps, hn]; rfl
      obtain ⟨f, hf⟩ := ihm (i + 1) n (adv (adv (adv (adv s 5) 9) 3) 3) (by omega) hs hr
      refine ⟨f + 1, ?_⟩
      show f125l1s Q (f125l1 Q f) _ _ _ _ s
      simp only [f125l1s, f125j2, hs, mk_cells, len31, avs_length, Int.ofNat_lt, hlt, decide_true, hix, sx_part, shiftP_ptr, shiftP_pel, Bnd_some, IfP_bool, Gd_some, ld_ptr, ld_pel, adv_h, adv_nx, set_h, set_nx, beq_self', cond_true, cond_false, part_one, List.getElem?_cons_zero, List.getElem?_cons_succ, un_not, wantV_bool, pickV_bool, extr_tup, bin_lss, bin_leq, bin_gtr, bin_geq, bin_eql, bin_neq, bin_seql, bin_sneq, bin_add, bin_sub, Nat.zero_add, Nat.reduceAdd, beq_self_eq_true, if_true, if_false, Bool.false_eq_true, Bool.not_true, Bool.not_false, show (false == true) = false from rfl, show (true == false) = false from rfl]
      refine callPu (ih y hmem) (by simp [sx_closed, AV.closed]) ?_
      simp only [hn, shiftP_ptr, shiftP_pel, Bnd_some, IfP_bool, Gd_some, ld_ptr, ld_pel, adv_h, adv_nx, set_h, set_nx, beq_self', cond_true, cond_false, part_one, List.getElem?_cons_zero, List.getElem?_cons_succ, un_not, wantV_bool, pickV_bool, extr_tup, bin_lss, bin_leq, bin_gtr, bin_geq, bin_eql, bin_neq, bin_seql, bin_sneq, bin_add, bin_sub, Nat.zero_add, Nat.reduceAdd, beq_self_eq_true, if_true, if_false, Bool.false_eq_true, Bool.not_true, Bool.not_false, show (false == true) = false from rfl, show (true == false) = false from rfl]
      rw [wrap_len i _ hlt hlen]
      exact hf
    | true =>
      have hr : r = Sx.deps (items.drop (i + 1)) most (y.dep (IntKind.i64.wrap (most - 1))) := by rw [hr, Sx.deps, hn]; rfl
      obtain ⟨f, hf⟩ := ihm (i + 1) _ (adv (adv (adv (adv s 5) 9) 5) 3) (by omega) hs hr
      refine ⟨f + 1, ?_⟩
      show f125l1s Q (f125l1 Q f) _ _ _ _ s
      simp only [f125l1s, f125j2, hs, mk_cells, len31, avs_length, Int.ofNat_lt, hlt, decide_true, hix, sx_part, shiftP_ptr, shiftP_pel, Bnd_some, IfP_bool, Gd_some, ld_ptr, ld_pel, adv_h, adv_nx, set_h, set_nx, beq_self', cond_true, cond_false, part_one, List.getElem?_cons_zero, List.getElem?_cons_succ, un_not, wantV_bool, pickV_bool, extr_tup, bin_lss, bin_leq, bin_gtr, bin_geq, bin_eql, bin_neq, bin_seql, bin_sneq, bin_add, bin_sub, Nat.zero_add, Nat.reduceAdd, beq_self_eq_true, if_true, if_false, Bool.false_eq_true, Bool.not_true, Bool.not_false, show (false == true) = false from rfl, show (true == false) = false from rfl]
      refine callPu (ih y hmem) (by simp [sx_closed, AV.closed]) ?_
      simp only [hn, shiftP_ptr, shiftP_pel, Bnd_some, IfP_bool, Gd_some, ld_ptr, ld_pel, adv_h, adv_nx, set_h, set_nx, beq_self', cond_true, cond_false, part_one, List.getElem?_cons_zero, List.getElem?_cons_succ, un_not, wantV_bool, pickV_bool, extr_tup, bin_lss, bin_leq, bin_gtr, bin_geq, bin_eql, bin_neq, bin_seql, bin_sneq, bin_add, bin_sub, Nat.zero_add, Nat.reduceAdd, beq_self_eq_true, if_true, if_false, Bool.false_eq_true, Bool.not_true, Bool.not_false, show (false == true) = false from rfl, show (true == false) = false from rfl]
      rw [wrap_len i _ hlt hlen]
      exact hf
theorem dep_c : ∀ s : Sx, s.ok = true → ∀ most, PureC Tryz.env 125 [s.av, .int .i64 most] (.int .i64 (s.dep most)) := by
  refine sx_all fun l k x p a items ih ho most => ?_
  obtain ⟨h1, h2⟩ := ok_items ho
  refine pure_closed rfl (f125_run _ _ _ ?_)
  refine ⟨sx_ones _, ?_⟩
  rw [Sx.dep]
  cases l with
  | false => simp only [mk_cells, shiftP_ptr, shiftP_pel, Bnd_some, IfP_bool, Gd_some, ld_ptr, ld_pel, adv_h, adv_nx, set_h, set_nx, beq_self', cond_true, cond_false, part_one, List.getElem?_cons_zero, List.getElem?_cons_succ, un_not, wantV_bool, pickV_bool, extr_tup, bin_lss, bin_leq, bin_gtr, bin_geq, bin_eql, bin_neq, bin_seql, bin_sneq, bin_add, bin_sub, Nat.zero_add, Nat.reduceAdd, beq_self_eq_true, if_true, if_false, Bool.false_eq_true, Bool.not_true, Bool.not_false, show (false == true) = false from rfl, show (true == false) = false from rfl, Bool.true_or]
  | true =>
    simp only [mk_cells, shiftP_ptr, shiftP_pel, Bnd_some, IfP_bool, Gd_some, ld_ptr, ld_pel, adv_h, adv_nx, set_h, set_nx, beq_self', cond_true, cond_false, part_one, List.getElem?_cons_zero, List.getElem?_cons_succ, un_not, wantV_bool, pickV_bool, extr_tup, bin_lss, bin_leq, bin_gtr, bin_geq, bin_eql, bin_neq, bin_seql, bin_sneq, bin_add, bin_sub, Nat.zero_add, Nat.reduceAdd, beq_self_eq_true, if_true, if_false, Bool.false_eq_true, Bool.not_true, Bool.not_false, show (false == true) = false from rfl, show (true == false) = false from rfl, Bool.false_or]
    cases hm : (most == 0) with
    | true => simp only [shiftP_ptr, shiftP_pel, Bnd_some, IfP_bool, Gd_some, ld_ptr, ld_pel, adv_h, adv_nx, set_h, set_nx, beq_self', cond_true, cond_false, part_one, List.getElem?_cons_zero, List.getElem?_cons_succ, un_not, wantV_bool, pickV_bool, extr_tup, bin_lss, bin_leq, bin_gtr, bin_geq, bin_eql, bin_neq, bin_seql, bin_sneq, bin_add, bin_sub, Nat.zero_add, Nat.reduceAdd, beq_self_eq_true, if_true, if_false, Bool.false_eq_true, Bool.not_true, Bool.not_false, show (false == true) = false from rfl, show (true == false) = false from rfl]
    | false =>
      simp only [shiftP_ptr, shiftP_pel, Bnd_some, IfP_bool, Gd_some, ld_ptr, ld_pel, adv_h, adv_nx, set_h, set_nx, beq_self', cond_true, cond_false, part_one, List.getElem?_cons_zero, List.getElem?_cons_succ, un_not, wantV_bool, pickV_bool, extr_tup, bin_lss, bin_leq, bin_gtr, bin_geq, bin_eql, bin_neq, bin_seql, bin_sneq, bin_add, bin_sub, Nat.zero_add, Nat.reduceAdd, beq_self_eq_true, if_true, if_false, Bool.false_eq_true, Bool.not_true, Bool.not_false, show (false == true) = false from rfl, show (true == false) = false from rfl]
      exact l125 (.mk true k x p a items) items most h1 ⟨true, k, x, p, a, rfl⟩ (fun s hs => ih s hs (h2 s hs) _) _ 33 _ _ (fun _ => rfl) items.length 0 0 _ (by omega) (by simp only [adv_h, set_h, beq_self', cond_true, mk_cells]) rfl
def Sx.depth (s : Sx) : Int := s.dep 65
theorem depth_c (s : Sx) (h : s.ok = true) : PureC Tryz.env 74 [s.av] (.int .i64 s.depth) := by
  refine pure_closed rfl (f74_run _ _ ?_)
  refine ⟨sx_ones _, ?_⟩
  simp only [sx_part, shiftP_ptr, shiftP_pel, Bnd_some, IfP_bool, Gd_some, ld_ptr, ld_pel, adv_h, adv_nx, set_h, set_nx, beq_self', cond_true, cond_false, part_one, List.getElem?_cons_zero, List.getElem?_cons_succ, un_not, wantV_bool, pickV_bool, extr_tup, bin_lss, bin_leq, bin_gtr, bin_geq, bin_eql, bin_neq, bin_seql, bin_sneq, bin_add, bin_sub, Nat.zero_add, Nat.reduceAdd, beq_self_eq_true, if_true, if_false, Bool.false_eq_true, Bool.not_true, Bool.not_false, show (false == true) = false from rfl, show (true == false) = false from rfl]
  exact callPu (dep_c s h 65) (by simp [sx_closed, AV.closed]) rfl
end Go.Proofs.YtdehdahimkcakaaGreatDoor
