/- Lists of s-expressions behind one another. -/
import Derived.Test.YtdehdahimkcakaaGreatDoorLCc
import Derived.Test.YtdehdahimkcakaaGreatDoorStr
import Derived.Test.YtdehdahimkcakaaGreatDoorSh
set_option linter.unusedVariables false
set_option linter.unusedSimpArgs false
set_option maxRecDepth 100000
set_option maxHeartbeats 4000000
namespace Go.Proofs.YtdehdahimkcakaaGreatDoor
open Go Ai

theorem encSx : Enc Sx.av 6 := ⟨sx_len, sx_ones⟩
theorem many_in : ∀ (ws pre c : List AV), ws.length ≤ c.length → setMany (pre ++ c) pre.length ws = pre ++ ws ++ c.drop ws.length := by
  intro ws
  induction ws with
  | nil => intro pre c _; simp [setMany]
  | cons v l ih =>
    intro pre c h
    match c, h with
    | y :: c, h =>
      simp only [setMany]
      have e : (pre ++ y :: c).set pre.length v = (pre ++ [v]) ++ c := by simp
      have := ih (pre ++ [v]) c (by simpa using h)
      rw [e]
      simpa using this
section
variable {t e : TypeId} {z b : Nat} {ag : Bool} {s : St}
/-- More, where there is room. -/
theorem app_in (h : SlTy t e z ag b) {vs ws junk : List AV} {i : Nat} (hv : ∀ v ∈ vs, v.cells.length = z ∧ v.cells.all AV.one = true) (hw : ∀ v ∈ ws, v.cells.length = z ∧ v.cells.all AV.one = true) (hs : s.h i = some (.cells (vs.flatMap AV.cells ++ junk) e false true)) (hj : ws.length * z ≤ junk.length) (ex : Bool) (id : Nat) :
    ∃ s', bt .append #[t, t] [.ref i 0 vs.length none e, .sl ex ws] id s = some (.ref i 0 (vs.length + ws.length) none e, s') ∧ s'.nx = s.nx ∧ s'.h i = some (.cells ((vs ++ ws).flatMap AV.cells ++ junk.drop (ws.length * z)) e false true) ∧ ∀ j, j ≠ i → s'.h j = s.h j := by
  rw [app_any h]
  have hall : ws.all (fun v => v.cells.length == z) = true := List.all_eq_true.2 fun v hv => by simp [(hw v hv).1]
  have hsrc : srcCells z (.sl ex ws) s = some (ws.flatMap AV.cells) := by simp [srcCells, hall]
  rw [hsrc, Option.bind_some]
  have hwl := flat_len hw
  have hfl := flat_len hv
  by_cases hne : ws = []
  · subst hne
    exact ⟨s, rfl, rfl, by simpa using hs, fun _ _ => rfl⟩
  · have hpos : 0 < ws.length := List.length_pos_iff.2 hne
    have hmul : 0 < ws.length * z := Nat.mul_pos hpos h.pos
    have hem : (ws.flatMap AV.cells).isEmpty = false := by
      cases hc : ws.flatMap AV.cells with
      | nil => rw [hc] at hwl; simp at hwl; omega
      | cons a b => rfl
    have hones : (ws.flatMap AV.cells).all AV.one = true := by
      rw [List.all_eq_true]
      intro y hy
      obtain ⟨v, hv, hy⟩ := List.mem_flatMap.1 hy
      exact List.all_eq_true.1 (hw v hv).2 y hy
    have hdiv : (ws.flatMap AV.cells).length / z = ws.length := by rw [hwl]; exact Nat.mul_div_cancel _ h.pos
    refine ⟨s.set i (some (.cells ((vs ++ ws).flatMap AV.cells ++ junk.drop (ws.length * z)) e false true)), ?_, rfl, st_same, fun j hj => st_other hj⟩
    unfold appendA
    simp only [hem, hones, Bool.not_true, Bool.false_eq_true, if_false, hs, Nat.zero_add]
    rw [if_pos ⟨by rw [List.length_append, hfl]; omega, trivial⟩, if_pos (by rw [List.length_append, hfl, hwl]; omega)]
    rw [hdiv]
    have := many_in (ws.flatMap AV.cells) (vs.flatMap AV.cells) junk (by rw [hwl]; exact hj)
    rw [hfl] at this
    rw [this, hwl, List.flatMap_append]
end
theorem c158 {s : St} {K : AV → St → Prop} (n : Nat) (hn : n ≤ 2 ^ 24) (fr : Fresh s) (hk : ∀ s' x, EF [] s s' → (n = 0 ∧ x = .nils ∨ ∃ i junk, x = .ref i 0 0 none 33 ∧ s.nx ≤ i ∧ i < s'.nx ∧ junk.length = n * 6 ∧ s'.h i = some (.cells junk 33 false true)) → K x s') : CallWi Tryz.env 158 [.nils, .int .i64 n] s K := by
  refine callWiF (by kernel_rfl) (f158_run _ _ _ ?_)
  have h24 : (2 : Nat) ^ 24 = 16777216 := rfl
  have hc : ∀ id (s : St), bt .cap #[31] [.nils] id s = some (.int .i64 0, s) := fun id s => by kernel_rfl
  have hsl : ∀ s : St, slc 31 .nils none (some (.int .i64 0)) none s = some .nils := fun s => by kernel_rfl
  have hneg : decide ((n : Int) < 0) = false := by simp
  unfold f158
  simp only [hneg, shiftP_ptr, shiftP_pel, Bnd_some, IfP_bool, Gd_some, ld_ptr, ld_pel, adv_h, adv_nx, set_nx, cond_true, cond_false, part_one, List.getElem?_cons_zero, List.getElem?_cons_succ, un_not, wantV_bool, pickV_bool, extr_tup, bin_lss, bin_leq, bin_gtr, bin_geq, bin_eql, bin_neq, bin_seql, bin_sneq, bin_add, bin_sub, Nat.reduceAdd, beq_self_eq_true, if_true, if_false, Bool.false_eq_true, Bool.not_true, Bool.not_false, show (false == true) = false from rfl, show (true == false) = false from rfl, Bnd_none, get_set, nx_drop, get_drop', adv_set, adv_two, adv_drop, set_set, Nat.add_assoc, Nat.add_left_cancel_iff, Nat.left_eq_add, Nat.add_eq_left, Nat.add_zero, Nat.reduceEqDiff, reduceCtorEq, and_true, true_and, List.mem_nil_iff, List.not_mem_nil, wantV_tup, resC_nil, resC_some, retP_some, map_some', tupV_one, tupV_two, idOf_ref, idOf_nils, idOf_ptr, idOf_sl, idOf_pel, drop_nil, drop_cons, bin_mul, Bool.or_true, Bool.or_false, Bool.and_true, Bool.and_false, Bool.true_and, Bool.false_and, Bool.true_or, Bool.false_or, f158j1, f158j2, hc, ln31n, show IntKind.i64.wrap (0 - 0) = 0 from rfl]
  rw [show (n : Int) - 0 = (n : Int) by omega, wrapN (k := n) (by omega)]
  by_cases h0 : n = 0
  · subst h0
    simp only [show decide (((0 : Nat) : Int) > 0) = false from rfl, shiftP_ptr, shiftP_pel, Bnd_some, IfP_bool, Gd_some, ld_ptr, ld_pel, adv_h, adv_nx, set_nx, cond_true, cond_false, part_one, List.getElem?_cons_zero, List.getElem?_cons_succ, un_not, wantV_bool, pickV_bool, extr_tup, bin_lss, bin_leq, bin_gtr, bin_geq, bin_eql, bin_neq, bin_seql, bin_sneq, bin_add, bin_sub, Nat.reduceAdd, beq_self_eq_true, if_true, if_false, Bool.false_eq_true, Bool.not_true, Bool.not_false, show (false == true) = false from rfl, show (true == false) = false from rfl, Bnd_none, get_set, nx_drop, get_drop', adv_set, adv_two, adv_drop, set_set, Nat.add_assoc, Nat.add_left_cancel_iff, Nat.left_eq_add, Nat.add_eq_left, Nat.add_zero, Nat.reduceEqDiff, reduceCtorEq, and_true, true_and, List.mem_nil_iff, List.not_mem_nil, wantV_tup, resC_nil, resC_some, retP_some, map_some', tupV_one, tupV_two, idOf_ref, idOf_nils, idOf_ptr, idOf_sl, idOf_pel, drop_nil, drop_cons, bin_mul, Bool.or_true, Bool.or_false, Bool.and_true, Bool.and_false, Bool.true_and, Bool.false_and, Bool.true_or, Bool.false_or]
    exact hk _ _ ((EF.refl [] fr).adv) (.inl ⟨rfl, rfl⟩)
  · have hpos : decide ((n : Int) > 0) = true := by simp; omega
    simp only [hpos, shiftP_ptr, shiftP_pel, Bnd_some, IfP_bool, Gd_some, ld_ptr, ld_pel, adv_h, adv_nx, set_nx, cond_true, cond_false, part_one, List.getElem?_cons_zero, List.getElem?_cons_succ, un_not, wantV_bool, pickV_bool, extr_tup, bin_lss, bin_leq, bin_gtr, bin_geq, bin_eql, bin_neq, bin_seql, bin_sneq, bin_add, bin_sub, Nat.reduceAdd, beq_self_eq_true, if_true, if_false, Bool.false_eq_true, Bool.not_true, Bool.not_false, show (false == true) = false from rfl, show (true == false) = false from rfl, Bnd_none, get_set, nx_drop, get_drop', adv_set, adv_two, adv_drop, set_set, Nat.add_assoc, Nat.add_left_cancel_iff, Nat.left_eq_add, Nat.add_eq_left, Nat.add_zero, Nat.reduceEqDiff, reduceCtorEq, and_true, true_and, List.mem_nil_iff, List.not_mem_nil, wantV_tup, resC_nil, resC_some, retP_some, map_some', tupV_one, tupV_two, idOf_ref, idOf_nils, idOf_ptr, idOf_sl, idOf_pel, drop_nil, drop_cons, bin_mul, Bool.or_true, Bool.or_false, Bool.and_true, Bool.and_false, Bool.true_and, Bool.false_and, Bool.true_or, Bool.false_or, hsl]
    have happ : ∀ id (s : St), bt .append #[31, 3] [.nils, .int .i64 n] id s = some (.ref id 0 n none 33, s.set id (some (.cells (List.replicate n zeroB.cells).flatten 33 false true))) := fun id s => by
      have h1 : und (bX Tryz.env).P 31 = some (.slice 33) := tf31.u
      have h2 : lay (bX Tryz.env).P 33 = some (6, true) := tf31.l
      have h3 : bytesOf (bX Tryz.env).P 33 = some 72 := tf31.b
      have h4 : und (bX Tryz.env).P 3 = some (.int .i64) := by kernel_rfl
      have h5 : zero (bX Tryz.env).P 33 = some zeroB := zr33
      have hz : zeroB.cells.length = 6 := rfl
      have hl : (List.replicate n zeroB.cells).flatten.length = n * 6 := by simp [List.length_flatten, hz]
      have hone : (List.replicate n zeroB.cells).flatten.all AV.one = true := by
        rw [List.all_eq_true]
        intro y hy
        obtain ⟨l, hl, hy⟩ := List.mem_flatten.1 hy
        obtain ⟨_, rfl⟩ := List.mem_replicate.1 hl
        exact List.all_eq_true.1 (show zeroB.cells.all AV.one = true from rfl) y hy
      have hem : (List.replicate n zeroB.cells).flatten.isEmpty = false := by
        cases hc : (List.replicate n zeroB.cells).flatten with
        | nil => rw [hc] at hl; simp at hl; omega
        | cons a b => rfl
      have hm : (n : Int) * ((72 : Nat) : Int) ≤ (most : Int) ∧ (n : Int) ≤ (most : Int) := by unfold most; omega
      simp only [bt, builtinA, List.getElem?_toArray, List.getElem?_cons_zero, List.getElem?_cons_succ, Option.bind_some, h1, h4, h2, h3, h5]
      rw [if_pos ⟨by omega, by omega, hm.1, hm.2, hz⟩, Int.toNat_natCast]
      unfold appendA
      simp only [hem, hone, Bool.not_true, Bool.false_eq_true, if_false, grown, hl]
      rw [show n * 6 / 6 = n by omega, fits_of (by omega) (by omega), if_pos rfl]
      simp only [newSl, hl]
      rw [show n * 6 / 6 = n by omega]
    simp only [happ, shiftP_ptr, shiftP_pel, Bnd_some, IfP_bool, Gd_some, ld_ptr, ld_pel, adv_h, adv_nx, set_nx, cond_true, cond_false, part_one, List.getElem?_cons_zero, List.getElem?_cons_succ, un_not, wantV_bool, pickV_bool, extr_tup, bin_lss, bin_leq, bin_gtr, bin_geq, bin_eql, bin_neq, bin_seql, bin_sneq, bin_add, bin_sub, Nat.reduceAdd, beq_self_eq_true, if_true, if_false, Bool.false_eq_true, Bool.not_true, Bool.not_false, show (false == true) = false from rfl, show (true == false) = false from rfl, Bnd_none, get_set, nx_drop, get_drop', adv_set, adv_two, adv_drop, set_set, Nat.add_assoc, Nat.add_left_cancel_iff, Nat.left_eq_add, Nat.add_eq_left, Nat.add_zero, Nat.reduceEqDiff, reduceCtorEq, and_true, true_and, List.mem_nil_iff, List.not_mem_nil, wantV_tup, resC_nil, resC_some, retP_some, map_some', tupV_one, tupV_two, idOf_ref, idOf_nils, idOf_ptr, idOf_sl, idOf_pel, drop_nil, drop_cons, bin_mul, Bool.or_true, Bool.or_false, Bool.and_true, Bool.and_false, Bool.true_and, Bool.false_and, Bool.true_or, Bool.false_or]
    have hlen : (List.replicate n zeroB.cells).flatten.length = n * 6 := by simp [List.length_flatten, show zeroB.cells.length = 6 from rfl]
    have hsl2 : ∀ (i k : Nat) (q : St), slc 31 (.ref i 0 n none 33) none (some (.int .i64 0)) none (Ai.adv (q.set i (some (.cells (List.replicate n zeroB.cells).flatten 33 false true))) k) = some (.ref i 0 0 none 33) := fun i k q =>
      slc_ref0 tf31 (k := 0) (by rw [adv_h, st_same]) (by rw [hlen]; omega) (by omega) .i64
    simp only [hsl2, shiftP_ptr, shiftP_pel, Bnd_some, IfP_bool, Gd_some, ld_ptr, ld_pel, adv_h, adv_nx, set_nx, cond_true, cond_false, part_one, List.getElem?_cons_zero, List.getElem?_cons_succ, un_not, wantV_bool, pickV_bool, extr_tup, bin_lss, bin_leq, bin_gtr, bin_geq, bin_eql, bin_neq, bin_seql, bin_sneq, bin_add, bin_sub, Nat.reduceAdd, beq_self_eq_true, if_true, if_false, Bool.false_eq_true, Bool.not_true, Bool.not_false, show (false == true) = false from rfl, show (true == false) = false from rfl, Bnd_none, get_set, nx_drop, get_drop', adv_set, adv_two, adv_drop, set_set, Nat.add_assoc, Nat.add_left_cancel_iff, Nat.left_eq_add, Nat.add_eq_left, Nat.add_zero, Nat.reduceEqDiff, reduceCtorEq, and_true, true_and, List.mem_nil_iff, List.not_mem_nil, wantV_tup, resC_nil, resC_some, retP_some, map_some', tupV_one, tupV_two, idOf_ref, idOf_nils, idOf_ptr, idOf_sl, idOf_pel, drop_nil, drop_cons, bin_mul, Bool.or_true, Bool.or_false, Bool.and_true, Bool.and_false, Bool.true_and, Bool.false_and, Bool.true_or, Bool.false_or]
    refine hk _ _ ⟨by simp only [adv_nx, set_nx]; omega, fun j hj _ => by simp only [adv_h]; rw [st_other (by omega)], fresh_set fr _ (by omega)⟩ (.inr ⟨_, _, rfl, by omega, by simp only [adv_nx, set_nx]; omega, hlen, by rw [adv_h, st_same]⟩)
/-- A list of lists of s-expressions. -/
def lsA (l : List Sx) : AV := .sl false (l.map Sx.av)
def tot : List (List Sx) → Nat
  | [] => 0
  | l :: ls => l.length + tot ls
theorem tot_flat (ls : List (List Sx)) : ls.flatten.length = tot ls := by
  induction ls with
  | nil => rfl
  | cons l ls ih => simp [tot, ih]
theorem tot_append (a b : List (List Sx)) : tot (a ++ b) = tot a + tot b := by
  induction a with
  | nil => simp [tot]
  | cons l ls ih => simp only [List.cons_append, tot, ih]; omega
theorem encLs : Enc lsA 1 := ⟨fun _ => rfl, fun _ => rfl⟩
theorem l109a (ls : List (List Sx)) (hls : ls.length ≤ 2 ^ 24) (Q : AV → St → Prop) (s0 : St) (hQ : ∀ x s, (∃ i, x = .ref i 0 ls.flatten.length none 33 ∧ s.h i = some (.cells ((ls.flatten.map Sx.av).flatMap AV.cells) 33 false true)) → Q x s) :
    ∀ (m i b : Nat) (junk : List AV) (s : St), i + m = ls.length → junk.length = tot (ls.drop i) * 6 → s.h b = some (.cells (((ls.take i).flatten.map Sx.av).flatMap AV.cells ++ junk) 33 false true) →
      f109l1 Q (m + 1) (.ref b 0 (ls.take i).flatten.length none 33) (.sl false (ls.map lsA)) (.int .i64 ls.length) (.int .i64 i) s := by
  intro m
  induction m with
  | zero =>
    intro i b junk s hi hj hs
    show f109l1s Q (f109l1 Q 0) _ _ _ _ s
    have hii : i = ls.length := by omega
    subst hii
    simp only [List.drop_length, tot, Nat.zero_mul, List.length_eq_zero_iff] at hj
    subst hj
    simp only [f109l1s, f109j2, Int.lt_irrefl, decide_false, shiftP_ptr, shiftP_pel, Bnd_some, IfP_bool, Gd_some, ld_ptr, ld_pel, adv_h, adv_nx, set_nx, cond_true, cond_false, part_one, List.getElem?_cons_zero, List.getElem?_cons_succ, un_not, wantV_bool, pickV_bool, extr_tup, bin_lss, bin_leq, bin_gtr, bin_geq, bin_eql, bin_neq, bin_seql, bin_sneq, bin_add, bin_sub, Nat.reduceAdd, beq_self_eq_true, if_true, if_false, Bool.false_eq_true, Bool.not_true, Bool.not_false, show (false == true) = false from rfl, show (true == false) = false from rfl, Bnd_none, get_set, nx_drop, get_drop', adv_set, adv_two, adv_drop, set_set, Nat.add_assoc, Nat.add_left_cancel_iff, Nat.left_eq_add, Nat.add_eq_left, Nat.add_zero, Nat.reduceEqDiff, reduceCtorEq, and_true, true_and, List.mem_nil_iff, List.not_mem_nil, wantV_tup, resC_nil, resC_some, retP_some, map_some', tupV_one, tupV_two, idOf_ref, idOf_nils, idOf_ptr, idOf_sl, idOf_pel, drop_nil, drop_cons, bin_mul, Bool.or_true, Bool.or_false, Bool.and_true, Bool.and_false, Bool.true_and, Bool.false_and, Bool.true_or, Bool.false_or]
    refine hQ _ _ ⟨b, by rw [List.take_length], ?_⟩
    rw [adv_h, hs, List.take_length, List.append_nil]
  | succ m ih =>
    intro i b junk s hi hj hs
    show f109l1s Q (f109l1 Q (m + 1)) _ _ _ _ s
    obtain ⟨l, hl⟩ : ∃ l, ls[i]? = some l := ⟨_, List.getElem?_eq_getElem (by omega)⟩
    have hlt : i < ls.length := by omega
    have h24 : (2 : Nat) ^ 24 = 16777216 := rfl
    rw [get_drop ls i l hl, tot] at hj
    simp only [f109l1s, Int.ofNat_lt, hlt, decide_true, ix_map encLs false hl, shiftP_ptr, shiftP_pel, Bnd_some, IfP_bool, Gd_some, ld_ptr, ld_pel, adv_h, adv_nx, set_nx, cond_true, cond_false, part_one, List.getElem?_cons_zero, List.getElem?_cons_succ, un_not, wantV_bool, pickV_bool, extr_tup, bin_lss, bin_leq, bin_gtr, bin_geq, bin_eql, bin_neq, bin_seql, bin_sneq, bin_add, bin_sub, Nat.reduceAdd, beq_self_eq_true, if_true, if_false, Bool.false_eq_true, Bool.not_true, Bool.not_false, show (false == true) = false from rfl, show (true == false) = false from rfl, Bnd_none, get_set, nx_drop, get_drop', adv_set, adv_two, adv_drop, set_set, Nat.add_assoc, Nat.add_left_cancel_iff, Nat.left_eq_add, Nat.add_eq_left, Nat.add_zero, Nat.reduceEqDiff, reduceCtorEq, and_true, true_and, List.mem_nil_iff, List.not_mem_nil, wantV_tup, resC_nil, resC_some, retP_some, map_some', tupV_one, tupV_two, idOf_ref, idOf_nils, idOf_ptr, idOf_sl, idOf_pel, drop_nil, drop_cons, bin_mul, Bool.or_true, Bool.or_false, Bool.and_true, Bool.and_false, Bool.true_and, Bool.false_and, Bool.true_or, Bool.false_or]
    have h0 : (lsA l).cells[0]? = some (lsA l) := rfl
    simp only [h0, shiftP_ptr, shiftP_pel, Bnd_some, IfP_bool, Gd_some, ld_ptr, ld_pel, adv_h, adv_nx, set_nx, cond_true, cond_false, part_one, List.getElem?_cons_zero, List.getElem?_cons_succ, un_not, wantV_bool, pickV_bool, extr_tup, bin_lss, bin_leq, bin_gtr, bin_geq, bin_eql, bin_neq, bin_seql, bin_sneq, bin_add, bin_sub, Nat.reduceAdd, beq_self_eq_true, if_true, if_false, Bool.false_eq_true, Bool.not_true, Bool.not_false, show (false == true) = false from rfl, show (true == false) = false from rfl, Bnd_none, get_set, nx_drop, get_drop', adv_set, adv_two, adv_drop, set_set, Nat.add_assoc, Nat.add_left_cancel_iff, Nat.left_eq_add, Nat.add_eq_left, Nat.add_zero, Nat.reduceEqDiff, reduceCtorEq, and_true, true_and, List.mem_nil_iff, List.not_mem_nil, wantV_tup, resC_nil, resC_some, retP_some, map_some', tupV_one, tupV_two, idOf_ref, idOf_nils, idOf_ptr, idOf_sl, idOf_pel, drop_nil, drop_cons, bin_mul, Bool.or_true, Bool.or_false, Bool.and_true, Bool.and_false, Bool.true_and, Bool.false_and, Bool.true_or, Bool.false_or]
    obtain ⟨s', h1, h2, h3, h4⟩ := app_in tf31 (s := Ai.adv s 8) (vs := (ls.take i).flatten.map Sx.av) (ws := l.map Sx.av) (junk := junk) (i := b) (cells_map encSx.len encSx.ones _) (cells_map encSx.len encSx.ones _) hs (by rw [List.length_map]; omega) false (s.nx + 6)
    rw [List.length_map, List.length_map] at h1
    rw [show lsA l = .sl false (l.map Sx.av) from rfl, h1]
    simp only [f109j3, shiftP_ptr, shiftP_pel, Bnd_some, IfP_bool, Gd_some, ld_ptr, ld_pel, adv_h, adv_nx, set_nx, cond_true, cond_false, part_one, List.getElem?_cons_zero, List.getElem?_cons_succ, un_not, wantV_bool, pickV_bool, extr_tup, bin_lss, bin_leq, bin_gtr, bin_geq, bin_eql, bin_neq, bin_seql, bin_sneq, bin_add, bin_sub, Nat.reduceAdd, beq_self_eq_true, if_true, if_false, Bool.false_eq_true, Bool.not_true, Bool.not_false, show (false == true) = false from rfl, show (true == false) = false from rfl, Bnd_none, get_set, nx_drop, get_drop', adv_set, adv_two, adv_drop, set_set, Nat.add_assoc, Nat.add_left_cancel_iff, Nat.left_eq_add, Nat.add_eq_left, Nat.add_zero, Nat.reduceEqDiff, reduceCtorEq, and_true, true_and, List.mem_nil_iff, List.not_mem_nil, wantV_tup, resC_nil, resC_some, retP_some, map_some', tupV_one, tupV_two, idOf_ref, idOf_nils, idOf_ptr, idOf_sl, idOf_pel, drop_nil, drop_cons, bin_mul, Bool.or_true, Bool.or_false, Bool.and_true, Bool.and_false, Bool.true_and, Bool.false_and, Bool.true_or, Bool.false_or]
    rw [wrap_len i _ hlt (by have : maxLen = 9223372036854775807 := rfl; omega)]
    have e : (ls.take (i + 1)).flatten = (ls.take i).flatten ++ l := by rw [List.take_add_one, hl]; simp
    have e2 : (ls.take i).flatten.length + l.length = (ls.take (i + 1)).flatten.length := by rw [e, List.length_append]
    rw [e2]
    refine ih (i + 1) b (junk.drop (l.length * 6)) _ (by omega) (by rw [List.length_drop]; omega) ?_
    rw [adv_h, h3, List.length_map, e, List.map_append]
theorem l109b (ls : List (List Sx)) (hls : ls.length ≤ 2 ^ 24) (ht : tot ls ≤ 2 ^ 24) (Q : AV → St → Prop) (hQ : ∀ s, Fresh s → f109j1 Q (.int .i64 (tot ls)) (.sl false (ls.map lsA)) s) :
    ∀ (m i : Nat) (s : St), i + m = ls.length → Fresh s → f109l2 Q (m + 1) (.sl false (ls.map lsA)) (.int .i64 (tot (ls.take i))) (.sl false (ls.map lsA)) (.int .i64 ls.length) (.int .i64 i) s := by
  intro m
  have h24 : (2 : Nat) ^ 24 = 16777216 := rfl
  induction m with
  | zero =>
    intro i s hi fr
    show f109l2s Q (f109l2 Q 0) _ _ _ _ _ s
    have hii : i = ls.length := by omega
    subst hii
    rw [List.take_length]
    simp only [f109l2s, Int.lt_irrefl, decide_false, shiftP_ptr, shiftP_pel, Bnd_some, IfP_bool, Gd_some, ld_ptr, ld_pel, adv_h, adv_nx, set_nx, cond_true, cond_false, part_one, List.getElem?_cons_zero, List.getElem?_cons_succ, un_not, wantV_bool, pickV_bool, extr_tup, bin_lss, bin_leq, bin_gtr, bin_geq, bin_eql, bin_neq, bin_seql, bin_sneq, bin_add, bin_sub, Nat.reduceAdd, beq_self_eq_true, if_true, if_false, Bool.false_eq_true, Bool.not_true, Bool.not_false, show (false == true) = false from rfl, show (true == false) = false from rfl, Bnd_none, get_set, nx_drop, get_drop', adv_set, adv_two, adv_drop, set_set, Nat.add_assoc, Nat.add_left_cancel_iff, Nat.left_eq_add, Nat.add_eq_left, Nat.add_zero, Nat.reduceEqDiff, reduceCtorEq, and_true, true_and, List.mem_nil_iff, List.not_mem_nil, wantV_tup, resC_nil, resC_some, retP_some, map_some', tupV_one, tupV_two, idOf_ref, idOf_nils, idOf_ptr, idOf_sl, idOf_pel, drop_nil, drop_cons, bin_mul, Bool.or_true, Bool.or_false, Bool.and_true, Bool.and_false, Bool.true_and, Bool.false_and, Bool.true_or, Bool.false_or]
    exact hQ _ fr.adv
  | succ m ih =>
    intro i s hi fr
    show f109l2s Q (f109l2 Q (m + 1)) _ _ _ _ _ s
    obtain ⟨l, hl⟩ : ∃ l, ls[i]? = some l := ⟨_, List.getElem?_eq_getElem (by omega)⟩
    have hlt : i < ls.length := by omega
    have e : ls.take (i + 1) = ls.take i ++ [l] := by rw [List.take_add_one, hl]; rfl
    have et : tot (ls.take (i + 1)) = tot (ls.take i) + l.length := by rw [e, tot_append]; simp [tot]
    have ele : tot (ls.take (i + 1)) ≤ tot ls := by
      have := tot_append (ls.take (i + 1)) (ls.drop (i + 1))
      rw [List.take_append_drop] at this; omega
    have h0 : (lsA l).cells[0]? = some (lsA l) := rfl
    simp only [f109l2s, Int.ofNat_lt, hlt, decide_true, ix_map encLs false hl, shiftP_ptr, shiftP_pel, Bnd_some, IfP_bool, Gd_some, ld_ptr, ld_pel, adv_h, adv_nx, set_nx, cond_true, cond_false, part_one, List.getElem?_cons_zero, List.getElem?_cons_succ, un_not, wantV_bool, pickV_bool, extr_tup, bin_lss, bin_leq, bin_gtr, bin_geq, bin_eql, bin_neq, bin_seql, bin_sneq, bin_add, bin_sub, Nat.reduceAdd, beq_self_eq_true, if_true, if_false, Bool.false_eq_true, Bool.not_true, Bool.not_false, show (false == true) = false from rfl, show (true == false) = false from rfl, Bnd_none, get_set, nx_drop, get_drop', adv_set, adv_two, adv_drop, set_set, Nat.add_assoc, Nat.add_left_cancel_iff, Nat.left_eq_add, Nat.add_eq_left, Nat.add_zero, Nat.reduceEqDiff, reduceCtorEq, and_true, true_and, List.mem_nil_iff, List.not_mem_nil, wantV_tup, resC_nil, resC_some, retP_some, map_some', tupV_one, tupV_two, idOf_ref, idOf_nils, idOf_ptr, idOf_sl, idOf_pel, drop_nil, drop_cons, bin_mul, Bool.or_true, Bool.or_false, Bool.and_true, Bool.and_false, Bool.true_and, Bool.false_and, Bool.true_or, Bool.false_or, h0]
    simp only [show lsA l = .sl false (l.map Sx.av) from rfl, ln31s, List.length_map, shiftP_ptr, shiftP_pel, Bnd_some, IfP_bool, Gd_some, ld_ptr, ld_pel, adv_h, adv_nx, set_nx, cond_true, cond_false, part_one, List.getElem?_cons_zero, List.getElem?_cons_succ, un_not, wantV_bool, pickV_bool, extr_tup, bin_lss, bin_leq, bin_gtr, bin_geq, bin_eql, bin_neq, bin_seql, bin_sneq, bin_add, bin_sub, Nat.reduceAdd, beq_self_eq_true, if_true, if_false, Bool.false_eq_true, Bool.not_true, Bool.not_false, show (false == true) = false from rfl, show (true == false) = false from rfl, Bnd_none, get_set, nx_drop, get_drop', adv_set, adv_two, adv_drop, set_set, Nat.add_assoc, Nat.add_left_cancel_iff, Nat.left_eq_add, Nat.add_eq_left, Nat.add_zero, Nat.reduceEqDiff, reduceCtorEq, and_true, true_and, List.mem_nil_iff, List.not_mem_nil, wantV_tup, resC_nil, resC_some, retP_some, map_some', tupV_one, tupV_two, idOf_ref, idOf_nils, idOf_ptr, idOf_sl, idOf_pel, drop_nil, drop_cons, bin_mul, Bool.or_true, Bool.or_false, Bool.and_true, Bool.and_false, Bool.true_and, Bool.false_and, Bool.true_or, Bool.false_or]
    have hw : IntKind.i64.wrap ((tot (ls.take i) : Int) + (l.length : Int)) = ((tot (ls.take (i + 1)) : Nat) : Int) := by rw [IntWalk.i64_in _ (by omega)]; omega
    have hn : decide (((tot (ls.take (i + 1)) : Nat) : Int) < 0) = false := by simp
    simp only [hw, hn, f109j4, shiftP_ptr, shiftP_pel, Bnd_some, IfP_bool, Gd_some, ld_ptr, ld_pel, adv_h, adv_nx, set_nx, cond_true, cond_false, part_one, List.getElem?_cons_zero, List.getElem?_cons_succ, un_not, wantV_bool, pickV_bool, extr_tup, bin_lss, bin_leq, bin_gtr, bin_geq, bin_eql, bin_neq, bin_seql, bin_sneq, bin_add, bin_sub, Nat.reduceAdd, beq_self_eq_true, if_true, if_false, Bool.false_eq_true, Bool.not_true, Bool.not_false, show (false == true) = false from rfl, show (true == false) = false from rfl, Bnd_none, get_set, nx_drop, get_drop', adv_set, adv_two, adv_drop, set_set, Nat.add_assoc, Nat.add_left_cancel_iff, Nat.left_eq_add, Nat.add_eq_left, Nat.add_zero, Nat.reduceEqDiff, reduceCtorEq, and_true, true_and, List.mem_nil_iff, List.not_mem_nil, wantV_tup, resC_nil, resC_some, retP_some, map_some', tupV_one, tupV_two, idOf_ref, idOf_nils, idOf_ptr, idOf_sl, idOf_pel, drop_nil, drop_cons, bin_mul, Bool.or_true, Bool.or_false, Bool.and_true, Bool.and_false, Bool.true_and, Bool.false_and, Bool.true_or, Bool.false_or]
    rw [wrap_len i _ hlt (by have : maxLen = 9223372036854775807 := rfl; omega)]
    exact ih (i + 1) _ (by omega) fr.adv
theorem l109n (ls : List (List Sx)) (hls : ls.length ≤ 2 ^ 24) (he : ∀ l ∈ ls, l = []) (Q : AV → St → Prop) (hQ : ∀ s, Q .nils s) : ∀ (m i : Nat) (s : St), i + m = ls.length → f109l1 Q (m + 1) .nils (.sl false (ls.map lsA)) (.int .i64 ls.length) (.int .i64 i) s := by
  intro m
  induction m with
  | zero =>
    intro i s hi
    show f109l1s Q (f109l1 Q 0) _ _ _ _ s
    have hii : i = ls.length := by omega
    subst hii
    simp only [f109l1s, f109j2, Int.lt_irrefl, decide_false, shiftP_ptr, shiftP_pel, Bnd_some, IfP_bool, Gd_some, ld_ptr, ld_pel, adv_h, adv_nx, set_nx, cond_true, cond_false, part_one, List.getElem?_cons_zero, List.getElem?_cons_succ, un_not, wantV_bool, pickV_bool, extr_tup, bin_lss, bin_leq, bin_gtr, bin_geq, bin_eql, bin_neq, bin_seql, bin_sneq, bin_add, bin_sub, Nat.reduceAdd, beq_self_eq_true, if_true, if_false, Bool.false_eq_true, Bool.not_true, Bool.not_false, show (false == true) = false from rfl, show (true == false) = false from rfl, Bnd_none, get_set, nx_drop, get_drop', adv_set, adv_two, adv_drop, set_set, Nat.add_assoc, Nat.add_left_cancel_iff, Nat.left_eq_add, Nat.add_eq_left, Nat.add_zero, Nat.reduceEqDiff, reduceCtorEq, and_true, true_and, List.mem_nil_iff, List.not_mem_nil, wantV_tup, resC_nil, resC_some, retP_some, map_some', tupV_one, tupV_two, idOf_ref, idOf_nils, idOf_ptr, idOf_sl, idOf_pel, drop_nil, drop_cons, bin_mul, Bool.or_true, Bool.or_false, Bool.and_true, Bool.and_false, Bool.true_and, Bool.false_and, Bool.true_or, Bool.false_or]
    exact hQ _
  | succ m ih =>
    intro i s hi
    show f109l1s Q (f109l1 Q (m + 1)) _ _ _ _ s
    obtain ⟨l, hl⟩ : ∃ l, ls[i]? = some l := ⟨_, List.getElem?_eq_getElem (by omega)⟩
    have hlt : i < ls.length := by omega
    have h24 : (2 : Nat) ^ 24 = 16777216 := rfl
    have := he l (List.mem_of_getElem? hl)
    subst this
    have h0 : (lsA []).cells[0]? = some (.sl false []) := rfl
    have happ := fun id q => app_nothing (id := id) (s := q) tf31 (gw_nil (lo := 0)) false
    simp only [f109l1s, Int.ofNat_lt, hlt, decide_true, ix_map encLs false hl, shiftP_ptr, shiftP_pel, Bnd_some, IfP_bool, Gd_some, ld_ptr, ld_pel, adv_h, adv_nx, set_nx, cond_true, cond_false, part_one, List.getElem?_cons_zero, List.getElem?_cons_succ, un_not, wantV_bool, pickV_bool, extr_tup, bin_lss, bin_leq, bin_gtr, bin_geq, bin_eql, bin_neq, bin_seql, bin_sneq, bin_add, bin_sub, Nat.reduceAdd, beq_self_eq_true, if_true, if_false, Bool.false_eq_true, Bool.not_true, Bool.not_false, show (false == true) = false from rfl, show (true == false) = false from rfl, Bnd_none, get_set, nx_drop, get_drop', adv_set, adv_two, adv_drop, set_set, Nat.add_assoc, Nat.add_left_cancel_iff, Nat.left_eq_add, Nat.add_eq_left, Nat.add_zero, Nat.reduceEqDiff, reduceCtorEq, and_true, true_and, List.mem_nil_iff, List.not_mem_nil, wantV_tup, resC_nil, resC_some, retP_some, map_some', tupV_one, tupV_two, idOf_ref, idOf_nils, idOf_ptr, idOf_sl, idOf_pel, drop_nil, drop_cons, bin_mul, Bool.or_true, Bool.or_false, Bool.and_true, Bool.and_false, Bool.true_and, Bool.false_and, Bool.true_or, Bool.false_or, h0, happ, f109j3]
    rw [wrap_len i _ hlt (by have : maxLen = 9223372036854775807 := rfl; omega)]
    exact ih (i + 1) _ (by omega)
theorem c109 (ls : List (List Sx)) (hls : ls.length ≤ 2 ^ 24) (ht : tot ls ≤ 2 ^ 24) : PureC Tryz.env 109 [.sl false (ls.map lsA)] (lsA ls.flatten) := by
  refine pure_q (f109_run _ _ ?_)
  unfold f109
  simp only [ln221s, List.length_map, shiftP_ptr, shiftP_pel, Bnd_some, IfP_bool, Gd_some, ld_ptr, ld_pel, adv_h, adv_nx, set_nx, cond_true, cond_false, part_one, List.getElem?_cons_zero, List.getElem?_cons_succ, un_not, wantV_bool, pickV_bool, extr_tup, bin_lss, bin_leq, bin_gtr, bin_geq, bin_eql, bin_neq, bin_seql, bin_sneq, bin_add, bin_sub, Nat.reduceAdd, beq_self_eq_true, if_true, if_false, Bool.false_eq_true, Bool.not_true, Bool.not_false, show (false == true) = false from rfl, show (true == false) = false from rfl, Bnd_none, get_set, nx_drop, get_drop', adv_set, adv_two, adv_drop, set_set, Nat.add_assoc, Nat.add_left_cancel_iff, Nat.left_eq_add, Nat.add_eq_left, Nat.add_zero, Nat.reduceEqDiff, reduceCtorEq, and_true, true_and, List.mem_nil_iff, List.not_mem_nil, wantV_tup, resC_nil, resC_some, retP_some, map_some', tupV_one, tupV_two, idOf_ref, idOf_nils, idOf_ptr, idOf_sl, idOf_pel, drop_nil, drop_cons, bin_mul, Bool.or_true, Bool.or_false, Bool.and_true, Bool.and_false, Bool.true_and, Bool.false_and, Bool.true_or, Bool.false_or]
  refine ⟨ls.length + 1, l109b ls hls ht _ (fun s fr => ?_) ls.length 0 _ (by omega) fresh_empty.adv⟩
  unfold f109j1
  have hpur : ∀ i (s : St), s.h i = some (.cells ((ls.flatten.map Sx.av).flatMap AV.cells) 33 false true) → PureQ (lsA ls.flatten) (.ref i 0 ls.flatten.length none 33) s := fun i s hs => by
    have g : Gw 33 6 0 s (.ref i 0 ls.flatten.length none 33) (ls.flatten.map Sx.av) := ⟨cells_map encSx.len encSx.ones _, .inr ⟨i, Nat.zero_le _, by rw [List.length_map], hs⟩⟩
    exact pureQ_of (pur_map tf31 g (fun a _ => sx_closed a) (fun a _ => by cases a; rfl) 11)
  refine c158 (tot ls) ht fr.adv fun s' x hE hx => ?_
  simp only [ln221s, List.length_map, shiftP_ptr, shiftP_pel, Bnd_some, IfP_bool, Gd_some, ld_ptr, ld_pel, adv_h, adv_nx, set_nx, cond_true, cond_false, part_one, List.getElem?_cons_zero, List.getElem?_cons_succ, un_not, wantV_bool, pickV_bool, extr_tup, bin_lss, bin_leq, bin_gtr, bin_geq, bin_eql, bin_neq, bin_seql, bin_sneq, bin_add, bin_sub, Nat.reduceAdd, beq_self_eq_true, if_true, if_false, Bool.false_eq_true, Bool.not_true, Bool.not_false, show (false == true) = false from rfl, show (true == false) = false from rfl, Bnd_none, get_set, nx_drop, get_drop', adv_set, adv_two, adv_drop, set_set, Nat.add_assoc, Nat.add_left_cancel_iff, Nat.left_eq_add, Nat.add_eq_left, Nat.add_zero, Nat.reduceEqDiff, reduceCtorEq, and_true, true_and, List.mem_nil_iff, List.not_mem_nil, wantV_tup, resC_nil, resC_some, retP_some, map_some', tupV_one, tupV_two, idOf_ref, idOf_nils, idOf_ptr, idOf_sl, idOf_pel, drop_nil, drop_cons, bin_mul, Bool.or_true, Bool.or_false, Bool.and_true, Bool.and_false, Bool.true_and, Bool.false_and, Bool.true_or, Bool.false_or]
  rcases hx with ⟨h0, rfl⟩ | ⟨i, junk, rfl, h1, h2, h3, h4⟩
  · have hf : ls.flatten = [] := List.length_eq_zero_iff.1 (by rw [tot_flat, h0])
    refine ⟨ls.length + 1, l109n ls hls (fun l hl => by simpa using List.flatten_eq_nil_iff.1 hf l hl) _ (fun s => ?_) ls.length 0 _ (by omega)⟩
    rw [hf]; exact ⟨[], rfl⟩
  · refine ⟨ls.length + 1, ?_⟩
    have := l109a ls hls (PureQ (lsA ls.flatten)) s' (fun x s ⟨i, hx, hs⟩ => by subst hx; exact hpur i s hs) ls.length 0 i junk (Ai.adv s' 3) (by omega) (by simpa using h3) (by simpa [adv_h] using h4)
    simpa using this
/-- A name and parts. -/
def lstS (nm : List UInt8) (l : List Sx) : Sx := .mk true 0 [] 0 0 (atS 3 nm :: l)
theorem pur_two {s : St} {x : AV} {sym : Sx} {l : List Sx} {ids : List Nat} (h : pur Tryz.env.P s 11 x = some (lsA l, ids)) : purL (pur Tryz.env.P s 12) [.sl true [.sl true [sym.av], x]] = some ([.sl false [lsA [sym], lsA l]], ids) := by
  have hp : pur Tryz.env.P s 11 (.sl true [sym.av]) = some (lsA [sym], []) := by
    obtain ⟨ids, h1, h2⟩ := pur_sl (s := s) (ex := true) (k := 10) (l := [sym.av]) (by simp only [closedL, sx_closed sym, Bool.and_self])
    subst h2; exact h1
  have h12 : pur Tryz.env.P s 12 (.sl true [.sl true [sym.av], x]) = some (.sl false [lsA [sym], lsA l], ids) := by
    have e : pur Tryz.env.P s 12 (.sl true [.sl true [sym.av], x]) = (purL (pur Tryz.env.P s 11) [.sl true [sym.av], x]).map fun r => (.sl false r.1, r.2) := by
      conv => lhs; unfold pur
      rw [if_neg (by simp [AV.closed])]
    rw [e]
    simp only [purL, hp, h, List.append_nil, List.nil_append, Option.map_some]
  simp only [purL, h12, List.append_nil]
/-- 'show.list': its parts as they are handed in, seen as a list of s-expressions. -/
theorem c57 {s : St} {K : AV → St → Prop} {x : AV} {nm : List UInt8} {l : List Sx} {M : List Nat} (hl : l.length ≤ 2 ^ 20) (fr : Fresh s) (hp : ∀ s', EF [] s s' → ∃ ids, pur Tryz.env.P s' 11 x = some (lsA l, ids) ∧ ∀ i ∈ ids, i ∈ M ∧ i < s.nx) (hone : x.cells = [x]) (hx : x.one = true)
    (hk : ∀ s', EF M s s' → K (lstS nm l).av s') : CallWi Tryz.env 57 [.str nm, x] s K := by
  refine callWiF (by kernel_rfl) (f57_run _ _ _ ?_)
  unfold f57
  have b31 : ∀ v : Sx, bsl 31 1 [(0, v.av)] = some (.sl true [v.av]) := fun v => bsl_one tf31 (by decide) (sx_len v) (sx_ones v)
  have b221 : ∀ v : AV, bsl 221 2 [(0, .sl true [v]), (1, x)] = some (.sl true [.sl true [v], x]) := fun v => by
    have h1 : zero Tryz.ty 31 = some .nils := zf31
    have c0 : AV.nils.cells = [.nils] := rfl
    have c1 : (AV.sl true [v]).cells = [.sl true [v]] := rfl
    have c2 : (AV.sl true [v]).one = true := rfl
    simp [buildSl, tf221.u, tf221.l, h1, setParts, hone, hx, c0, c1, c2]
  simp only [zf33, shiftP_ptr, shiftP_pel, Bnd_some, IfP_bool, Gd_some, ld_ptr, ld_pel, adv_h, adv_nx, set_nx, cond_true, cond_false, part_one, List.getElem?_cons_zero, List.getElem?_cons_succ, un_not, wantV_bool, pickV_bool, extr_tup, bin_lss, bin_leq, bin_gtr, bin_geq, bin_eql, bin_neq, bin_seql, bin_sneq, bin_add, bin_sub, Nat.reduceAdd, beq_self_eq_true, if_true, if_false, Bool.false_eq_true, Bool.not_true, Bool.not_false, show (false == true) = false from rfl, show (true == false) = false from rfl, Bnd_none, get_set, nx_drop, get_drop', adv_set, adv_two, adv_drop, set_set, Nat.add_assoc, Nat.add_left_cancel_iff, Nat.left_eq_add, Nat.add_eq_left, Nat.add_zero, Nat.reduceEqDiff, reduceCtorEq, and_true, true_and, List.mem_nil_iff, List.not_mem_nil, wantV_tup, resC_nil, resC_some, retP_some, map_some', tupV_one, tupV_two, idOf_ref, idOf_nils, idOf_ptr, idOf_sl, idOf_pel, drop_nil, drop_cons, bin_mul, Bool.or_true, Bool.or_false, Bool.and_true, Bool.and_false, Bool.true_and, Bool.false_and, Bool.true_or, Bool.false_or]
  refine callPu (c56 nm) (by simp [AV.closed]) ?_
  simp only [b31, b221, shiftP_ptr, shiftP_pel, Bnd_some, IfP_bool, Gd_some, ld_ptr, ld_pel, adv_h, adv_nx, set_nx, cond_true, cond_false, part_one, List.getElem?_cons_zero, List.getElem?_cons_succ, un_not, wantV_bool, pickV_bool, extr_tup, bin_lss, bin_leq, bin_gtr, bin_geq, bin_eql, bin_neq, bin_seql, bin_sneq, bin_add, bin_sub, Nat.reduceAdd, beq_self_eq_true, if_true, if_false, Bool.false_eq_true, Bool.not_true, Bool.not_false, show (false == true) = false from rfl, show (true == false) = false from rfl, Bnd_none, get_set, nx_drop, get_drop', adv_set, adv_two, adv_drop, set_set, Nat.add_assoc, Nat.add_left_cancel_iff, Nat.left_eq_add, Nat.add_eq_left, Nat.add_zero, Nat.reduceEqDiff, reduceCtorEq, and_true, true_and, List.mem_nil_iff, List.not_mem_nil, wantV_tup, resC_nil, resC_some, retP_some, map_some', tupV_one, tupV_two, idOf_ref, idOf_nils, idOf_ptr, idOf_sl, idOf_pel, drop_nil, drop_cons, bin_mul, Bool.or_true, Bool.or_false, Bool.and_true, Bool.and_false, Bool.true_and, Bool.false_and, Bool.true_or, Bool.false_or]
  have hE : ∀ n, EF [] s (Ai.adv (s.set s.nx (some (.cells (AV.agg [.bool false, .int .i64 0, .str [], .int .i64 0, .int .i64 0, .nils]).cells 33 true true))) (1 + n)) := fun n =>
    ⟨by simp only [adv_nx, set_nx]; omega, fun j hj _ => by simp only [adv_h]; rw [st_other (by omega)], fresh_set fr _ (by omega)⟩
  obtain ⟨ids, h1, h2⟩ := hp _ (hE 8)
  have hc := c109 [[atS 3 nm], l] (by simp) (by simp [tot]; omega)
  rw [show [[atS 3 nm], l].flatten = atS 3 nm :: l by simp] at hc
  refine callPur (pur_two (sym := atS 3 nm) h1) hc ?_
  generalize hq : (if (ids.isEmpty || (lsA (atS 3 nm :: l)).flat) = true then _ else _) = q
  obtain ⟨q1, q2, q3⟩ : q.nx = s.nx + 9 ∧ q.h s.nx = some (.cells zeroB.cells 33 true true) ∧ EF M s q := by
    subst hq
    have hd := (hE 8).sub (M' := M) (fun i hi => by cases hi)
    split
    · exact ⟨rfl, by simp only [adv_h]; rw [st_same]; rfl, hd⟩
    · refine ⟨by rw [nx_drop]; rfl, ?_, hd.drop fun i hi => .inr (h2 i hi).1⟩
      rw [get_drop', if_neg (fun hi => by have := (h2 _ hi).2; omega)]
      simp only [adv_h]; rw [st_same]; rfl
  have b33 : bld 33 [(0, .bool true), (3, lsA (atS 3 nm :: l))] = some (lstS nm l).av := by
    rw [bf33]
    simp only [lstS, Sx.av, Sx.avs_eq, lsA]
    rfl
  simp only [b33, shiftP_ptr, shiftP_pel, Bnd_some, IfP_bool, Gd_some, ld_ptr, ld_pel, adv_h, adv_nx, set_nx, cond_true, cond_false, part_one, List.getElem?_cons_zero, List.getElem?_cons_succ, un_not, wantV_bool, pickV_bool, extr_tup, bin_lss, bin_leq, bin_gtr, bin_geq, bin_eql, bin_neq, bin_seql, bin_sneq, bin_add, bin_sub, Nat.reduceAdd, beq_self_eq_true, if_true, if_false, Bool.false_eq_true, Bool.not_true, Bool.not_false, show (false == true) = false from rfl, show (true == false) = false from rfl, Bnd_none, get_set, nx_drop, get_drop', adv_set, adv_two, adv_drop, set_set, Nat.add_assoc, Nat.add_left_cancel_iff, Nat.left_eq_add, Nat.add_eq_left, Nat.add_zero, Nat.reduceEqDiff, reduceCtorEq, and_true, true_and, List.mem_nil_iff, List.not_mem_nil, wantV_tup, resC_nil, resC_some, retP_some, map_some', tupV_one, tupV_two, idOf_ref, idOf_nils, idOf_ptr, idOf_sl, idOf_pel, drop_nil, drop_cons, bin_mul, Bool.or_true, Bool.or_false, Bool.and_true, Bool.and_false, Bool.true_and, Bool.false_and, Bool.true_or, Bool.false_or]
  rw [sto_all (z := 6) q2 rfl (sx_len _) (sx_ones _)]
  simp only [shiftP_ptr, shiftP_pel, Bnd_some, IfP_bool, Gd_some, ld_ptr, ld_pel, adv_h, adv_nx, set_nx, cond_true, cond_false, part_one, List.getElem?_cons_zero, List.getElem?_cons_succ, un_not, wantV_bool, pickV_bool, extr_tup, bin_lss, bin_leq, bin_gtr, bin_geq, bin_eql, bin_neq, bin_seql, bin_sneq, bin_add, bin_sub, Nat.reduceAdd, beq_self_eq_true, if_true, if_false, Bool.false_eq_true, Bool.not_true, Bool.not_false, show (false == true) = false from rfl, show (true == false) = false from rfl, Bnd_none, get_set, nx_drop, get_drop', adv_set, adv_two, adv_drop, set_set, Nat.add_assoc, Nat.add_left_cancel_iff, Nat.left_eq_add, Nat.add_eq_left, Nat.add_zero, Nat.reduceEqDiff, reduceCtorEq, and_true, true_and, List.mem_nil_iff, List.not_mem_nil, wantV_tup, resC_nil, resC_some, retP_some, map_some', tupV_one, tupV_two, idOf_ref, idOf_nils, idOf_ptr, idOf_sl, idOf_pel, drop_nil, drop_cons, bin_mul, Bool.or_true, Bool.or_false, Bool.and_true, Bool.and_false, Bool.true_and, Bool.false_and, Bool.true_or, Bool.false_or, ld_ptr, if_true, sx_part]
  exact hk _ (q3.set (by omega) (.inl (Nat.le_refl _)))
end Go.Proofs.YtdehdahimkcakaaGreatDoor
