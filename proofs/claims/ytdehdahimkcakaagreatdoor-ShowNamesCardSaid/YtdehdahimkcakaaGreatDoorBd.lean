/- A strings.Builder. -/
import Derived.Test.YtdehdahimkcakaaGreatDoorLBd
import Derived.Test.YtdehdahimkcakaaGreatDoorGrow
set_option linter.unusedVariables false
set_option linter.unusedSimpArgs false
set_option maxRecDepth 100000
set_option maxHeartbeats 4000000
namespace Go.Proofs.YtdehdahimkcakaaGreatDoor
open Go Ai

def byA (c : UInt8) : AV := .int .u8 c.toNat
theorem ty161 : SlTy 161 5 1 false 1 := ⟨by kernel_rfl, by kernel_rfl, by kernel_rfl, by kernel_rfl, by decide⟩
theorem eq160n : bn .eql 160 .nilp .nilp = some (.bool true) := by kernel_rfl
theorem eq160p (i : Nat) : bn .eql 160 (.ptr i 0) .nilp = some (.bool false) := by kernel_rfl
theorem ne160 (i : Nat) : bn .neq 160 (.ptr i 0) (.ptr i 0) = some (.bool false) := by
  have h1 : und Tryz.ty 160 = some (.pointer 163) := by kernel_rfl
  have h2 : lay Tryz.ty 163 = some (2, true) := by kernel_rfl
  simp [bn, bin, isShift, h1, eqRef, h2]
theorem cv1 {i : Nat} {s : St} {a x : AV} (hs : s.h i = some (.cells [a, x] 163 true true)) : cv 160 288 (.ptr i 0) s = some (.ptr i 0) := by
  have h1 : und Tryz.ty 160 = some (.pointer 163) := by kernel_rfl
  have h2 : und Tryz.ty 288 = some .unsafePointer := by kernel_rfl
  have h3 : lay Tryz.ty 163 = some (2, true) := by kernel_rfl
  simp [cv, convA, h1, h2, h3, hs]
theorem cv2 {i : Nat} {s : St} {a x : AV} (hs : s.h i = some (.cells [a, x] 163 true true)) : cv 288 160 (.ptr i 0) s = some (.ptr i 0) := by
  have h1 : und Tryz.ty 160 = some (.pointer 163) := by kernel_rfl
  have h2 : und Tryz.ty 288 = some .unsafePointer := by kernel_rfl
  have h3 : lay Tryz.ty 163 = some (2, true) := by kernel_rfl
  simp [cv, convA, h1, h2, h3, hs]
theorem same232 (i : Nat) (s : St) : WideC Tryz.env 232 [.ptr i 0] s (.ptr i 0) s := ⟨1, by kernel_rfl⟩
theorem sto_cell {id off : Nat} {v : AV} {c : List AV} {e : TypeId} {ex : Bool} {s : St} (h : s.h id = some (.cells c e ex true)) (ho : off < c.length) (hv : v.cells = [v]) (hone : v.one = true) : sto 1 (.ptr id off) v s = some (s.set id (some (.cells (c.set off v) e ex true))) := by
  show Ai.store 1 (.ptr id off) v s = _
  unfold Ai.store
  simp only [h]
  rw [if_pos ⟨by rw [hv]; rfl, by omega, by rw [hv]; simp [hone]⟩, hv]
  rfl
/-- A builder's bytes; its buffer lies above a number of blocks. -/
def Bd (lo : Nat) (s : St) (id : Nat) (bs : List UInt8) : Prop :=
  id < lo ∧ ∃ a x, (a = .nilp ∨ a = .ptr id 0) ∧ s.h id = some (.cells [a, x] 163 true true) ∧ Gw 5 1 lo s x (bs.map byA) ∧ (bs = [] → x = .nils)
theorem callWi0 {h : FuncId} {args : List AV} {s : St} {K : AV → St → Prop} (hz : Tryz.env.fz h = false) (hc : ∃ r s', WideC Tryz.env h args s r s' ∧ K r s') : CallWi Tryz.env h args s K := by
  obtain ⟨r, s', h1, h2⟩ := hc
  exact .mk r s' h1 (by rw [hz]; exact h2)
theorem fz202 : Tryz.env.fz 202 = false := by kernel_rfl
theorem fz232 : Tryz.env.fz 232 = false := by kernel_rfl
theorem fz157 : Tryz.env.fz 157 = false := by kernel_rfl
theorem fz156 : Tryz.env.fz 156 = false := by kernel_rfl
theorem fz108 : Tryz.env.fz 108 = false := by kernel_rfl
theorem Bd.adv {lo id n : Nat} {s : St} {bs : List UInt8} (h : Bd lo s id bs) : Bd lo (adv s n) id bs := by
  obtain ⟨h1, a, x, h2, h3, h4, h5⟩ := h
  exact ⟨h1, a, x, h2, h3, h4.adv, h5⟩
theorem app_str (x : AV) (bs : List UInt8) (id : Nat) (s : St) : bt .append #[161, 9] [x, .str bs] id s = appendA 5 1 1 x (bs.map byA) id s := by
  have h1 : und (bX Tryz.env).P 161 = some (.slice 5) := by kernel_rfl
  have h2 : lay (bX Tryz.env).P 5 = some (1, false) := by kernel_rfl
  have h3 : bytesOf (bX Tryz.env).P 5 = some 1 := by kernel_rfl
  have h5 : und (bX Tryz.env).P 9 = some .string := by kernel_rfl
  have h4 : (zero (bX Tryz.env).P 5).map (fun v => v.cells.length) = some 1 := by kernel_rfl
  cases hz : zero (bX Tryz.env).P 5 with
  | none => rw [hz] at h4; cases h4
  | some zv =>
    rw [hz] at h4
    simp only [Option.map_some, Option.some.injEq] at h4
    simp [builtinA, h1, h2, h3, h5, hz, h4, srcCells]
    rfl
theorem gw_str {lo id : Nat} {s : St} {x : AV} {vs : List AV} (g : Gw 5 1 lo s x vs) (fr : Fresh s) (bs : List UInt8) (hf : vs.length + bs.length ≤ 2 ^ 40) (hid : lo ≤ id) (hid2 : id < s.nx) :
    ∃ x' s', bt .append #[161, 9] [x, .str bs] id s = some (x', s') ∧ Gw 5 1 lo s' x' (vs ++ bs.map byA) ∧ Fresh s' ∧ s'.nx = s.nx ∧ (∀ j, j < lo → s'.h j = s.h j) ∧ x'.cells = [x'] ∧ x'.one = true ∧ (bs = [] → x' = x) := by
  rw [app_str]
  have hvb : ∀ v ∈ bs.map byA, v.cells.length = 1 ∧ v.cells.all AV.one = true := fun v hv => by
    obtain ⟨c, _, rfl⟩ := List.mem_map.1 hv; exact ⟨rfl, rfl⟩
  have hflat : (bs.map byA).flatMap AV.cells = bs.map byA := flat_one fun v hv => by obtain ⟨c, _, rfl⟩ := List.mem_map.1 hv; rfl
  have hones : (bs.map byA).all AV.one = true := List.all_eq_true.2 fun v hv => by obtain ⟨c, _, rfl⟩ := List.mem_map.1 hv; rfl
  cases bs with
  | nil =>
    obtain ⟨h1, ⟨rfl, rfl⟩ | ⟨i, hi, rfl, hs⟩⟩ := g
    · exact ⟨.nils, s, rfl, ⟨by simp, .inl ⟨rfl, rfl⟩⟩, fr, rfl, fun _ _ => rfl, rfl, rfl, fun _ => rfl⟩
    · exact ⟨_, s, rfl, ⟨by simpa using h1, .inr ⟨i, hi, by simp, by simpa using hs⟩⟩, fr, rfl, fun _ _ => rfl, rfl, rfl, fun _ => rfl⟩
  | cons c bs =>
    have hem : ((c :: bs).map byA).isEmpty = false := rfl
    have hfit : ∀ n, n ≤ 2 ^ 40 → fitsA n 1 = true := fun n hn => by
      have h1 : n * 1 ≤ Ai.most := by unfold Ai.most; omega
      have h2 : n ≤ Ai.most := by unfold Ai.most; omega
      simp only [fitsA, Nat.ble_eq_true_of_le h1, Nat.ble_eq_true_of_le h2, Bool.and_self]
    obtain ⟨h1, ⟨rfl, rfl⟩ | ⟨i, hi, rfl, hs⟩⟩ := g
    · refine ⟨.ref id 0 ((c :: bs).map byA).length none 5, s.set id (some (.cells ((c :: bs).map byA) 5 false true)), ?_, ⟨by simpa using hvb, .inr ⟨id, hid, by simp, ?_⟩⟩, fr.set hid2, rfl, ?_, rfl, rfl, fun h => by cases h⟩
      · unfold appendA
        simp only [hem, hones, Bool.not_true, Bool.false_eq_true, if_false]
        simp only [grown, Nat.div_one]
        rw [hfit _ (by simpa using hf), if_pos rfl]
        simp only [newSl, Nat.div_one]
      · rw [st_same, List.nil_append, hflat]
      · intro j hj; exact st_other (by omega)
    · have hfl := flat_len h1
      have hilt : i < s.nx := by
        by_cases hc : i < s.nx
        · exact hc
        · rw [fr i (by omega)] at hs; cases hs
      have hlen : (vs.flatMap AV.cells ++ (c :: bs).map byA).length / 1 = vs.length + ((c :: bs).map byA).length := by
        rw [List.length_append, hfl, Nat.mul_one, Nat.div_one]
      refine ⟨.ref id 0 (vs.length + ((c :: bs).map byA).length) none 5, (s.set i none).set id (some (.cells (vs.flatMap AV.cells ++ (c :: bs).map byA) 5 false true)), ?_, ⟨?_, .inr ⟨id, hid, by simp, ?_⟩⟩, (fr.set hilt).set hid2, rfl, ?_, rfl, rfl, fun h => by cases h⟩
      · unfold appendA
        simp only [hem, hones, Bool.not_true, Bool.false_eq_true, if_false, hs, Nat.zero_add, hfl, Nat.le_refl, and_self, if_true]
        rw [if_neg (by simp)]
        simp only [grown, hlen]
        rw [hfit _ (by simpa using hf), if_pos rfl]
        simp only [newSl, hlen]
      · intro w hw
        rcases List.mem_append.1 hw with hw | hw
        · exact h1 w hw
        · exact hvb w hw
      · rw [st_same, List.flatMap_append, hflat]
      · intro j hj
        rw [st_other (by omega), st_other (by omega)]
section
variable {lo id : Nat} {s : St} {bs : List UInt8} {K : AV → St → Prop}
/-- What a call leaves as it is. -/
def Kept (lo id : Nat) (s s' : St) : Prop := s.nx ≤ s'.nx ∧ Fresh s' ∧ ∀ j, j < lo → j ≠ id → s'.h j = s.h j
theorem bd_check (h : Bd lo s id bs) (fr : Fresh s) (hl : lo ≤ s.nx) (hk : ∀ s', Bd lo s' id bs → Kept lo id s s' → K (.tup []) s') : CallWi Tryz.env 202 [.ptr id 0] s K := by
  obtain ⟨h1, a, x, h2, h3, h4, hx⟩ := h
  refine callWi0 fz202 (f202_run _ _ ?_)
  refine ⟨rfl, ?_⟩
  rcases h2 with rfl | rfl
  · simp only [h3, eq160n, shiftP_ptr, shiftP_pel, Bnd_some, IfP_bool, Gd_some, ld_ptr, ld_pel, adv_h, adv_nx, set_h, set_nx, beq_self', cond_true, cond_false, part_one, List.getElem?_cons_zero, List.getElem?_cons_succ, un_not, wantV_bool, pickV_bool, extr_tup, bin_lss, bin_leq, bin_gtr, bin_geq, bin_eql, bin_neq, bin_seql, bin_sneq, bin_add, bin_sub, Nat.zero_add, Nat.reduceAdd, beq_self_eq_true, if_true, if_false, Bool.false_eq_true, Bool.not_true, Bool.not_false, show (false == true) = false from rfl, show (true == false) = false from rfl]
    rw [cv1 (a := .nilp) (x := x) (by simp only [adv_h]; exact h3)]
    simp only [Bnd_some]
    refine callWi0 fz232 ⟨_, _, same232 id _, ?_⟩
    rw [cv2 (a := .nilp) (x := x) (by simp only [adv_h]; exact h3)]
    simp only [shiftP_ptr, shiftP_pel, Bnd_some, IfP_bool, Gd_some, ld_ptr, ld_pel, adv_h, adv_nx, set_h, set_nx, beq_self', cond_true, cond_false, part_one, List.getElem?_cons_zero, List.getElem?_cons_succ, un_not, wantV_bool, pickV_bool, extr_tup, bin_lss, bin_leq, bin_gtr, bin_geq, bin_eql, bin_neq, bin_seql, bin_sneq, bin_add, bin_sub, Nat.zero_add, Nat.reduceAdd, beq_self_eq_true, if_true, if_false, Bool.false_eq_true, Bool.not_true, Bool.not_false, show (false == true) = false from rfl, show (true == false) = false from rfl]
    refine ⟨rfl, ?_⟩
    rw [sto_cell (c := [.nilp, x]) (by simp only [adv_h]; exact h3) (by simp) rfl rfl]
    simp only [Bnd_some]
    refine hk _ ⟨h1, .ptr id 0, x, .inr rfl, by rw [st_same]; rfl, ?_, hx⟩ ⟨by simp only [set_nx, adv_nx]; omega, fr.adv.set (by show id < s.nx + 13; omega), fun j hj hn => by rw [st_other hn]; rfl⟩
    exact h4.mono fun j hj _ => by rw [st_other (by omega)]; rfl
  · simp only [h3, eq160p, shiftP_ptr, shiftP_pel, Bnd_some, IfP_bool, Gd_some, ld_ptr, ld_pel, adv_h, adv_nx, set_h, set_nx, beq_self', cond_true, cond_false, part_one, List.getElem?_cons_zero, List.getElem?_cons_succ, un_not, wantV_bool, pickV_bool, extr_tup, bin_lss, bin_leq, bin_gtr, bin_geq, bin_eql, bin_neq, bin_seql, bin_sneq, bin_add, bin_sub, Nat.zero_add, Nat.reduceAdd, beq_self_eq_true, if_true, if_false, Bool.false_eq_true, Bool.not_true, Bool.not_false, show (false == true) = false from rfl, show (true == false) = false from rfl]
    refine ⟨rfl, ?_⟩
    simp only [h3, ne160, shiftP_ptr, shiftP_pel, Bnd_some, IfP_bool, Gd_some, ld_ptr, ld_pel, adv_h, adv_nx, set_h, set_nx, beq_self', cond_true, cond_false, part_one, List.getElem?_cons_zero, List.getElem?_cons_succ, un_not, wantV_bool, pickV_bool, extr_tup, bin_lss, bin_leq, bin_gtr, bin_geq, bin_eql, bin_neq, bin_seql, bin_sneq, bin_add, bin_sub, Nat.zero_add, Nat.reduceAdd, beq_self_eq_true, if_true, if_false, Bool.false_eq_true, Bool.not_true, Bool.not_false, show (false == true) = false from rfl, show (true == false) = false from rfl]
    exact hk _ ⟨h1, .ptr id 0, x, .inr rfl, h3, h4.adv, hx⟩ ⟨by simp only [adv_nx]; omega, fr.adv, fun j _ _ => rfl⟩
theorem wb {c : UInt8} (h : Bd lo s id bs) (fr : Fresh s) (hl : lo ≤ s.nx) (hlen : bs.length < 2 ^ 40) (hk : ∀ s', Bd lo s' id (bs ++ [c]) → Kept lo id s s' → K .nili s') : CallWi Tryz.env 157 [.ptr id 0, byA c] s K := by
  refine callWi0 fz157 (f157_run _ _ _ ?_)
  unfold f157
  refine bd_check h.adv fr.adv (by show lo ≤ s.nx + 3; omega) fun s1 b1 k1 => ?_
  obtain ⟨h1, a, x, h2, h3, h4, hx⟩ := b1
  obtain ⟨e1, f1, e2⟩ := k1
  have e1 : s.nx + 3 ≤ s1.nx := e1
  have hbs : bsl 161 1 [(0, byA c)] = some (.sl true [byA c]) := bsl_one ty161 (by decide) rfl rfl
  have hfit : fitsA ((bs.map byA).length + 1) 1 = true := by
    rw [List.length_map]
    have h1 : (bs.length + 1) * 1 ≤ Ai.most := by unfold Ai.most; omega
    have h2 : bs.length + 1 ≤ Ai.most := by unfold Ai.most; omega
    simp only [fitsA, Nat.ble_eq_true_of_le h1, Nat.ble_eq_true_of_le h2, Bool.and_self]
  obtain ⟨x', s', a1, a2, a3, a4, a5, a6, a7⟩ := gw_step (id := s1.nx + 7) (v := byA c) ty161 (h4.adv (n := 11)) f1.adv rfl rfl hfit (by omega) (by show s1.nx + 7 < s1.nx + 11; omega) true
  have a4 : s'.nx = s1.nx + 11 := a4
  have h3' : s'.h id = some (.cells [a, x] 163 true true) := by rw [a5 id h1]; exact h3
  refine ⟨rfl, ?_⟩
  simp only [h3, hbs, a1, shiftP_ptr, shiftP_pel, Bnd_some, IfP_bool, Gd_some, ld_ptr, ld_pel, adv_h, adv_nx, set_h, set_nx, beq_self', cond_true, cond_false, part_one, List.getElem?_cons_zero, List.getElem?_cons_succ, un_not, wantV_bool, pickV_bool, extr_tup, bin_lss, bin_leq, bin_gtr, bin_geq, bin_eql, bin_neq, bin_seql, bin_sneq, bin_add, bin_sub, Nat.zero_add, Nat.reduceAdd, beq_self_eq_true, if_true, if_false, Bool.false_eq_true, Bool.not_true, Bool.not_false, show (false == true) = false from rfl, show (true == false) = false from rfl]
  refine ⟨rfl, ?_⟩
  have hone : x'.cells = [x'] ∧ x'.one = true := by rw [a7]; exact ⟨rfl, rfl⟩
  rw [sto_cell (c := [a, x]) h3' (by simp) hone.1 hone.2]
  simp only [Bnd_some]
  refine hk _ ⟨h1, a, x', h2, by rw [adv_h, st_same]; rfl, ?_, fun h => by simp at h⟩ ⟨by simp only [set_nx, adv_nx]; omega, (a3.set (by omega)).adv, fun j hj hn => ?_⟩
  · rw [List.map_append]
    exact (a2.mono fun j hj _ => by rw [adv_h, st_other (by omega)])
  · rw [adv_h, st_other hn, a5 j hj]; exact e2 j hj hn
theorem len9 (x : List UInt8) (id : Nat) (s : St) : bt .len #[9] [.str x] id s = some (.int .i64 x.length, s) := by kernel_rfl
theorem ws {t : List UInt8} (h : Bd lo s id bs) (fr : Fresh s) (hl : lo ≤ s.nx) (hlen : bs.length + t.length ≤ 2 ^ 40) (hk : ∀ s', Bd lo s' id (bs ++ t) → Kept lo id s s' → K (.tup [.int .i64 t.length, .nili]) s') : CallWi Tryz.env 156 [.ptr id 0, .str t] s K := by
  refine callWi0 fz156 (f156_run _ _ _ ?_)
  unfold f156
  refine bd_check h.adv fr.adv (by show lo ≤ s.nx + 4; omega) fun s1 b1 k1 => ?_
  obtain ⟨h1, a, x, h2, h3, h4, hx⟩ := b1
  obtain ⟨e1, f1, e2⟩ := k1
  have e1 : s.nx + 4 ≤ s1.nx := e1
  obtain ⟨x', s', a1, a2, a3, a4, a5, a6, a7, a8⟩ := gw_str (id := s1.nx + 6) (h4.adv (n := 10)) f1.adv t (by rw [List.length_map]; omega) (by omega) (by show s1.nx + 6 < s1.nx + 10; omega)
  have a4 : s'.nx = s1.nx + 10 := a4
  have h3' : s'.h id = some (.cells [a, x] 163 true true) := by rw [a5 id h1]; exact h3
  refine ⟨rfl, ?_⟩
  simp only [h3, a1, shiftP_ptr, shiftP_pel, Bnd_some, IfP_bool, Gd_some, ld_ptr, ld_pel, adv_h, adv_nx, set_h, set_nx, beq_self', cond_true, cond_false, part_one, List.getElem?_cons_zero, List.getElem?_cons_succ, un_not, wantV_bool, pickV_bool, extr_tup, bin_lss, bin_leq, bin_gtr, bin_geq, bin_eql, bin_neq, bin_seql, bin_sneq, bin_add, bin_sub, Nat.zero_add, Nat.reduceAdd, beq_self_eq_true, if_true, if_false, Bool.false_eq_true, Bool.not_true, Bool.not_false, show (false == true) = false from rfl, show (true == false) = false from rfl]
  refine ⟨rfl, ?_⟩
  rw [sto_cell (c := [a, x]) h3' (by simp) a6 a7]
  simp only [Bnd_some, len9]
  refine hk _ ⟨h1, a, x', h2, by rw [adv_h, st_same]; rfl, ?_, fun h => ?_⟩ ⟨by simp only [set_nx, adv_nx]; omega, (a3.set (by omega)).adv, fun j hj hn => ?_⟩
  · rw [List.map_append]
    exact (a2.mono fun j hj _ => by rw [adv_h, st_other (by omega)])
  · obtain ⟨hb, ht⟩ := List.append_eq_nil_iff.1 h
    rw [a8 ht]; exact hx hb
  · rw [adv_h, st_other hn, a5 j hj]; exact e2 j hj hn
theorem u8s (bs : List UInt8) : asU8s (bs.map byA) = some (bs.map fun c => (c.toNat : Int)) := by
  induction bs with
  | nil => rfl
  | cons c l ih =>
    simp only [List.map_cons, asU8s, ih]
    rfl
theorem u8back (bs : List UInt8) : (bs.map fun c => (c.toNat : Int)).map (fun n => UInt8.ofNat n.toNat) = bs := by
  induction bs with
  | nil => rfl
  | cons c l ih => simp only [List.map_cons, ih, Int.toNat_natCast, UInt8.ofNat_toNat]
theorem bstr (h : Bd lo s id bs) (fr : Fresh s) (hlen : bs.length ≤ 2 ^ 40) (hk : ∀ s', K (.str bs) s') : CallWi Tryz.env 108 [.ptr id 0] s K := by
  obtain ⟨h1, a, x, h2, h3, h4, hx⟩ := h
  refine callWi0 fz108 (f108_run _ _ ?_)
  refine ⟨rfl, ?_⟩
  obtain ⟨g1, ⟨rfl, hb⟩ | ⟨i, hi, rfl, hs⟩⟩ := h4
  · have hb : bs = [] := by simpa using hb
    subst hb
    have e1 : ∀ k s, bt .unsafeSliceData #[161] [.nils] k s = some (.nilp, s) := fun k s => rfl
    have e2 : ∀ k s, bt .len #[161] [.nils] k s = some (.int .i64 0, s) := fun k s => by kernel_rfl
    have e3 : ∀ k s, bt .unsafeString #[220, 3] [.nilp, .int .i64 0] k s = some (.str [], s) := fun k s => by kernel_rfl
    simp only [h3, e1, shiftP_ptr, shiftP_pel, Bnd_some, IfP_bool, Gd_some, ld_ptr, ld_pel, adv_h, adv_nx, set_h, set_nx, beq_self', cond_true, cond_false, part_one, List.getElem?_cons_zero, List.getElem?_cons_succ, un_not, wantV_bool, pickV_bool, extr_tup, bin_lss, bin_leq, bin_gtr, bin_geq, bin_eql, bin_neq, bin_seql, bin_sneq, bin_add, bin_sub, Nat.zero_add, Nat.reduceAdd, beq_self_eq_true, if_true, if_false, Bool.false_eq_true, Bool.not_true, Bool.not_false, show (false == true) = false from rfl, show (true == false) = false from rfl]
    refine ⟨rfl, ?_⟩
    simp only [h3, e2, shiftP_ptr, shiftP_pel, Bnd_some, IfP_bool, Gd_some, ld_ptr, ld_pel, adv_h, adv_nx, set_h, set_nx, beq_self', cond_true, cond_false, part_one, List.getElem?_cons_zero, List.getElem?_cons_succ, un_not, wantV_bool, pickV_bool, extr_tup, bin_lss, bin_leq, bin_gtr, bin_geq, bin_eql, bin_neq, bin_seql, bin_sneq, bin_add, bin_sub, Nat.zero_add, Nat.reduceAdd, beq_self_eq_true, if_true, if_false, Bool.false_eq_true, Bool.not_true, Bool.not_false, show (false == true) = false from rfl, show (true == false) = false from rfl]
    refine ⟨fr _ (by omega), ?_⟩
    simp only [e3, shiftP_ptr, shiftP_pel, Bnd_some, IfP_bool, Gd_some, ld_ptr, ld_pel, adv_h, adv_nx, set_h, set_nx, beq_self', cond_true, cond_false, part_one, List.getElem?_cons_zero, List.getElem?_cons_succ, un_not, wantV_bool, pickV_bool, extr_tup, bin_lss, bin_leq, bin_gtr, bin_geq, bin_eql, bin_neq, bin_seql, bin_sneq, bin_add, bin_sub, Nat.zero_add, Nat.reduceAdd, beq_self_eq_true, if_true, if_false, Bool.false_eq_true, Bool.not_true, Bool.not_false, show (false == true) = false from rfl, show (true == false) = false from rfl]
    exact hk _
  · have hflat : (bs.map byA).flatMap AV.cells = bs.map byA := flat_one fun v hv => by obtain ⟨c, _, rfl⟩ := List.mem_map.1 hv; rfl
    rw [hflat] at hs
    rw [List.length_map] at h3
    rw [List.length_map] at hx
    have hpos : 0 < bs.length := by
      cases bs with
      | nil => have := hx rfl; cases this
      | cons c l => simp
    have hlt : i ≠ id := by omega
    have e1 : ∀ k (q : St), q.h i = some (.cells (bs.map byA) 5 false true) → bt .unsafeSliceData #[161] [.ref i 0 bs.length none 5] k q = some (.ptr i 0, q) := fun k q hq => by
      simp [builtinA, hq, hpos]
    have e2 : ∀ k (q : St), bt .len #[161] [.ref i 0 bs.length none 5] k q = some (.int .i64 (bs.length : Nat), q) := fun k q => by kernel_rfl
    have e3 : ∀ k (q : St), q.h i = some (.cells (bs.map byA) 5 false true) → ∃ q', bt .unsafeString #[220, 3] [.ptr i 0, .int .i64 (bs.length : Nat)] k q = some (.str bs, q') := fun k q hq => by
      have h1 : und (bX Tryz.env).P 220 = some (.pointer 5) := by kernel_rfl
      have h2 : lay (bX Tryz.env).P 5 = some (1, false) := by kernel_rfl
      have hm : (bs.length : Int) ≤ (most : Int) := by unfold most; omega
      have hr : ((bs.map fun c => (c.toNat : Int)).all fun n => decide (0 ≤ n) && decide (n < 256)) = true := List.all_eq_true.2 fun n hn => by
        obtain ⟨c, _, rfl⟩ := List.mem_map.1 hn
        have := c.toNat_lt
        simp; omega
      have htk : (bs.map byA).take bs.length = bs.map byA := List.take_of_length_le (by simp)
      refine ⟨q.set i (some (.cells (bs.map byA) 5 false false)), ?_⟩
      simp only [bt, builtinA, h1, hq, h2, Int.toNat_natCast, List.length_map, Nat.le_refl, hm, htk, u8s, Option.bind_some, hr, if_true, u8back, and_self, true_and, and_true]
      rw [if_pos (by omega)]
    simp only [h3, shiftP_ptr, shiftP_pel, Bnd_some, IfP_bool, Gd_some, ld_ptr, ld_pel, adv_h, adv_nx, set_h, set_nx, beq_self', cond_true, cond_false, part_one, List.getElem?_cons_zero, List.getElem?_cons_succ, un_not, wantV_bool, pickV_bool, extr_tup, bin_lss, bin_leq, bin_gtr, bin_geq, bin_eql, bin_neq, bin_seql, bin_sneq, bin_add, bin_sub, Nat.zero_add, Nat.reduceAdd, beq_self_eq_true, if_true, if_false, Bool.false_eq_true, Bool.not_true, Bool.not_false, show (false == true) = false from rfl, show (true == false) = false from rfl]
    rw [e1 _ _ (by rw [adv_h]; exact hs)]
    simp only [shiftP_ptr, shiftP_pel, Bnd_some, IfP_bool, Gd_some, ld_ptr, ld_pel, adv_h, adv_nx, set_h, set_nx, beq_self', cond_true, cond_false, part_one, List.getElem?_cons_zero, List.getElem?_cons_succ, un_not, wantV_bool, pickV_bool, extr_tup, bin_lss, bin_leq, bin_gtr, bin_geq, bin_eql, bin_neq, bin_seql, bin_sneq, bin_add, bin_sub, Nat.zero_add, Nat.reduceAdd, beq_self_eq_true, if_true, if_false, Bool.false_eq_true, Bool.not_true, Bool.not_false, show (false == true) = false from rfl, show (true == false) = false from rfl]
    refine ⟨rfl, ?_⟩
    simp only [h3, e2, shiftP_ptr, shiftP_pel, Bnd_some, IfP_bool, Gd_some, ld_ptr, ld_pel, adv_h, adv_nx, set_h, set_nx, beq_self', cond_true, cond_false, part_one, List.getElem?_cons_zero, List.getElem?_cons_succ, un_not, wantV_bool, pickV_bool, extr_tup, bin_lss, bin_leq, bin_gtr, bin_geq, bin_eql, bin_neq, bin_seql, bin_sneq, bin_add, bin_sub, Nat.zero_add, Nat.reduceAdd, beq_self_eq_true, if_true, if_false, Bool.false_eq_true, Bool.not_true, Bool.not_false, show (false == true) = false from rfl, show (true == false) = false from rfl]
    refine ⟨fr _ (by omega), ?_⟩
    obtain ⟨q', hq'⟩ := e3 (s.nx + 11) (Ai.adv s 13) hs
    rw [hq']
    simp only [shiftP_ptr, shiftP_pel, Bnd_some, IfP_bool, Gd_some, ld_ptr, ld_pel, adv_h, adv_nx, set_h, set_nx, beq_self', cond_true, cond_false, part_one, List.getElem?_cons_zero, List.getElem?_cons_succ, un_not, wantV_bool, pickV_bool, extr_tup, bin_lss, bin_leq, bin_gtr, bin_geq, bin_eql, bin_neq, bin_seql, bin_sneq, bin_add, bin_sub, Nat.zero_add, Nat.reduceAdd, beq_self_eq_true, if_true, if_false, Bool.false_eq_true, Bool.not_true, Bool.not_false, show (false == true) = false from rfl, show (true == false) = false from rfl]
    exact hk _
end
end Go.Proofs.YtdehdahimkcakaaGreatDoor
