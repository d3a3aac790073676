/- Literals: what code points are written as. -/
import Derived.Test.YtdehdahimkcakaaGreatDoorBd
import Derived.Test.YtdehdahimkcakaaGreatDoorLi
set_option linter.unusedVariables false
set_option linter.unusedSimpArgs false
set_option maxRecDepth 100000
set_option maxHeartbeats 4000000
namespace Go.Proofs.YtdehdahimkcakaaGreatDoor
open Go Ai

def asc (c : Int) : Bool := decide (c ≥ 32) && (decide (c ≤ 126) && (c != 92))
theorem asc_point {c : Int} (h : asc c = true) : point c = true := by
  simp only [asc, Bool.and_eq_true, decide_eq_true_eq] at h
  simp only [point, Bool.and_eq_true, decide_eq_true_eq]; omega
theorem zr163 : zr 163 = some (.agg [.nilp, .nils]) := by kernel_rfl
theorem cv35 (c : Int) (s : St) : cv 3 5 (.int .i64 c) s = some (.int .u8 (IntKind.u8.wrap c)) := by
  have h1 : und Tryz.ty 3 = some (.int .i64) := by kernel_rfl
  have h2 : und Tryz.ty 5 = some (.int .u8) := by kernel_rfl
  simp [cv, convA, h1, h2]
theorem ix_in (ex : Bool) (l : List Int) (i : Nat) (c : Int) (h : l[i]? = some c) : ixS 1 (.sl ex (l.map inA)) (.int .i64 (i : Int)) = some (.pel [.int .i64 c] 0) := by
  obtain ⟨hi, rfl⟩ := List.getElem?_eq_some_iff.1 h
  simp [ixS, asI, idx, hi, inA, AV.cells]
theorem len72s (ex : Bool) (l : List AV) (id : Nat) (s : St) : bt .len #[72] [.sl ex l] id s = some (.int .i64 l.length, s) := by kernel_rfl
def ascB (c : Int) : UInt8 := UInt8.ofNat c.toNat
theorem ascB_by {c : Int} (h : asc c = true) : AV.int .u8 (IntKind.u8.wrap c) = byA (ascB c) := by
  simp only [asc, Bool.and_eq_true, decide_eq_true_eq] at h
  rw [IntWalk.u8_in _ (by omega)]
  simp only [byA, ascB]
  congr 1
  simp
  omega
theorem l167 (ex : Bool) (l : List Int) (hl : l.length ≤ 1000) (ha : ∀ c ∈ l, asc c = true) (Q : AV → St → Prop) (lo id : Nat) (hQ : ∀ s, Q (.tup [.str (l.map ascB), .int .i64 0]) s) :
    ∀ (m i : Nat) (s : St), i + m = l.length → Fresh s → lo ≤ s.nx → Bd lo s id ((l.take i).map ascB) → f167l1 Q (m + 1) (.ptr id 0) (.sl ex (l.map inA)) (.int .i64 l.length) (.int .i64 i) s := by
  intro m
  induction m with
  | zero =>
    intro i s hi fr hlo hb
    show f167l1s Q (f167l1 Q 0) _ _ _ _ s
    rw [List.take_of_length_le (by omega)] at hb
    simp only [f167l1s, f167j1, Int.ofNat_lt, show ¬ (i < l.length) by omega, decide_false, shiftP_ptr, shiftP_pel, Bnd_some, IfP_bool, Gd_some, ld_ptr, ld_pel, adv_h, adv_nx, set_h, set_nx, beq_self', cond_true, cond_false, part_one, List.getElem?_cons_zero, List.getElem?_cons_succ, un_not, wantV_bool, pickV_bool, extr_tup, bin_lss, bin_leq, bin_gtr, bin_geq, bin_eql, bin_neq, bin_seql, bin_sneq, bin_add, bin_sub, Nat.zero_add, Nat.reduceAdd, beq_self_eq_true, if_true, if_false, Bool.false_eq_true, Bool.not_true, Bool.not_false, show (false == true) = false from rfl, show (true == false) = false from rfl]
    exact bstr hb.adv.adv fr.adv.adv (by rw [List.length_map]; omega) fun s' => hQ s'
  | succ m ihm =>
    intro i s hi fr hlo hb
    obtain ⟨c, hc⟩ : ∃ c, l[i]? = some c := ⟨_, List.getElem?_eq_getElem (by omega)⟩
    have hix := ix_in ex l i c hc
    have hlt : i < l.length := by omega
    have hac := ha c (List.mem_of_getElem? hc)
    have hpt := asc_point hac
    have hby := ascB_by hac
    have hac' := hac
    simp only [asc, Bool.and_eq_true] at hac'
    obtain ⟨a1, a2, a3⟩ := hac'
    show f167l1s Q (f167l1 Q (m + 1)) _ _ _ _ s
    simp only [f167l1s, Int.ofNat_lt, hlt, decide_true, hix, shiftP_ptr, shiftP_pel, Bnd_some, IfP_bool, Gd_some, ld_ptr, ld_pel, adv_h, adv_nx, set_h, set_nx, beq_self', cond_true, cond_false, part_one, List.getElem?_cons_zero, List.getElem?_cons_succ, un_not, wantV_bool, pickV_bool, extr_tup, bin_lss, bin_leq, bin_gtr, bin_geq, bin_eql, bin_neq, bin_seql, bin_sneq, bin_add, bin_sub, Nat.zero_add, Nat.reduceAdd, beq_self_eq_true, if_true, if_false, Bool.false_eq_true, Bool.not_true, Bool.not_false, show (false == true) = false from rfl, show (true == false) = false from rfl]
    refine callPu (c181 c) (by simp [AV.closed]) ?_
    simp only [hpt, a1, a2, a3, cv35, hby, shiftP_ptr, shiftP_pel, Bnd_some, IfP_bool, Gd_some, ld_ptr, ld_pel, adv_h, adv_nx, set_h, set_nx, beq_self', cond_true, cond_false, part_one, List.getElem?_cons_zero, List.getElem?_cons_succ, un_not, wantV_bool, pickV_bool, extr_tup, bin_lss, bin_leq, bin_gtr, bin_geq, bin_eql, bin_neq, bin_seql, bin_sneq, bin_add, bin_sub, Nat.zero_add, Nat.reduceAdd, beq_self_eq_true, if_true, if_false, Bool.false_eq_true, Bool.not_true, Bool.not_false, show (false == true) = false from rfl, show (true == false) = false from rfl]
    refine wb hb.adv.adv.adv (fr.adv.adv.adv) (by simp only [adv_nx]; omega) (by rw [List.length_map, List.length_take]; omega) fun s' hb' hk => ?_
    obtain ⟨k1, k2, k3⟩ := hk
    simp only [adv_nx] at k1
    unfold f167j2
    simp only [shiftP_ptr, shiftP_pel, Bnd_some, IfP_bool, Gd_some, ld_ptr, ld_pel, adv_h, adv_nx, set_h, set_nx, beq_self', cond_true, cond_false, part_one, List.getElem?_cons_zero, List.getElem?_cons_succ, un_not, wantV_bool, pickV_bool, extr_tup, bin_lss, bin_leq, bin_gtr, bin_geq, bin_eql, bin_neq, bin_seql, bin_sneq, bin_add, bin_sub, Nat.zero_add, Nat.reduceAdd, beq_self_eq_true, if_true, if_false, Bool.false_eq_true, Bool.not_true, Bool.not_false, show (false == true) = false from rfl, show (true == false) = false from rfl]
    rw [wrap_len i _ hlt (by have : maxLen = 9223372036854775807 := rfl; omega)]
    refine ihm (i + 1) _ (by omega) k2.adv (by simp only [adv_nx]; omega) ?_
    have e : (l.take (i + 1)).map ascB = (l.take i).map ascB ++ [ascB c] := by
      rw [List.take_add_one, hc]; simp
    rw [e]; exact hb'.adv
theorem c167 (ex : Bool) (l : List Int) (hl : l.length ≤ 1000) (ha : ∀ c ∈ l, asc c = true) : PureC Tryz.env 167 [.sl ex (l.map inA)] (.tup [.str (l.map ascB), .int .i64 0]) := by
  refine pure_closed rfl (f167_run _ _ ?_)
  unfold f167
  simp only [zr163, len72s, List.length_map, Bnd_some]
  refine ⟨l.length + 1, ?_⟩
  refine l167 ex l hl ha _ 3 2 (fun _ => rfl) l.length 0 _ (by omega) ((fresh_empty.adv.set (by decide)).adv) (by decide) ?_
  exact ⟨by decide, .nilp, .nils, .inl rfl, by rw [adv_h]; exact st_same, gw_nil, fun _ => rfl⟩
end Go.Proofs.YtdehdahimkcakaaGreatDoor
