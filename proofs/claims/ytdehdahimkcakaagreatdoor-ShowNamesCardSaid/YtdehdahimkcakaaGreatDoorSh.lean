/- What show tells: atoms and short texts. -/
import Derived.Test.YtdehdahimkcakaaGreatDoorLSh
import Derived.Test.YtdehdahimkcakaaGreatDoorEs
import Derived.Test.YtdehdahimkcakaaGreatDoorDc
set_option linter.unusedVariables false
set_option linter.unusedSimpArgs false
set_option maxRecDepth 100000
set_option maxHeartbeats 4000000
namespace Go.Proofs.YtdehdahimkcakaaGreatDoor
open Go Ai

def zeroSx0 : Sx := .mk false 0 [] 0 0 []
def atA (k : Int) (x : List UInt8) : AV := .agg [.bool false, .int .i64 k, .str x, .int .i64 0, .int .i64 0, .nils]
def atS (k : Int) (x : List UInt8) : Sx := .mk false k x 0 0 []
def zeroB : AV := .agg [.bool false, .int .i64 0, .str [], .int .i64 0, .int .i64 0, .nils]
theorem zr33 : zr 33 = some zeroB := by kernel_rfl
theorem bld30 (k : Int) (x : List UInt8) : bld 30 [(0, .int .i64 k), (1, .str x)] = some (.agg [.int .i64 k, .str x, .int .i64 0]) := by kernel_rfl
theorem bld33a (k : Int) (x : List UInt8) : bld 33 [(1, .agg [.int .i64 k, .str x, .int .i64 0])] = some (atA k x) := by kernel_rfl
theorem at_pur (k : Int) (x : List UInt8) (n : Nat) (s : St) : pur Tryz.env.P s (n + 2) (atA k x) = some ((atS k x).av, []) := rfl
theorem ld_back {id : Nat} {s : St} (k : Int) (x : List UInt8) : ld 6 true (.ptr id 0) (s.set id (some (.cells (atA k x).cells 33 true true))) = some (atA k x) := by
  rw [ld_ptr, st_same]; rfl
theorem sto_at {id : Nat} {s : St} {v : AV} (h : s.h id = some (.cells zeroB.cells 33 true true)) (k : Int) (x : List UInt8) (hv : v = atA k x ∨ v = (atS k x).av) : sto 6 (.ptr id 0) v s = some (s.set id (some (.cells v.cells 33 true true))) := by
  rcases hv with rfl | rfl <;> exact sto_all h rfl rfl rfl
theorem c58 (k : Int) (x : List UInt8) : PureC Tryz.env 58 [.int .i64 k, .str x] (atS k x).av := by
  refine pure_of (f58_run _ _ _ (Q := fun r s' => ∃ ids, pur Tryz.env.P s' 12 r = some ((atS k x).av, ids)) ?_)
  unfold f58
  simp only [zr33, bld30, bld33a, Bnd_some]
  rw [sto_at (by rw [adv_h, st_same]) k x (.inl rfl)]
  simp only [Bnd_some, ld_back]
  exact ⟨[], at_pur k x 10 _⟩
theorem c56 (x : List UInt8) : PureC Tryz.env 56 [.str x] (atS 3 x).av := by
  refine pure_closed rfl (f56_run _ _ ?_)
  unfold f56
  simp only [zr33, Bnd_some]
  refine callPu (c58 3 x) (by simp [AV.closed]) ?_
  rw [sto_at (by rw [adv_h, st_same]) 3 x (.inr rfl)]
  simp only [Bnd_some]
  rw [ld_ptr, st_same]
  rfl
theorem bld33z : bld 33 [] = some zeroB := by kernel_rfl
theorem zero_pur (n : Nat) (s : St) : pur Tryz.env.P s (n + 2) zeroB = some (zeroSx0.av, []) := rfl
theorem listGo_len {mo : Int} : ∀ (s : List (Int × Int)) (out r : List Int), (out.length : Int) ≤ mo → mo ≤ 1000 → listGo mo s out = some r → (r.length : Int) ≤ mo := by
  intro s
  induction s with
  | nil =>
    intro out r ho hm h
    simp only [listGo] at h
    cases hd : decide (mo < 0) with
    | true => rw [hd] at h; cases h
    | false => rw [hd] at h; cases h; exact ho
  | cons a s ih =>
    intro out r ho hm h
    simp only [listGo] at h
    cases hd : decide (a.2 > IntKind.i64.wrap (mo - out.length)) with
    | true => rw [hd] at h; cases h
    | false =>
      rw [hd] at h
      have hw : IntKind.i64.wrap (mo - out.length) = mo - out.length := IntWalk.i64_in _ (by omega)
      have hle := of_decide_eq_false hd
      rw [hw] at hle
      refine ih _ r ?_ hm h
      simp only [List.length_append, List.length_replicate]
      omega
theorem bn34n (a b : Int) : bn .neq 34 (.int .i64 a) (.int .i64 b) = some (.bool (a != b)) := bin_neq
/-- A short text of plain letters. -/
theorem c115 (ex : Bool) (l : List (Int × Int)) (hcl : (AV.sl ex (l.map rnA)).closed = true) (hlen : l.length ≤ maxLen) (out : List Int) (hm : listM l 1000 = (out, 0)) (hl : out.length ≤ 1000) (ha : ∀ c ∈ out, asc c = true) :
    PureC Tryz.env 115 [.sl ex (l.map rnA)] (.tup [(atS 6 (out.map ascB)).av, .int .i64 0]) := by
  refine pure_closed rfl (f115_run _ _ ?_)
  unfold f115
  simp only [zr33, Bnd_some]
  have h1 := c166 ex l hlen 1000 (by omega) (by omega)
  rw [hm] at h1
  have hcl2 : (AV.sl false (out.map inA)).closed = true := by
    simp only [AV.closed, Bool.not_false, Bool.true_and]
    exact closedL_map _ _ fun _ => rfl
  refine callPu h1 (by simp only [List.mem_cons, List.mem_nil_iff, or_false, forall_eq_or_imp, forall_eq]; exact ⟨hcl, rfl⟩) ?_
  simp only [tupS, bn34n, shiftP_ptr, shiftP_pel, Bnd_some, IfP_bool, Gd_some, ld_ptr, ld_pel, adv_h, adv_nx, set_h, set_nx, beq_self', cond_true, cond_false, part_one, List.getElem?_cons_zero, List.getElem?_cons_succ, un_not, wantV_bool, pickV_bool, extr_tup, bin_lss, bin_leq, bin_gtr, bin_geq, bin_eql, bin_neq, bin_seql, bin_sneq, bin_add, bin_sub, Nat.zero_add, Nat.reduceAdd, beq_self_eq_true, if_true, if_false, Bool.false_eq_true, Bool.not_true, Bool.not_false, show (false == true) = false from rfl, show (true == false) = false from rfl, show ((0 : Int) != 0) = false from rfl]
  refine callPu (c167 false out hl ha) (by simp only [List.mem_cons, List.mem_nil_iff, or_false, forall_eq]; exact hcl2) ?_
  simp only [shiftP_ptr, shiftP_pel, Bnd_some, IfP_bool, Gd_some, ld_ptr, ld_pel, adv_h, adv_nx, set_h, set_nx, beq_self', cond_true, cond_false, part_one, List.getElem?_cons_zero, List.getElem?_cons_succ, un_not, wantV_bool, pickV_bool, extr_tup, bin_lss, bin_leq, bin_gtr, bin_geq, bin_eql, bin_neq, bin_seql, bin_sneq, bin_add, bin_sub, Nat.zero_add, Nat.reduceAdd, beq_self_eq_true, if_true, if_false, Bool.false_eq_true, Bool.not_true, Bool.not_false, show (false == true) = false from rfl, show (true == false) = false from rfl]
  refine callPu (c58 6 (out.map ascB)) (by simp [AV.closed]) ?_
  rw [sto_at (by simp only [adv_h, st_same]) 6 (out.map ascB) (.inr rfl)]
  simp only [Bnd_some]
  rw [st_same]
  rfl
end Go.Proofs.YtdehdahimkcakaaGreatDoor
