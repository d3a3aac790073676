/- Literals: a text's code points. -/
import Derived.Test.YtdehdahimkcakaaGreatDoorLLi
import Derived.Test.YtdehdahimkcakaaGreatDoorGrow
import Derived.Test.YtdehdahimkcakaaGreatDoorSx
set_option linter.unusedVariables false
set_option linter.unusedSimpArgs false
set_option maxRecDepth 100000
set_option maxHeartbeats 4000000
namespace Go.Proofs.YtdehdahimkcakaaGreatDoor
open Go Ai

def rnA (r : Int × Int) : AV := .agg [.int .i64 r.1, .int .i64 r.2]
def inA (n : Int) : AV := .int .i64 n
def point (c : Int) : Bool := decide (c ≥ 0) && decide (c ≤ 196607)
theorem c181 (c : Int) : PureC Tryz.env 181 [.int .i64 c] (.bool (point c)) := by
  refine pure_closed rfl (f181_run _ _ ?_)
  unfold f181 point
  cases h : decide (c ≥ 0) with
  | false => simp only [h, shiftP_ptr, shiftP_pel, Bnd_some, IfP_bool, Gd_some, ld_ptr, ld_pel, adv_h, adv_nx, set_h, set_nx, beq_self', cond_true, cond_false, part_one, List.getElem?_cons_zero, List.getElem?_cons_succ, un_not, wantV_bool, pickV_bool, extr_tup, bin_lss, bin_leq, bin_gtr, bin_geq, bin_eql, bin_neq, bin_seql, bin_sneq, bin_add, bin_sub, Nat.zero_add, Nat.reduceAdd, beq_self_eq_true, if_true, if_false, Bool.false_eq_true, Bool.not_true, Bool.not_false, show (false == true) = false from rfl, show (true == false) = false from rfl]; rfl
  | true =>
    simp only [h, shiftP_ptr, shiftP_pel, Bnd_some, IfP_bool, Gd_some, ld_ptr, ld_pel, adv_h, adv_nx, set_h, set_nx, beq_self', cond_true, cond_false, part_one, List.getElem?_cons_zero, List.getElem?_cons_succ, un_not, wantV_bool, pickV_bool, extr_tup, bin_lss, bin_leq, bin_gtr, bin_geq, bin_eql, bin_neq, bin_seql, bin_sneq, bin_add, bin_sub, Nat.zero_add, Nat.reduceAdd, beq_self_eq_true, if_true, if_false, Bool.false_eq_true, Bool.not_true, Bool.not_false, show (false == true) = false from rfl, show (true == false) = false from rfl]; rfl
def bad (r : Int × Int) : Bool := !(point r.1) || decide (r.2 < 1)
def listGo (most : Int) : List (Int × Int) → List Int → Option (List Int)
  | [], out => cond (decide (most < 0)) none (some out)
  | r :: s, out => cond (decide (r.2 > IntKind.i64.wrap (most - out.length))) none (listGo most s (out ++ List.replicate r.2.toNat r.1))
/-- A text's code points, and an error. -/
def listM (s : List (Int × Int)) (most : Int) : List Int × Int := cond (s.any bad) ([], 1) (match listGo most s [] with | some l => (l, 0) | none => ([], 2))
def tupS (l : List Int) (e : Int) : AV := .tup [.sl false (l.map inA), .int .i64 e]
theorem len25 (ex : Bool) (l : List AV) (id : Nat) (s : St) : bt .len #[25] [.sl ex l] id s = some (.int .i64 l.length, s) := by kernel_rfl
theorem ix_rn (ex : Bool) (l : List (Int × Int)) (i : Nat) (d : Int × Int) (h : l[i]? = some d) : ixS 2 (.sl ex (l.map rnA)) (.int .i64 (i : Int)) = some (.pel (rnA d).cells 0) := by
  obtain ⟨hi, rfl⟩ := List.getElem?_eq_some_iff.1 h
  simp [ixS, asI, idx, hi, rnA, AV.cells]
theorem rn_part (d : Int × Int) : Ai.part 2 true 0 (rnA d).cells = some (rnA d) := rfl
theorem rn0 (d : Int × Int) : (rnA d).cells[0]? = some (AV.int .i64 d.1) := rfl
theorem rn1 (d : Int × Int) : (rnA d).cells[1]? = some (AV.int .i64 d.2) := rfl
theorem zr109 : ∃ v, zr 109 = some v ∧ v.cells.length = 2 := by
  have h : (zr 109).map (fun v => v.cells.length) = some 2 := by kernel_rfl
  obtain ⟨v, h1, h2⟩ := Option.map_eq_some_iff.1 h
  exact ⟨v, h1, h2⟩
theorem ty72 : SlTy 72 3 1 false 8 := ⟨by kernel_rfl, by kernel_rfl, by kernel_rfl, by kernel_rfl, by decide⟩
abbrev PQ (v : AV) : AV → St → Prop := fun r s' => ∃ ids, pur Tryz.env.P s' 12 r = some (v, ids)
theorem pq_nils (e : Int) (s : St) : PQ (tupS [] e) (.tup [.nils, .int .i64 e]) s := ⟨[], rfl⟩
theorem in_pur {x : AV} {s : St} {l : List Int} (g : Gw 3 1 0 s x (l.map inA)) (e : Int) : PQ (tupS l e) (.tup [x, .int .i64 e]) s := by
  obtain ⟨ids, h⟩ := gw_pur1 ty72 g (fun v hv => by obtain ⟨n, _, rfl⟩ := List.mem_map.1 hv; rfl) (fun v hv => by obtain ⟨n, _, rfl⟩ := List.mem_map.1 hv; rfl) 10
  have hx : x.closed = false := by obtain ⟨_, ⟨rfl, _⟩ | ⟨_, _, rfl, _⟩⟩ := g <;> rfl
  exact ⟨ids, pur_tup2 hx h rfl⟩
theorem len72z (id : Nat) (s : St) : bt .len #[72] [.nils] id s = some (.int .i64 (0 : Nat), s) := by kernel_rfl
theorem len72 {x : AV} {s : St} {l : List Int} (g : Gw 3 1 0 s x (l.map inA)) (id : Nat) : bt .len #[72] [x] id s = some (.int .i64 l.length, s) := by
  obtain ⟨_, ⟨rfl, h⟩ | ⟨i, _, rfl, _⟩⟩ := g
  · have : l = [] := by simpa using h
    subst this; exact len72z id s
  · have h : bt .len #[72] [.ref i 0 (l.map inA).length none 3] id s = some (.int .i64 ((l.map inA).length : Nat), s) := by kernel_rfl
    rw [h, List.length_map]
/-- The inner loop: the same code point some times. -/
theorem l166b (Q : AV → St → Prop) (ih1 : AV → AV → AV → AV → AV → St → Prop) (most : Int) (c n : Int) (N : Nat) (t27 t28 t29 : AV) (out : List Int) (hn : n ≤ 1000) (hout : out.length ≤ 1000) (hge : 0 ≤ n)
    (hk : ∀ x s, Fresh s → Gw 3 1 0 s x ((out ++ List.replicate n.toNat c).map inA) → f166j3 Q ih1 t29 (.int .i64 most) x t27 t28 s) :
    ∀ (m k : Nat) (x : AV) (s : St), (k : Int) + m = n → Fresh s → s.h N = some (.cells (rnA (c, n)).cells 109 true true) → N < s.nx → Gw 3 1 0 s x ((out ++ List.replicate k c).map inA) → (∀ i n' cp, x = .ref i 0 n' cp 3 → i ≠ N) →
      ∃ g, f166l2 Q ih1 g (.int .i64 most) x (.ptr N 0) t27 t28 t29 (.int .i64 n) (.int .i64 k) s := by
  intro m
  induction m with
  | zero =>
    intro k x s hkm fr hN hNx g hne
    refine ⟨1, ?_⟩
    show f166l2s Q ih1 (f166l2 Q ih1 0) _ _ _ _ _ _ _ _ s
    have hlt : ¬ ((k : Int) < n) := by omega
    have hkn : n.toNat = k := by omega
    rw [hkn] at hk
    simp only [f166l2s, hlt, decide_false, shiftP_ptr, shiftP_pel, Bnd_some, IfP_bool, Gd_some, ld_ptr, ld_pel, adv_h, adv_nx, set_h, set_nx, beq_self', cond_true, cond_false, part_one, List.getElem?_cons_zero, List.getElem?_cons_succ, un_not, wantV_bool, pickV_bool, extr_tup, bin_lss, bin_leq, bin_gtr, bin_geq, bin_eql, bin_neq, bin_seql, bin_sneq, bin_add, bin_sub, Nat.zero_add, Nat.reduceAdd, beq_self_eq_true, if_true, if_false, Bool.false_eq_true, Bool.not_true, Bool.not_false, show (false == true) = false from rfl, show (true == false) = false from rfl]
    exact hk x _ fr.adv g.adv
  | succ m ihm =>
    intro k x s hkm fr hN hNx g hne
    have hlt : (k : Int) < n := by omega
    have hbs : bsl 72 1 [(0, .int .i64 c)] = some (.sl true [inA c]) := bsl_one ty72 (by decide) rfl rfl
    have hfit : fitsA (((out ++ List.replicate k c).map inA).length + 1) 8 = true := by
      simp only [List.length_map, List.length_append, List.length_replicate]
      have h1 : (out.length + k + 1) * 8 ≤ Ai.most := by unfold Ai.most; omega
      have h2 : out.length + k + 1 ≤ Ai.most := by unfold Ai.most; omega
      simp only [fitsA, Nat.ble_eq_true_of_le h1, Nat.ble_eq_true_of_le h2, Bool.and_self]
    obtain ⟨x', s', e1, e2, e3, e4, _, e5, e6⟩ := gw_step (id := s.nx + 5) (v := inA c) ty72 (g.adv (n := 7)) fr.adv rfl rfl hfit (Nat.zero_le _) (by show s.nx + 5 < s.nx + 7; omega) true
    have e4 : s'.nx = s.nx + 7 := e4
    have hN' : s'.h N = some (.cells (rnA (c, n)).cells 109 true true) := by
      rw [e5 N (by omega) (fun n' cp hx => hne N n' cp hx rfl)]; exact hN
    have hadd : (out ++ List.replicate k c).map inA ++ [inA c] = (out ++ List.replicate (k + 1) c).map inA := by
      rw [List.replicate_succ']; simp
    rw [hadd] at e2
    obtain ⟨w, hw⟩ := ihm (k + 1) x' (adv s' 2) (by omega) e3.adv hN' (by show N < s'.nx + 2; omega) e2.adv (fun i n' cp hx => by rw [e6] at hx; cases hx; omega)
    refine ⟨w + 1, ?_⟩
    show f166l2s Q ih1 (f166l2 Q ih1 w) _ _ _ _ _ _ _ _ s
    simp only [f166l2s, f166j4, hlt, decide_true, hN, rn0, hbs, e1, shiftP_ptr, shiftP_pel, Bnd_some, IfP_bool, Gd_some, ld_ptr, ld_pel, adv_h, adv_nx, set_h, set_nx, beq_self', cond_true, cond_false, part_one, List.getElem?_cons_zero, List.getElem?_cons_succ, un_not, wantV_bool, pickV_bool, extr_tup, bin_lss, bin_leq, bin_gtr, bin_geq, bin_eql, bin_neq, bin_seql, bin_sneq, bin_add, bin_sub, Nat.zero_add, Nat.reduceAdd, beq_self_eq_true, if_true, if_false, Bool.false_eq_true, Bool.not_true, Bool.not_false, show (false == true) = false from rfl, show (true == false) = false from rfl]
    rw [IntWalk.i64_in _ (by omega)]
    exact hw
theorem l166a (ex : Bool) (l : List (Int × Int)) (hlen : l.length ≤ maxLen) (hv : ∀ r ∈ l, bad r = false) (mo : Int) (h0 : 0 ≤ mo) (h1 : mo ≤ 1000) (Q : AV → St → Prop) (res : List Int × Int)
    (hQ1 : ∀ s, res = ([], 2) → Q (.tup [.nils, .int .i64 2]) s) (hQ2 : ∀ x s out, Gw 3 1 0 s x (List.map inA out) → res = (out, 0) → Q (.tup [x, .int .i64 0]) s) :
    ∀ (m i : Nat) (out : List Int) (x : AV) (s : St), i + m = l.length → Fresh s → Gw 3 1 0 s x (out.map inA) → (out.length : Int) ≤ mo → res = (match listGo mo (l.drop i) out with | some l => (l, 0) | none => ([], 2)) →
      f166l1 Q (m + 1) (.int .i64 mo) x (.sl ex (l.map rnA)) (.int .i64 l.length) (.int .i64 i) s := by
  intro m
  induction m with
  | zero =>
    intro i out x s hi fr g ho hr
    show f166l1s Q (f166l1 Q 0) _ _ _ _ _ s
    have hn : ¬ (mo < 0) := by omega
    rw [List.drop_eq_nil_of_le (by omega)] at hr
    simp only [listGo, hn, decide_false, cond_false] at hr
    simp only [f166l1s, f166j2, Int.ofNat_lt, show ¬ (i < l.length) by omega, hn, decide_false, shiftP_ptr, shiftP_pel, Bnd_some, IfP_bool, Gd_some, ld_ptr, ld_pel, adv_h, adv_nx, set_h, set_nx, beq_self', cond_true, cond_false, part_one, List.getElem?_cons_zero, List.getElem?_cons_succ, un_not, wantV_bool, pickV_bool, extr_tup, bin_lss, bin_leq, bin_gtr, bin_geq, bin_eql, bin_neq, bin_seql, bin_sneq, bin_add, bin_sub, Nat.zero_add, Nat.reduceAdd, beq_self_eq_true, if_true, if_false, Bool.false_eq_true, Bool.not_true, Bool.not_false, show (false == true) = false from rfl, show (true == false) = false from rfl]
    exact hQ2 x _ out g.adv.adv hr
  | succ m ihm =>
    intro i out x s hi fr g ho hr
    obtain ⟨r, hrr⟩ : ∃ r, l[i]? = some r := ⟨_, List.getElem?_eq_getElem (by omega)⟩
    rw [get_drop l i r hrr, listGo] at hr
    have hix := ix_rn ex l i r hrr
    have hlt : i < l.length := by omega
    have hbad := hv r (List.mem_of_getElem? hrr)
    simp only [bad, Bool.or_eq_false_iff, decide_eq_false_iff_not] at hbad
    obtain ⟨Z, hZ, hZl⟩ := zr109
    have hst : ∀ (q : St) (N : Nat), sto 2 (.ptr N 0) (rnA r) (q.set N (some (.cells Z.cells 109 true true))) = some ((q.set N (some (.cells Z.cells 109 true true))).set N (some (.cells (rnA r).cells 109 true true))) := fun q N =>
      sto_all (by rw [st_same]) hZl rfl rfl
    have hw : IntKind.i64.wrap (mo - out.length) = mo - out.length := IntWalk.i64_in _ (by omega)
    have hN : s.h (s.nx + 3) = none := fr _ (by omega)
    have fB : Fresh (((adv s 5).set (s.nx + 3) (some (.cells Z.cells 109 true true))).set (s.nx + 3) (some (.cells (rnA r).cells 109 true true))) :=
      (fr.adv.set (by show s.nx + 3 < s.nx + 5; omega)).set (by show s.nx + 3 < s.nx + 5; omega)
    have gB : Gw 3 1 0 (((adv s 5).set (s.nx + 3) (some (.cells Z.cells 109 true true))).set (s.nx + 3) (some (.cells (rnA r).cells 109 true true))) x (out.map inA) :=
      g.mono fun j _ hj => by
        have hne : j ≠ s.nx + 3 := fun he => hj (by rw [he]; exact hN)
        rw [st_other hne, st_other hne]; rfl
    have hl72 := fun k => len72 (gB.adv (n := 7)) k
    rw [hw] at hr
    show f166l1s Q (f166l1 Q (m + 1)) _ _ _ _ _ s
    cases hgt : decide (r.2 > mo - out.length) with
    | true =>
      rw [hgt] at hr
      simp only [f166l1s, Int.ofNat_lt, hlt, decide_true, hix, rn_part, hZ, hst, rn1, hl72, hw, hgt, shiftP_ptr, shiftP_pel, Bnd_some, IfP_bool, Gd_some, ld_ptr, ld_pel, adv_h, adv_nx, set_h, set_nx, beq_self', cond_true, cond_false, part_one, List.getElem?_cons_zero, List.getElem?_cons_succ, un_not, wantV_bool, pickV_bool, extr_tup, bin_lss, bin_leq, bin_gtr, bin_geq, bin_eql, bin_neq, bin_seql, bin_sneq, bin_add, bin_sub, Nat.zero_add, Nat.reduceAdd, beq_self_eq_true, if_true, if_false, Bool.false_eq_true, Bool.not_true, Bool.not_false, show (false == true) = false from rfl, show (true == false) = false from rfl]
      exact hQ1 _ hr
    | false =>
      rw [hgt] at hr
      have hle : ¬ (r.2 > mo - out.length) := of_decide_eq_false hgt
      simp only [f166l1s, Int.ofNat_lt, hlt, decide_true, hix, rn_part, hZ, hst, rn1, hl72, hw, hgt, shiftP_ptr, shiftP_pel, Bnd_some, IfP_bool, Gd_some, ld_ptr, ld_pel, adv_h, adv_nx, set_h, set_nx, beq_self', cond_true, cond_false, part_one, List.getElem?_cons_zero, List.getElem?_cons_succ, un_not, wantV_bool, pickV_bool, extr_tup, bin_lss, bin_leq, bin_gtr, bin_geq, bin_eql, bin_neq, bin_seql, bin_sneq, bin_add, bin_sub, Nat.zero_add, Nat.reduceAdd, beq_self_eq_true, if_true, if_false, Bool.false_eq_true, Bool.not_true, Bool.not_false, show (false == true) = false from rfl, show (true == false) = false from rfl]
      refine l166b Q (f166l1 Q (m + 1)) mo r.1 r.2 (s.nx + 3) _ _ _ out (by omega) (by omega) (by omega) (fun x' s' fr' g' => ?_) r.2.toNat 0 x _ (by omega) fB.adv.adv (by simp only [adv_h, st_same]) (by show s.nx + 3 < s.nx + 5 + 7 + 3; omega) (by simpa using gB.adv.adv) (fun j n' cp hx => ?_)
      · unfold f166j3
        simp only [shiftP_ptr, shiftP_pel, Bnd_some, IfP_bool, Gd_some, ld_ptr, ld_pel, adv_h, adv_nx, set_h, set_nx, beq_self', cond_true, cond_false, part_one, List.getElem?_cons_zero, List.getElem?_cons_succ, un_not, wantV_bool, pickV_bool, extr_tup, bin_lss, bin_leq, bin_gtr, bin_geq, bin_eql, bin_neq, bin_seql, bin_sneq, bin_add, bin_sub, Nat.zero_add, Nat.reduceAdd, beq_self_eq_true, if_true, if_false, Bool.false_eq_true, Bool.not_true, Bool.not_false, show (false == true) = false from rfl, show (true == false) = false from rfl]
        rw [wrap_len i _ hlt hlen]
        exact ihm (i + 1) _ x' _ (by omega) fr'.adv g'.adv (by simp only [List.length_append, List.length_replicate]; omega) hr
      · obtain ⟨_, ⟨rfl, _⟩ | ⟨k, _, rfl, hk⟩⟩ := g
        · cases hx
        · cases hx
          intro he
          rw [he, hN] at hk; cases hk
theorem l166c (ex : Bool) (l : List (Int × Int)) (hlen : l.length ≤ maxLen) (mo : Int) (Q : AV → St → Prop)
    (hQ1 : ∀ s, l.any bad = true → Q (.tup [.nils, .int .i64 1]) s) (hQ2 : ∀ s, Fresh s → l.any bad = false → f166j1 Q (.sl ex (l.map rnA)) (.int .i64 mo) s) :
    ∀ (m i : Nat) (s : St), i + m = l.length → Fresh s → l.any bad = (l.drop i).any bad →
      f166l3 Q (m + 1) (.sl ex (l.map rnA)) (.int .i64 mo) (.sl ex (l.map rnA)) (.int .i64 l.length) (.int .i64 i) s := by
  intro m
  induction m with
  | zero =>
    intro i s hi fr hr
    show f166l3s Q (f166l3 Q 0) _ _ _ _ _ s
    rw [List.drop_eq_nil_of_le (by omega)] at hr
    have hr : l.any bad = false := hr
    simp only [f166l3s, Int.ofNat_lt, show ¬ (i < l.length) by omega, decide_false, shiftP_ptr, shiftP_pel, Bnd_some, IfP_bool, Gd_some, ld_ptr, ld_pel, adv_h, adv_nx, set_h, set_nx, beq_self', cond_true, cond_false, part_one, List.getElem?_cons_zero, List.getElem?_cons_succ, un_not, wantV_bool, pickV_bool, extr_tup, bin_lss, bin_leq, bin_gtr, bin_geq, bin_eql, bin_neq, bin_seql, bin_sneq, bin_add, bin_sub, Nat.zero_add, Nat.reduceAdd, beq_self_eq_true, if_true, if_false, Bool.false_eq_true, Bool.not_true, Bool.not_false, show (false == true) = false from rfl, show (true == false) = false from rfl]
    exact hQ2 _ fr.adv hr
  | succ m ihm =>
    intro i s hi fr hr
    obtain ⟨r, hrr⟩ : ∃ r, l[i]? = some r := ⟨_, List.getElem?_eq_getElem (by omega)⟩
    rw [get_drop l i r hrr, List.any_cons] at hr
    have hix := ix_rn ex l i r hrr
    have hlt : i < l.length := by omega
    obtain ⟨Z, hZ, hZl⟩ := zr109
    have hst : ∀ (q : St) (N : Nat), sto 2 (.ptr N 0) (rnA r) (q.set N (some (.cells Z.cells 109 true true))) = some ((q.set N (some (.cells Z.cells 109 true true))).set N (some (.cells (rnA r).cells 109 true true))) := fun q N =>
      sto_all (by rw [st_same]) hZl rfl rfl
    have fB : Fresh (((adv s 5).set (s.nx + 3) (some (.cells Z.cells 109 true true))).set (s.nx + 3) (some (.cells (rnA r).cells 109 true true))) :=
      (fr.adv.set (by show s.nx + 3 < s.nx + 5; omega)).set (by show s.nx + 3 < s.nx + 5; omega)
    show f166l3s Q (f166l3 Q (m + 1)) _ _ _ _ _ s
    cases hp : point r.1 with
    | false =>
      have hb : bad r = true := by simp [bad, hp]
      rw [hb] at hr
      simp only [f166l3s, Int.ofNat_lt, hlt, decide_true, hix, rn_part, hZ, hst, rn0, shiftP_ptr, shiftP_pel, Bnd_some, IfP_bool, Gd_some, ld_ptr, ld_pel, adv_h, adv_nx, set_h, set_nx, beq_self', cond_true, cond_false, part_one, List.getElem?_cons_zero, List.getElem?_cons_succ, un_not, wantV_bool, pickV_bool, extr_tup, bin_lss, bin_leq, bin_gtr, bin_geq, bin_eql, bin_neq, bin_seql, bin_sneq, bin_add, bin_sub, Nat.zero_add, Nat.reduceAdd, beq_self_eq_true, if_true, if_false, Bool.false_eq_true, Bool.not_true, Bool.not_false, show (false == true) = false from rfl, show (true == false) = false from rfl]
      refine callPu (c181 r.1) (by simp [AV.closed]) ?_
      simp only [hp, shiftP_ptr, shiftP_pel, Bnd_some, IfP_bool, Gd_some, ld_ptr, ld_pel, adv_h, adv_nx, set_h, set_nx, beq_self', cond_true, cond_false, part_one, List.getElem?_cons_zero, List.getElem?_cons_succ, un_not, wantV_bool, pickV_bool, extr_tup, bin_lss, bin_leq, bin_gtr, bin_geq, bin_eql, bin_neq, bin_seql, bin_sneq, bin_add, bin_sub, Nat.zero_add, Nat.reduceAdd, beq_self_eq_true, if_true, if_false, Bool.false_eq_true, Bool.not_true, Bool.not_false, show (false == true) = false from rfl, show (true == false) = false from rfl]
      exact hQ1 _ hr
    | true =>
      cases hn : decide (r.2 < 1) with
      | true =>
        have hb : bad r = true := by simp only [bad, hp, hn, Bool.or_true]
        rw [hb] at hr
        simp only [f166l3s, Int.ofNat_lt, hlt, decide_true, hix, rn_part, hZ, hst, rn0, shiftP_ptr, shiftP_pel, Bnd_some, IfP_bool, Gd_some, ld_ptr, ld_pel, adv_h, adv_nx, set_h, set_nx, beq_self', cond_true, cond_false, part_one, List.getElem?_cons_zero, List.getElem?_cons_succ, un_not, wantV_bool, pickV_bool, extr_tup, bin_lss, bin_leq, bin_gtr, bin_geq, bin_eql, bin_neq, bin_seql, bin_sneq, bin_add, bin_sub, Nat.zero_add, Nat.reduceAdd, beq_self_eq_true, if_true, if_false, Bool.false_eq_true, Bool.not_true, Bool.not_false, show (false == true) = false from rfl, show (true == false) = false from rfl]
        refine callPu (c181 r.1) (by simp [AV.closed]) ?_
        simp only [hp, rn1, hn, shiftP_ptr, shiftP_pel, Bnd_some, IfP_bool, Gd_some, ld_ptr, ld_pel, adv_h, adv_nx, set_h, set_nx, beq_self', cond_true, cond_false, part_one, List.getElem?_cons_zero, List.getElem?_cons_succ, un_not, wantV_bool, pickV_bool, extr_tup, bin_lss, bin_leq, bin_gtr, bin_geq, bin_eql, bin_neq, bin_seql, bin_sneq, bin_add, bin_sub, Nat.zero_add, Nat.reduceAdd, beq_self_eq_true, if_true, if_false, Bool.false_eq_true, Bool.not_true, Bool.not_false, show (false == true) = false from rfl, show (true == false) = false from rfl]
        exact hQ1 _ hr
      | false =>
        have hb : bad r = false := by simp only [bad, hp, hn, Bool.not_true, Bool.or_self]
        rw [hb, Bool.false_or] at hr
        simp only [f166l3s, Int.ofNat_lt, hlt, decide_true, hix, rn_part, hZ, hst, rn0, shiftP_ptr, shiftP_pel, Bnd_some, IfP_bool, Gd_some, ld_ptr, ld_pel, adv_h, adv_nx, set_h, set_nx, beq_self', cond_true, cond_false, part_one, List.getElem?_cons_zero, List.getElem?_cons_succ, un_not, wantV_bool, pickV_bool, extr_tup, bin_lss, bin_leq, bin_gtr, bin_geq, bin_eql, bin_neq, bin_seql, bin_sneq, bin_add, bin_sub, Nat.zero_add, Nat.reduceAdd, beq_self_eq_true, if_true, if_false, Bool.false_eq_true, Bool.not_true, Bool.not_false, show (false == true) = false from rfl, show (true == false) = false from rfl]
        refine callPu (c181 r.1) (by simp [AV.closed]) ?_
        simp only [hp, rn1, hn, f166j5, shiftP_ptr, shiftP_pel, Bnd_some, IfP_bool, Gd_some, ld_ptr, ld_pel, adv_h, adv_nx, set_h, set_nx, beq_self', cond_true, cond_false, part_one, List.getElem?_cons_zero, List.getElem?_cons_succ, un_not, wantV_bool, pickV_bool, extr_tup, bin_lss, bin_leq, bin_gtr, bin_geq, bin_eql, bin_neq, bin_seql, bin_sneq, bin_add, bin_sub, Nat.zero_add, Nat.reduceAdd, beq_self_eq_true, if_true, if_false, Bool.false_eq_true, Bool.not_true, Bool.not_false, show (false == true) = false from rfl, show (true == false) = false from rfl]
        rw [wrap_len i _ hlt hlen]
        exact ihm (i + 1) _ (by omega) fB.adv.adv hr
theorem tupS_nils (e : Int) : tupS [] e = .tup [.sl false [], .int .i64 e] := rfl
theorem c166 (ex : Bool) (l : List (Int × Int)) (hlen : l.length ≤ maxLen) (mo : Int) (h0 : 0 ≤ mo) (h1 : mo ≤ 1000) : PureC Tryz.env 166 [.sl ex (l.map rnA), .int .i64 mo] (tupS (listM l mo).1 (listM l mo).2) := by
  refine pure_of (f166_run _ _ _ (Q := fun r s' => ∃ ids, pur Tryz.env.P s' 12 r = some (tupS (listM l mo).1 (listM l mo).2, ids)) ?_)
  unfold f166
  simp only [len25, List.length_map, Bnd_some]
  refine ⟨l.length + 1, ?_⟩
  refine l166c ex l hlen mo _ (fun s h => ?_) (fun s fr h => ?_) l.length 0 _ (by omega) fresh_empty.adv rfl
  · have : listM l mo = ([], 1) := by simp only [listM, h, cond_true]
    rw [this]; exact pq_nils 1 s
  · have hv : ∀ r ∈ l, bad r = false := fun r hr => by
      have := List.any_eq_false.1 h r hr
      simpa using this
    unfold f166j1
    simp only [len25, List.length_map, Bnd_some]
    refine ⟨l.length + 1, ?_⟩
    have hm : listM l mo = (match listGo mo l [] with | some l => (l, 0) | none => ([], 2)) := by simp only [listM, h, cond_false]
    refine l166a ex l hlen hv mo h0 h1 _ (listM l mo) (fun s h => ?_) (fun x s out g h => ?_) l.length 0 [] .nils _ (by omega) fr.adv gw_nil (by simpa using h0) hm
    · rw [h]; exact pq_nils 2 s
    · rw [h]; exact in_pur g 0
end Go.Proofs.YtdehdahimkcakaaGreatDoor
