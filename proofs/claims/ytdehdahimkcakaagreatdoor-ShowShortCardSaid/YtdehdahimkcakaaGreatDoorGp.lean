/- Texts joined by wip/tools/pack.py: Tx, Eg, Lo, Swr, Sw, Vl, Sv, Rv. -/
import Derived.Test.YtdehdahimkcakaaGreatDoorGo
section
set_option linter.unusedVariables false
set_option linter.unusedSimpArgs false
set_option maxRecDepth 100000
set_option maxHeartbeats 4000000
namespace Go.Proofs.YtdehdahimkcakaaGreatDoor
open Go Ai
def greedy : List (Int × Int) → Int → Nat
  | [], _ => 0
  | r :: l, n => cond (decide (IntKind.i64.wrap (n + r.2) ≤ 1000)) (greedy l (IntKind.i64.wrap (n + r.2)) + 1) 0
theorem greedy_le : ∀ (l : List (Int × Int)) (n : Int), greedy l n ≤ l.length := by
  intro l
  induction l with
  | nil => intro n; simp [greedy]
  | cons r l ih =>
    intro n
    simp only [greedy]
    have := ih (IntKind.i64.wrap (n + r.2))
    cases decide (IntKind.i64.wrap (n + r.2) ≤ 1000) <;> simp only [cond_true, cond_false, List.length_cons] <;> omega
theorem l61b (ex : Bool) (l : List (Int × Int)) (hl : l.length ≤ 2 ^ 40) (Q : AV → St → Prop) (ih1 : AV → AV → AV → St → Prop) (t2 t4 : AV) (s0 : St) :
    ∀ (m k : Nat) (n : Int) (c : Nat), k + m = l.length → (∀ c', f61j3 Q ih1 (.int .i64 ((k + greedy (l.drop k) n : Nat) : Int)) t4 (.sl ex (l.map rnA)) t2 (adv s0 c')) →
      f61l2 Q ih1 (m + 1) (.sl ex (l.map rnA)) t2 t4 (.int .i64 n) (.int .i64 k) (adv s0 c) := by
  intro m
  have h40 : (2 : Nat) ^ 40 = 1099511627776 := rfl
  induction m with
  | zero =>
    intro k n c hk hf
    show f61l2s Q ih1 (f61l2 Q ih1 0) _ _ _ _ _ _
    rw [List.drop_eq_nil_of_le (by omega)] at hf
    simp only [f61l2s, ln25s, List.length_map, Int.ofNat_lt, show ¬ (k < l.length) by omega, decide_false, wx, cond_true, cond_false, List.getElem?_cons_zero, List.getElem?_cons_succ, Nat.reduceAdd, beq_self_eq_true, if_true, if_false, Nat.reduceEqDiff, reduceCtorEq, and_true, true_and, List.mem_nil_iff, List.not_mem_nil]
    exact hf _
  | succ m ih =>
    intro k n c hk hf
    show f61l2s Q ih1 (f61l2 Q ih1 (m + 1)) _ _ _ _ _ _
    obtain ⟨r, hr⟩ : ∃ r, l[k]? = some r := ⟨_, List.getElem?_eq_getElem (by omega)⟩
    have hlt : k < l.length := by omega
    rw [get_drop l k r hr, greedy] at hf
    have h1 : (rnA r).cells[1]? = some (.int .i64 r.2) := rfl
    simp only [f61l2s, ln25s, List.length_map, Int.ofNat_lt, hlt, decide_true, ix_map encRn ex hr, h1, wx, cond_true, cond_false, List.getElem?_cons_zero, List.getElem?_cons_succ, Nat.reduceAdd, beq_self_eq_true, if_true, if_false, Nat.reduceEqDiff, reduceCtorEq, and_true, true_and, List.mem_nil_iff, List.not_mem_nil]
    cases h : decide (IntKind.i64.wrap (n + r.2) ≤ 1000) with
    | true =>
      rw [h] at hf
      simp only [h, ix_map encRn ex hr, h1, wx, cond_true, cond_false, List.getElem?_cons_zero, List.getElem?_cons_succ, Nat.reduceAdd, beq_self_eq_true, if_true, if_false, Nat.reduceEqDiff, reduceCtorEq, and_true, true_and, List.mem_nil_iff, List.not_mem_nil]
      rw [wrap_len k _ hlt (by have : maxLen = 9223372036854775807 := rfl; omega)]
      refine ih (k + 1) _ _ (by omega) fun c' => ?_
      have := hf c'
      simp only [cond_true] at this
      rw [show k + 1 + greedy (l.drop (k + 1)) (IntKind.i64.wrap (n + r.2)) = k + (greedy (l.drop (k + 1)) (IntKind.i64.wrap (n + r.2)) + 1) by omega]
      exact this
    | false =>
      rw [h] at hf
      simp only [h, wx, cond_true, cond_false, List.getElem?_cons_zero, List.getElem?_cons_succ, Nat.reduceAdd, beq_self_eq_true, if_true, if_false, Nat.reduceEqDiff, reduceCtorEq, and_true, true_and, List.mem_nil_iff, List.not_mem_nil]
      exact hf _
def txtGo (LT : List (Int × Int) → Sx) (LG : Int × Int → Sx) : Nat → List (Int × Int) → List Sx
  | 0, _ => []
  | n + 1, l => match l with
    | [] => []
    | r :: t => cond (greedy (r :: t) 0 == 0) (LG r :: txtGo LT LG n t) (LT ((r :: t).take (greedy (r :: t) 0)) :: txtGo LT LG n ((r :: t).drop (greedy (r :: t) 0)))
section
variable (LT : List (Int × Int) → Sx) (LG : Int × Int → Sx) (Q : AV → St → Prop)
theorem l61a (ok : Int × Int → Bool) (hL : ∀ (l : List (Int × Int)), (∀ r ∈ l, ok r = true) → greedy l 0 ≠ 0 → PureC Tryz.env 115 [.sl false ((l.take (greedy l 0)).map rnA)] (.tup [(LT (l.take (greedy l 0))).av, .int .i64 0]))
    (hG : ∀ r, ok r = true → ¬ (IntKind.i64.wrap (0 + r.2) ≤ 1000) → PureC Tryz.env 114 [rnA r] (LG r).av) (t2 : AV) (N : Nat) (hN : N ≤ 2 ^ 24) (ps : List Sx) (B : Blk) (n2 : Nat) (ht2 : t2 = .ptr n2 0)
    (hQ : ∀ x s, Fresh s → Gw 33 6 0 s x (ps.map Sx.av) → s.h n2 = some B → (∀ j ∈ idOf x, j ≠ n2) → n2 < s.nx → f61j1 Q x t2 s) :
    ∀ (m : Nat) (ex : Bool) (l : List (Int × Int)) (x : AV) (p : List Sx) (s : St), l.length ≤ m → p.length + l.length ≤ N → (∀ r ∈ l, ok r = true) → Fresh s → Gw 33 6 0 s x (p.map Sx.av) → s.h n2 = some B → (∀ j ∈ idOf x, j ≠ n2) → n2 < s.nx → ps = p ++ txtGo LT LG m l →
      f61l1 Q (m + 1) (.sl ex (l.map rnA)) t2 x s := by
  intro m
  have h24 : (2 : Nat) ^ 24 = 16777216 := rfl
  induction m with
  | zero =>
    intro ex l x p s hm hpl hok fr g h2 hd hn2 hps
    show f61l1s Q (f61l1 Q 0) _ _ _ _
    have : l = [] := List.length_eq_zero_iff.1 (by omega)
    subst this
    simp only [txtGo, List.append_nil] at hps
    subst hps
    simp only [f61l1s, ln25s, List.map_nil, List.length_nil, show decide (((0 : Nat) : Int) > 0) = false from rfl, wx, cond_true, cond_false, List.getElem?_cons_zero, List.getElem?_cons_succ, Nat.reduceAdd, beq_self_eq_true, if_true, if_false, Nat.reduceEqDiff, reduceCtorEq, and_true, true_and, List.mem_nil_iff, List.not_mem_nil]
    exact hQ _ _ fr.adv g.adv (by simpa [adv_h] using h2) hd (by simp only [adv_nx]; omega)
  | succ m ih =>
    intro ex l x p s hm hpl hok fr g h2 hd hn2 hps
    show f61l1s Q (f61l1 Q (m + 1)) _ _ _ _
    cases l with
    | nil =>
      simp only [txtGo, List.append_nil] at hps
      subst hps
      simp only [f61l1s, ln25s, List.map_nil, List.length_nil, show decide (((0 : Nat) : Int) > 0) = false from rfl, wx, cond_true, cond_false, List.getElem?_cons_zero, List.getElem?_cons_succ, Nat.reduceAdd, beq_self_eq_true, if_true, if_false, Nat.reduceEqDiff, reduceCtorEq, and_true, true_and, List.mem_nil_iff, List.not_mem_nil]
      exact hQ _ _ fr.adv g.adv (by simpa [adv_h] using h2) hd (by simp only [adv_nx]; omega)
    | cons r t =>
      have hpos : decide ((((r :: t).map rnA).length : Int) > 0) = true := by simp
      simp only [f61l1s, ln25s, hpos, wx, cond_true, cond_false, List.getElem?_cons_zero, List.getElem?_cons_succ, Nat.reduceAdd, beq_self_eq_true, if_true, if_false, Nat.reduceEqDiff, reduceCtorEq, and_true, true_and, List.mem_nil_iff, List.not_mem_nil]
      refine ⟨(r :: t).length + 1, l61b ex (r :: t) (by omega) Q _ t2 x s (r :: t).length 0 0 _ (by omega) fun c' => ?_⟩
      rw [Nat.zero_add, List.drop_zero]
      simp only [List.length_cons] at hm hpl
      have b31 : ∀ v : Sx, bsl 31 1 [(0, v.av)] = some (.sl true [v.av]) := fun v => bsl_one tf31 (by decide) (sx_len v) (sx_ones v)
      have hle := greedy_le (r :: t) 0
      unfold f61j3
      by_cases h0 : greedy (r :: t) 0 = 0
      · have hnw : ¬ (IntKind.i64.wrap (0 + r.2) ≤ 1000) := fun hc => by
          simp only [greedy, decide_eq_true hc, cond_true] at h0; omega
        have hix : ixS 2 (.sl ex ((r :: t).map rnA)) (.int .i64 0) = some (.pel (rnA r).cells 0) := ix_map encRn ex (l := r :: t) (i := 0) rfl .i64
        have hs1 : ∀ s, slc 25 (.sl ex ((r :: t).map rnA)) (some (.int .i64 1)) none none s = some (.sl ex (t.map rnA)) := fun s => slc_drop tf25 encRn.len ex (r :: t) (k := 1) (by simp) .i64
        simp only [h0, wx, cond_true, cond_false, List.getElem?_cons_zero, List.getElem?_cons_succ, Nat.reduceAdd, beq_self_eq_true, if_true, if_false, Nat.reduceEqDiff, reduceCtorEq, and_true, true_and, List.mem_nil_iff, List.not_mem_nil, show (((0 : Nat) : Int) == 0) = true from rfl, hix, rn_part]
        refine callPuD (hG r (hok r (List.mem_cons_self ..)) hnw) (by simp [rnA, AV.closed, closedL]) ?_
        simp only [b31, wx, cond_true, cond_false, List.getElem?_cons_zero, List.getElem?_cons_succ, Nat.reduceAdd, beq_self_eq_true, if_true, if_false, Nat.reduceEqDiff, reduceCtorEq, and_true, true_and, List.mem_nil_iff, List.not_mem_nil]
        refine ⟨fr _ (by omega), ?_⟩
        rw [app_map tf31 encSx g.adv (by omega) (by omega)]
        simp only [hs1, wx, cond_true, cond_false, List.getElem?_cons_zero, List.getElem?_cons_succ, Nat.reduceAdd, beq_self_eq_true, if_true, if_false, Nat.reduceEqDiff, reduceCtorEq, and_true, true_and, List.mem_nil_iff, List.not_mem_nil]
        refine ⟨by simp only [clear, List.all_cons, List.all_nil, Mark.apart, okLo, disj_nil, bit_of, Nat.reduceShiftRight, Nat.reduceMod, Bool.not_true, Bool.not_false, Option.isNone_none, Option.isNone_some, decide_true, decide_false, Nat.reduceEqDiff, Nat.zero_ne_one, wx, cond_true, cond_false, List.getElem?_cons_zero, List.getElem?_cons_succ, Nat.reduceAdd, beq_self_eq_true, if_true, if_false, Nat.reduceEqDiff, reduceCtorEq, and_true, true_and, List.mem_nil_iff, List.not_mem_nil], ?_⟩
        simp only [txtGo, h0, beq_self_eq_true, cond_true] at hps
        refine ih ex t _ (p ++ [LG r]) _ (by omega) (by simp; omega) (fun r hr => hok r (List.mem_cons_of_mem _ hr)) (fresh_app fr _ _ (by omega)) (gw_map1 encSx) ?_ ?_ ?_ (by rw [hps]; simp)
        · rw [adv_h, st_other (by omega), get_drop', if_neg (fun hh => hd _ hh rfl)]; exact h2
        · intro j hj; simp only [idOf, List.mem_cons, List.mem_nil_iff, or_false] at hj; omega
        · simp only [adv_nx, set_nx, nx_drop]; omega
      · generalize hk : greedy (r :: t) 0 = k at *
        have hne : ((k : Int) == 0) = false := by simp; omega
        have hs1 : ∀ s, slc 25 (.sl ex ((r :: t).map rnA)) none (some (.int .i64 k)) none s = some (.sl (ex && k == (r :: t).length) (((r :: t).take k).map rnA)) := fun s => slc_take tf25 encRn.len ex (r :: t) hle .i64
        have hs2 : ∀ s, slc 25 (.sl ex ((r :: t).map rnA)) (some (.int .i64 k)) none none s = some (.sl ex (((r :: t).drop k).map rnA)) := fun s => slc_drop tf25 encRn.len ex (r :: t) hle .i64
        simp only [hne, wx, cond_true, cond_false, List.getElem?_cons_zero, List.getElem?_cons_succ, Nat.reduceAdd, beq_self_eq_true, if_true, if_false, Nat.reduceEqDiff, reduceCtorEq, and_true, true_and, List.mem_nil_iff, List.not_mem_nil, hs1]
        have hcall := hL (r :: t) hok (by rw [hk]; exact h0)
        rw [hk] at hcall
        refine callPur (args2 := [.sl false (((r :: t).take k).map rnA)]) (ids := []) ?_ hcall ?_
        · obtain ⟨ids, e1, e2⟩ := pur_sl (s := Ai.adv s (c' + 12)) (ex := (ex && k == (r :: t).length)) (k := 11) (closedL_map' rnA ((r :: t).take k) fun _ _ => rfl)
          subst e2
          simp only [purL, e1, List.append_nil]
        · simp only [List.isEmpty_nil, Bool.true_or, if_true, zf33, wx, cond_true, cond_false, List.getElem?_cons_zero, List.getElem?_cons_succ, Nat.reduceAdd, beq_self_eq_true, if_true, if_false, Nat.reduceEqDiff, reduceCtorEq, and_true, true_and, List.mem_nil_iff, List.not_mem_nil]
          have hst' : ∀ (v : Sx) (q : St) (i n : Nat), sto 6 (.ptr i 0) v.av (Ai.adv (q.set i (some (.cells (AV.agg [.bool false, .int .i64 0, .str [], .int .i64 0, .int .i64 0, .nils]).cells 33 true true))) n) = some (Ai.adv (q.set i (some (.cells v.av.cells 33 true true))) n) := fun v q i n => by
            rw [sto_all (z := 6) (by rw [adv_h, st_same]) rfl (sx_len v) (sx_ones v), adv_set, set_set]
          simp only [hst', wx, cond_true, cond_false, List.getElem?_cons_zero, List.getElem?_cons_succ, Nat.reduceAdd, beq_self_eq_true, if_true, if_false, Nat.reduceEqDiff, reduceCtorEq, and_true, true_and, List.mem_nil_iff, List.not_mem_nil, ld_ptr, sx_part, b31]
          have e33 : s.h (s.nx + (c' + 9)) = none := fr _ (by omega)
          have gg : Gw 33 6 0 (Ai.adv (s.set (s.nx + (c' + 9)) (some (.cells (LT ((r :: t).take k)).av.cells 33 true true))) (c' + 21)) x (p.map Sx.av) := by
            refine g.keep fun j hj => ?_
            have := g.id_lt fr j hj
            rw [adv_h, st_other (by omega)]
          refine ⟨fr _ (by omega), ?_⟩
          rw [app_map tf31 encSx gg (by omega) (by omega)]
          simp only [wx, cond_true, cond_false, List.getElem?_cons_zero, List.getElem?_cons_succ, Nat.reduceAdd, beq_self_eq_true, if_true, if_false, Nat.reduceEqDiff, reduceCtorEq, and_true, true_and, List.mem_nil_iff, List.not_mem_nil]
          refine ⟨by simp only [clear, List.all_cons, List.all_nil, Mark.apart, okLo, disj_nil, bit_of, Nat.reduceShiftRight, Nat.reduceMod, Bool.not_true, Bool.not_false, Option.isNone_none, Option.isNone_some, decide_true, decide_false, Nat.reduceEqDiff, Nat.zero_ne_one, wx, cond_true, cond_false, List.getElem?_cons_zero, List.getElem?_cons_succ, Nat.reduceAdd, beq_self_eq_true, if_true, if_false, Nat.reduceEqDiff, reduceCtorEq, and_true, true_and, List.mem_nil_iff, List.not_mem_nil], ?_⟩
          simp only [hs2, wx, cond_true, cond_false, List.getElem?_cons_zero, List.getElem?_cons_succ, Nat.reduceAdd, beq_self_eq_true, if_true, if_false, Nat.reduceEqDiff, reduceCtorEq, and_true, true_and, List.mem_nil_iff, List.not_mem_nil]
          have hf : (k == 0) = false := by simpa using h0
          simp only [txtGo, hk, hf, cond_false] at hps
          refine ih ex _ _ (p ++ [LT ((r :: t).take k)]) _ (by simp; omega) (by simp; omega) (fun r hr => hok r (List.mem_of_mem_drop hr)) ?_ (gw_map1 encSx) ?_ ?_ ?_ (by rw [hps]; simp)
          · rw [← adv_set]
            refine Fresh.set ?_ (by simp only [adv_nx, nx_drop, set_nx]; omega)
            rw [← adv_drop]
            exact fresh_drop (fresh_set fr _ (by omega)) _
          · rw [adv_h, st_other (by omega), get_drop', if_neg (fun hh => hd _ hh rfl), st_other (by omega)]; exact h2
          · intro j hj; simp only [idOf, List.mem_cons, List.mem_nil_iff, or_false] at hj; omega
          · simp only [adv_nx, set_nx, nx_drop]; omega
end
mutual
def Sx.siz : Sx → Int
  | .mk _ _ _ _ _ items => Sx.sizs items 1
def Sx.sizs : List Sx → Int → Int
  | [], n => n
  | s :: l, n => Sx.sizs l (IntKind.i64.wrap (n + s.siz))
end
theorem sto_sx (v : Sx) (q : St) (i n : Nat) : sto 6 (.ptr i 0) v.av (Ai.adv (q.set i (some (.cells (AV.agg [.bool false, .int .i64 0, .str [], .int .i64 0, .int .i64 0, .nils]).cells 33 true true))) n) = some (Ai.adv (q.set i (some (.cells v.av.cells 33 true true))) n) := by
  rw [sto_all (z := 6) (by rw [adv_h, st_same]) rfl (sx_len v) (sx_ones v), adv_set, set_set]
theorem sto_sx0 (v : Sx) (q : St) (i : Nat) : sto 6 (.ptr i 0) v.av (q.set i (some (.cells (AV.agg [.bool false, .int .i64 0, .str [], .int .i64 0, .int .i64 0, .nils]).cells 33 true true))) = some (q.set i (some (.cells v.av.cells 33 true true))) := by
  rw [sto_all (z := 6) st_same rfl (sx_len v) (sx_ones v), set_set]
theorem l116 (items : List Sx) (hlen : items.length ≤ maxLen) (ih0 : ∀ s ∈ items, PureC Tryz.env 116 [s.av] (.int .i64 s.siz)) (Q : AV → St → Prop) (r : Int) (hQ : ∀ s, Q (.int .i64 r) s) :
    ∀ (m i : Nat) (n : Int) (s : St), i + m = items.length → r = Sx.sizs (items.drop i) n → f116l1 Q (m + 1) (.int .i64 n) (.sl false (Sx.avs items)) (.int .i64 items.length) (.int .i64 i) s := by
  intro m
  induction m with
  | zero =>
    intro i n s hi hr
    show f116l1s Q (f116l1 Q 0) _ _ _ _ s
    rw [List.drop_eq_nil_of_le (by omega)] at hr
    have hr : r = n := hr
    subst hr
    simp only [f116l1s, f116j1, Int.ofNat_lt, show ¬ (i < items.length) by omega, decide_false, wx, cond_true, cond_false, List.getElem?_cons_zero, List.getElem?_cons_succ, Nat.reduceAdd, beq_self_eq_true, if_true, if_false, Nat.reduceEqDiff, reduceCtorEq, and_true, true_and, List.mem_nil_iff, List.not_mem_nil]
    exact hQ _
  | succ m ih =>
    intro i n s hi hr
    show f116l1s Q (f116l1 Q (m + 1)) _ _ _ _ s
    obtain ⟨y, hy⟩ : ∃ y, items[i]? = some y := ⟨_, List.getElem?_eq_getElem (by omega)⟩
    have hlt : i < items.length := by omega
    rw [get_drop items i y hy, Sx.sizs] at hr
    simp only [f116l1s, Int.ofNat_lt, hlt, decide_true, ix_avs false items i y hy, sx_part, zf33, sto_sx, wx, cond_true, cond_false, List.getElem?_cons_zero, List.getElem?_cons_succ, Nat.reduceAdd, beq_self_eq_true, if_true, if_false, Nat.reduceEqDiff, reduceCtorEq, and_true, true_and, List.mem_nil_iff, List.not_mem_nil, if_true]
    refine callPu (ih0 y (List.mem_of_getElem? hy)) (by simp [sx_closed]) ?_
    simp only [f116j2, wx, cond_true, cond_false, List.getElem?_cons_zero, List.getElem?_cons_succ, Nat.reduceAdd, beq_self_eq_true, if_true, if_false, Nat.reduceEqDiff, reduceCtorEq, and_true, true_and, List.mem_nil_iff, List.not_mem_nil]
    rw [wrap_len i _ hlt hlen]
    exact ih (i + 1) _ _ (by omega) hr
theorem c116 : ∀ (x : Sx), x.ok = true → PureC Tryz.env 116 [x.av] (.int .i64 x.siz) := by
  refine fun x => sx_all (p := fun x => x.ok = true → PureC Tryz.env 116 [x.av] (.int .i64 x.siz)) (fun l k x p a items ih hok => ?_) x
  obtain ⟨h1, h2⟩ := ok_items hok
  refine pure_closed rfl (f116_run _ _ ?_)
  unfold f116
  refine ⟨sx_ones _, ?_⟩
  simp only [mk_cells, ln31s, avs_length, wx, cond_true, cond_false, List.getElem?_cons_zero, List.getElem?_cons_succ, Nat.reduceAdd, beq_self_eq_true, if_true, if_false, Nat.reduceEqDiff, reduceCtorEq, and_true, true_and, List.mem_nil_iff, List.not_mem_nil]
  exact ⟨items.length + 1, l116 items h1 (fun s hs => ih s hs (h2 s hs)) _ _ (fun _ => rfl) items.length 0 1 _ (by omega) rfl⟩
def stpp : List UInt8 := [115, 116, 114, 46, 43, 43]
def txtM (ps : List Sx) : Sx × Int := cond (ps.length == 0) (atS 6 [], 0) (cond (decide ((ps.length : Int) > 200)) (zeroSx0, 2) (match ps with
  | [p] => (p, 0)
  | _ => cond (decide ((lstS stpp ps).siz > 2000)) (zeroSx0, 2) (lstS stpp ps, 0)))
theorem lst_ok {nm : List UInt8} {l : List Sx} (h1 : nm.length ≤ maxLen) (h2 : l.length + 1 ≤ maxLen) (h : ∀ x ∈ l, x.ok = true) : (lstS nm l).ok = true := by
  have hl : Sx.oks l = true := by
    clear h2
    induction l with
    | nil => rfl
    | cons a l ih => simp only [Sx.oks, h a (List.mem_cons_self ..), ih fun x hx => h x (List.mem_cons_of_mem _ hx), Bool.and_self]
  have h0 : isInt 0 = true := by decide
  have h3 : isInt 3 = true := by decide
  simp [lstS, atS, Sx.ok, Sx.oks, hl, h0, h3, h1, h2]
theorem j61 (ps : List Sx) (hok : ∀ p ∈ ps, p.ok = true) (hps : ps.length ≤ 2 ^ 20) (n2 : Nat) (x : AV) (s : St) (fr : Fresh s) (g : Gw 33 6 0 s x (ps.map Sx.av)) (h2 : s.h n2 = some (.cells zeroB.cells 33 true true)) (hd : ∀ j ∈ idOf x, j ≠ n2) (hn2 : n2 < s.nx) :
    f61j1 (PureQ (.tup [(txtM ps).1.av, .int .i64 (txtM ps).2])) x (.ptr n2 0) s := by
  have h20 : (2 : Nat) ^ 20 = 1048576 := rfl
  have hl31 := fun n k => ln31g (g.adv (n := n)) k
  simp only [List.length_map] at hl31
  have hfin : ∀ (v : Sx) (e : Int) (q : St) (n : Nat), PureQ (.tup [v.av, .int .i64 e]) (.tup [v.av, .int .i64 e]) q := fun v e q n => pureQ_closed (by simp only [AV.closed, closedL, sx_closed v, Bool.and_self])
  have hzb : bld 33 [] = some zeroB := by rw [bf33]; rfl
  have hzq : ∀ q, PureQ (.tup [zeroSx0.av, .int .i64 2]) (.tup [zeroB, .int .i64 2]) q := fun q => ⟨[], rfl⟩
  have hstz : ∀ n, sto 6 (.ptr n2 0) zeroB (Ai.adv s n) = some (Ai.adv (s.set n2 (some (.cells zeroB.cells 33 true true))) n) := fun n => sto_all (z := 6) (by rw [adv_h]; exact h2) rfl rfl rfl
  have hsto : ∀ (v : Sx) n, sto 6 (.ptr n2 0) v.av (Ai.adv s n) = some (Ai.adv (s.set n2 (some (.cells v.av.cells 33 true true))) n) := fun v n => sto_all (z := 6) (by rw [adv_h]; exact h2) rfl (sx_len v) (sx_ones v)
  have hpz : Ai.part 6 true 0 zeroB.cells = some zeroB := rfl
  unfold f61j1
  simp only [hl31, wx, cond_true, cond_false, List.getElem?_cons_zero, List.getElem?_cons_succ, Nat.reduceAdd, beq_self_eq_true, if_true, if_false, Nat.reduceEqDiff, reduceCtorEq, and_true, true_and, List.mem_nil_iff, List.not_mem_nil]
  cases h0 : (ps.length == 0) with
  | true =>
    have e : txtM ps = (atS 6 [], 0) := by simp only [txtM, h0, cond_true]
    have h0' : (((ps.length : Nat) : Int) == 0) = true := by simpa using h0
    simp only [h0', wx, cond_true, cond_false, List.getElem?_cons_zero, List.getElem?_cons_succ, Nat.reduceAdd, beq_self_eq_true, if_true, if_false, Nat.reduceEqDiff, reduceCtorEq, and_true, true_and, List.mem_nil_iff, List.not_mem_nil]
    refine callPu (c58 6 []) (by simp [AV.closed]) ?_
    simp only [hsto, wx, cond_true, cond_false, List.getElem?_cons_zero, List.getElem?_cons_succ, Nat.reduceAdd, beq_self_eq_true, if_true, if_false, Nat.reduceEqDiff, reduceCtorEq, and_true, true_and, List.mem_nil_iff, List.not_mem_nil, if_true, sx_part, e]
    exact hfin _ _ _ 0
  | false =>
    have h0' : (((ps.length : Nat) : Int) == 0) = false := by simpa using h0
    simp only [h0', wx, cond_true, cond_false, List.getElem?_cons_zero, List.getElem?_cons_succ, Nat.reduceAdd, beq_self_eq_true, if_true, if_false, Nat.reduceEqDiff, reduceCtorEq, and_true, true_and, List.mem_nil_iff, List.not_mem_nil]
    cases h1 : decide ((ps.length : Int) > 200) with
    | true =>
      have h1' := h1
      have e : txtM ps = (zeroSx0, 2) := by simp only [txtM, h0, h1, cond_true, cond_false]
      simp only [h1', hzb, hstz, hpz, e, if_true, wx, cond_true, cond_false, List.getElem?_cons_zero, List.getElem?_cons_succ, Nat.reduceAdd, beq_self_eq_true, if_true, if_false, Nat.reduceEqDiff, reduceCtorEq, and_true, true_and, List.mem_nil_iff, List.not_mem_nil]
      exact hzq _
    | false =>
      have h1' := h1
      simp only [h1', wx, cond_true, cond_false, List.getElem?_cons_zero, List.getElem?_cons_succ, Nat.reduceAdd, beq_self_eq_true, if_true, if_false, Nat.reduceEqDiff, reduceCtorEq, and_true, true_and, List.mem_nil_iff, List.not_mem_nil]
      match ps, h0, h1, g, hl31, hok, hps with
      | [p], h0, h1, g, hl31, hok, hps =>
        have e : txtM [p] = (p, 0) := rfl
        obtain ⟨_, ⟨_, hbad⟩ | ⟨b, _, rfl, hb⟩⟩ := id g
        · simp at hbad
        · have hix : ixS 6 (.ref b 0 ([p].map Sx.av).length none 33) (.int .i64 0) = some (.ptr b 0) := rfl
          have hpt : Ai.part 6 true 0 (([p].map Sx.av).flatMap AV.cells) = some p.av := by
            simp only [List.map_cons, List.map_nil, List.flatMap_cons, List.flatMap_nil, List.append_nil, sx_part]
          simp only [show ((([p] : List Sx).length : Int) == 1) = true from rfl, hix, hb, hpt, hsto, e, sx_part, if_true, wx, cond_true, cond_false, List.getElem?_cons_zero, List.getElem?_cons_succ, Nat.reduceAdd, beq_self_eq_true, if_true, if_false, Nat.reduceEqDiff, reduceCtorEq, and_true, true_and, List.mem_nil_iff, List.not_mem_nil]
          exact hfin _ _ _ 0
      | p :: q :: ps, h0, h1, g, hl31, hok, hps =>
        have hne : ((((p :: q :: ps).length : Nat) : Int) == 1) = false := by simp; omega
        simp only [hne, f61j2, wx, cond_true, cond_false, List.getElem?_cons_zero, List.getElem?_cons_succ, Nat.reduceAdd, beq_self_eq_true, if_true, if_false, Nat.reduceEqDiff, reduceCtorEq, and_true, true_and, List.mem_nil_iff, List.not_mem_nil]
        refine c57 (l := p :: q :: ps) (M := idOf x) (by omega) fr.adv (fun s' hE => ?_) g.one.1 g.one.2 fun s' hE => ?_
        · have g' : Gw 33 6 0 s' x ((p :: q :: ps).map Sx.av) := (g.adv).ext fr.adv hE (fun _ _ h => by cases h)
          obtain ⟨ids, h3, h4⟩ := pur_map tf31 g' (fun a _ => sx_closed a) (fun a _ => by cases a; rfl) 10
          subst h4
          exact ⟨_, h3, fun i hi => ⟨hi, by have := g.id_lt fr i hi; simp only [adv_nx]; omega⟩⟩
        · have h2' : s'.h n2 = some (.cells zeroB.cells 33 true true) := by
            rw [hE.h n2 (by simp only [adv_nx]; omega) (fun hh => hd _ hh rfl)]; exact h2
          have hnx := hE.nx
          simp only [adv_nx] at hnx
          have hls : (lstS stpp (p :: q :: ps)).ok = true := lst_ok (by decide) (by have : maxLen = 9223372036854775807 := rfl; simp only [List.length_cons] at hps ⊢; omega) hok
          have ne1 : ∀ k, k < 16 → ((n2 = s.nx + k) = False) := fun k _ => by simp; omega
          have hpp : stpp = [115, 116, 114, 46, 43, 43] := rfl
          simp only [hpp] at hls
          have e : txtM (p :: q :: ps) = cond (decide ((lstS stpp (p :: q :: ps)).siz > 2000)) (zeroSx0, 2) (lstS stpp (p :: q :: ps), 0) := by simp only [txtM, h0, h1, cond_false]
          have hst2 : ∀ (v : AV) (N n k : Nat) (B : Blk), v.cells.length = 6 → v.cells.all AV.one = true → N ≠ n2 → sto 6 (.ptr n2 0) v (Ai.adv (s'.set N (some B)) n) = some (Ai.adv ((s'.set N (some B)).set n2 (some (.cells v.cells 33 true true))) n) := fun v N n k B e1 e2 hN =>
            sto_all (z := 6) (by rw [adv_h, st_other (fun h => hN h.symm)]; exact h2') rfl e1 e2
          simp only [zf33, sto_sx0, sx_part, if_true, wx, cond_true, cond_false, List.getElem?_cons_zero, List.getElem?_cons_succ, Nat.reduceAdd, beq_self_eq_true, if_true, if_false, Nat.reduceEqDiff, reduceCtorEq, and_true, true_and, List.mem_nil_iff, List.not_mem_nil]
          refine callPu (c116 _ hls) (by simp [sx_closed]) ?_
          rw [e]
          cases h4 : decide ((lstS stpp (p :: q :: ps)).siz > 2000) with
          | true =>
            simp only [← hpp, h4, hzb, wx, cond_true, cond_false, List.getElem?_cons_zero, List.getElem?_cons_succ, Nat.reduceAdd, beq_self_eq_true, if_true, if_false, Nat.reduceEqDiff, reduceCtorEq, and_true, true_and, List.mem_nil_iff, List.not_mem_nil]
            rw [hst2 _ _ _ 0 _ rfl rfl (by omega)]
            simp only [hpz, wx, cond_true, cond_false, List.getElem?_cons_zero, List.getElem?_cons_succ, Nat.reduceAdd, beq_self_eq_true, if_true, if_false, Nat.reduceEqDiff, reduceCtorEq, and_true, true_and, List.mem_nil_iff, List.not_mem_nil]
            exact hzq _
          | false =>
            simp only [← hpp, h4, sx_part, if_true, wx, cond_true, cond_false, List.getElem?_cons_zero, List.getElem?_cons_succ, Nat.reduceAdd, beq_self_eq_true, if_true, if_false, Nat.reduceEqDiff, reduceCtorEq, and_true, true_and, List.mem_nil_iff, List.not_mem_nil]
            rw [hst2 _ _ _ 0 _ (sx_len _) (sx_ones _) (by omega)]
            simp only [sx_part, wx, cond_true, cond_false, List.getElem?_cons_zero, List.getElem?_cons_succ, Nat.reduceAdd, beq_self_eq_true, if_true, if_false, Nat.reduceEqDiff, reduceCtorEq, and_true, true_and, List.mem_nil_iff, List.not_mem_nil]
            exact hfin _ _ _ 0
theorem c61 (LT : List (Int × Int) → Sx) (LG : Int × Int → Sx) (ok : Int × Int → Bool) (hL : ∀ (l : List (Int × Int)), (∀ r ∈ l, ok r = true) → greedy l 0 ≠ 0 → PureC Tryz.env 115 [.sl false ((l.take (greedy l 0)).map rnA)] (.tup [(LT (l.take (greedy l 0))).av, .int .i64 0]))
    (hG : ∀ r, ok r = true → ¬ (IntKind.i64.wrap (0 + r.2) ≤ 1000) → PureC Tryz.env 114 [rnA r] (LG r).av) (l : List (Int × Int)) (hok : ∀ p ∈ txtGo LT LG l.length l, p.ok = true) (hl : ∀ r ∈ l, ok r = true) (hlen : l.length ≤ 2 ^ 20) :
    PureC Tryz.env 61 [.sl false (l.map rnA)] (.tup [(txtM (txtGo LT LG l.length l)).1.av, .int .i64 (txtM (txtGo LT LG l.length l)).2]) := by
  refine pure_q (f61_run _ _ ?_)
  have h20 : (2 : Nat) ^ 20 = 1048576 := rfl
  have h24 : (2 : Nat) ^ 24 = 16777216 := rfl
  have hgo : ∀ n (l : List (Int × Int)), (txtGo LT LG n l).length ≤ n := by
    intro n
    induction n with
    | zero => intro l; simp [txtGo]
    | succ n ih =>
      intro l
      cases l with
      | nil => simp [txtGo]
      | cons r t =>
        simp only [txtGo]
        cases (greedy (r :: t) 0 == 0)
        · simp only [cond_false, List.length_cons]; have := ih ((r :: t).drop (greedy (r :: t) 0)); omega
        · simp only [cond_true, List.length_cons]; have := ih t; omega
  unfold f61
  simp only [zf33, wx, cond_true, cond_false, List.getElem?_cons_zero, List.getElem?_cons_succ, Nat.reduceAdd, beq_self_eq_true, if_true, if_false, Nat.reduceEqDiff, reduceCtorEq, and_true, true_and, List.mem_nil_iff, List.not_mem_nil]
  refine ⟨l.length + 1, l61a LT LG _ ok hL hG _ (2 ^ 24) (by omega) (txtGo LT LG l.length l) (.cells zeroB.cells 33 true true) St.empty.nx rfl (fun x s fr g h2 hd hn2 => j61 _ hok (by have := hgo l.length l; omega) _ x s fr g h2 hd hn2) l.length false l .nils [] _ (by omega) (by simp; omega) hl ?_ gw_nil ?_ (fun j hj => by cases hj) (by decide) rfl⟩
  · exact fresh_set fresh_empty _ (by omega)
  · rw [adv_h, st_same]; rfl
def expand (a : List (Int × Int)) : List Int := a.flatMap fun r => List.replicate r.2.toNat r.1
def runOk (r : Int × Int) : Bool := point r.1 && decide (1 ≤ r.2) && decide (r.2 ≤ 2 ^ 40)
def sumR : List (Int × Int) → Int
  | [] => 0
  | r :: l => r.2 + sumR l
theorem sumR_pos : ∀ (l : List (Int × Int)), (∀ r ∈ l, runOk r = true) → 0 ≤ sumR l := by
  intro l
  induction l with
  | nil => intro _; exact Int.le_refl 0
  | cons r l ih =>
    intro h
    have h1 := h r (List.mem_cons_self ..)
    simp only [runOk, Bool.and_eq_true, decide_eq_true_eq] at h1
    have := ih fun x hx => h x (List.mem_cons_of_mem _ hx)
    simp only [sumR]; omega
theorem greedy_sum : ∀ (l : List (Int × Int)) (n : Int), (∀ r ∈ l, runOk r = true) → 0 ≤ n → n ≤ 1000 → n + sumR (l.take (greedy l n)) ≤ 1000 := by
  intro l
  induction l with
  | nil => intro n _ _ h; simpa [greedy, sumR] using h
  | cons r l ih =>
    intro n h h0 h1
    have hr := h r (List.mem_cons_self ..)
    simp only [runOk, Bool.and_eq_true, decide_eq_true_eq] at hr
    have hw : IntKind.i64.wrap (n + r.2) = n + r.2 := IntWalk.i64_in _ (by omega)
    simp only [greedy, hw]
    cases hd : decide (n + r.2 ≤ 1000) with
    | true =>
      have := ih (n + r.2) (fun x hx => h x (List.mem_cons_of_mem _ hx)) (by omega) (of_decide_eq_true hd)
      simp only [cond_true, List.take_succ_cons, sumR]; omega
    | false => simp only [cond_false, List.take_zero, sumR]; omega
theorem listGo_exp : ∀ (a : List (Int × Int)) (out : List Int), (∀ r ∈ a, runOk r = true) → (out.length : Int) + sumR a ≤ 1000 → listGo 1000 a out = some (out ++ expand a) := by
  intro a
  induction a with
  | nil => intro out _ _; simp [listGo, expand]
  | cons r a ih =>
    intro out h hs
    have hr := h r (List.mem_cons_self ..)
    simp only [runOk, Bool.and_eq_true, decide_eq_true_eq] at hr
    have hp := sumR_pos a fun x hx => h x (List.mem_cons_of_mem _ hx)
    simp only [sumR] at hs
    have hw : IntKind.i64.wrap (1000 - (out.length : Int)) = 1000 - out.length := IntWalk.i64_in _ (by omega)
    have hd : decide (r.2 > 1000 - (out.length : Int)) = false := by simp; omega
    simp only [listGo, hw, hd, cond_false]
    rw [ih _ (fun x hx => h x (List.mem_cons_of_mem _ hx)) (by simp; omega)]
    simp [expand]
theorem expand_len (a : List (Int × Int)) (h : ∀ r ∈ a, runOk r = true) : ((expand a).length : Int) = sumR a := by
  induction a with
  | nil => rfl
  | cons r a ih =>
    have hr := h r (List.mem_cons_self ..)
    simp only [runOk, Bool.and_eq_true, decide_eq_true_eq] at hr
    have := ih fun x hx => h x (List.mem_cons_of_mem _ hx)
    simp only [expand, List.flatMap_cons, List.length_append, List.length_replicate, sumR] at this ⊢
    omega
theorem chunk_list (l : List (Int × Int)) (h : ∀ r ∈ l, runOk r = true) : listM (l.take (greedy l 0)) 1000 = (expand (l.take (greedy l 0)), 0) ∧ (expand (l.take (greedy l 0))).length ≤ 1000 := by
  have ht : ∀ r ∈ l.take (greedy l 0), runOk r = true := fun r hr => h r (List.mem_of_mem_take hr)
  have hs := greedy_sum l 0 h (by omega) (by omega)
  have hb : (l.take (greedy l 0)).any bad = false := by
    rw [List.any_eq_false]
    intro r hr
    have := ht r hr
    simp only [runOk, Bool.and_eq_true, decide_eq_true_eq] at this
    simp [bad, this.1.1]; omega
  have he := expand_len _ ht
  refine ⟨?_, by omega⟩
  simp only [listM, hb, cond_false]
  rw [listGo_exp _ [] ht (by simp; omega)]
  rfl
end Go.Proofs.YtdehdahimkcakaaGreatDoor
end
section
set_option linter.unusedVariables false
set_option linter.unusedSimpArgs false
set_option maxRecDepth 100000
set_option maxHeartbeats 4000000
namespace Go.Proofs.YtdehdahimkcakaaGreatDoor
open Go Ai
def xscP (c : Int) : List UInt8 := bif asc c then [ascB c] else [92, 117, 123] ++ hexM c.toNat ++ [125]
def xscM (l : List Int) : List UInt8 := l.flatMap xscP
theorem hexGo_len (f : Nat) : ∀ (n : Nat) (acc : List UInt8), (hexGo f n acc).length ≤ f + 1 + acc.length := by
  induction f with
  | zero => intro n acc; simp [hexGo]; omega
  | succ f ih =>
    intro n acc
    simp only [hexGo]
    cases Nat.ble 16 n with
    | true => have := ih (n / 16) (dig n :: acc); simp only [cond_true]; rw [List.length_cons] at this; omega
    | false => simp only [cond_false, List.length_cons]; omega
theorem xscP_len (c : Int) : (xscP c).length ≤ 21 := by
  unfold xscP
  cases asc c with
  | true => simp
  | false =>
    have := hexGo_len 16 c.toNat []
    simp only [cond_false, List.length_append, List.length_cons, List.length_nil, hexM] at this ⊢
    omega
theorem xscM_len (l : List Int) : (xscM l).length ≤ 21 * l.length := by
  induction l with
  | nil => exact Nat.le_refl _
  | cons c l ih =>
    have := xscP_len c
    have e : xscM (c :: l) = xscP c ++ xscM l := rfl
    rw [e, List.length_append, List.length_cons]; omega
theorem l167g (ex : Bool) (l : List Int) (hl : l.length ≤ 1000) (ha : ∀ c ∈ l, point c = true) (Q : AV → St → Prop) (lo id : Nat) (hQ : ∀ s, Q (.tup [.str (xscM l), .int .i64 0]) s) :
    ∀ (m i : Nat) (s : St), i + m = l.length → Fresh s → lo ≤ s.nx → Bd lo s id (xscM (l.take i)) → f167l1 Q (m + 1) (.ptr id 0) (.sl ex (l.map inA)) (.int .i64 l.length) (.int .i64 i) s := by
  intro m
  induction m with
  | zero =>
    intro i s hi fr hlo hb
    show f167l1s Q (f167l1 Q 0) _ _ _ _ s
    rw [List.take_of_length_le (by omega)] at hb
    have := xscM_len l
    simp only [f167l1s, f167j1, Int.ofNat_lt, show ¬ (i < l.length) by omega, decide_false, wx, cond_true, cond_false, List.getElem?_cons_zero, List.getElem?_cons_succ, Nat.reduceAdd, beq_self_eq_true, if_true, if_false, Nat.reduceEqDiff, reduceCtorEq, and_true, true_and, List.mem_nil_iff, List.not_mem_nil]
    exact bstr hb.adv fr.adv (by omega) fun s' => hQ s'
  | succ m ihm =>
    intro i s hi fr hlo hb
    obtain ⟨c, hc⟩ : ∃ c, l[i]? = some c := ⟨_, List.getElem?_eq_getElem (by omega)⟩
    have hix := ix_in ex l i c hc
    have hlt : i < l.length := by omega
    have hpt := ha c (List.mem_of_getElem? hc)
    have hln : (xscM (l.take i)).length ≤ 21 * 1000 := by
      have := xscM_len (l.take i)
      rw [List.length_take] at this; omega
    have e : xscM (l.take (i + 1)) = xscM (l.take i) ++ xscP c := by
      rw [List.take_add_one, hc]; simp [xscM]
    have hj : ∀ s, Fresh s → lo ≤ s.nx → Bd lo s id (xscM (l.take i) ++ xscP c) → f167j2 Q (f167l1 Q (m + 1)) (.int .i64 i) (.ptr id 0) (.sl ex (l.map inA)) (.int .i64 l.length) s := by
      intro s fr hlo hb
      unfold f167j2
      simp only [wx, cond_true, cond_false, List.getElem?_cons_zero, List.getElem?_cons_succ, Nat.reduceAdd, beq_self_eq_true, if_true, if_false, Nat.reduceEqDiff, reduceCtorEq, and_true, true_and, List.mem_nil_iff, List.not_mem_nil]
      rw [wrap_len i _ hlt (by have : maxLen = 9223372036854775807 := rfl; omega)]
      exact ihm (i + 1) _ (by omega) fr.adv (by simp only [adv_nx]; omega) (by rw [e]; exact hb.adv)
    show f167l1s Q (f167l1 Q (m + 1)) _ _ _ _ s
    simp only [f167l1s, Int.ofNat_lt, hlt, decide_true, hix, wx, cond_true, cond_false, List.getElem?_cons_zero, List.getElem?_cons_succ, Nat.reduceAdd, beq_self_eq_true, if_true, if_false, Nat.reduceEqDiff, reduceCtorEq, and_true, true_and, List.mem_nil_iff, List.not_mem_nil]
    refine callPu (c181 c) (by simp [AV.closed]) ?_
    cases hac : asc c with
    | true =>
      have hby := ascB_by hac
      have hac' := hac
      simp only [asc, Bool.and_eq_true] at hac'
      obtain ⟨a1, a2, a3⟩ := hac'
      have ee : xscP c = [ascB c] := by simp [xscP, hac]
      rw [ee] at hj
      simp only [hpt, a1, a2, a3, cv35, hby, wx, cond_true, cond_false, List.getElem?_cons_zero, List.getElem?_cons_succ, Nat.reduceAdd, beq_self_eq_true, if_true, if_false, Nat.reduceEqDiff, reduceCtorEq, and_true, true_and, List.mem_nil_iff, List.not_mem_nil]
      refine wb hb.adv (fr.adv) (by simp only [adv_nx]; omega) (by omega) fun s' hb' hk => ?_
      obtain ⟨k1, k2, k3⟩ := hk
      simp only [adv_nx] at k1
      exact hj _ k2 (by omega) hb'
    | false =>
      have ee : xscP c = [92, 117, 123] ++ hexM c.toNat ++ [125] := by simp [xscP, hac]
      rw [ee] at hj
      have hpt' := hpt
      simp only [point, Bool.and_eq_true, decide_eq_true_eq] at hpt'
      have hc0 : c = ((c.toNat : Nat) : Int) := by omega
      have hfi := c207 c.toNat (by omega)
      rw [← hc0] at hfi
      have hxl : (hexM c.toNat).length ≤ 17 := by have := hexGo_len 16 c.toNat []; exact this
      have hk : ∀ s, Fresh s → lo ≤ s.nx → Bd lo s id (xscM (l.take i)) → CallPu Tryz.env 207 [.int .i64 c, .int .i64 16] s fun t14 s7 => Bnd (bn .add 9 (.str [92, 117, 123]) t14) fun t15 => Bnd (bn .add 9 t15 (.str [125])) fun t16 => CallWi Tryz.env 156 [.ptr id 0, t16] s7 fun t17 s8 => f167j2 Q (f167l1 Q (m + 1)) (.int .i64 i) (.ptr id 0) (.sl ex (l.map inA)) (.int .i64 l.length) s8 := by
        intro s fr hlo hb
        refine callPu hfi (by simp [AV.closed]) ?_
        rw [add_str (by simp only [List.length_cons, List.length_nil]; omega)]
        simp only [Bnd_some]
        rw [add_str (by simp only [List.length_append, List.length_cons, List.length_nil]; omega)]
        simp only [Bnd_some]
        refine ws hb fr hlo (by simp only [List.length_append, List.length_cons, List.length_nil]; omega) fun s' hb' hk => ?_
        obtain ⟨k1, k2, k3⟩ := hk
        exact hj _ k2 (by omega) hb'
      simp only [asc, Bool.and_eq_false_iff] at hac
      cases a1 : decide (c ≥ 32) with
      | false =>
        simp only [hpt, a1, wx, cond_true, cond_false, List.getElem?_cons_zero, List.getElem?_cons_succ, Nat.reduceAdd, beq_self_eq_true, if_true, if_false, Nat.reduceEqDiff, reduceCtorEq, and_true, true_and, List.mem_nil_iff, List.not_mem_nil]
        exact hk _ fr.adv (by simp only [adv_nx]; omega) hb.adv
      | true =>
        cases a2 : decide (c ≤ 126) with
        | false =>
          simp only [hpt, a1, a2, wx, cond_true, cond_false, List.getElem?_cons_zero, List.getElem?_cons_succ, Nat.reduceAdd, beq_self_eq_true, if_true, if_false, Nat.reduceEqDiff, reduceCtorEq, and_true, true_and, List.mem_nil_iff, List.not_mem_nil]
          exact hk _ fr.adv (by simp only [adv_nx]; omega) hb.adv
        | true =>
          have a3 : (c != 92) = false := by rw [a1, a2] at hac; simpa using hac
          simp only [hpt, a1, a2, a3, wx, cond_true, cond_false, List.getElem?_cons_zero, List.getElem?_cons_succ, Nat.reduceAdd, beq_self_eq_true, if_true, if_false, Nat.reduceEqDiff, reduceCtorEq, and_true, true_and, List.mem_nil_iff, List.not_mem_nil]
          exact hk _ fr.adv (by simp only [adv_nx]; omega) hb.adv
theorem c167g (ex : Bool) (l : List Int) (hl : l.length ≤ 1000) (ha : ∀ c ∈ l, point c = true) : PureC Tryz.env 167 [.sl ex (l.map inA)] (.tup [.str (xscM l), .int .i64 0]) := by
  refine pure_closed rfl (f167_run _ _ ?_)
  unfold f167
  simp only [zr163, len72s, List.length_map, Bnd_some]
  refine ⟨l.length + 1, ?_⟩
  refine l167g ex l hl ha _ 3 2 (fun _ => rfl) l.length 0 _ (by omega) ((fresh_empty.adv.set (by decide)).adv) (by decide) ?_
  exact ⟨by decide, .nilp, .nils, .inl rfl, by rw [adv_h]; exact st_same, gw_nil, fun _ => rfl⟩
theorem expand_pt (l : List (Int × Int)) (h : ∀ r ∈ l, runOk r = true) : ∀ c ∈ expand l, point c = true := by
  intro c hc
  unfold expand at hc
  obtain ⟨r, hr, hc⟩ := List.mem_flatMap.1 hc
  have h1 := h r hr
  have h2 := (List.mem_replicate.1 hc).2
  simp only [runOk, Bool.and_eq_true] at h1
  rw [h2]; exact h1.1.1
theorem c115g (ex : Bool) (l : List (Int × Int)) (hcl : (AV.sl ex (l.map rnA)).closed = true) (hlen : l.length ≤ maxLen) (out : List Int) (hm : listM l 1000 = (out, 0)) (hl : out.length ≤ 1000) (ha : ∀ c ∈ out, point c = true) :
    PureC Tryz.env 115 [.sl ex (l.map rnA)] (.tup [(atS 6 (xscM out)).av, .int .i64 0]) := by
  refine pure_closed rfl (f115_run _ _ ?_)
  unfold f115
  simp only [zr33, Bnd_some]
  have h1 := c166 ex l hlen 1000 (by omega) (by omega)
  rw [hm] at h1
  have hcl2 : (AV.sl false (out.map inA)).closed = true := by
    simp only [AV.closed, Bool.not_false, Bool.true_and]
    exact closedL_map _ _ fun _ => rfl
  refine callPu h1 (by simp only [List.mem_cons, List.mem_nil_iff, or_false, forall_eq_or_imp, forall_eq]; exact ⟨hcl, rfl⟩) ?_
  simp only [tupS, bn34n, wx, cond_true, cond_false, List.getElem?_cons_zero, List.getElem?_cons_succ, Nat.reduceAdd, beq_self_eq_true, if_true, if_false, Nat.reduceEqDiff, reduceCtorEq, and_true, true_and, List.mem_nil_iff, List.not_mem_nil, show ((0 : Int) != 0) = false from rfl]
  refine callPu (c167g false out hl ha) (by simp only [List.mem_cons, List.mem_nil_iff, or_false, forall_eq]; exact hcl2) ?_
  simp only [wx, cond_true, cond_false, List.getElem?_cons_zero, List.getElem?_cons_succ, Nat.reduceAdd, beq_self_eq_true, if_true, if_false, Nat.reduceEqDiff, reduceCtorEq, and_true, true_and, List.mem_nil_iff, List.not_mem_nil]
  refine callPu (c58 6 (xscM out)) (by simp [AV.closed]) ?_
  rw [sto_at (by simp only [adv_h, st_same]) 6 (xscM out) (.inr rfl)]
  simp only [Bnd_some]
  rw [st_same]
  rfl
end Go.Proofs.YtdehdahimkcakaaGreatDoor
end
section
set_option linter.unusedVariables false
set_option linter.unusedSimpArgs false
set_option maxRecDepth 100000
set_option maxHeartbeats 4000000
namespace Go.Proofs.YtdehdahimkcakaaGreatDoor
open Go Ai
theorem digA_len : ∀ f u, (digA f u).length ≤ f := by
  intro f
  induction f with
  | zero => intro u; exact Nat.le_refl _
  | succ f ih =>
    intro u
    simp only [digA]
    cases Nat.blt u 10 with
    | true => simp
    | false => simp only [cond_false, List.length_append, List.length_cons, List.length_nil]; have := ih (u / 10); omega
theorem itoaL_len (n : Int) : (itoaL n).length ≤ 21 := by
  unfold itoaL
  split
  · have := digA_len 20 n.natAbs; simp; omega
  · have := digA_len 20 n.toNat; omega
theorem c206 (n : Int) (h0 : -9223372036854775808 ≤ n) (h1 : n ≤ 9223372036854775807) : PureC Tryz.env 206 [.int .i64 n] (.str (itoaL n)) :=
  pure_q ⟨_, _, prim_f (g := itoaA) (by kernel_rfl) (by simp only [itoaA, h0, h1, and_self, if_true]; rfl), pureQ_closed rfl⟩
def halfS (k : Nat) : Sx := atS 3 (100 :: itoaL k)
theorem c163 (k : Nat) (hk : k < 2 ^ 62) : PureC Tryz.env 163 [.int .i64 k] (halfS k).av := by
  refine pure_q (f163_run _ _ ?_)
  unfold f163
  simp only [zf33, wx, cond_true, cond_false, List.getElem?_cons_zero, List.getElem?_cons_succ, Nat.reduceAdd, beq_self_eq_true, if_true, if_false, Nat.reduceEqDiff, reduceCtorEq, and_true, true_and, List.mem_nil_iff, List.not_mem_nil]
  refine callPu (c206 k (by omega) (by omega)) (by simp [AV.closed]) ?_
  have := itoaL_len k
  rw [add_str (x := [100]) (by simp only [List.length_cons, List.length_nil]; omega)]
  simp only [Bnd_some]
  refine callPu (c56 _) (by simp [AV.closed]) ?_
  rw [sto_sx]
  simp only [wx, cond_true, cond_false, List.getElem?_cons_zero, List.getElem?_cons_succ, Nat.reduceAdd, beq_self_eq_true, if_true, if_false, Nat.reduceEqDiff, reduceCtorEq, and_true, true_and, List.mem_nil_iff, List.not_mem_nil, sx_part]
  exact pureQ_closed (sx_closed (halfS k))
theorem rch0 (s : St) (k : IntKind) (n : Int) (f : FuncId) : rch s [.fn f [] [], .int k n] = [] := rfl
theorem bsl_two {t e : TypeId} {z b : Nat} {ag : Bool} (h : SlTy t e z ag b) (hm : 2 * z ≤ 2 ^ 24) {v w : AV} (hv : v.cells.length = z) (ho : v.cells.all AV.one = true) (hv' : w.cells.length = z) (ho' : w.cells.all AV.one = true) : bsl t 2 [(0, v), (1, w)] = some (.sl true [v, w]) := by
  have h4 := h.zr
  cases hz : zero Tryz.ty e with
  | none => rw [hz] at h4; cases h4
  | some zv =>
    rw [hz] at h4
    simp only [Option.map_some, Option.some.injEq] at h4
    simp [buildSl, h.u, h.l, hz, h4, h.pos, hm, setParts, hv, ho, hv', ho', List.replicate]
def bindS (k : Nat) (v : Sx) : Sx := .mk true 0 [] 0 0 [.mk true 0 [] 0 0 [halfS k, v]]
def letN : List UInt8 := [108, 101, 116]
def aroundM (k : Nat) (v y : Sx) : Sx := lstS letN [bindS k v, y]
def rawA (l : List AV) : AV := .agg [.bool true, .int .i64 0, .str [], .int .i64 0, .int .i64 0, .sl true l]
theorem raw_b (l : List AV) : bld 33 [(0, .bool true), (3, .sl true l)] = some (rawA l) := by rw [bf33]; rfl
theorem raw_len (l : List AV) : (rawA l).cells.length = 6 := rfl
theorem raw_ones (l : List AV) : (rawA l).cells.all AV.one = true := rfl
theorem raw_part (l : List AV) : Ai.part 6 true 0 (rawA l).cells = some (rawA l) := rfl
theorem purL_two {f : AV → Option (AV × List Nat)} {a b a' b' : AV} (h1 : f a = some (a', [])) (h2 : f b = some (b', [])) : purL f [a, b] = some ([a', b'], []) := by
  simp only [purL, h1, h2]; rfl
theorem pur_raw {s : St} {k : Nat} {l l' : List AV} (h : purL (pur Tryz.env.P s k) l = some (l', [])) : pur Tryz.env.P s (k + 2) (rawA l) = some (.agg [.bool true, .int .i64 0, .str [], .int .i64 0, .int .i64 0, .sl false l'], []) := by
  have h1 : pur Tryz.env.P s (k + 1) (.sl true l) = some (.sl false l', []) := by
    unfold pur
    rw [if_neg (by simp [AV.closed])]
    simp only [h, Option.map_some]
  have h2 : ∀ v : AV, v.closed = true → pur Tryz.env.P s (k + 1) v = some (v, []) := fun v hv => pur_closed (k + 1) hv
  conv => lhs; unfold pur rawA
  rw [if_neg (by simp [AV.closed, closedL])]
  simp only [purL, h1, h2 (.bool true) rfl, h2 (.int .i64 0) rfl, h2 (.str []) rfl]
  rfl
theorem pur_letargs {s : St} (k : Nat) (v y : Sx) : pur Tryz.env.P s 11 (.sl true [rawA [rawA [(halfS k).av, v.av]], y.av]) = some (lsA [bindS k v, y], []) := by
  have a1 := pur_raw (s := s) (k := 6) (l := [(halfS k).av, v.av]) (l' := [(halfS k).av, v.av]) (purL_closed 6 (by simp only [closedL, sx_closed, Bool.and_self]))
  have a2 := pur_raw (s := s) (k := 8) (l := [rawA [(halfS k).av, v.av]]) (by simp only [purL, a1]; rfl)
  unfold pur
  rw [if_neg (by simp [AV.closed])]
  simp only [purL_two a2 (pur_closed 10 (sx_closed y)), Option.map_some]
  rfl
theorem nbeq_add (n k : Nat) : Nat.beq n (n + (k + 1)) = false := by
  cases h : Nat.beq n (n + (k + 1)) with
  | false => rfl
  | true => have := Nat.eq_of_beq_eq_true h; omega
theorem c165 {s : St} {K : AV → St → Prop} {n6 : Nat} (k : Nat) (hk : k < 2 ^ 62) (v y : Sx) (fr : Fresh s) (h6 : s.h n6 = some (.cells y.av.cells 33 true true)) (hK : ∀ s', EF [n6] s s' → s'.h n6 = some (.cells (aroundM k v y).av.cells 33 true true) → K (.tup []) s') :
    CallWi Tryz.env 165 [.int .i64 k, v.av, .ptr n6 0] s K := by
  have hlt : n6 < s.nx := by
    by_cases hc : n6 < s.nx
    · exact hc
    · rw [fr n6 (by omega)] at h6; cases h6
  refine callWiF (by kernel_rfl) (f165_run _ _ _ _ ?_)
  unfold f165
  refine ⟨sx_ones v, ?_⟩
  rw [rch0]
  refine callPuD (c163 k hk) (by simp [AV.closed]) ?_
  have b2 := bsl_two tf31 (by decide) (sx_len (halfS k)) (sx_ones (halfS k)) (sx_len v) (sx_ones v)
  have b1 : ∀ l, bsl 31 1 [(0, rawA l)] = some (.sl true [rawA l]) := fun l => bsl_one tf31 (by decide) (raw_len l) (raw_ones l)
  have b3 : ∀ l, bsl 31 2 [(0, rawA l), (1, y.av)] = some (.sl true [rawA l, y.av]) := fun l => bsl_two tf31 (by decide) (raw_len l) (raw_ones l) (sx_len y) (sx_ones y)
  have z1 : s.h (s.nx + 6) = none := fr _ (by omega)
  have z2 : s.h (s.nx + 7) = none := fr _ (by omega)
  simp only [wx, cond_true, cond_false, List.getElem?_cons_zero, List.getElem?_cons_succ, Nat.reduceAdd, beq_self_eq_true, if_true, if_false, Nat.reduceEqDiff, reduceCtorEq, and_true, true_and, List.mem_nil_iff, List.not_mem_nil, sx_part, b2, raw_b]
  refine ⟨by simp only [clear, List.all_cons, List.all_nil, Mark.apart, okLo, disj_nil, bit_of, Nat.reduceShiftRight, Nat.reduceMod, Bool.not_true, Bool.not_false, Option.isNone_none, Option.isNone_some, decide_true, decide_false, Nat.reduceEqDiff, Nat.zero_ne_one, wx, cond_true, cond_false, List.getElem?_cons_zero, List.getElem?_cons_succ, Nat.reduceAdd, beq_self_eq_true, if_true, if_false, Nat.reduceEqDiff, reduceCtorEq, and_true, true_and, List.mem_nil_iff, List.not_mem_nil]; simp [disj, memB, nbeq_add], ?_⟩
  simp only [zf33, z1, z2, wx, cond_true, cond_false, List.getElem?_cons_zero, List.getElem?_cons_succ, Nat.reduceAdd, beq_self_eq_true, if_true, if_false, Nat.reduceEqDiff, reduceCtorEq, and_true, true_and, List.mem_nil_iff, List.not_mem_nil]
  rw [sto_all (z := 6) (v := rawA [(halfS k).av, v.av]) (by simp only [adv_h, st_same]; rfl) rfl (raw_len _) (raw_ones _)]
  simp only [wx, cond_true, cond_false, List.getElem?_cons_zero, List.getElem?_cons_succ, Nat.reduceAdd, beq_self_eq_true, if_true, if_false, Nat.reduceEqDiff, reduceCtorEq, and_true, true_and, List.mem_nil_iff, List.not_mem_nil, raw_part, b1, raw_b, old_ne hlt, old_ne0 hlt, h6, sx_part, b3]
  have E1 : EF [] s (Ai.adv ((s.set s.nx (some (.cells v.av.cells 33 true true))).set (s.nx + 6) (some (.cells (rawA [(halfS k).av, v.av]).cells 33 true true))) 15) :=
    (((EF.refl [] fr).adv (n := 15)).set (i := s.nx) (by simp only [adv_nx]; omega) (.inl (Nat.le_refl _))).set (i := s.nx + 6) (by simp only [adv_nx, set_nx]; omega) (.inl (by omega))
  refine c57 (l := [bindS k v, y]) (M := []) (by simp) E1.fr (fun s' he => ⟨[], pur_letargs k v y, fun i hi => by cases hi⟩) rfl rfl fun s' he => ?_
  have h6' : s'.h n6 = some (.cells y.av.cells 33 true true) := by
    rw [he.h n6 (by simp only [adv_nx, set_nx]; omega) (by simp), adv_h, st_other (by omega), st_other (by omega)]; exact h6
  have E2 := E1.trans he (fun i hi => by cases hi)
  rw [sto_all (z := 6) h6' (sx_len y) (sx_len _) (sx_ones _)]
  simp only [Bnd_some]
  have hnx := E2.nx
  exact hK _ ((E2.sub (M' := [n6]) (fun i hi => by cases hi)).set (by omega) (.inr (by simp))) (by rw [st_same]; rfl)
def flt (l : List Sx) : List AV := (l.map Sx.av).flatMap AV.cells
theorem flt_app (a b : List Sx) : flt (a ++ b) = flt a ++ flt b := by simp [flt]
theorem flt_cons (x : Sx) (b : List Sx) : flt (x :: b) = x.av.cells ++ flt b := by simp [flt]
theorem flt_len (a : List Sx) : (flt a).length = a.length * 6 := by
  induction a with
  | nil => rfl
  | cons x a ih => rw [flt_cons, List.length_append, sx_len, ih, List.length_cons]; omega
theorem sx_agg (y : Sx) : AV.agg y.av.cells = y.av := by cases y; rfl
theorem ld6 {l : List Sx} {k i : Nat} {y : Sx} {e : TypeId} {ex wr : Bool} {s : St} (hs : s.h i = some (.cells (flt l) e ex wr)) (hk : l[k]? = some y) : ld 6 true (.ptr i (k * 6)) s = some y.av := by
  have h := drop_flat (z := 6) (vs := l.map Sx.av) (i := k) (v := y.av) (fun v hv => by obtain ⟨a, _, rfl⟩ := List.mem_map.1 hv; exact sx_len a) (by rw [List.getElem?_map, hk]; rfl)
  rw [ld_ptr, hs]
  simp only [part_agg]
  unfold flt
  rw [if_pos h.2, h.1, sx_agg]
theorem sto6 {A B : List Sx} {y v : Sx} {i : Nat} {e : TypeId} {ex : Bool} {s : St} (hs : s.h i = some (.cells (flt (A ++ y :: B)) e ex true)) : sto 6 (.ptr i (A.length * 6)) v.av s = some (s.set i (some (.cells (flt (A ++ v :: B)) e ex true))) := by
  show Ai.store 6 (.ptr i (A.length * 6)) v.av s = _
  unfold Ai.store
  simp only [hs]
  rw [if_pos ⟨sx_len v, by rw [flt_len, List.length_append, List.length_cons]; omega, sx_ones v⟩]
  have := many_in v.av.cells (flt A) (y.av.cells ++ flt B) (by rw [List.length_append, sx_len, sx_len]; omega)
  rw [flt_app, flt_cons, ← flt_len A, this, sx_len, flt_app, flt_cons, List.append_assoc]
  rw [show (y.av.cells ++ flt B).drop 6 = flt B by rw [← sx_len y, List.drop_left]]
theorem two_ends {α : Type} (l : List α) (h : 2 ≤ l.length) : ∃ x m y, l = x :: (m ++ [y]) := by
  match l, h with
  | x :: t, h =>
    have ht : t ≠ [] := by intro h0; subst h0; simp at h
    exact ⟨x, t.dropLast, t.getLast ht, by rw [List.dropLast_concat_getLast]⟩
theorem l164 (Q : AV → St → Prop) (s0 : St) (id N : Nat) (hN : N ≤ 2 ^ 40) (hid : id < s0.nx) (e : TypeId) (ex : Bool) (r : List Sx) (hQ : ∀ s', EF [id] s0 s' → s'.h id = some (.cells (flt r) e ex true) → Q (.tup []) s') :
    ∀ (m : Nat) (A mid B : List Sx) (s : St), mid.length ≤ m → A.length + mid.length + B.length = N → EF [id] s0 s → s.h id = some (.cells (flt (A ++ mid ++ B)) e ex true) → A ++ mid.reverse ++ B = r →
      f164l1 Q (m + 1) (.ref id 0 N none 33) (.int .i64 A.length) (.int .i64 ((A.length : Int) + mid.length - 1)) s := by
  intro m
  induction m with
  | zero =>
    intro A mid B s hm hn ef hs hr
    have : mid = [] := List.length_eq_zero_iff.1 (by omega)
    subst this
    have h1 : decide ((A.length : Int) < (A.length : Int) + (([] : List Sx).length : Int) - 1) = false := by simp; omega
    show f164l1s Q (f164l1 Q 0) _ _ _ s
    simp only [f164l1s, h1, wx, cond_true, cond_false, List.getElem?_cons_zero, List.getElem?_cons_succ, Nat.reduceAdd, beq_self_eq_true, if_true, if_false, Nat.reduceEqDiff, reduceCtorEq, and_true, true_and, List.mem_nil_iff, List.not_mem_nil]
    exact hQ _ ef.adv (by rw [adv_h, hs, ← hr]; rfl)
  | succ m ih =>
    intro A mid B s hm hn ef hs hr
    show f164l1s Q (f164l1 Q (m + 1)) _ _ _ s
    by_cases h2 : 2 ≤ mid.length
    · obtain ⟨x, mm, y, hmid⟩ := two_ends mid h2
      subst hmid
      simp only [List.length_cons, List.length_append, List.length_nil] at hm hn ⊢
      obtain ⟨J, hJ⟩ : ∃ J, J = A.length + mm.length + 1 := ⟨_, rfl⟩
      have hj : ((A.length : Int) + ((mm.length + (0 + 1) + 1 : Nat) : Int) - 1) = (J : Int) := by omega
      rw [hj]
      have h1 : decide ((A.length : Int) < (J : Int)) = true := by simp; omega
      have i1 := ix_ref (e := 33) (z := 6) (i := A.length) (id := id) (off := 0) (n := N) (c := none) (by omega) .i64
      have i2 := ix_ref (e := 33) (z := 6) (i := J) (id := id) (off := 0) (n := N) (c := none) (by omega) .i64
      rw [Nat.zero_add] at i1 i2
      have hnx := ef.nx
      have z1 : s.h (s.nx + 16) = none := ef.fr _ (by omega)
      have z2 : s.h (s.nx + 18) = none := ef.fr _ (by omega)
      have hs0 : ∀ n, (Ai.adv s n).h id = some (.cells (flt (A ++ x :: (mm ++ y :: B))) e ex true) := fun n => by
        rw [adv_h, hs]; simp
      have lx := ld6 (k := A.length) (y := x) (hs0 19) (by simp)
      have ly := ld6 (k := J) (y := y) (hs0 19) (by
        rw [List.getElem?_append_right (by omega), show J - A.length = mm.length + 1 by omega, List.getElem?_cons_succ, List.getElem?_append_right (by omega)]; simp)
      have hs1 : ((Ai.adv s 19).set id (some (.cells (flt (A ++ y :: (mm ++ y :: B))) e ex true))).h id = some (.cells (flt ((A ++ y :: mm) ++ y :: B)) e ex true) := by rw [st_same]; simp
      have hst := sto6 (v := x) hs1
      rw [show (A ++ y :: mm).length = J by simp; omega, set_set] at hst
      have hne : s.nx + 18 ≠ id := by omega
      have w1 : IntKind.i64.wrap ((A.length : Int) + 1) = ((A.length + 1 : Nat) : Int) := by rw [IntWalk.i64_in _ (by omega)]; rfl
      have w2 : IntKind.i64.wrap ((J : Int) - 1) = (((A ++ [y]).length : Nat) : Int) + (mm.length : Int) - 1 := by rw [IntWalk.i64_in _ (by omega)]; simp; omega
      have hl1 := sto6 (v := y) (hs0 19)
      have hth : (Ai.adv s 19).h (s.nx + 16) = none := z1
      have hth2 : ((Ai.adv s 19).set id (some (.cells (flt (A ++ y :: (mm ++ y :: B))) e ex true))).h (s.nx + 18) = none := by rw [st_other hne]; exact z2
      simp only [f164l1s, bin_lss, h1, i1, i2, IfP_bool, if_true, Bnd_some, lx, ly, hl1, hst, hth, hth2, true_and]
      simp only [f164j1, w1, w2, wx, cond_true, cond_false, List.getElem?_cons_zero, List.getElem?_cons_succ, Nat.reduceAdd, beq_self_eq_true, if_true, if_false, Nat.reduceEqDiff, reduceCtorEq, and_true, true_and, List.mem_nil_iff, List.not_mem_nil]
      have := ih (A ++ [y]) mm (x :: B) (Ai.adv ((Ai.adv s 19).set id (some (.cells (flt ((A ++ y :: mm) ++ x :: B)) e ex true))) 6) (by omega) (by simp; omega) ((ef.adv.set (by simp only [adv_nx]; omega) (.inr (by simp))).adv) (by rw [adv_h, st_same]; simp) (by rw [← hr]; simp)
      rw [show ((A ++ [y]).length : Nat) = A.length + 1 by simp] at this
      simpa [adv_set, adv_two] using this
    · have h1 : decide ((A.length : Int) < (A.length : Int) + (mid.length : Int) - 1) = false := by simp; omega
      simp only [f164l1s, h1, wx, cond_true, cond_false, List.getElem?_cons_zero, List.getElem?_cons_succ, Nat.reduceAdd, beq_self_eq_true, if_true, if_false, Nat.reduceEqDiff, reduceCtorEq, and_true, true_and, List.mem_nil_iff, List.not_mem_nil]
      refine hQ _ ef.adv (by
        rw [adv_h, hs, ← hr]
        have : mid.reverse = mid := by
          match mid, h2 with
          | [], _ => rfl
          | [a], _ => rfl
          | a :: b :: t, h2 => simp at h2
        rw [this])
theorem c164 {s : St} {K : AV → St → Prop} {x : AV} {l : List Sx} (hl : l.length ≤ 2 ^ 30) (g : Gw 33 6 0 s x (l.map Sx.av)) (fr : Fresh s) (hk : ∀ s', EF (idOf x) s s' → Gw 33 6 0 s' x (l.reverse.map Sx.av) → K (.tup []) s') : CallWi Tryz.env 164 [x] s K := by
  refine callWiF (by kernel_rfl) (f164_run _ _ ?_)
  have hlt := g.id_lt fr
  obtain ⟨h1, ⟨rfl, h2⟩ | ⟨i, hi, rfl, hs⟩⟩ := g
  · have hl0 : l = [] := by simpa using h2
    subst hl0
    unfold f164
    simp only [ln31n, wx, cond_true, cond_false, List.getElem?_cons_zero, List.getElem?_cons_succ, Nat.reduceAdd, beq_self_eq_true, if_true, if_false, Nat.reduceEqDiff, reduceCtorEq, and_true, true_and, List.mem_nil_iff, List.not_mem_nil]
    refine ⟨1, ?_⟩
    show f164l1s K (f164l1 K 0) _ _ _ _
    have e1 : IntKind.i64.wrap (0 - 1) = -1 := rfl
    have e2 : decide ((0 : Int) < -1) = false := rfl
    simp only [f164l1s, e1, e2, wx, cond_true, cond_false, List.getElem?_cons_zero, List.getElem?_cons_succ, Nat.reduceAdd, beq_self_eq_true, if_true, if_false, Nat.reduceEqDiff, reduceCtorEq, and_true, true_and, List.mem_nil_iff, List.not_mem_nil]
    exact hk _ (EF.refl _ fr).adv gw_nil
  · unfold f164
    rw [List.length_map] at hk ⊢
    have hil : i < s.nx := hlt i (by simp [idOf])
    have e1 : IntKind.i64.wrap ((l.length : Int) - 1) = (l.length : Int) - 1 := IntWalk.i64_in _ (by omega)
    simp only [ln31r, e1, wx, cond_true, cond_false, List.getElem?_cons_zero, List.getElem?_cons_succ, Nat.reduceAdd, beq_self_eq_true, if_true, if_false, Nat.reduceEqDiff, reduceCtorEq, and_true, true_and, List.mem_nil_iff, List.not_mem_nil]
    refine ⟨l.length + 1, ?_⟩
    have := l164 K s i l.length (by omega) hil 33 false l.reverse (fun s' ef hh => hk s' ef ⟨fun v hv => ?_, .inr ⟨i, by omega, by simp, hh⟩⟩) l.length [] l [] (Ai.adv s 5) (by omega) (by simp) (EF.refl _ fr).adv (by rw [adv_h, hs]; simp [flt]) (by simp)
    · simpa using this
    · obtain ⟨a, _, rfl⟩ := List.mem_map.1 hv; exact ⟨sx_len a, sx_ones a⟩
def bitsTo (n K : Nat) : List Nat := (List.range K).filter fun k => n / 2 ^ k % 2 == 1
def bitsDn (n : Nat) : List Nat := (bitsTo n (n.log2 + 1)).reverse
def longIn (n : Nat) : Sx := bif (bitsDn n).length == 1 then ((bitsDn n).map halfS).headD zeroSx0 else lstS stpp ((bitsDn n).map halfS)
def longUp : Nat → Sx → Sx
  | 0, y => y
  | k + 1, y => longUp k (aroundM (k + 1) (lstS stpp [halfS k, halfS k]) y)
def longM (r : Int × Int) : Sx := aroundM 0 (atS 6 (xscM [r.1])) (longUp r.2.toNat.log2 (longIn r.2.toNat))
structure LgI (s : St) (p1 p2 n6 : Nat) (r : Int × Int) (y : Sx) : Prop where
  fr : Fresh s
  h1 : s.h p1 = some (.cells (rnA r).cells 109 true true)
  h2 : s.h p2 = some (.cells zeroB.cells 33 true true)
  h6 : s.h n6 = some (.cells y.av.cells 33 true true)
  n1 : n6 ≠ p1
  n2 : n6 ≠ p2
theorem lt_of_h {s : St} {i : Nat} {b : Blk} (fr : Fresh s) (h : s.h i = some b) : i < s.nx := by
  by_cases hc : i < s.nx
  · exact hc
  · rw [fr i (by omega)] at h; cases h
theorem LgI.ext {s s' : St} {p1 p2 n6 : Nat} {r : Int × Int} {y : Sx} (h : LgI s p1 p2 n6 r y) (he : EF [] s s') : LgI s' p1 p2 n6 r y :=
  ⟨he.fr, by rw [he.h _ (lt_of_h h.fr h.h1) (by simp)]; exact h.h1, by rw [he.h _ (lt_of_h h.fr h.h2) (by simp)]; exact h.h2, by rw [he.h _ (lt_of_h h.fr h.h6) (by simp)]; exact h.h6, h.n1, h.n2⟩
theorem LgI.step {s s' : St} {p1 p2 n6 : Nat} {r : Int × Int} {y y' : Sx} (h : LgI s p1 p2 n6 r y) (he : EF [n6] s s') (h6 : s'.h n6 = some (.cells y'.av.cells 33 true true)) : LgI s' p1 p2 n6 r y' :=
  ⟨he.fr, by rw [he.h _ (lt_of_h h.fr h.h1) (by simp [h.n1.symm])]; exact h.h1, by rw [he.h _ (lt_of_h h.fr h.h2) (by simp [h.n2.symm])]; exact h.h2, h6, h.n1, h.n2⟩
theorem callV165 {a b c : AV} {s : St} {K : AV → St → Prop} (h : CallWi Tryz.env 165 [a, b, c] s K) : CallV Tryz.env 114 (.fn 165 [] [c]) [a, b] s K := by
  have hp : Tryz.env.pm 114 165 = false := by kernel_rfl
  show CallP Tryz.env 114 165 [a, b, c] s K
  unfold CallP
  rw [hp]
  exact h
theorem j114 (Q : AV → St → Prop) (r : Int × Int) (hr : runOk r = true) (p1 p2 n6 : Nat) (y : Sx) (s : St) (h : LgI s p1 p2 n6 r y) (hQ : ∀ s, Q (aroundM 0 (atS 6 (xscM [r.1])) y).av s) :
    f114j3 Q (.ptr p1 0) (.fn 165 [] [.ptr n6 0]) (.ptr n6 0) (.ptr p2 0) s := by
  have l1 : (rnA r).cells[0]? = some (.int .i64 r.1) := rfl
  have b1 : bld 109 [(0, .int .i64 r.1), (1, .int .i64 1)] = some (rnA (r.1, 1)) := by rw [bf109]; rfl
  have b2 : bsl 25 1 [(0, rnA (r.1, 1))] = some (.sl true [rnA (r.1, 1)]) := bsl_one tf25 (by decide) rfl rfl
  have hpt : point r.1 = true := by simp only [runOk, Bool.and_eq_true] at hr; exact hr.1.1
  have h115 := c115g false [(r.1, 1)] rfl (by simp [maxLen]) [r.1] (by
    have hok : ∀ q ∈ [(r.1, (1 : Int))], runOk q = true := fun q hq => by
      rw [List.mem_singleton.1 hq]; simp [runOk, hpt]
    have := listGo_exp [(r.1, 1)] [] hok (by simp [sumR])
    have h2 := chunk_list [(r.1, 1)] hok
    have hg : greedy [(r.1, (1 : Int))] 0 = 1 := rfl
    rw [hg] at h2
    exact h2.1) (by simp) (fun c hc => by rw [List.mem_singleton.1 hc]; exact hpt)
  have hp1 := lt_of_h h.fr h.h1
  have hp2 := lt_of_h h.fr h.h2
  have hp6 := lt_of_h h.fr h.h6
  unfold f114j3
  simp only [wx, cond_true, cond_false, List.getElem?_cons_zero, List.getElem?_cons_succ, Nat.reduceAdd, beq_self_eq_true, if_true, if_false, Nat.reduceEqDiff, reduceCtorEq, and_true, true_and, List.mem_nil_iff, List.not_mem_nil, h.h1, l1, b1, b2]
  refine callPur (args2 := [.sl false [rnA (r.1, 1)]]) (ids := []) rfl h115 ?_
  simp only [List.isEmpty_nil, Bool.true_or, if_true, zf33, wx, cond_true, cond_false, List.getElem?_cons_zero, List.getElem?_cons_succ, Nat.reduceAdd, beq_self_eq_true, if_true, if_false, Nat.reduceEqDiff, reduceCtorEq, and_true, true_and, List.mem_nil_iff, List.not_mem_nil]
  rw [sto_sx]
  simp only [wx, cond_true, cond_false, List.getElem?_cons_zero, List.getElem?_cons_succ, Nat.reduceAdd, beq_self_eq_true, if_true, if_false, Nat.reduceEqDiff, reduceCtorEq, and_true, true_and, List.mem_nil_iff, List.not_mem_nil, sx_part]
  have E1 : EF [] s (Ai.adv (s.set (s.nx + 8) (some (.cells (atS 6 (xscM [r.1])).av.cells 33 true true))) 14) := ((EF.refl [] h.fr).adv (n := 14)).set (i := s.nx + 8) (by simp only [adv_nx]; omega) (.inl (by omega))
  have H1 := h.ext E1
  refine callV165 (c165 0 (by decide) _ y H1.fr H1.h6 fun s' he h6' => ?_)
  have H2 := H1.step he h6'
  simp only [wx, cond_true, cond_false, List.getElem?_cons_zero, List.getElem?_cons_succ, Nat.reduceAdd, beq_self_eq_true, if_true, if_false, Nat.reduceEqDiff, reduceCtorEq, and_true, true_and, List.mem_nil_iff, List.not_mem_nil, H2.h6, sx_part]
  rw [sto_all (z := 6) (by rw [adv_h]; exact H2.h2) rfl (sx_len _) (sx_ones _)]
  simp only [wx, cond_true, cond_false, List.getElem?_cons_zero, List.getElem?_cons_succ, Nat.reduceAdd, beq_self_eq_true, if_true, if_false, Nat.reduceEqDiff, reduceCtorEq, and_true, true_and, List.mem_nil_iff, List.not_mem_nil, sx_part]
  exact hQ _
theorem l114a (Q : AV → St → Prop) (r : Int × Int) (hr : runOk r = true) (p1 p2 n6 : Nat) : ∀ (k : Nat) (y : Sx) (s : St), k < 2 ^ 60 → LgI s p1 p2 n6 r y → (∀ s, Q (aroundM 0 (atS 6 (xscM [r.1])) (longUp k y)).av s) →
    f114l1 Q (k + 1) (.ptr p1 0) (.ptr p2 0) (.ptr n6 0) (.fn 165 [] [.ptr n6 0]) (.int .i64 k) s := by
  intro k
  induction k with
  | zero =>
    intro y s hk h hQ
    show f114l1s Q (f114l1 Q 0) _ _ _ _ _ s
    simp only [f114l1s, show decide (((0 : Nat) : Int) > 0) = false from rfl, wx, cond_true, cond_false, List.getElem?_cons_zero, List.getElem?_cons_succ, Nat.reduceAdd, beq_self_eq_true, if_true, if_false, Nat.reduceEqDiff, reduceCtorEq, and_true, true_and, List.mem_nil_iff, List.not_mem_nil]
    exact j114 Q r hr p1 p2 n6 y _ (h.ext (EF.refl _ h.fr).adv) hQ
  | succ k ih =>
    intro y s hk h hQ
    show f114l1s Q (f114l1 Q (k + 1)) _ _ _ _ _ s
    have h1 : decide (((k + 1 : Nat) : Int) > 0) = true := by simp
    have h2 : IntKind.i64.wrap (((k + 1 : Nat) : Int) - 1) = (k : Int) := by rw [IntWalk.i64_in _ (by omega)]; omega
    simp only [f114l1s, h1, h2, wx, cond_true, cond_false, List.getElem?_cons_zero, List.getElem?_cons_succ, Nat.reduceAdd, beq_self_eq_true, if_true, if_false, Nat.reduceEqDiff, reduceCtorEq, and_true, true_and, List.mem_nil_iff, List.not_mem_nil]
    refine callPu (c163 k (by omega)) (by simp [AV.closed]) ?_
    refine callPu (c163 k (by omega)) (by simp [AV.closed]) ?_
    rw [bsl_two tf31 (by decide) (sx_len _) (sx_ones _) (sx_len _) (sx_ones _)]
    simp only [Bnd_some]
    have E0 : EF [] s (Ai.adv s 13) := (EF.refl _ h.fr).adv
    refine c57 (l := [halfS k, halfS k]) (M := []) (by simp) E0.fr (fun s' he => ?_) rfl rfl fun s' he => ?_
    · obtain ⟨ids, e1, e2⟩ := pur_sl (s := s') (ex := true) (k := 10) (l := [(halfS k).av, (halfS k).av]) (by simp only [closedL, sx_closed, Bool.and_self])
      subst e2
      exact ⟨[], e1, fun i hi => by cases hi⟩
    · have H1 := h.ext (E0.trans (M' := []) he fun i hi => by cases hi)
      refine callV165 (c165 (k + 1) (by omega) _ y H1.fr H1.h6 fun s2 he2 h6' => ?_)
      have H2 := H1.step he2 h6'
      simp only [f114j4, h2, wx, cond_true, cond_false, List.getElem?_cons_zero, List.getElem?_cons_succ, Nat.reduceAdd, beq_self_eq_true, if_true, if_false, Nat.reduceEqDiff, reduceCtorEq, and_true, true_and, List.mem_nil_iff, List.not_mem_nil]
      exact ih _ _ (by omega) (H2.ext (EF.refl _ H2.fr).adv) hQ
theorem k114 (Q : AV → St → Prop) (r : Int × Int) (hr : runOk r = true) (p1 p2 : Nat) (hp : p1 ≠ p2) (top : Nat) (ht : top < 2 ^ 60) (L : List Sx) (hL0 : L ≠ []) (hL : L.length ≤ 2 ^ 16) (x : AV) (s : St) (fr : Fresh s) (h1 : s.h p1 = some (.cells (rnA r).cells 109 true true)) (h2 : s.h p2 = some (.cells zeroB.cells 33 true true)) (g : Gw 33 6 0 s x (L.map Sx.av)) (d1 : p1 ∉ idOf x) (d2 : p2 ∉ idOf x)
    (hQ : ∀ s, Q (aroundM 0 (atS 6 (xscM [r.1])) (longUp top (bif L.reverse.length == 1 then L.reverse.headD zeroSx0 else lstS stpp L.reverse))).av s) : f114j1 Q x (.int .i64 top) (.ptr p1 0) (.ptr p2 0) s := by
  unfold f114j1
  refine c164 (by omega) g.adv fr.adv fun s1 he g1 => ?_
  have hlp1 := lt_of_h fr h1
  have hlp2 := lt_of_h fr h2
  have he0 : EF (idOf x) s s1 := ⟨by have := he.nx; simp only [adv_nx] at this; omega, fun j hj hm => by rw [he.h j (by simp only [adv_nx]; omega) hm, adv_h], he.fr⟩
  have h1' : s1.h p1 = some (.cells (rnA r).cells 109 true true) := by rw [he0.h p1 hlp1 d1]; exact h1
  have h2' : s1.h p2 = some (.cells zeroB.cells 33 true true) := by rw [he0.h p2 hlp2 d2]; exact h2
  have g1lt := g1.id_lt he.fr
  have hone := g1.one
  obtain ⟨q1, ⟨rfl, q2⟩ | ⟨i, hi, rfl, hs⟩⟩ := g
  · exfalso; exact hL0 (by simpa using q2)
  simp only [idOf, List.mem_singleton] at d1 d2
  rw [List.length_map] at *
  generalize hR : L.reverse = R at *
  have hRl : R.length = L.length := by rw [← hR, List.length_reverse]
  obtain ⟨y0, R', hy⟩ : ∃ y0 R', R = y0 :: R' := by
    match R, hRl with
    | y0 :: R', _ => exact ⟨y0, R', rfl⟩
    | [], hRl => exfalso; exact hL0 (List.length_eq_zero_iff.1 hRl.symm)
  have hil : i < s1.nx := g1lt i (by simp [idOf])
  have hLp : 0 < L.length := List.length_pos_iff.2 hL0
  have hs1 : s1.h i = some (.cells (flt R) 33 false true) := by
    obtain ⟨_, ⟨hx, _⟩ | ⟨i', _, hx, hs'⟩⟩ := g1
    · cases hx
    · injection hx with e1 e2 e3; subst e1; exact hs'
  have i1 := ix_ref (e := 33) (z := 6) (i := 0) (id := i) (off := 0) (n := L.length) (c := none) hLp .i64
  have hl6 := fun n => ld6 (k := 0) (y := y0) (s := Ai.adv s1 n) (l := R) (by rw [adv_h]; exact hs1) (by rw [hy]; rfl)
  simp only [Nat.zero_mul, Nat.add_zero] at hl6 i1
  have hi1 : ixS 6 (.ref i 0 L.length none 33) (.int .i64 0) = some (.ptr i 0) := i1
  simp only [hi1, Bnd_some, hl6, zf33]
  rw [sto_all (z := 6) (c := zeroB.cells) (by rw [st_same]; rfl) rfl (sx_len y0) (sx_ones y0), set_set]
  have hnx := he0.nx
  have E1 : EF [] s1 (Ai.adv (s1.set (s1.nx + 3) (some (.cells y0.av.cells 33 true true))) 8) := ((EF.refl [] he.fr).adv (n := 8)).set (i := s1.nx + 3) (by simp only [adv_nx]; omega) (.inl (by omega))
  have H : ∀ n, LgI (Ai.adv (s1.set (s1.nx + 3) (some (.cells y0.av.cells 33 true true))) (n + 8)) p1 p2 (s1.nx + 3) r y0 := fun n =>
    ⟨fresh_set he.fr _ (by omega), by rw [adv_h, st_other (by omega)]; exact h1', by rw [adv_h, st_other (by omega)]; exact h2', by rw [adv_h, st_same], by omega, by omega⟩
  simp only [ln31r, wx, cond_true, cond_false, List.getElem?_cons_zero, List.getElem?_cons_succ, Nat.reduceAdd, beq_self_eq_true, if_true, if_false, Nat.reduceEqDiff, reduceCtorEq, and_true, true_and, List.mem_nil_iff, List.not_mem_nil]
  have hl1 : decide ((L.length : Int) > 1) = !(R.length == 1) := by
    rw [hRl]
    cases hb : (L.length == 1) with
    | true => have : L.length = 1 := by simpa using hb
              rw [this]; rfl
    | false => have : L.length ≠ 1 := by simpa using hb
               simp; omega
  simp only [hl1]
  cases hb : (R.length == 1) with
  | true =>
    rw [hb] at hQ
    simp only [Bool.not_true, Bool.false_eq_true, if_false]
    refine ⟨top + 1, ?_⟩
    have hQ' : ∀ s, Q (aroundM 0 (atS 6 (xscM [r.1])) (longUp top y0)).av s := fun s => by have := hQ s; rw [hy] at this; exact this
    rw [adv_two]
    exact l114a Q r hr p1 p2 (s1.nx + 3) top y0 _ ht (H 4) hQ'
  | false =>
    rw [hb] at hQ
    simp only [Bool.not_false, if_true]
    have H11 := H 3
    have E11 : EF [] s1 (Ai.adv (s1.set (s1.nx + 3) (some (.cells y0.av.cells 33 true true))) 11) := ((EF.refl [] he.fr).adv (n := 11)).set (i := s1.nx + 3) (by simp only [adv_nx]; omega) (.inl (by omega))
    refine c57 (x := .ref i 0 L.length none 33) (l := R) (M := [i]) (by omega) E11.fr (fun s' he' => ?_) rfl rfl fun s3 he3 => ?_
    · have g2 := g1.ext he.fr (E11.trans (M' := []) he' fun i hi => by cases hi) (fun j _ hj => by cases hj)
      obtain ⟨ids, e1, e2⟩ := pur_map tf31 g2 (fun a _ => sx_closed a) (fun a _ => (sx_agg a).symm) 10
      refine ⟨ids, e1, fun j hj => ?_⟩
      rw [e2] at hj
      simp only [idOf, List.mem_singleton] at hj
      subst hj
      exact ⟨by simp, by simp only [adv_nx, set_nx]; omega⟩
    · have h6' : s3.h (s1.nx + 3) = some (.cells y0.av.cells 33 true true) := by
        rw [he3.h _ (by simp only [adv_nx, set_nx]; omega) (by simp; omega)]; exact H11.h6
      rw [sto_all (z := 6) h6' (sx_len y0) (sx_len _) (sx_ones _)]
      simp only [Bnd_some]
      refine ⟨top + 1, ?_⟩
      have hn3 := he3.nx
      simp only [adv_nx, set_nx] at hn3
      refine l114a Q r hr p1 p2 (s1.nx + 3) top (lstS stpp R) _ ht ?_ hQ
      refine ⟨fresh_set he3.fr 4 (by omega), ?_, ?_, by rw [adv_h, st_same]; rfl, by omega, by omega⟩
      · rw [adv_h, st_other (by omega), he3.h p1 (by simp only [adv_nx, set_nx]; omega) (by simpa using d1)]; exact H11.h1
      · rw [adv_h, st_other (by omega), he3.h p2 (by simp only [adv_nx, set_nx]; omega) (by simpa using d2)]; exact H11.h2
theorem and1 (n : Nat) (h : n < 2 ^ 63) : bitsA .and .i64 (n : Int) 1 = ((n % 2 : Nat) : Int) := by
  have e2 : (BitVec.ofInt 64 (n : Int)).toNat = n := by
    rw [BitVec.ofInt_natCast, BitVec.toNat_ofNat, Nat.mod_eq_of_lt (Nat.lt_trans h (by decide))]
  show IntKind.i64.wrap (((BitVec.ofInt 64 (n : Int) &&& BitVec.ofInt 64 1 : BitVec 64).toNat : Nat) : Int) = _
  rw [BitVec.toNat_and, e2]
  have : (BitVec.ofInt 64 1).toNat = 2 ^ 1 - 1 := by decide
  rw [this, Nat.and_two_pow_sub_one_eq_mod, IntWalk.i64_in _ (by omega)]
theorem bits_succ (n K : Nat) : bitsTo n (K + 1) = bitsTo n K ++ (bif n / 2 ^ K % 2 == 1 then [K] else []) := by
  unfold bitsTo
  rw [List.range_succ, List.filter_append]
  cases h : (n / 2 ^ K % 2 == 1) <;> simp [h]
theorem bits_len (n K : Nat) : (bitsTo n K).length ≤ K := by
  unfold bitsTo
  have := List.length_filter_le (fun k => n / 2 ^ k % 2 == 1) (List.range K)
  rw [List.length_range] at this; exact this
theorem bits_ne (n : Nat) (h : n ≠ 0) : bitsTo n (n.log2 + 1) ≠ [] := by
  rw [bits_succ]
  have h1 := Nat.log2_self_le h
  have h2 := @Nat.lt_log2_self n
  have : n / 2 ^ n.log2 = 1 := by
    rw [Nat.pow_succ] at h2
    exact Nat.div_eq_of_lt_le (by omega) (by omega)
  rw [this]
  simp
theorem l114b (Q : AV → St → Prop) (r : Int × Int) (hr : runOk r = true) (p1 p2 : Nat) (hp : p1 ≠ p2) (hQ : ∀ s, Q (longM r).av s) :
    ∀ (m k : Nat) (x : AV) (s : St), k + m = r.2.toNat.log2 + 1 → Fresh s → s.h p1 = some (.cells (rnA r).cells 109 true true) → s.h p2 = some (.cells zeroB.cells 33 true true) → Gw 33 6 0 s x (((bitsTo r.2.toNat k).map halfS).map Sx.av) → p1 ∉ idOf x → p2 ∉ idOf x →
      f114l2 Q (m + 1) (.ptr p1 0) (.ptr p2 0) x (.int .i64 ((k - 1 : Nat) : Int)) (.int .i64 k) s := by
  have hn : r.2 = ((r.2.toNat : Nat) : Int) := by
    simp only [runOk, Bool.and_eq_true, decide_eq_true_eq] at hr; omega
  have hn1 : r.2.toNat ≠ 0 := by
    simp only [runOk, Bool.and_eq_true, decide_eq_true_eq] at hr; omega
  have hn2 : r.2.toNat ≤ 2 ^ 40 := by
    simp only [runOk, Bool.and_eq_true, decide_eq_true_eq] at hr; omega
  have hlr : (rnA r).cells[1]? = some (.int .i64 r.2) := rfl
  unfold longM longIn bitsDn at hQ
  generalize hN : r.2.toNat = N at *
  have hT1 := Nat.log2_self_le hn1
  have hT2 := @Nat.lt_log2_self N
  have hT : N.log2 ≤ 40 := by
    by_cases hc : N.log2 ≤ 40
    · exact hc
    · exfalso
      have : 2 ^ 41 ≤ 2 ^ N.log2 := Nat.pow_le_pow_right (by decide) (by omega)
      omega
  have hne := bits_ne N hn1
  have hbl := bits_len N
  generalize N.log2 = T at *
  have hshl : ∀ k : Nat, k ≤ 41 → bn .shl 3 (.int .i64 1) (.int .i64 (k : Int)) = some (.int .i64 ((2 ^ k : Nat) : Int)) := fun k hk => by
    have h := bin_shl (T := Tryz.ty) (q := Tryz.eqOk) (t := 3) (k := .i64) (k' := .i64) (a := 1) (n := k) (by show k ≤ 64; omega)
    have e : (1 : Int) * 2 ^ k = ((2 ^ k : Nat) : Int) := by rw [Int.one_mul]; norm_cast
    have hb : 2 ^ k ≤ 2 ^ 41 := Nat.pow_le_pow_right (by decide) hk
    rw [e] at h
    generalize (2 : Nat) ^ k = P at h hb ⊢
    rw [IntWalk.i64_in _ (by omega)] at h
    exact h
  have hshr : ∀ k : Nat, k ≤ 41 → bn .shr 3 (.int .i64 (N : Int)) (.int .i64 (k : Int)) = some (.int .i64 ((N / 2 ^ k : Nat) : Int)) := fun k hk => by
    have h := bin_shr (T := Tryz.ty) (q := Tryz.eqOk) (t := 3) (k := .i64) (k' := .i64) (a := (N : Int)) (n := k) (by show k ≤ 64; omega)
    have e : (N : Int).fdiv (2 ^ k) = ((N / 2 ^ k : Nat) : Int) := by
      have e0 : (2 : Int) ^ k = ((2 ^ k : Nat) : Int) := by norm_cast
      rw [e0, Int.fdiv_eq_ediv_of_nonneg _ (Int.natCast_nonneg _)]; rfl
    rw [e] at h
    exact h
  intro m
  induction m with
  | zero =>
    intro k x s hk fr h1 h2 g d1 d2
    have hk : k = T + 1 := by omega
    subst hk
    show f114l2s Q (f114l2 Q 0) _ _ _ _ _ s
    have c1 : decide (((2 ^ (T + 1) : Nat) : Int) ≤ (N : Int)) = false := by simp only [decide_eq_false_iff_not]; omega
    simp only [f114l2s, hshl (T + 1) (by omega), wx, cond_true, cond_false, List.getElem?_cons_zero, List.getElem?_cons_succ, Nat.reduceAdd, beq_self_eq_true, if_true, if_false, Nat.reduceEqDiff, reduceCtorEq, and_true, true_and, List.mem_nil_iff, List.not_mem_nil, h1, hlr, hn, c1]
    refine k114 Q r hr p1 p2 hp T (by omega) ((bitsTo N (T + 1)).map halfS) (by simpa using hne) (by rw [List.length_map]; have := hbl (T + 1); omega) x _ fr.adv (by rw [adv_h]; exact h1) (by rw [adv_h]; exact h2) g.adv d1 d2 (fun s => ?_)
    have := hQ s
    rw [← List.map_reverse, List.length_map]
    exact this
  | succ m ih =>
    intro k x s hk fr h1 h2 g d1 d2
    show f114l2s Q (f114l2 Q (m + 1)) _ _ _ _ _ s
    have hkT : 2 ^ k ≤ 2 ^ T := Nat.pow_le_pow_right (by decide) (by omega)
    have c1 : decide (((2 ^ k : Nat) : Int) ≤ (N : Int)) = true := by simp only [decide_eq_true_eq]; omega
    have hdl : N / 2 ^ k ≤ N := Nat.div_le_self _ _
    have w1 : IntKind.i64.wrap ((k : Int) + 1) = ((k + 1 : Nat) : Int) := by rw [IntWalk.i64_in _ (by omega)]; rfl
    have ha1 : bn .and 3 (.int .i64 ((N / 2 ^ k : Nat) : Int)) (.int .i64 1) = some (.int .i64 ((N / 2 ^ k % 2 : Nat) : Int)) := by
      rw [← and1 _ (by omega)]; exact bin_and
    have hbs := bits_succ N k
    simp only [f114l2s, hshl k (by omega), wx, cond_true, cond_false, List.getElem?_cons_zero, List.getElem?_cons_succ, Nat.reduceAdd, beq_self_eq_true, if_true, if_false, Nat.reduceEqDiff, reduceCtorEq, and_true, true_and, List.mem_nil_iff, List.not_mem_nil, h1, hlr, hn, c1, hshr k (by omega), ha1]
    have hib : (((N / 2 ^ k % 2 : Nat) : Int) == 1) = (N / 2 ^ k % 2 == 1) := by
      rw [Bool.eq_iff_iff, beq_iff_eq, beq_iff_eq]; omega
    simp only [hib]
    cases hb : (N / 2 ^ k % 2 == 1) with
    | true =>
      rw [hb] at hbs
      simp only [wx, cond_true, cond_false, List.getElem?_cons_zero, List.getElem?_cons_succ, Nat.reduceAdd, beq_self_eq_true, if_true, if_false, Nat.reduceEqDiff, reduceCtorEq, and_true, true_and, List.mem_nil_iff, List.not_mem_nil]
      refine callPu (c163 k (by omega)) (by simp [AV.closed]) ?_
      have b31 := bsl_one tf31 (by decide) (sx_len (halfS k)) (sx_ones (halfS k))
      have hlen := hbl k
      simp only [b31, wx, cond_true, cond_false, List.getElem?_cons_zero, List.getElem?_cons_succ, Nat.reduceAdd, beq_self_eq_true, if_true, if_false, Nat.reduceEqDiff, reduceCtorEq, and_true, true_and, List.mem_nil_iff, List.not_mem_nil]
      rw [app_map tf31 encSx g.adv (by rw [List.length_map]; omega) (by rw [List.length_map]; omega)]
      simp only [wx, cond_true, cond_false, List.getElem?_cons_zero, List.getElem?_cons_succ, Nat.reduceAdd, beq_self_eq_true, if_true, if_false, Nat.reduceEqDiff, reduceCtorEq, and_true, true_and, List.mem_nil_iff, List.not_mem_nil, f114j5, w1]
      have hp1 := lt_of_h fr h1
      have hp2 := lt_of_h fr h2
      have hmap : ((bitsTo N (k + 1)).map halfS) = (bitsTo N k).map halfS ++ [halfS k] := by rw [hbs, cond_true, List.map_append]; rfl
      rw [← hmap]
      have hlm : ((bitsTo N k).map halfS).length = (bitsTo N k).length := List.length_map ..
      have hl2 : ((bitsTo N (k + 1)).map halfS).length = (bitsTo N k).length + 1 := by rw [hmap, List.length_append, hlm]; rfl
      rw [hlm]
      have := ih (k + 1) (.ref (s.nx + 17) 0 ((bitsTo N k).length + 1) none 33) (Ai.adv ((s.drop (idOf x)).set (s.nx + 17) (some (.cells ((((bitsTo N (k + 1)).map halfS).map Sx.av).flatMap AV.cells) 33 false true))) 22) (by omega) (fresh_app fr _ _ (by omega))
        (by rw [adv_h, st_other (by omega), get_drop', if_neg d1]; exact h1) (by rw [adv_h, st_other (by omega), get_drop', if_neg d2]; exact h2) (gw_map encSx hl2.symm) (by simp [idOf]; omega) (by simp [idOf]; omega)
      rw [Nat.add_sub_cancel] at this
      exact this
    | false =>
      rw [hb] at hbs
      simp only [wx, cond_true, cond_false, List.getElem?_cons_zero, List.getElem?_cons_succ, Nat.reduceAdd, beq_self_eq_true, if_true, if_false, Nat.reduceEqDiff, reduceCtorEq, and_true, true_and, List.mem_nil_iff, List.not_mem_nil, f114j5, w1]
      have := ih (k + 1) x (Ai.adv s 16) (by omega) fr.adv (by rw [adv_h]; exact h1) (by rw [adv_h]; exact h2) (by rw [hbs, cond_false, List.append_nil]; exact g.adv) d1 d2
      rw [Nat.add_sub_cancel] at this
      exact this
theorem c114 (r : Int × Int) (hr : runOk r = true) : PureC Tryz.env 114 [rnA r] (longM r).av := by
  refine pure_q (f114_run _ _ ?_)
  unfold f114
  refine ⟨rfl, ?_⟩
  simp only [zf33, wx, cond_true, cond_false, List.getElem?_cons_zero, List.getElem?_cons_succ, Nat.reduceAdd, beq_self_eq_true, if_true, if_false, Nat.reduceEqDiff, reduceCtorEq, and_true, true_and, List.mem_nil_iff, List.not_mem_nil]
  refine ⟨r.2.toNat.log2 + 2, l114b _ r hr St.empty.nx (St.empty.nx + 1) (by omega) (fun s => pureQ_closed (sx_closed _)) (r.2.toNat.log2 + 1) 0 .nils _ (by omega) ?_ ?_ ?_ gw_nil (by simp [idOf]) (by simp [idOf])⟩
  · rw [← adv_set]
    exact Fresh.set (fresh_set fresh_empty 5 (by omega)) (by simp only [adv_nx, set_nx]; omega)
  · rw [adv_h, st_other (by omega), st_same]
  · rw [adv_h, st_same]; rfl
end Go.Proofs.YtdehdahimkcakaaGreatDoor
end
section
set_option linter.unusedVariables false
set_option linter.unusedSimpArgs false
set_option maxRecDepth 100000
set_option maxHeartbeats 4000000
namespace Go.Proofs.YtdehdahimkcakaaGreatDoor
open Go Ai
theorem z54 : pureF 54 [.int .i64 (-5)] = some (.agg [.bool true, .sl false [.int .u32 5]]) := by kernel_rfl
def valA (so : Int) (b neg : Bool) (n : List AV) (l : List AV) : AV := .agg [.int .i64 so, .bool b, .bool neg, .sl false n, .sl false l]
def minus5 : AV := .agg [.bool true, .int .i64 0, .str [], .int .i64 0, .int .i64 0, .sl false [.agg [.bool false, .int .i64 3, .str [45], .int .i64 0, .int .i64 0, .sl false []], .agg [.bool false, .int .i64 4, .str [53], .int .i64 0, .int .i64 0, .sl false []]]]
theorem r16a : pureF 16 [valA 2 false true [.int .u32 5] []] = some (.tup [minus5, .int .i64 0]) := by kernel_rfl
theorem r55 : pureF 55 [minus5] = some (.tup [.str [40, 45, 32, 53, 41], .int .i64 0]) := by kernel_rfl
theorem r60 : pureF 60 [.sl false [rnA (97, 1000), rnA (98, 1)]] = some (.bool true) := by kernel_rfl
theorem r22 : pureF 22 [.int .i64 22] = some (.str [115, 116, 114, 46, 43, 43]) := by kernel_rfl
noncomputable def chk : Option AV → Bool
  | some (.tup [.agg cs, .int .i64 0]) => closedL cs && (cs.length == 6) && cs.all AV.one && (match pureF 21 [.agg cs] with
    | some (.int .i64 13) => true
    | _ => false)
  | _ => false
theorem rchk : chk (pureF 16 [valA 3 false false [] [rnA (97, 1001)]]) = true := by kernel_rfl
theorem r16c : ∃ cs, PureC Tryz.env 16 [valA 3 false false [] [rnA (97, 1001)]] (.tup [.agg cs, .int .i64 0]) ∧ closedL cs = true ∧ cs.length = 6 ∧ cs.all AV.one = true ∧ PureC Tryz.env 21 [.agg cs] (.int .i64 13) := by
  have h := rchk
  unfold chk at h
  split at h
  · rename_i cs hr
    simp only [Bool.and_eq_true, beq_iff_eq] at h
    obtain ⟨⟨⟨h1, h2⟩, h3⟩, h4⟩ := h
    refine ⟨cs, pure_f hr, h1, h2, h3, ?_⟩
    split at h4
    · rename_i hr2; exact pure_f hr2
    · cases h4
  · cases h
end Go.Proofs.YtdehdahimkcakaaGreatDoor
end
section
set_option linter.unusedVariables false
set_option linter.unusedSimpArgs false
set_option maxRecDepth 100000
set_option maxHeartbeats 4000000
namespace Go.Proofs.YtdehdahimkcakaaGreatDoor
open Go Ai
def ascS (a : List (Int × Int)) : Sx := atS 6 ((expand a).map ascB)
theorem t61 : PureC Tryz.env 61 [.sl false ([(97, 1000), (98, 1)].map rnA)] (.tup [(lstS stpp [ascS [(97, 1000)], ascS [(98, 1)]]).av, .int .i64 0]) := by
  refine c61 ascS (fun _ => zeroSx0) (fun r => asc r.1 && runOk r && decide (r.2 ≤ 1000)) (fun l hl hg => ?_) (fun r hr hn => ?_) [(97, 1000), (98, 1)] (fun p hp => ?_) (by decide) (by decide)
  · have hok : ∀ r ∈ l, runOk r = true := fun r hr => by have := hl r hr; simp only [Bool.and_eq_true] at this; exact this.1.2
    obtain ⟨h1, h2⟩ := chunk_list l hok
    refine c115 false _ (sl_closed_map rnA _ fun _ _ => rfl) ?_ _ h1 h2 fun c hc => ?_
    · have : ∀ (a : List (Int × Int)), (∀ r ∈ a, runOk r = true) → a.length ≤ (expand a).length := by
        intro a
        induction a with
        | nil => intro _; simp
        | cons r a ih =>
          intro h
          have hr := h r (List.mem_cons_self ..)
          simp only [runOk, Bool.and_eq_true, decide_eq_true_eq] at hr
          have := ih fun x hx => h x (List.mem_cons_of_mem _ hx)
          simp only [expand, List.flatMap_cons, List.length_append, List.length_replicate, List.length_cons] at this ⊢
          omega
      have hm : maxLen = 9223372036854775807 := rfl
      have := this (l.take (greedy l 0)) fun r hr => hok r (List.mem_of_mem_take hr)
      omega
    · obtain ⟨r, hr, hc⟩ := List.mem_flatMap.1 hc
      obtain ⟨_, rfl⟩ := List.mem_replicate.1 hc
      have := hl r (List.mem_of_mem_take hr)
      simp only [Bool.and_eq_true] at this; exact this.1.1
  · simp only [Bool.and_eq_true, decide_eq_true_eq, runOk] at hr
    exfalso
    apply hn
    rw [Int.zero_add, IntWalk.i64_in _ (by omega)]; omega
  · have : txtGo ascS (fun _ => zeroSx0) [((97 : Int), (1000 : Int)), (98, 1)].length [(97, 1000), (98, 1)] = [ascS [(97, 1000)], ascS [(98, 1)]] := rfl
    rw [this] at hp
    simp only [List.mem_cons, List.mem_nil_iff, or_false] at hp
    have h0 : isInt 0 = true := by decide
    have h6 : isInt 6 = true := by decide
    rcases hp with rfl | rfl
    · have : ((expand [((97 : Int), (1000 : Int))]).map ascB).length = 1000 := by simp [expand]
      simp [ascS, atS, Sx.ok, Sx.oks, h0, h6, expand, maxLen]
    · simp [ascS, atS, Sx.ok, Sx.oks, h0, h6, expand, maxLen]
def xb : Sx := lstS stpp [ascS [(97, 1000)], ascS [(98, 1)]]
theorem r16b : PureC Tryz.env 16 [valA 3 false false [] [rnA (97, 1000), rnA (98, 1)]] (.tup [xb.av, .int .i64 0]) := by
  refine pure_q (f16_run _ _ ?_)
  unfold f16
  refine ⟨rfl, ?_⟩
  have hc : (valA 3 false false [] [rnA (97, 1000), rnA (98, 1)]).cells = [.int .i64 3, .bool false, .bool false, .sl false [], .sl false [rnA (97, 1000), rnA (98, 1)]] := rfl
  simp only [zf33, hc, wx, cond_true, cond_false, List.getElem?_cons_zero, List.getElem?_cons_succ, Nat.reduceAdd, beq_self_eq_true, if_true, if_false, Nat.reduceEqDiff, reduceCtorEq, and_true, true_and, List.mem_nil_iff, List.not_mem_nil, show ((3 : Int) == 1) = false from rfl, show ((3 : Int) == 2) = false from rfl, show ((3 : Int) == 3) = true from rfl]
  refine callPu (pure_f r60) (by simp [AV.closed, closedL, rnA]) ?_
  simp only [wx, cond_true, cond_false, List.getElem?_cons_zero, List.getElem?_cons_succ, Nat.reduceAdd, beq_self_eq_true, if_true, if_false, Nat.reduceEqDiff, reduceCtorEq, and_true, true_and, List.mem_nil_iff, List.not_mem_nil]
  refine callPu t61 (by simp [AV.closed, closedL, rnA]) ?_
  simp only [sto_sx, sx_part, if_true, wx, cond_true, cond_false, List.getElem?_cons_zero, List.getElem?_cons_succ, Nat.reduceAdd, beq_self_eq_true, if_true, if_false, Nat.reduceEqDiff, reduceCtorEq, and_true, true_and, List.mem_nil_iff, List.not_mem_nil]
  exact pureQ_closed (by simp only [AV.closed, closedL, sx_closed xb, Bool.and_self])
theorem awake12 : PureC Tryz.env 15 [] (.bool true) := by
  obtain ⟨cs, q1, q2, q3, q4, q5⟩ := r16c
  refine pure_q (f15_run _ ?_)
  unfold f15
  refine callPu (pure_f z54) (by simp [AV.closed]) ?_
  have b1 : bld 27 [(0, .int .i64 2), (2, .agg [.bool true, .sl false [.int .u32 5]])] = some (.agg [.int .i64 2, .bool false, .bool true, .sl false [.int .u32 5], .nils]) := by rw [bf27]; rfl
  have b2 : bsl 25 2 [(0, rnA (97, 1000)), (1, rnA (98, 1))] = some (.sl true [rnA (97, 1000), rnA (98, 1)]) := by kernel_rfl
  have b3 : bsl 25 1 [(0, rnA (97, 1001))] = some (.sl true [rnA (97, 1001)]) := by kernel_rfl
  have b4 : ∀ l, bld 27 [(0, .int .i64 3), (3, .sl true l)] = some (.agg [.int .i64 3, .bool false, .bool false, .nils, .sl true l]) := fun l => by rw [bf27]; rfl
  have b5 : ∀ a b : Int, bld 109 [(0, .int .i64 a), (1, .int .i64 b)] = some (rnA (a, b)) := fun a b => by rw [bf109]; rfl
  simp only [b1, wx, cond_true, cond_false, List.getElem?_cons_zero, List.getElem?_cons_succ, Nat.reduceAdd, beq_self_eq_true, if_true, if_false, Nat.reduceEqDiff, reduceCtorEq, and_true, true_and, List.mem_nil_iff, List.not_mem_nil]
  refine callPur (args2 := [valA 2 false true [.int .u32 5] []]) (ids := []) rfl (pure_f r16a) ?_
  have st1 : ∀ (v : AV) (q : St) (i n : Nat), v.cells.length = 6 → v.cells.all AV.one = true → sto 6 (.ptr i 0) v (Ai.adv (q.set i (some (.cells (AV.agg [.bool false, .int .i64 0, .str [], .int .i64 0, .int .i64 0, .nils]).cells 33 true true))) n) = some (Ai.adv (q.set i (some (.cells v.cells 33 true true))) n) := fun v q i n e1 e2 => by
    rw [sto_all (z := 6) (by rw [adv_h, st_same]) rfl e1 e2, adv_set, set_set]
  have p1 : Ai.part 6 true 0 minus5.cells = some minus5 := rfl
  simp only [List.isEmpty_nil, Bool.true_or, if_true, wx, cond_true, cond_false, List.getElem?_cons_zero, List.getElem?_cons_succ, Nat.reduceAdd, beq_self_eq_true, if_true, if_false, Nat.reduceEqDiff, reduceCtorEq, and_true, true_and, List.mem_nil_iff, List.not_mem_nil, zf33]
  rw [st1 _ _ _ _ rfl rfl]
  simp only [wx, cond_true, cond_false, List.getElem?_cons_zero, List.getElem?_cons_succ, Nat.reduceAdd, beq_self_eq_true, if_true, if_false, Nat.reduceEqDiff, reduceCtorEq, and_true, true_and, List.mem_nil_iff, List.not_mem_nil, if_true, p1]
  refine callPu (pure_f r55) (by simp [AV.closed, closedL, minus5]) ?_
  simp only [wx, cond_true, cond_false, List.getElem?_cons_zero, List.getElem?_cons_succ, Nat.reduceAdd, beq_self_eq_true, if_true, if_false, Nat.reduceEqDiff, reduceCtorEq, and_true, true_and, List.mem_nil_iff, List.not_mem_nil, b5, b2, b4]
  refine callPur (args2 := [valA 3 false false [] [rnA (97, 1000), rnA (98, 1)]]) (ids := []) rfl r16b ?_
  simp only [List.isEmpty_nil, Bool.true_or, if_true, wx, cond_true, cond_false, List.getElem?_cons_zero, List.getElem?_cons_succ, Nat.reduceAdd, beq_self_eq_true, if_true, if_false, Nat.reduceEqDiff, reduceCtorEq, and_true, true_and, List.mem_nil_iff, List.not_mem_nil, zf33]
  rw [st1 _ _ _ _ (sx_len _) (sx_ones _)]
  simp only [wx, cond_true, cond_false, List.getElem?_cons_zero, List.getElem?_cons_succ, Nat.reduceAdd, beq_self_eq_true, if_true, if_false, Nat.reduceEqDiff, reduceCtorEq, and_true, true_and, List.mem_nil_iff, List.not_mem_nil, b5, b3, b4]
  refine callPur (args2 := [valA 3 false false [] [rnA (97, 1001)]]) (ids := []) rfl q1 ?_
  simp only [List.isEmpty_nil, Bool.true_or, if_true, wx, cond_true, cond_false, List.getElem?_cons_zero, List.getElem?_cons_succ, Nat.reduceAdd, beq_self_eq_true, if_true, if_false, Nat.reduceEqDiff, reduceCtorEq, and_true, true_and, List.mem_nil_iff, List.not_mem_nil, zf33]
  rw [st1 (.agg cs) _ _ _ q3 q4]
  have e0 : ((0 : Int) == 0) = true := rfl
  have hx5 : xb.av.cells[5]? = some (.sl false (Sx.avs [atS 3 stpp, ascS [(97, 1000)], ascS [(98, 1)]])) := rfl
  have hl3 : ((Sx.avs [atS 3 stpp, ascS [(97, 1000)], ascS [(98, 1)]]).length : Int) = 3 := rfl
  have p2 : Ai.part 6 true 0 cs = some (.agg cs) := by
    simp only [part_agg, q3, List.drop_zero, Nat.zero_add, Nat.le_refl, if_true]
    rw [List.take_of_length_le (by omega)]
  simp only [wx, cond_true, cond_false, List.getElem?_cons_zero, List.getElem?_cons_succ, Nat.reduceAdd, beq_self_eq_true, if_true, if_false, Nat.reduceEqDiff, reduceCtorEq, and_true, true_and, List.mem_nil_iff, List.not_mem_nil, e0, show (([40, 45, 32, 53, 41] : List UInt8) == [40, 45, 32, 53, 41]) = true from rfl, hx5, ln31s, hl3, if_true, show ((3 : Int) == 3) = true from rfl, show (AV.agg cs).cells = cs from rfl, p2]
  refine callPu q5 (by simp [AV.closed, q2]) ?_
  simp only [wx, cond_true, cond_false, List.getElem?_cons_zero, List.getElem?_cons_succ, Nat.reduceAdd, beq_self_eq_true, if_true, if_false, Nat.reduceEqDiff, reduceCtorEq, and_true, true_and, List.mem_nil_iff, List.not_mem_nil, show ((13 : Int) == 13) = true from rfl]
  refine callPu (pure_f r22) (by simp [AV.closed]) ?_
  simp only [wx, cond_true, cond_false, List.getElem?_cons_zero, List.getElem?_cons_succ, Nat.reduceAdd, beq_self_eq_true, if_true, if_false, Nat.reduceEqDiff, reduceCtorEq, and_true, true_and, List.mem_nil_iff, List.not_mem_nil, show (([115, 116, 114, 46, 43, 43] : List UInt8) == [115, 116, 114, 46, 43, 43]) = true from rfl]
  exact pureQ_closed rfl
end Go.Proofs.YtdehdahimkcakaaGreatDoor
end
section
set_option linter.unusedVariables false
set_option linter.unusedSimpArgs false
set_option maxRecDepth 100000
set_option maxHeartbeats 4000000
namespace Go.Proofs.YtdehdahimkcakaaGreatDoor
open Go Ai
def wzA (neg : Bool) (n : List Nat) : AV := .agg [.bool neg, nsA n]
theorem wz_closed (neg : Bool) (n : List Nat) : (wzA neg n).closed = true := by
  simp only [wzA, AV.closed, closedL, ns_closed, Bool.and_self]
def madeM (neg : Bool) (n : List Nat) : Bool × List Nat := (neg && !(normM n == []), normM n)
theorem c105 (neg : Bool) (n : List Nat) (hn : n.length ≤ 2 ^ 30) : PureC Tryz.env 105 [.bool neg, nsA n] (wzA (madeM neg n).1 (madeM neg n).2) := by
  refine pure_q (f105_run _ _ _ ?_)
  unfold f105
  simp only [zf24, wx, cond_true, cond_false, List.getElem?_cons_zero, List.getElem?_cons_succ, Nat.reduceAdd, beq_self_eq_true, if_true, if_false, Nat.reduceEqDiff, reduceCtorEq, and_true, true_and, List.mem_nil_iff, List.not_mem_nil]
  refine callPu (c110 n hn) (by simp [ns_closed]) ?_
  have hb : ∀ b : Bool, bld 24 [(0, .bool b), (1, nsA (normM n))] = some (wzA b (normM n)) := fun b => by rw [bf24]; rfl
  have hl : decide (((normM n).length : Int) > 0) = !(normM n == []) := by
    cases h : normM n with
    | nil => rfl
    | cons x t => simp
  have hln : ∀ id s, bt .len #[22] [nsA (normM n)] id s = some (.int .i64 (normM n).length, s) := fun id s => by
    show bt .len #[22] [.sl false ((normM n).map u3A)] id s = _
    rw [ln22s, List.length_map]
  have hfin : ∀ (b : Bool) (s : St) (n1 : Nat), sto 2 (.ptr s.nx 0) (wzA b (normM n)) (Ai.adv (s.set s.nx (some (.cells (AV.agg [.bool false, .nils]).cells 24 true true))) n1) = some (Ai.adv (s.set s.nx (some (.cells (wzA b (normM n)).cells 24 true true))) n1) := fun b s n1 => by
    rw [sto_all (z := 2) (by rw [adv_h, st_same]) rfl rfl rfl, adv_set, set_set]
  have hp : ∀ b : Bool, Ai.part 2 true 0 (wzA b (normM n)).cells = some (wzA b (normM n)) := fun b => rfl
  cases neg with
  | false =>
    simp only [hb, wx, cond_true, cond_false, List.getElem?_cons_zero, List.getElem?_cons_succ, Nat.reduceAdd, beq_self_eq_true, if_true, if_false, Nat.reduceEqDiff, reduceCtorEq, and_true, true_and, List.mem_nil_iff, List.not_mem_nil]
    rw [hfin]
    simp only [wx, cond_true, cond_false, List.getElem?_cons_zero, List.getElem?_cons_succ, Nat.reduceAdd, beq_self_eq_true, if_true, if_false, Nat.reduceEqDiff, reduceCtorEq, and_true, true_and, List.mem_nil_iff, List.not_mem_nil, hp]
    exact pureQ_closed (wz_closed _ _)
  | true =>
    simp only [hln, hl, hb, wx, cond_true, cond_false, List.getElem?_cons_zero, List.getElem?_cons_succ, Nat.reduceAdd, beq_self_eq_true, if_true, if_false, Nat.reduceEqDiff, reduceCtorEq, and_true, true_and, List.mem_nil_iff, List.not_mem_nil]
    rw [hfin]
    simp only [wx, cond_true, cond_false, List.getElem?_cons_zero, List.getElem?_cons_succ, Nat.reduceAdd, beq_self_eq_true, if_true, if_false, Nat.reduceEqDiff, reduceCtorEq, and_true, true_and, List.mem_nil_iff, List.not_mem_nil, hp]
    exact pureQ_closed (wz_closed _ _)
theorem wz_part (b : Bool) (n : List Nat) : Ai.part 2 true 0 (wzA b n).cells = some (wzA b n) := rfl
theorem wz0 (b : Bool) (n : List Nat) : (wzA b n).cells[0]? = some (.bool b) := rfl
theorem wz1 (b : Bool) (n : List Nat) : (wzA b n).cells[1]? = some (nsA n) := rfl
theorem ln22ns (n : List Nat) (id : Nat) (s : St) : bt .len #[22] [nsA n] id s = some (.int .i64 n.length, s) := by
  show bt .len #[22] [.sl false (n.map u3A)] id s = _
  rw [ln22s, List.length_map]
theorem sto_wz (b b' : Bool) (n n' : List Nat) (q : St) (i c : Nat) : sto 2 (.ptr i 0) (wzA b n) (Ai.adv (q.set i (some (.cells (wzA b' n').cells 24 true true))) c) = some (Ai.adv (q.set i (some (.cells (wzA b n).cells 24 true true))) c) := by
  rw [sto_all (z := 2) (by rw [adv_h, st_same]) rfl rfl rfl, adv_set, set_set]
theorem c69 (neg : Bool) (n : List Nat) (hn : n.length ≤ 2 ^ 30) : PureC Tryz.env 69 [wzA neg n] (wzA (madeM neg n).1 (madeM neg n).2) := by
  refine pure_q (f69_run _ _ ?_)
  unfold f69
  refine ⟨rfl, ?_⟩
  simp only [zf24, wz0, wz1, wx, cond_true, cond_false, List.getElem?_cons_zero, List.getElem?_cons_succ, Nat.reduceAdd, beq_self_eq_true, if_true, if_false, Nat.reduceEqDiff, reduceCtorEq, and_true, true_and, List.mem_nil_iff, List.not_mem_nil]
  refine callPu (c105 neg n hn) (by simp [ns_closed, AV.closed]) ?_
  rw [sto_all (z := 2) (by rw [adv_h, st_same]) rfl rfl rfl]
  simp only [wx, cond_true, cond_false, List.getElem?_cons_zero, List.getElem?_cons_succ, Nat.reduceAdd, beq_self_eq_true, if_true, if_false, Nat.reduceEqDiff, reduceCtorEq, and_true, true_and, List.mem_nil_iff, List.not_mem_nil, wz_part]
  exact pureQ_closed (wz_closed _ _)
def signM (neg : Bool) (n : List Nat) : Int := bif normM n == [] then 0 else bif neg then -1 else 1
theorem c20 (neg : Bool) (n : List Nat) (hn : n.length ≤ 2 ^ 30) : PureC Tryz.env 20 [wzA neg n] (.int .i64 (signM neg n)) := by
  refine pure_q (f20_run _ _ ?_)
  unfold f20
  refine ⟨rfl, ?_⟩
  simp only [wz_part, wx, cond_true, cond_false, List.getElem?_cons_zero, List.getElem?_cons_succ, Nat.reduceAdd, beq_self_eq_true, if_true, if_false, Nat.reduceEqDiff, reduceCtorEq, and_true, true_and, List.mem_nil_iff, List.not_mem_nil]
  refine callPu (c69 neg n hn) (by simp [wz_closed]) ?_
  rw [sto_wz]
  simp only [wz0, wz1, ln22ns, wx, cond_true, cond_false, List.getElem?_cons_zero, List.getElem?_cons_succ, Nat.reduceAdd, beq_self_eq_true, if_true, if_false, Nat.reduceEqDiff, reduceCtorEq, and_true, true_and, List.mem_nil_iff, List.not_mem_nil]
  have hl : decide (((normM n).length : Int) > 0) = !(normM n == []) := by
    cases h : normM n with
    | nil => rfl
    | cons x t => simp
  unfold signM madeM
  simp only [hl]
  cases h : (normM n == []) <;> cases neg <;> simp only [Bool.not_true, Bool.not_false, cond_true, cond_false, wx, cond_true, cond_false, List.getElem?_cons_zero, List.getElem?_cons_succ, Nat.reduceAdd, beq_self_eq_true, if_true, if_false, Nat.reduceEqDiff, reduceCtorEq, and_true, true_and, List.mem_nil_iff, List.not_mem_nil, f20j1] <;> exact pureQ_closed rfl
def mayGo (left : Int) (p : Option Int) : List (Int × Int) → Bool
  | [] => true
  | r :: l => bif decide (r.1 < 0) || (decide (r.1 > 196607) || (decide (r.2 < 1) || (decide (r.2 > left) || p == some r.1))) then false else mayGo (left - r.2) (some r.1) l
def mayM (l : List (Int × Int)) : Bool := decide (l.length ≤ 65536) && mayGo 1099511627776 none l
theorem l60 (l : List (Int × Int)) (hl : l.length ≤ 65536) (ex : Bool) (Q : AV → St → Prop) (b : Bool) (hQ : ∀ s, Q (.bool b) s) : ∀ (m i : Nat) (left : Int) (p : Option Int) (s : St), i + m = l.length → 0 ≤ left → left ≤ 2 ^ 40 → (p = if i = 0 then none else (l[i - 1]?).map Prod.fst) → mayGo left p (l.drop i) = b →
    f60l1 Q (m + 1) (.sl ex (l.map rnA)) (.int .i64 left) (.sl ex (l.map rnA)) (.int .i64 l.length) (.int .i64 i) s := by
  intro m
  induction m with
  | zero =>
    intro i left p s hi h0 h1 hp hb
    show f60l1s Q (f60l1 Q 0) _ _ _ _ _ s
    have c1 : decide ((i : Int) < (l.length : Int)) = false := by simp; omega
    rw [List.drop_of_length_le (by omega)] at hb
    simp only [f60l1s, c1, f60j1, wx, cond_true, cond_false, List.getElem?_cons_zero, List.getElem?_cons_succ, Nat.reduceAdd, beq_self_eq_true, if_true, if_false, Nat.reduceEqDiff, reduceCtorEq, and_true, true_and, List.mem_nil_iff, List.not_mem_nil]
    have : b = true := hb.symm
    subst this
    exact hQ _
  | succ m ih =>
    intro i left p s hi h0 h1 hp hb
    show f60l1s Q (f60l1 Q (m + 1)) _ _ _ _ _ s
    have c1 : decide ((i : Int) < (l.length : Int)) = true := by simp; omega
    obtain ⟨r, hr⟩ : ∃ r, l[i]? = some r := ⟨_, List.getElem?_eq_getElem (by omega)⟩
    rw [get_drop l i r hr] at hb
    simp only [mayGo] at hb
    have hst : ∀ (v : AV) (q : St) (i n : Nat), v.cells.length = 2 → v.cells.all AV.one = true → sto 2 (.ptr i 0) v (Ai.adv (q.set i (some (.cells (AV.agg [.int .i64 0, .int .i64 0]).cells 109 true true))) n) = some (Ai.adv (q.set i (some (.cells v.cells 109 true true))) n) := fun v q i n e1 e2 => by
      rw [sto_all (z := 2) (by rw [adv_h, st_same]) rfl e1 e2, adv_set, set_set]
    have hix := ix_map encRn ex hr .i64
    have w1 : IntKind.i64.wrap ((i : Int) + 1) = ((i + 1 : Nat) : Int) := by rw [IntWalk.i64_in _ (by omega)]; rfl
    simp only [f60l1s, c1, hix, rn_part, zf109, wx, cond_true, cond_false, List.getElem?_cons_zero, List.getElem?_cons_succ, Nat.reduceAdd, beq_self_eq_true, if_true, if_false, Nat.reduceEqDiff, reduceCtorEq, and_true, true_and, List.mem_nil_iff, List.not_mem_nil]
    rw [hst _ _ _ _ rfl rfl]
    cases e1 : decide (r.1 < 0) with
    | true =>
      rw [e1, Bool.true_or, cond_true] at hb
      subst hb
      simp only [rn0, rn1, e1, wx, cond_true, cond_false, List.getElem?_cons_zero, List.getElem?_cons_succ, Nat.reduceAdd, beq_self_eq_true, if_true, if_false, Nat.reduceEqDiff, reduceCtorEq, and_true, true_and, List.mem_nil_iff, List.not_mem_nil]
      exact hQ _
    | false =>
    cases e2 : decide (r.1 > 196607) with
    | true =>
      rw [e1, e2, Bool.false_or, Bool.true_or, cond_true] at hb
      subst hb
      simp only [rn0, rn1, e1, e2, wx, cond_true, cond_false, List.getElem?_cons_zero, List.getElem?_cons_succ, Nat.reduceAdd, beq_self_eq_true, if_true, if_false, Nat.reduceEqDiff, reduceCtorEq, and_true, true_and, List.mem_nil_iff, List.not_mem_nil]
      exact hQ _
    | false =>
    cases e3 : decide (r.2 < 1) with
    | true =>
      rw [e1, e2, e3, Bool.false_or, Bool.false_or, Bool.true_or, cond_true] at hb
      subst hb
      simp only [rn0, rn1, e1, e2, e3, wx, cond_true, cond_false, List.getElem?_cons_zero, List.getElem?_cons_succ, Nat.reduceAdd, beq_self_eq_true, if_true, if_false, Nat.reduceEqDiff, reduceCtorEq, and_true, true_and, List.mem_nil_iff, List.not_mem_nil]
      exact hQ _
    | false =>
    cases e4 : decide (r.2 > left) with
    | true =>
      rw [e1, e2, e3, e4, Bool.false_or, Bool.false_or, Bool.false_or, Bool.true_or, cond_true] at hb
      subst hb
      simp only [rn0, rn1, e1, e2, e3, e4, wx, cond_true, cond_false, List.getElem?_cons_zero, List.getElem?_cons_succ, Nat.reduceAdd, beq_self_eq_true, if_true, if_false, Nat.reduceEqDiff, reduceCtorEq, and_true, true_and, List.mem_nil_iff, List.not_mem_nil]
      exact hQ _
    | false =>
    rw [e1, e2, e3, e4, Bool.false_or, Bool.false_or, Bool.false_or, Bool.false_or] at hb
    have o3 := of_decide_eq_false e3
    have o4 := of_decide_eq_false e4
    have w2 : IntKind.i64.wrap (left - r.2) = left - r.2 := IntWalk.i64_in _ (by omega)
    cases i with
    | zero =>
      simp only [if_true] at hp
      subst hp
      have hb : mayGo (left - r.2) (some r.1) (l.drop 1) = b := hb
      simp only [rn0, rn1, e1, e2, e3, e4, show decide (((0 : Nat) : Int) > 0) = false from rfl, f60j2, w1, w2, wx, cond_true, cond_false, List.getElem?_cons_zero, List.getElem?_cons_succ, Nat.reduceAdd, beq_self_eq_true, if_true, if_false, Nat.reduceEqDiff, reduceCtorEq, and_true, true_and, List.mem_nil_iff, List.not_mem_nil]
      exact ih 1 _ (some r.1) _ (by omega) (by omega) (by omega) (by simp only [Nat.one_ne_zero, if_false, Nat.sub_self]; rw [hr]; rfl) hb
    | succ k =>
      have c2 : decide (((k + 1 : Nat) : Int) > 0) = true := by simp
      obtain ⟨q, hq⟩ : ∃ q, l[k]? = some q := ⟨_, List.getElem?_eq_getElem (by omega)⟩
      have hix2 := ix_map encRn ex hq .i64
      have w3 : IntKind.i64.wrap (((k + 1 : Nat) : Int) - 1) = (k : Int) := by rw [IntWalk.i64_in _ (by omega)]; omega
      have hp : p = some q.1 := by rw [hp, if_neg (by omega), Nat.add_sub_cancel, hq]; rfl
      subst hp
      have e5 : (some q.1 == some r.1) = (q.1 == r.1) := rfl
      rw [e5] at hb
      cases e6 : (q.1 == r.1) with
      | true =>
        rw [e6, cond_true] at hb
        subst hb
        simp only [rn0, rn1, e1, e2, e3, e4, c2, w3, hix2, e6, wx, cond_true, cond_false, List.getElem?_cons_zero, List.getElem?_cons_succ, Nat.reduceAdd, beq_self_eq_true, if_true, if_false, Nat.reduceEqDiff, reduceCtorEq, and_true, true_and, List.mem_nil_iff, List.not_mem_nil]
        exact hQ _
      | false =>
        rw [e6, cond_false] at hb
        simp only [rn0, rn1, e1, e2, e3, e4, c2, w3, hix2, e6, f60j2, w1, w2, wx, cond_true, cond_false, List.getElem?_cons_zero, List.getElem?_cons_succ, Nat.reduceAdd, beq_self_eq_true, if_true, if_false, Nat.reduceEqDiff, reduceCtorEq, and_true, true_and, List.mem_nil_iff, List.not_mem_nil]
        exact ih (k + 1 + 1) _ (some r.1) _ (by omega) (by omega) (by omega) (by rw [if_neg (by omega), Nat.add_sub_cancel, hr]; rfl) hb
theorem c60 (ex : Bool) (l : List (Int × Int)) (hl : l.length ≤ 2 ^ 40) : PureC Tryz.env 60 [.sl ex (l.map rnA)] (.bool (mayM l)) := by
  refine pure_q (f60_run _ _ ?_)
  unfold f60 mayM
  simp only [ln25s, List.length_map, wx, cond_true, cond_false, List.getElem?_cons_zero, List.getElem?_cons_succ, Nat.reduceAdd, beq_self_eq_true, if_true, if_false, Nat.reduceEqDiff, reduceCtorEq, and_true, true_and, List.mem_nil_iff, List.not_mem_nil]
  cases h : decide (l.length ≤ 65536) with
  | false =>
    have h1 : decide ((l.length : Int) > 65536) = true := by simp at h ⊢; omega
    simp only [h1, wx, cond_true, cond_false, List.getElem?_cons_zero, List.getElem?_cons_succ, Nat.reduceAdd, beq_self_eq_true, if_true, if_false, Nat.reduceEqDiff, reduceCtorEq, and_true, true_and, List.mem_nil_iff, List.not_mem_nil]
    exact pureQ_closed rfl
  | true =>
    have h2 := of_decide_eq_true h
    have h1 : decide ((l.length : Int) > 65536) = false := by simp; omega
    simp only [h1, wx, cond_true, cond_false, List.getElem?_cons_zero, List.getElem?_cons_succ, Nat.reduceAdd, beq_self_eq_true, if_true, if_false, Nat.reduceEqDiff, reduceCtorEq, and_true, true_and, List.mem_nil_iff, List.not_mem_nil]
    exact ⟨l.length + 1, l60 l h2 ex _ _ (fun s => pureQ_closed rfl) l.length 0 1099511627776 none _ (by omega) (by decide) (by decide) rfl rfl⟩
theorem may_ok : ∀ (l : List (Int × Int)) (left : Int) (p : Option Int), 0 ≤ left → left ≤ 2 ^ 40 → mayGo left p l = true → (∀ r ∈ l, runOk r = true) ∧ sumR l ≤ left := by
  intro l
  induction l with
  | nil => intro left p h0 h1 _; exact ⟨fun r h => (by cases h), h0⟩
  | cons r l ih =>
    intro left p h0 h1 hb
    simp only [mayGo] at hb
    cases e1 : decide (r.1 < 0) with
    | true => rw [e1] at hb; cases hb
    | false =>
    cases e2 : decide (r.1 > 196607) with
    | true => rw [e1, e2] at hb; cases hb
    | false =>
    cases e3 : decide (r.2 < 1) with
    | true => rw [e1, e2, e3] at hb; cases hb
    | false =>
    cases e4 : decide (r.2 > left) with
    | true => rw [e1, e2, e3, e4] at hb; cases hb
    | false =>
    rw [e1, e2, e3, e4, Bool.false_or, Bool.false_or, Bool.false_or, Bool.false_or] at hb
    have o1 := of_decide_eq_false e1
    have o2 := of_decide_eq_false e2
    have o3 := of_decide_eq_false e3
    have o4 := of_decide_eq_false e4
    cases e5 : (p == some r.1) with
    | true => rw [e5] at hb; cases hb
    | false =>
      rw [e5, cond_false] at hb
      obtain ⟨h2, h3⟩ := ih _ _ (by omega) (by omega) hb
      refine ⟨fun q hq => ?_, by simp only [sumR]; omega⟩
      rcases List.mem_cons.1 hq with rfl | hq
      · simp only [runOk, point, Bool.and_eq_true, decide_eq_true_eq]; omega
      · exact h2 q hq
theorem mayM_ok {l : List (Int × Int)} (h : mayM l = true) : (∀ r ∈ l, runOk r = true) ∧ sumR l ≤ 2 ^ 40 ∧ l.length ≤ 65536 := by
  simp only [mayM, Bool.and_eq_true, decide_eq_true_eq] at h
  obtain ⟨h1, h2⟩ := may_ok l _ _ (by decide) (by decide) h.2
  exact ⟨h1, h2, h.1⟩
theorem sumR_drop (l : List (Int × Int)) (h : ∀ r ∈ l, runOk r = true) : ∀ i, 0 ≤ sumR (l.take i) ∧ sumR (l.take i) + sumR (l.drop i) = sumR l := by
  induction l with
  | nil => intro i; simp [sumR]
  | cons r l ih =>
    intro i
    have hr := h r (List.mem_cons_self ..)
    simp only [runOk, Bool.and_eq_true, decide_eq_true_eq] at hr
    cases i with
    | zero => simp [sumR]
    | succ i =>
      obtain ⟨h1, h2⟩ := ih (fun q hq => h q (List.mem_cons_of_mem _ hq)) i
      simp only [List.take_succ_cons, List.drop_succ_cons, sumR]
      omega
theorem l68 (l : List (Int × Int)) (hl : l.length ≤ 65536) (hok : ∀ r ∈ l, runOk r = true) (hs : sumR l ≤ 2 ^ 40) (ex : Bool) (Q : AV → St → Prop) (hQ : ∀ s, Q (.int .i64 (sumR l)) s) : ∀ (m i : Nat) (s : St), i + m = l.length →
    f68l1 Q (m + 1) (.int .i64 (sumR (l.take i))) (.sl ex (l.map rnA)) (.int .i64 l.length) (.int .i64 i) s := by
  intro m
  induction m with
  | zero =>
    intro i s hi
    show f68l1s Q (f68l1 Q 0) _ _ _ _ s
    have c1 : decide ((i : Int) < (l.length : Int)) = false := by simp; omega
    simp only [f68l1s, c1, f68j1, wx, cond_true, cond_false, List.getElem?_cons_zero, List.getElem?_cons_succ, Nat.reduceAdd, beq_self_eq_true, if_true, if_false, Nat.reduceEqDiff, reduceCtorEq, and_true, true_and, List.mem_nil_iff, List.not_mem_nil]
    rw [List.take_of_length_le (by omega)]
    exact hQ _
  | succ m ih =>
    intro i s hi
    show f68l1s Q (f68l1 Q (m + 1)) _ _ _ _ s
    have c1 : decide ((i : Int) < (l.length : Int)) = true := by simp; omega
    obtain ⟨r, hr⟩ : ∃ r, l[i]? = some r := ⟨_, List.getElem?_eq_getElem (by omega)⟩
    have hst : ∀ (v : AV) (q : St) (i n : Nat), v.cells.length = 2 → v.cells.all AV.one = true → sto 2 (.ptr i 0) v (Ai.adv (q.set i (some (.cells (AV.agg [.int .i64 0, .int .i64 0]).cells 109 true true))) n) = some (Ai.adv (q.set i (some (.cells v.cells 109 true true))) n) := fun v q i n e1 e2 => by
      rw [sto_all (z := 2) (by rw [adv_h, st_same]) rfl e1 e2, adv_set, set_set]
    have hix := ix_map encRn ex hr .i64
    have w1 : IntKind.i64.wrap ((i : Int) + 1) = ((i + 1 : Nat) : Int) := by rw [IntWalk.i64_in _ (by omega)]; rfl
    have d1 := sumR_drop l hok (i + 1)
    have d0 := sumR_drop l hok i
    have hd : 0 ≤ sumR (l.drop (i + 1)) := sumR_pos _ fun q hq => hok q (List.mem_of_mem_drop hq)
    have e : sumR (l.take (i + 1)) = sumR (l.take i) + r.2 := by
      have e1 := d0.2
      rw [get_drop l i r hr] at e1
      simp only [sumR] at e1
      omega
    have w2 : IntKind.i64.wrap (sumR (l.take i) + r.2) = sumR (l.take (i + 1)) := by rw [← e]; exact IntWalk.i64_in _ (by omega)
    simp only [f68l1s, c1, hix, rn_part, zf109, wx, cond_true, cond_false, List.getElem?_cons_zero, List.getElem?_cons_succ, Nat.reduceAdd, beq_self_eq_true, if_true, if_false, Nat.reduceEqDiff, reduceCtorEq, and_true, true_and, List.mem_nil_iff, List.not_mem_nil]
    rw [hst _ _ _ _ rfl rfl]
    simp only [rn1, w2, f68j2, w1, wx, cond_true, cond_false, List.getElem?_cons_zero, List.getElem?_cons_succ, Nat.reduceAdd, beq_self_eq_true, if_true, if_false, Nat.reduceEqDiff, reduceCtorEq, and_true, true_and, List.mem_nil_iff, List.not_mem_nil]
    exact ih (i + 1) _ (by omega)
def lenM (l : List (Int × Int)) : Int := bif mayM l then sumR l else 0
theorem c19 (ex : Bool) (l : List (Int × Int)) (hl : l.length ≤ 2 ^ 40) (hex : ex = false) : PureC Tryz.env 19 [.sl ex (l.map rnA)] (.int .i64 (lenM l)) := by
  refine pure_q (f19_run _ _ ?_)
  subst hex
  have hcl : (AV.sl false (l.map rnA)).closed = true := sl_closed_map _ _ fun _ _ => rfl
  unfold f19 lenM
  refine callPu (c60 false l hl) (by simp [hcl]) ?_
  cases h : mayM l with
  | false => simp only [wx, cond_true, cond_false, List.getElem?_cons_zero, List.getElem?_cons_succ, Nat.reduceAdd, beq_self_eq_true, if_true, if_false, Nat.reduceEqDiff, reduceCtorEq, and_true, true_and, List.mem_nil_iff, List.not_mem_nil]; exact pureQ_closed rfl
  | true =>
    obtain ⟨h1, h2, h3⟩ := mayM_ok h
    simp only [wx, cond_true, cond_false, List.getElem?_cons_zero, List.getElem?_cons_succ, Nat.reduceAdd, beq_self_eq_true, if_true, if_false, Nat.reduceEqDiff, reduceCtorEq, and_true, true_and, List.mem_nil_iff, List.not_mem_nil]
    refine callPu (v := .int .i64 (sumR l)) ?_ (by simp [hcl]) (pureQ_closed rfl)
    refine pure_q (f68_run _ _ ?_)
    unfold f68
    simp only [ln25s, List.length_map, wx, cond_true, cond_false, List.getElem?_cons_zero, List.getElem?_cons_succ, Nat.reduceAdd, beq_self_eq_true, if_true, if_false, Nat.reduceEqDiff, reduceCtorEq, and_true, true_and, List.mem_nil_iff, List.not_mem_nil]
    exact ⟨l.length + 1, l68 l h3 h1 h2 false _ (fun s => pureQ_closed rfl) l.length 0 _ (by omega)⟩
end Go.Proofs.YtdehdahimkcakaaGreatDoor
end
section
set_option linter.unusedVariables false
set_option linter.unusedSimpArgs false
set_option maxRecDepth 100000
set_option maxHeartbeats 4000000
namespace Go.Proofs.YtdehdahimkcakaaGreatDoor
open Go Ai
theorem at_ok {k : Int} {x : List UInt8} (hk : isInt k = true) (hx : x.length ≤ 2 ^ 40) : (atS k x).ok = true := by
  have h0 : isInt 0 = true := by decide
  have : maxLen = 9223372036854775807 := rfl
  simp only [atS, Sx.ok, Sx.oks, h0, hk, List.length_nil, Bool.and_true, Bool.true_and, Bool.and_eq_true, decide_eq_true_eq]
  omega
theorem half_ok (k : Nat) : (halfS k).ok = true := at_ok (by decide) (by have := itoaL_len k; simp only [List.length_cons]; omega)
theorem mk_ok {l : List Sx} (h : ∀ x ∈ l, x.ok = true) (hl : l.length ≤ 2 ^ 40) : (Sx.mk true 0 [] 0 0 l).ok = true := by
  have hs : Sx.oks l = true := by
    clear hl
    induction l with
    | nil => rfl
    | cons a l ih => simp only [Sx.oks, h a (List.mem_cons_self ..), ih fun x hx => h x (List.mem_cons_of_mem _ hx), Bool.and_self]
  have h0 : isInt 0 = true := by decide
  have : maxLen = 9223372036854775807 := rfl
  simp only [Sx.ok, h0, hs, List.length_nil, Bool.and_true, Bool.true_and, Bool.and_eq_true, decide_eq_true_eq]
  omega
theorem mem_two {α : Type} {p : α → Prop} {a b : α} (h1 : p a) (h2 : p b) : ∀ x ∈ [a, b], p x := by
  intro x hx
  simp only [List.mem_cons, List.mem_nil_iff, or_false] at hx
  rcases hx with rfl | rfl
  · exact h1
  · exact h2
theorem mem_one {α : Type} {p : α → Prop} {a : α} (h1 : p a) : ∀ x ∈ [a], p x := by
  intro x hx
  rw [List.mem_singleton.1 hx]; exact h1
theorem lst_ok2 {nm : List UInt8} {l : List Sx} (h1 : nm.length ≤ 2 ^ 40) (h2 : l.length ≤ 2 ^ 40) (h : ∀ x ∈ l, x.ok = true) : (lstS nm l).ok = true := by
  have : maxLen = 9223372036854775807 := rfl
  exact lst_ok (by omega) (by omega) h
theorem around_ok {k : Nat} {v y : Sx} (hv : v.ok = true) (hy : y.ok = true) : (aroundM k v y).ok = true :=
  lst_ok2 (by decide) (by simp) (mem_two (mk_ok (mem_one (mk_ok (mem_two (half_ok k) hv) (by simp))) (by simp)) hy)
theorem longUp_ok : ∀ (k : Nat) (y : Sx), y.ok = true → (longUp k y).ok = true := by
  intro k
  induction k with
  | zero => intro y h; exact h
  | succ k ih => intro y h; exact ih _ (around_ok (lst_ok2 (by decide) (by simp) (mem_two (half_ok k) (half_ok k))) h)
theorem longIn_ok (n : Nat) (hn : n.log2 ≤ 60) : (longIn n).ok = true := by
  unfold longIn
  have hl := bits_len n (n.log2 + 1)
  cases h : ((bitsDn n).length == 1) with
  | true =>
    simp only [cond_true]
    cases hb : bitsDn n with
    | nil => rw [hb] at h; cases h
    | cons k t => exact half_ok k
  | false =>
    refine lst_ok2 (by decide) (by simp only [List.length_map, bitsDn, List.length_reverse]; omega) fun x hx => ?_
    obtain ⟨k, _, rfl⟩ := List.mem_map.1 hx
    exact half_ok k
theorem log_le {n : Nat} (h : n ≤ 2 ^ 40) : n.log2 ≤ 40 := by
  by_cases h0 : n = 0
  · subst h0; decide
  · have h1 := Nat.log2_self_le h0
    by_cases hc : n.log2 ≤ 40
    · exact hc
    · exfalso
      have : 2 ^ 41 ≤ 2 ^ n.log2 := Nat.pow_le_pow_right (by decide) (by omega)
      omega
theorem run_log {r : Int × Int} (h : runOk r = true) : r.2.toNat.log2 ≤ 40 := by
  simp only [runOk, Bool.and_eq_true, decide_eq_true_eq] at h
  exact log_le (by omega)
theorem longM_ok {r : Int × Int} (h : runOk r = true) : (longM r).ok = true := by
  have hl := run_log h
  refine around_ok (at_ok (by decide) ?_) (longUp_ok _ _ (longIn_ok _ (by omega)))
  have := xscM_len [r.1]
  simp only [List.length_cons, List.length_nil] at this
  omega
def litS (l : List (Int × Int)) : Sx := atS 6 (xscM (expand l))
theorem txt_ok (n : Nat) : ∀ (l : List (Int × Int)), (∀ r ∈ l, runOk r = true) → ∀ p ∈ txtGo litS longM n l, p.ok = true := by
  induction n with
  | zero => intro l _ p hp; cases hp
  | succ n ih =>
    intro l hl p hp
    cases l with
    | nil => cases hp
    | cons r t =>
      simp only [txtGo] at hp
      cases h : (greedy (r :: t) 0 == 0) with
      | true =>
        rw [h, cond_true] at hp
        rcases List.mem_cons.1 hp with rfl | hp
        · exact longM_ok (hl r (List.mem_cons_self ..))
        · exact ih t (fun q hq => hl q (List.mem_cons_of_mem _ hq)) p hp
      | false =>
        rw [h, cond_false] at hp
        rcases List.mem_cons.1 hp with rfl | hp
        · have h2 := (chunk_list (r :: t) hl).2
          have := xscM_len (expand ((r :: t).take (greedy (r :: t) 0)))
          exact at_ok (by decide) (by omega)
        · exact ih _ (fun q hq => hl q (List.mem_of_mem_drop hq)) p hp
theorem len_sum : ∀ (l : List (Int × Int)), (∀ r ∈ l, runOk r = true) → (l.length : Int) ≤ sumR l := by
  intro l
  induction l with
  | nil => intro _; exact Int.le_refl 0
  | cons r l ih =>
    intro h
    have h1 := h r (List.mem_cons_self ..)
    simp only [runOk, Bool.and_eq_true, decide_eq_true_eq] at h1
    have := ih fun x hx => h x (List.mem_cons_of_mem _ hx)
    simp only [sumR, List.length_cons]; omega
def txtL (l : List (Int × Int)) : List Sx := txtGo litS longM l.length l
theorem c61g (l : List (Int × Int)) (hl : ∀ r ∈ l, runOk r = true) (hlen : l.length ≤ 2 ^ 20) : PureC Tryz.env 61 [.sl false (l.map rnA)] (.tup [(txtM (txtL l)).1.av, .int .i64 (txtM (txtL l)).2]) := by
  refine c61 litS longM runOk (fun l hl h0 => ?_) (fun r hr _ => c114 r hr) l (txt_ok _ l hl) hl hlen
  have hc := chunk_list l hl
  have hg := greedy_le l 0
  exact c115g false _ (sl_closed_map _ _ fun _ _ => rfl) (by
    have h1 := greedy_sum l 0 hl (by decide) (by decide)
    have h2 := len_sum (l.take (greedy l 0)) fun q hq => hl q (List.mem_of_mem_take hq)
    have : maxLen = 9223372036854775807 := rfl
    omega) _ hc.1 hc.2 (expand_pt _ fun q hq => hl q (List.mem_of_mem_take hq))
def minN : List UInt8 := [45]
def trueN : List UInt8 := [116, 114, 117, 101]
def falseN : List UInt8 := [102, 97, 108, 115, 101]
def valM (so : Int) (b neg : Bool) (n : List Nat) (l : List (Int × Int)) : Sx × Int :=
  bif so == 1 then (atS 3 (bif b then trueN else falseN), 0) else
  bif so == 2 then (bif decide (signM neg n < 0) then lstS minN [atS 4 (textM n)] else atS 4 (textM n), 0) else
  bif so == 3 && mayM l then txtM (txtL l) else (zeroSx0, 1)
def vlA (so : Int) (b neg : Bool) (n : List Nat) (l : List (Int × Int)) : AV := .agg [.int .i64 so, .bool b, .bool neg, nsA n, .sl false (l.map rnA)]
theorem vl_closed (so : Int) (b neg : Bool) (n : List Nat) (l : List (Int × Int)) : (vlA so b neg n l).closed = true := by
  have h : (AV.sl false (l.map rnA)).closed = true := sl_closed_map _ _ fun _ _ => rfl
  simp only [vlA, AV.closed, closedL, ns_closed, h, Bool.and_self]
  simpa [AV.closed] using h
section
variable (so : Int) (b neg : Bool) (n : List Nat) (l : List (Int × Int))
theorem vl_cells : (vlA so b neg n l).cells = [.int .i64 so, .bool b, .bool neg, nsA n, .sl false (l.map rnA)] := rfl
theorem c16 (hlm : limbs n) (hn : n.length ≤ 30) (hl : l.length ≤ 300) : PureC Tryz.env 16 [vlA so b neg n l] (.tup [(valM so b neg n l).1.av, .int .i64 (valM so b neg n l).2]) := by
  refine pure_q (f16_run _ _ ?_)
  unfold f16
  refine ⟨rfl, ?_⟩
  have hcl : (AV.sl false (l.map rnA)).closed = true := sl_closed_map _ _ fun _ _ => rfl
  have hp : ∀ q, Ai.part 2 true 2 [AV.int .i64 so, AV.bool b, AV.bool neg, nsA n, q] = some (wzA neg n) := fun q => rfl
  have hfin : ∀ (v : Sx) (e : Int), PureQ (.tup [v.av, .int .i64 e]) (.tup [v.av, .int .i64 e]) = fun s => PureQ (.tup [v.av, .int .i64 e]) (.tup [v.av, .int .i64 e]) s := fun _ _ => rfl
  have hq : ∀ (v : Sx) (e : Int) (s : St), PureQ (.tup [v.av, .int .i64 e]) (.tup [v.av, .int .i64 e]) s := fun v e s => pureQ_closed (by simp only [AV.closed, closedL, sx_closed, Bool.and_self])
  simp only [zf33, vl_cells, wx, cond_true, cond_false, List.getElem?_cons_zero, List.getElem?_cons_succ, Nat.reduceAdd, beq_self_eq_true, if_true, if_false, Nat.reduceEqDiff, reduceCtorEq, and_true, true_and, List.mem_nil_iff, List.not_mem_nil]
  unfold valM
  cases h1 : (so == 1) with
  | true =>
    cases b with
    | true =>
      simp only [wx, cond_true, cond_false, List.getElem?_cons_zero, List.getElem?_cons_succ, Nat.reduceAdd, beq_self_eq_true, if_true, if_false, Nat.reduceEqDiff, reduceCtorEq, and_true, true_and, List.mem_nil_iff, List.not_mem_nil]
      refine callPu (c56 trueN) (by simp [AV.closed]) ?_
      simp only [sto_sx, sto_sx0, sx_part, wx, cond_true, cond_false, List.getElem?_cons_zero, List.getElem?_cons_succ, Nat.reduceAdd, beq_self_eq_true, if_true, if_false, Nat.reduceEqDiff, reduceCtorEq, and_true, true_and, List.mem_nil_iff, List.not_mem_nil]
      exact hq _ _ _
    | false =>
      simp only [wx, cond_true, cond_false, List.getElem?_cons_zero, List.getElem?_cons_succ, Nat.reduceAdd, beq_self_eq_true, if_true, if_false, Nat.reduceEqDiff, reduceCtorEq, and_true, true_and, List.mem_nil_iff, List.not_mem_nil]
      refine callPu (c56 falseN) (by simp [AV.closed]) ?_
      simp only [sto_sx, sto_sx0, sx_part, wx, cond_true, cond_false, List.getElem?_cons_zero, List.getElem?_cons_succ, Nat.reduceAdd, beq_self_eq_true, if_true, if_false, Nat.reduceEqDiff, reduceCtorEq, and_true, true_and, List.mem_nil_iff, List.not_mem_nil]
      exact hq _ _ _
  | false =>
  cases h2 : (so == 2) with
  | true =>
    have c0 : bsl 31 1 [(0, (atS 4 (textM n)).av)] = some (.sl true [(atS 4 (textM n)).av]) := bsl_one tf31 (by decide) (sx_len _) (sx_ones _)
    simp only [hp, wx, cond_true, cond_false, List.getElem?_cons_zero, List.getElem?_cons_succ, Nat.reduceAdd, beq_self_eq_true, if_true, if_false, Nat.reduceEqDiff, reduceCtorEq, and_true, true_and, List.mem_nil_iff, List.not_mem_nil]
    refine callPu (c20 neg n (by omega)) (by simp [wz_closed]) ?_
    cases h4 : decide (signM neg n < 0) with
    | true =>
      simp only [h4, wx, cond_true, cond_false, List.getElem?_cons_zero, List.getElem?_cons_succ, Nat.reduceAdd, beq_self_eq_true, if_true, if_false, Nat.reduceEqDiff, reduceCtorEq, and_true, true_and, List.mem_nil_iff, List.not_mem_nil]
      refine callPu (c59 n hlm (by omega)) (by simp [ns_closed]) ?_
      refine callPu (c58 4 _) (by simp [AV.closed]) ?_
      simp only [c0, wx, cond_true, cond_false, List.getElem?_cons_zero, List.getElem?_cons_succ, Nat.reduceAdd, beq_self_eq_true, if_true, if_false, Nat.reduceEqDiff, reduceCtorEq, and_true, true_and, List.mem_nil_iff, List.not_mem_nil]
      refine c57 (l := [atS 4 (textM n)]) (M := []) (by simp) ?_ (fun s' he => ?_) rfl rfl fun s' he => ?_
      · rw [← adv_set]
        exact Fresh.set (fresh_set fresh_empty _ (by omega)) (by simp only [adv_nx, set_nx]; omega)
      · obtain ⟨ids, e1, e2⟩ := pur_sl (s := s') (ex := true) (k := 10) (l := [(atS 4 (textM n)).av]) (by simp only [closedL, sx_closed, Bool.and_self])
        subst e2
        exact ⟨[], e1, fun i hi => by cases hi⟩
      · rw [sto_all (z := 6) (by rw [he.h _ (by simp only [adv_nx, set_nx]; omega) (by simp), adv_h, st_same]) rfl (sx_len _) (sx_ones _)]
        simp only [sx_part, wx, cond_true, cond_false, List.getElem?_cons_zero, List.getElem?_cons_succ, Nat.reduceAdd, beq_self_eq_true, if_true, if_false, Nat.reduceEqDiff, reduceCtorEq, and_true, true_and, List.mem_nil_iff, List.not_mem_nil]
        exact hq _ _ _
    | false =>
      simp only [h4, h2, wx, cond_true, cond_false, List.getElem?_cons_zero, List.getElem?_cons_succ, Nat.reduceAdd, beq_self_eq_true, if_true, if_false, Nat.reduceEqDiff, reduceCtorEq, and_true, true_and, List.mem_nil_iff, List.not_mem_nil]
      refine callPu (c59 n hlm (by omega)) (by simp [ns_closed]) ?_
      refine callPu (c58 4 _) (by simp [AV.closed]) ?_
      simp only [sto_sx, sto_sx0, sx_part, wx, cond_true, cond_false, List.getElem?_cons_zero, List.getElem?_cons_succ, Nat.reduceAdd, beq_self_eq_true, if_true, if_false, Nat.reduceEqDiff, reduceCtorEq, and_true, true_and, List.mem_nil_iff, List.not_mem_nil]
      exact hq _ _ _
  | false =>
  have hz : ∀ s : St, ∀ i n, sto 6 (.ptr i 0) zeroB (Ai.adv (s.set i (some (.cells (AV.agg [.bool false, .int .i64 0, .str [], .int .i64 0, .int .i64 0, .nils]).cells 33 true true))) n) = some (Ai.adv (s.set i (some (.cells zeroB.cells 33 true true))) n) := fun s i n => by
    rw [sto_all (z := 6) (by rw [adv_h, st_same]) rfl rfl rfl, adv_set, set_set]
  have hzp : Ai.part 6 true 0 zeroB.cells = some zeroB := rfl
  have hzq : ∀ s, PureQ (.tup [zeroSx0.av, .int .i64 1]) (.tup [zeroB, .int .i64 1]) s := fun s => pureQ_of ⟨[], rfl, rfl⟩
  cases h3 : (so == 3) with
  | false =>
    simp only [f16j1, bld33z, wx, cond_true, cond_false, List.getElem?_cons_zero, List.getElem?_cons_succ, Nat.reduceAdd, beq_self_eq_true, if_true, if_false, Nat.reduceEqDiff, reduceCtorEq, and_true, true_and, List.mem_nil_iff, List.not_mem_nil]
    rw [hz]
    simp only [hzp, wx, cond_true, cond_false, List.getElem?_cons_zero, List.getElem?_cons_succ, Nat.reduceAdd, beq_self_eq_true, if_true, if_false, Nat.reduceEqDiff, reduceCtorEq, and_true, true_and, List.mem_nil_iff, List.not_mem_nil]
    exact hzq _
  | true =>
    simp only [wx, cond_true, cond_false, List.getElem?_cons_zero, List.getElem?_cons_succ, Nat.reduceAdd, beq_self_eq_true, if_true, if_false, Nat.reduceEqDiff, reduceCtorEq, and_true, true_and, List.mem_nil_iff, List.not_mem_nil]
    refine callPu (c60 false l (by omega)) (by simpa using hcl) ?_
    cases h4 : mayM l with
    | false =>
      simp only [f16j1, bld33z, wx, cond_true, cond_false, List.getElem?_cons_zero, List.getElem?_cons_succ, Nat.reduceAdd, beq_self_eq_true, if_true, if_false, Nat.reduceEqDiff, reduceCtorEq, and_true, true_and, List.mem_nil_iff, List.not_mem_nil]
      rw [hz]
      simp only [hzp, wx, cond_true, cond_false, List.getElem?_cons_zero, List.getElem?_cons_succ, Nat.reduceAdd, beq_self_eq_true, if_true, if_false, Nat.reduceEqDiff, reduceCtorEq, and_true, true_and, List.mem_nil_iff, List.not_mem_nil]
      exact hzq _
    | true =>
      obtain ⟨m1, m2, m3⟩ := mayM_ok h4
      simp only [wx, cond_true, cond_false, List.getElem?_cons_zero, List.getElem?_cons_succ, Nat.reduceAdd, beq_self_eq_true, if_true, if_false, Nat.reduceEqDiff, reduceCtorEq, and_true, true_and, List.mem_nil_iff, List.not_mem_nil]
      refine callPu (c61g l m1 (by omega)) (by simpa using hcl) ?_
      simp only [sto_sx, sto_sx0, sx_part, wx, cond_true, cond_false, List.getElem?_cons_zero, List.getElem?_cons_succ, Nat.reduceAdd, beq_self_eq_true, if_true, if_false, Nat.reduceEqDiff, reduceCtorEq, and_true, true_and, List.mem_nil_iff, List.not_mem_nil]
      exact hq _ _ _
end
def dpM : Nat → Sx → Nat
  | 0, _ => 0
  | m + 1, .mk l _ _ _ _ items => bif l then (items.map (dpM m)).foldl Nat.max 0 + 1 else 0
theorem mx_eq (a b : Nat) (id : Nat) (s : St) : bt .max #[3, 3] [.int .i64 (a : Int), .int .i64 (b : Int)] id s = some (.int .i64 ((Nat.max a b : Nat) : Int), s) := by
  have h : bt .max #[3, 3] [.int .i64 (a : Int), .int .i64 (b : Int)] id s = (minI (fun y x => decide (x < y)) [.int .i64 (a : Int), .int .i64 (b : Int)]).map (·, s) := by kernel_rfl
  rw [h]
  by_cases hab : a < b
  · have : Nat.max a b = b := Nat.max_eq_right (by omega)
    simp [minI, this, hab]
  · have : Nat.max a b = a := Nat.max_eq_left (by omega)
    simp [minI, this, hab]
theorem foldl_max (f : Sx → Nat) (l : List Sx) (d : Nat) (h : ∀ x ∈ l, f x ≤ d) : ∀ a, a ≤ d → (l.map f).foldl Nat.max a ≤ d := by
  induction l with
  | nil => intro a ha; exact ha
  | cons x l ih =>
    intro a ha
    simp only [List.map_cons, List.foldl_cons]
    exact ih (fun y hy => h y (List.mem_cons_of_mem _ hy)) _ (Nat.max_le.2 ⟨ha, h x (List.mem_cons_self ..)⟩)
theorem dp_le (m : Nat) : ∀ x, dpM m x ≤ m := by
  induction m with
  | zero => intro x; exact Nat.le_refl _
  | succ m ih =>
    intro x
    cases x with
    | mk l k t p a items =>
      simp only [dpM]
      cases l with
      | false => simp
      | true =>
        have := foldl_max (dpM m) items m (fun x _ => ih x) 0 (by omega)
        simp only [cond_true]; omega
theorem l70 (items : List Sx) (m : Nat) (hm : m ≤ 100) (hlen : items.length ≤ maxLen) (ih0 : ∀ s ∈ items, PureC Tryz.env 70 [s.av, .int .i64 m] (.int .i64 (dpM m s))) (Q : AV → St → Prop) (r : Nat) (hQ : ∀ s, Q (.int .i64 ((r + 1 : Nat) : Int)) s) (hr : r ≤ 100) :
    ∀ (c i a : Nat) (s : St), i + c = items.length → ((items.drop i).map (dpM m)).foldl Nat.max a = r → f70l1 Q (c + 1) (.int .i64 ((m + 1 : Nat) : Int)) (.int .i64 a) (.sl false (Sx.avs items)) (.int .i64 items.length) (.int .i64 i) s := by
  intro c
  induction c with
  | zero =>
    intro i a s hi ha
    show f70l1s Q (f70l1 Q 0) _ _ _ _ _ s
    have c1 : decide ((i : Int) < (items.length : Int)) = false := by simp; omega
    rw [List.drop_of_length_le (by omega)] at ha
    have ha : a = r := ha
    subst ha
    have w : IntKind.i64.wrap ((a : Int) + 1) = ((a + 1 : Nat) : Int) := by rw [IntWalk.i64_in _ (by omega)]; rfl
    simp only [f70l1s, c1, f70j1, w, wx, cond_true, cond_false, List.getElem?_cons_zero, List.getElem?_cons_succ, Nat.reduceAdd, beq_self_eq_true, if_true, if_false, Nat.reduceEqDiff, reduceCtorEq, and_true, true_and, List.mem_nil_iff, List.not_mem_nil]
    exact hQ _
  | succ c ih =>
    intro i a s hi ha
    show f70l1s Q (f70l1 Q (c + 1)) _ _ _ _ _ s
    have c1 : decide ((i : Int) < (items.length : Int)) = true := by simp; omega
    obtain ⟨y, hy⟩ : ∃ y, items[i]? = some y := ⟨_, List.getElem?_eq_getElem (by omega)⟩
    rw [get_drop items i y hy, List.map_cons, List.foldl_cons] at ha
    have hix := ix_avs false items i y hy
    have w1 : IntKind.i64.wrap ((i : Int) + 1) = ((i + 1 : Nat) : Int) := by have : maxLen = 9223372036854775807 := rfl; rw [IntWalk.i64_in _ (by omega)]; rfl
    have w2 : IntKind.i64.wrap (((m + 1 : Nat) : Int) - 1) = (m : Int) := by rw [IntWalk.i64_in _ (by omega)]; omega
    simp only [f70l1s, c1, hix, sx_part, zf33, wx, cond_true, cond_false, List.getElem?_cons_zero, List.getElem?_cons_succ, Nat.reduceAdd, beq_self_eq_true, if_true, if_false, Nat.reduceEqDiff, reduceCtorEq, and_true, true_and, List.mem_nil_iff, List.not_mem_nil]
    rw [sto_sx]
    simp only [sx_part, w2, wx, cond_true, cond_false, List.getElem?_cons_zero, List.getElem?_cons_succ, Nat.reduceAdd, beq_self_eq_true, if_true, if_false, Nat.reduceEqDiff, reduceCtorEq, and_true, true_and, List.mem_nil_iff, List.not_mem_nil]
    refine callPu (ih0 y (List.mem_of_getElem? hy)) (by simp [sx_closed, AV.closed]) ?_
    simp only [mx_eq, f70j2, w1, wx, cond_true, cond_false, List.getElem?_cons_zero, List.getElem?_cons_succ, Nat.reduceAdd, beq_self_eq_true, if_true, if_false, Nat.reduceEqDiff, reduceCtorEq, and_true, true_and, List.mem_nil_iff, List.not_mem_nil]
    exact ih (i + 1) _ _ (by omega) ha
theorem c70 : ∀ (m : Nat) (x : Sx), m ≤ 100 → x.ok = true → PureC Tryz.env 70 [x.av, .int .i64 m] (.int .i64 (dpM m x)) := by
  intro m
  induction m with
  | zero =>
    intro x _ _
    refine pure_q (f70_run _ _ _ ?_)
    unfold f70
    refine ⟨sx_ones x, ?_⟩
    cases x with
    | mk l k t p a items =>
      cases l with
      | false => simp only [mk_cells, wx, cond_true, cond_false, List.getElem?_cons_zero, List.getElem?_cons_succ, Nat.reduceAdd, beq_self_eq_true, if_true, if_false, Nat.reduceEqDiff, reduceCtorEq, and_true, true_and, List.mem_nil_iff, List.not_mem_nil]; exact pureQ_closed rfl
      | true =>
        simp only [mk_cells, show ((((0 : Nat) : Int)) == 0) = true from rfl, wx, cond_true, cond_false, List.getElem?_cons_zero, List.getElem?_cons_succ, Nat.reduceAdd, beq_self_eq_true, if_true, if_false, Nat.reduceEqDiff, reduceCtorEq, and_true, true_and, List.mem_nil_iff, List.not_mem_nil]; exact pureQ_closed rfl
  | succ m ih =>
    intro x hm hok
    refine pure_q (f70_run _ _ _ ?_)
    unfold f70
    refine ⟨sx_ones x, ?_⟩
    cases x with
    | mk l k t p a items =>
      obtain ⟨h1, h2⟩ := ok_items hok
      cases l with
      | false => simp only [mk_cells, wx, cond_true, cond_false, List.getElem?_cons_zero, List.getElem?_cons_succ, Nat.reduceAdd, beq_self_eq_true, if_true, if_false, Nat.reduceEqDiff, reduceCtorEq, and_true, true_and, List.mem_nil_iff, List.not_mem_nil]; exact pureQ_closed rfl
      | true =>
        have h0 : (((m + 1 : Nat) : Int) == 0) = false := by simp; omega
        have hfl := foldl_max (dpM m) items m (fun x _ => dp_le m x) 0 (by omega)
        simp only [mk_cells, h0, ln31s, avs_length, wx, cond_true, cond_false, List.getElem?_cons_zero, List.getElem?_cons_succ, Nat.reduceAdd, beq_self_eq_true, if_true, if_false, Nat.reduceEqDiff, reduceCtorEq, and_true, true_and, List.mem_nil_iff, List.not_mem_nil]
        exact ⟨items.length + 1, l70 items m (by omega) h1 (fun s hs => ih s (by omega) (h2 s hs)) _ _ (fun s => pureQ_closed rfl) (by omega) items.length 0 0 _ (by omega) rfl⟩
theorem c21 (x : Sx) (hok : x.ok = true) : PureC Tryz.env 21 [x.av] (.int .i64 (dpM 65 x)) := by
  refine pure_q (f21_run _ _ ?_)
  unfold f21
  refine ⟨sx_ones x, ?_⟩
  simp only [sx_part, wx, cond_true, cond_false, List.getElem?_cons_zero, List.getElem?_cons_succ, Nat.reduceAdd, beq_self_eq_true, if_true, if_false, Nat.reduceEqDiff, reduceCtorEq, and_true, true_and, List.mem_nil_iff, List.not_mem_nil]
  refine callPu (c70 65 x (by decide) hok) (by simp [sx_closed, AV.closed]) ?_
  exact pureQ_closed rfl
def Dp (d : Nat) (x : Sx) : Prop := ∀ m, dpM m x ≤ d
theorem dp_at (k : Int) (x : List UInt8) (d : Nat) : Dp d (atS k x) := fun m => by cases m <;> simp [dpM, atS]
theorem dp_mono {d e : Nat} {x : Sx} (h : Dp d x) (hd : d ≤ e) : Dp e x := fun m => Nat.le_trans (h m) hd
theorem dp_mk {d : Nat} {l : List Sx} {k p a : Int} {t : List UInt8} (h : ∀ x ∈ l, Dp d x) : Dp (d + 1) (.mk true k t p a l) := fun m => by
  cases m with
  | zero => exact Nat.zero_le _
  | succ m =>
    have := foldl_max (dpM m) l d (fun x hx => h x hx m) 0 (by omega)
    simp only [dpM, cond_true]; omega
theorem dp_lst {d : Nat} {nm : List UInt8} {l : List Sx} (h : ∀ x ∈ l, Dp d x) : Dp (d + 1) (lstS nm l) := by
  refine dp_mk fun x hx => ?_
  rcases List.mem_cons.1 hx with rfl | hx
  · exact dp_at _ _ _
  · exact h x hx
theorem dp_around {d k : Nat} {v y : Sx} (hd : 3 ≤ d) (hv : Dp 1 v) (hy : Dp d y) : Dp (d + 1) (aroundM k v y) :=
  dp_lst (mem_two (dp_mono (dp_mk (d := 2) (mem_one (dp_mk (mem_two (dp_at _ _ _) hv)))) hd) hy)
theorem dp_up : ∀ (k d : Nat) (y : Sx), 3 ≤ d → Dp d y → Dp (d + k) (longUp k y) := by
  intro k
  induction k with
  | zero => intro d y _ h; exact h
  | succ k ih =>
    intro d y hd h
    have := ih (d + 1) (aroundM (k + 1) (lstS stpp [halfS k, halfS k]) y) (by omega) (dp_around hd (dp_lst (d := 0) (mem_two (dp_at _ _ _) (dp_at _ _ _))) h)
    rw [show d + 1 + k = d + (k + 1) by omega] at this
    exact this
theorem dp_in (n : Nat) : Dp 3 (longIn n) := by
  unfold longIn
  cases ((bitsDn n).length == 1) with
  | true =>
    simp only [cond_true]
    cases bitsDn n with
    | nil => exact dp_at 0 [] 3
    | cons k t => exact dp_at _ _ _
  | false =>
    refine dp_mono (dp_lst (d := 0) fun x hx => ?_) (by decide)
    obtain ⟨k, _, rfl⟩ := List.mem_map.1 hx
    exact dp_at _ _ _
theorem dp_long {r : Int × Int} (h : runOk r = true) : Dp 44 (longM r) := by
  have := run_log h
  exact dp_mono (dp_around (d := 3 + r.2.toNat.log2) (by omega) (dp_at _ _ _) (dp_up _ 3 _ (by decide) (dp_in _))) (by omega)
theorem dp_txts (n : Nat) : ∀ (l : List (Int × Int)), (∀ r ∈ l, runOk r = true) → ∀ p ∈ txtGo litS longM n l, Dp 44 p := by
  induction n with
  | zero => intro l _ p hp; cases hp
  | succ n ih =>
    intro l hl p hp
    cases l with
    | nil => cases hp
    | cons r t =>
      simp only [txtGo] at hp
      cases h : (greedy (r :: t) 0 == 0) with
      | true =>
        rw [h, cond_true] at hp
        rcases List.mem_cons.1 hp with rfl | hp
        · exact dp_long (hl r (List.mem_cons_self ..))
        · exact ih t (fun q hq => hl q (List.mem_cons_of_mem _ hq)) p hp
      | false =>
        rw [h, cond_false] at hp
        rcases List.mem_cons.1 hp with rfl | hp
        · exact dp_at _ _ _
        · exact ih _ (fun q hq => hl q (List.mem_of_mem_drop hq)) p hp
def Sx.lst : Sx → Bool
  | .mk l _ _ _ _ _ => l
theorem greedy_more : ∀ (l : List (Int × Int)) (n : Int), (∀ r ∈ l, runOk r = true) → 0 ≤ n → n ≤ 1000 → greedy l n < l.length → n + sumR l > 1000 := by
  intro l
  induction l with
  | nil => intro n _ _ _ h; simp at h
  | cons r l ih =>
    intro n h h0 h1 hg
    have hr := h r (List.mem_cons_self ..)
    simp only [runOk, Bool.and_eq_true, decide_eq_true_eq] at hr
    have hp := sumR_pos l fun x hx => h x (List.mem_cons_of_mem _ hx)
    have hw : IntKind.i64.wrap (n + r.2) = n + r.2 := IntWalk.i64_in _ (by omega)
    simp only [greedy, hw] at hg
    simp only [sumR]
    cases hd : decide (n + r.2 ≤ 1000) with
    | true =>
      rw [hd, cond_true, List.length_cons] at hg
      have := ih (n + r.2) (fun x hx => h x (List.mem_cons_of_mem _ hx)) (by omega) (of_decide_eq_true hd) (by omega)
      omega
    | false => have := of_decide_eq_false hd; omega
theorem txt_spec (ps : List Sx) (hd : ∀ p ∈ ps, Dp 44 p) (hok : ∀ p ∈ ps, p.ok = true) (hl : ps.length ≤ 2 ^ 20) :
    ((txtM ps).2 = 2 ∧ (txtM ps).1 = zeroSx0) ∨ ((txtM ps).2 = 0 ∧ Dp 45 (txtM ps).1 ∧ (txtM ps).1.ok = true ∧ (txtM ps).1.lst = (match ps with | [] => false | [p] => p.lst | _ => true)) := by
  unfold txtM
  match ps, hd, hok, hl with
  | [], _, _, _ => exact .inr ⟨rfl, dp_at _ _ _, by decide, rfl⟩
  | [p], hd, hok, _ => exact .inr ⟨rfl, dp_mono (hd p (by simp)) (by decide), hok p (by simp), rfl⟩
  | p :: q :: t, hd, hok, hl =>
    have h0 : ((p :: q :: t).length == 0) = false := rfl
    simp only [h0, cond_false]
    cases decide (((p :: q :: t).length : Int) > 200) with
    | true => exact .inl ⟨rfl, rfl⟩
    | false =>
      simp only [cond_false]
      cases decide ((lstS stpp (p :: q :: t)).siz > 2000) with
      | true => exact .inl ⟨rfl, rfl⟩
      | false => exact .inr ⟨rfl, dp_lst hd, lst_ok2 (by decide) (by omega) hok, rfl⟩
theorem txtGo_ne (n : Nat) (r : Int × Int) (t : List (Int × Int)) : txtGo litS longM (n + 1) (r :: t) ≠ [] := by
  simp only [txtGo]
  cases (greedy (r :: t) 0 == 0) <;> simp
theorem txtL_lst (l : List (Int × Int)) (hl : ∀ r ∈ l, runOk r = true) : (match txtL l with | [] => false | [p] => p.lst | _ => true) = decide (sumR l > 1000) := by
  cases l with
  | nil => rfl
  | cons r t =>
    have hr := hl r (List.mem_cons_self ..)
    simp only [runOk, Bool.and_eq_true, decide_eq_true_eq] at hr
    have hp := sumR_pos t fun x hx => hl x (List.mem_cons_of_mem _ hx)
    have hgm := greedy_more (r :: t) 0 hl (by decide) (by decide)
    have hgs := greedy_sum (r :: t) 0 hl (by decide) (by decide)
    have hgl := greedy_le (r :: t) 0
    unfold txtL
    rw [List.length_cons]
    simp only [txtGo]
    cases h : (greedy (r :: t) 0 == 0) with
    | true =>
      have h0 : greedy (r :: t) 0 = 0 := by simpa using h
      have hs := hgm (by rw [h0]; simp)
      have : decide (sumR (r :: t) > 1000) = true := by simp only [decide_eq_true_eq]; omega
      rw [this]
      simp only [cond_true]
      cases txtGo litS longM t.length t with
      | nil => rfl
      | cons q u => rfl
    | false =>
      have h0 : greedy (r :: t) 0 ≠ 0 := by simpa using h
      generalize hg : greedy (r :: t) 0 = g at *
      simp only [cond_false]
      by_cases hx : g = (r :: t).length
      · subst hx
        rw [List.drop_length, List.take_length] at *
        have : decide (sumR (r :: t) > 1000) = false := by simp only [decide_eq_false_iff_not]; omega
        rw [this]
        cases t.length with
        | zero => rfl
        | succ m => rfl
      · have hs := hgm (by omega)
        have : decide (sumR (r :: t) > 1000) = true := by simp only [decide_eq_true_eq]; omega
        rw [this]
        obtain ⟨q, u, hq⟩ : ∃ q u, (r :: t).drop g = q :: u := by
          cases hd : (r :: t).drop g with
          | nil => exfalso; have := List.drop_eq_nil_iff.1 hd; omega
          | cons q u => exact ⟨q, u, rfl⟩
        have hn : 0 < t.length := by
          have : ((r :: t).drop g).length = u.length + 1 := by rw [hq]; rfl
          rw [List.length_drop, List.length_cons] at this; omega
        obtain ⟨m, hm⟩ : ∃ m, t.length = m + 1 := ⟨t.length - 1, by omega⟩
        have hne := txtGo_ne m q u
        rw [hq, hm]
        cases hh : txtGo litS longM (m + 1) (q :: u) with
        | nil => exact absurd hh hne
        | cons a b => rfl
theorem txtL_len (n : Nat) : ∀ (l : List (Int × Int)), (txtGo litS longM n l).length ≤ n := by
  induction n with
  | zero => intro l; simp [txtGo]
  | succ n ih =>
    intro l
    cases l with
    | nil => simp [txtGo]
    | cons r t =>
      simp only [txtGo]
      cases (greedy (r :: t) 0 == 0)
      · simp only [cond_false, List.length_cons]; have := ih ((r :: t).drop (greedy (r :: t) 0)); omega
      · simp only [cond_true, List.length_cons]; have := ih t; omega
def longB (so : Int) (l : List (Int × Int)) : Bool := so == 3 && decide (lenM l > 1000)
def belowB (so : Int) (neg : Bool) (n : List Nat) : Bool := so == 2 && decide (signM neg n < 0)
theorem textM_len (n : List Nat) (hl : limbs n) (hn : n.length ≤ 30) : (textM n).length ≤ 2 ^ 30 := by
  have hnl := norm_len n
  have hvt := val_ten (normM n) (norm_limbs hl)
  have hlen := text_len (val n) (2 * (normM n).length) (normM n) [] (norm_limbs hl) (norm_zero hl).1 hvt
  have hd : ((textGo (val n) (normM n) []).dropWhile (· == 48)).length ≤ (textGo (val n) (normM n) []).length := (List.dropWhile_suffix _).length_le
  unfold textM
  simp only
  rw [List.length_nil] at hlen
  split
  · simp
  · omega
theorem val_spec (so : Int) (b neg : Bool) (n : List Nat) (l : List (Int × Int)) (hlm : limbs n) (hn : n.length ≤ 30) (hl : l.length ≤ 300) :
    (((valM so b neg n l).2 = 1 ∨ (valM so b neg n l).2 = 2) ∧ (valM so b neg n l).1 = zeroSx0) ∨ ((valM so b neg n l).2 = 0 ∧ Dp 64 (valM so b neg n l).1 ∧ (valM so b neg n l).1.ok = true ∧ (valM so b neg n l).1.lst = (longB so l || belowB so neg n)) := by
  have ht := textM_len n hlm hn
  unfold valM longB belowB
  cases h1 : (so == 1) with
  | true =>
    have : so = 1 := by simpa using h1
    subst this
    right
    simp only [cond_true]
    exact ⟨trivial, dp_at _ _ _, at_ok (by decide) (by cases b <;> decide), rfl⟩
  | false =>
  cases h2 : (so == 2) with
  | true =>
    have : so = 2 := by simpa using h2
    subst this
    right
    simp only [cond_true, cond_false]
    cases decide (signM neg n < 0) with
    | true => exact ⟨trivial, dp_mono (dp_lst (d := 0) (mem_one (dp_at _ _ _))) (by decide), lst_ok2 (by decide) (by simp) (mem_one (at_ok (by decide) (by omega))), rfl⟩
    | false => exact ⟨trivial, dp_at _ _ _, at_ok (by decide) (by omega), rfl⟩
  | false =>
  cases h3 : (so == 3) with
  | false => left; exact ⟨.inl rfl, rfl⟩
  | true =>
    simp only [cond_false, Bool.true_and]
    cases h4 : mayM l with
    | false => left; exact ⟨.inl rfl, rfl⟩
    | true =>
      obtain ⟨m1, m2, m3⟩ := mayM_ok h4
      have hts := txt_spec (txtL l) (dp_txts _ l m1) (txt_ok _ l m1) (by have := txtL_len l.length l; unfold txtL; omega)
      simp only [cond_true]
      rcases hts with ⟨a1, a2⟩ | ⟨a1, a2, a3, a4⟩
      · left; exact ⟨.inr a1, a2⟩
      · right
        refine ⟨a1, dp_mono a2 (by decide), a3, ?_⟩
        rw [a4, txtL_lst l m1, lenM, h4]
        simp
theorem sx0 (x : Sx) : x.av.cells[0]? = some (.bool x.lst) := by cases x; rfl
theorem c4 (so : Int) (b neg : Bool) (n : List Nat) (l : List (Int × Int)) (hlm : limbs n) (hnm : n.length ≤ maxLen) (hlm2 : l.length ≤ maxLen) : ∃ s', WideC Tryz.env 4 [vlA so b neg n l] St.empty (.bool true) s' := by
  suffices hh : f4 (fun v _ => v = .bool true) (vlA so b neg n l) St.empty by
    obtain ⟨r, s', h1, rfl⟩ := f4_run _ _ hh
    exact ⟨s', h1⟩
  unfold f4
  refine ⟨rfl, ?_⟩
  refine callPu awake12 (by simp) ?_
  have hl0 : ∀ id s, bt .len #[25] [.sl false (l.map rnA)] id s = some (.int .i64 l.length, s) := fun id s => by rw [ln25s, List.length_map]
  simp only [vl_cells, hl0, wx, cond_true, cond_false, List.getElem?_cons_zero, List.getElem?_cons_succ, Nat.reduceAdd, beq_self_eq_true, if_true, if_false, Nat.reduceEqDiff, reduceCtorEq, and_true, true_and, List.mem_nil_iff, List.not_mem_nil]
  cases e1 : decide ((l.length : Int) > 300) with
  | true => simp only [wx, cond_true, cond_false, List.getElem?_cons_zero, List.getElem?_cons_succ, Nat.reduceAdd, beq_self_eq_true, if_true, if_false, Nat.reduceEqDiff, reduceCtorEq, and_true, true_and, List.mem_nil_iff, List.not_mem_nil]
  | false =>
  cases e2 : decide ((n.length : Int) > 30) with
  | true => simp only [ln22ns, e2, wx, cond_true, cond_false, List.getElem?_cons_zero, List.getElem?_cons_succ, Nat.reduceAdd, beq_self_eq_true, if_true, if_false, Nat.reduceEqDiff, reduceCtorEq, and_true, true_and, List.mem_nil_iff, List.not_mem_nil]
  | false =>
  have hl3 : l.length ≤ 300 := by have := of_decide_eq_false e1; omega
  have hn3 : n.length ≤ 30 := by have := of_decide_eq_false e2; omega
  have hcl : (AV.sl false (l.map rnA)).closed = true := sl_closed_map _ _ fun _ _ => rfl
  have hp5 : Ai.part 5 true 0 [AV.int .i64 so, AV.bool b, AV.bool neg, nsA n, .sl false (l.map rnA)] = some (vlA so b neg n l) := rfl
  have hp2 : ∀ q, Ai.part 2 true 2 [AV.int .i64 so, AV.bool b, AV.bool neg, nsA n, q] = some (wzA neg n) := fun q => rfl
  simp only [ln22ns, e2, hp5, wx, cond_true, cond_false, List.getElem?_cons_zero, List.getElem?_cons_succ, Nat.reduceAdd, beq_self_eq_true, if_true, if_false, Nat.reduceEqDiff, reduceCtorEq, and_true, true_and, List.mem_nil_iff, List.not_mem_nil]
  refine callPu (c16 so b neg n l hlm hn3 hl3) (by simp [vl_closed]) ?_
  have hs := val_spec so b neg n l hlm hn3 hl3
  generalize hx : valM so b neg n l = V at *
  obtain ⟨x, e⟩ := V
  simp only [zf33, wx, cond_true, cond_false, List.getElem?_cons_zero, List.getElem?_cons_succ, Nat.reduceAdd, beq_self_eq_true, if_true, if_false, Nat.reduceEqDiff, reduceCtorEq, and_true, true_and, List.mem_nil_iff, List.not_mem_nil]
  rw [sto_sx]
  rcases hs with ⟨h1, h2⟩ | ⟨h1, h2, h3, h4⟩
  · simp only at h1 h2
    subst h2
    have z0 : zeroSx0.av.cells = [.bool false, .int .i64 0, .str [], .int .i64 0, .int .i64 0, .sl false []] := rfl
    rcases h1 with h1 | h1
    · subst h1
      simp only [show ((1 : Int) != 0) = true from rfl, show ((1 : Int) == 1) = true from rfl, z0, show ((0 : Int) == 0) = true from rfl, wx, cond_true, cond_false, List.getElem?_cons_zero, List.getElem?_cons_succ, Nat.reduceAdd, beq_self_eq_true, if_true, if_false, Nat.reduceEqDiff, reduceCtorEq, and_true, true_and, List.mem_nil_iff, List.not_mem_nil]
    · subst h1
      simp only [show ((2 : Int) != 0) = true from rfl, show ((2 : Int) == 1) = false from rfl, show ((2 : Int) == 2) = true from rfl, z0, show ((0 : Int) == 0) = true from rfl, wx, cond_true, cond_false, List.getElem?_cons_zero, List.getElem?_cons_succ, Nat.reduceAdd, beq_self_eq_true, if_true, if_false, Nat.reduceEqDiff, reduceCtorEq, and_true, true_and, List.mem_nil_iff, List.not_mem_nil]
  · simp only at h1 h2 h3 h4
    subst h1
    simp only [show ((0 : Int) != 0) = false from rfl, wx, cond_true, cond_false, List.getElem?_cons_zero, List.getElem?_cons_succ, Nat.reduceAdd, beq_self_eq_true, if_true, if_false, Nat.reduceEqDiff, reduceCtorEq, and_true, true_and, List.mem_nil_iff, List.not_mem_nil]
    have hd : decide (((dpM 65 x : Nat) : Int) ≤ 64) = true := by have := h2 65; simp; omega
    have hfin : ∀ (s : St) (d : Bool), x.lst = d → Bnd (bn .eql 4 (.bool x.lst) (.bool d)) fun t73 =>
        Gd (wantV t73 true) s (fun k => k x.av s) fun t75 s31 =>
        Gd (wantV t73 true) s31 (fun k => CallPu Tryz.env 21 [t75] s31 k) fun t76 s32 =>
        Gd (wantV t73 true) s32 (fun k => Bnd (bn .leq 3 t76 (.int .i64 64)) fun v => k v s32) fun t77 s33 =>
        Bnd (pickV t73 t77 (.bool false)) fun t78 => t78 = .bool true := fun s d hxd => by
      rw [eqf4, hxd]
      simp only [wx, cond_true, cond_false, List.getElem?_cons_zero, List.getElem?_cons_succ, Nat.reduceAdd, beq_self_eq_true, if_true, if_false, Nat.reduceEqDiff, reduceCtorEq, and_true, true_and, List.mem_nil_iff, List.not_mem_nil]
      refine callPu (c21 x h3) (by simp [sx_closed]) ?_
      simp only [hd, wx, cond_true, cond_false, List.getElem?_cons_zero, List.getElem?_cons_succ, Nat.reduceAdd, beq_self_eq_true, if_true, if_false, Nat.reduceEqDiff, reduceCtorEq, and_true, true_and, List.mem_nil_iff, List.not_mem_nil]
    unfold longB belowB at h4
    cases e3 : (so == 3) with
    | true =>
      have : so = 3 := by simpa using e3
      subst this
      simp only [wx, cond_true, cond_false, List.getElem?_cons_zero, List.getElem?_cons_succ, Nat.reduceAdd, beq_self_eq_true, if_true, if_false, Nat.reduceEqDiff, reduceCtorEq, and_true, true_and, List.mem_nil_iff, List.not_mem_nil]
      refine callPu (c19 false l (by omega) rfl) (by simpa using hcl) ?_
      rw [show ((3 : Int) == 2) = false from rfl, Bool.false_and, Bool.or_false, show ((3 : Int) == 3) = true from rfl, Bool.true_and] at h4
      cases e4 : decide (lenM l > 1000) with
      | true =>
        rw [e4] at h4
        simp only [e4, show ((3 : Int) == 2) = false from rfl, sx0, sx_part, wx, cond_true, cond_false, List.getElem?_cons_zero, List.getElem?_cons_succ, Nat.reduceAdd, beq_self_eq_true, if_true, if_false, Nat.reduceEqDiff, reduceCtorEq, and_true, true_and, List.mem_nil_iff, List.not_mem_nil]
        exact hfin _ _ h4
      | false =>
        rw [e4] at h4
        simp only [e4, show ((3 : Int) == 2) = false from rfl, sx0, sx_part, wx, cond_true, cond_false, List.getElem?_cons_zero, List.getElem?_cons_succ, Nat.reduceAdd, beq_self_eq_true, if_true, if_false, Nat.reduceEqDiff, reduceCtorEq, and_true, true_and, List.mem_nil_iff, List.not_mem_nil]
        exact hfin _ _ h4
    | false =>
      rw [e3, Bool.false_and, Bool.false_or] at h4
      cases e5 : (so == 2) with
      | true =>
        rw [e5, Bool.true_and] at h4
        simp only [hp2, wx, cond_true, cond_false, List.getElem?_cons_zero, List.getElem?_cons_succ, Nat.reduceAdd, beq_self_eq_true, if_true, if_false, Nat.reduceEqDiff, reduceCtorEq, and_true, true_and, List.mem_nil_iff, List.not_mem_nil]
        refine callPu (c20 neg n (by omega)) (by simp [wz_closed]) ?_
        simp only [sx0, sx_part, wx, cond_true, cond_false, List.getElem?_cons_zero, List.getElem?_cons_succ, Nat.reduceAdd, beq_self_eq_true, if_true, if_false, Nat.reduceEqDiff, reduceCtorEq, and_true, true_and, List.mem_nil_iff, List.not_mem_nil]
        exact hfin _ _ h4
      | false =>
        rw [e5, Bool.false_and] at h4
        simp only [sx0, sx_part, wx, cond_true, cond_false, List.getElem?_cons_zero, List.getElem?_cons_succ, Nat.reduceAdd, beq_self_eq_true, if_true, if_false, Nat.reduceEqDiff, reduceCtorEq, and_true, true_and, List.mem_nil_iff, List.not_mem_nil]
        exact hfin _ _ h4
end Go.Proofs.YtdehdahimkcakaaGreatDoor
end
section
set_option linter.unusedVariables false
set_option linter.unusedSimpArgs false
set_option maxRecDepth 100000
namespace Go.Proofs.YtdehdahimkcakaaGreatDoor
open Go Ai
section
variable {H : Type}
theorem fields27 : fieldTys Tryz.ty 27 = some [3, 4, 24, 25] := by kernel_rfl
theorem fields24 : fieldTys Tryz.ty 24 = some [4, 22] := by kernel_rfl
theorem fields109 : fieldTys Tryz.ty 109 = some [3, 3] := by kernel_rfl
theorem vlist_of {α : Type} {f : α → AV} {p : DataW H → Prop} {ok : α → Prop} (h : ∀ d, p d → ∃ a, dAV d = f a ∧ ok a) (l : List (DataW H)) (hl : ∀ d ∈ l, p d) : ∃ bs : List α, dAVs l = bs.map f ∧ bs.length = l.length ∧ ∀ a ∈ bs, ok a := by
  induction l with
  | nil => exact ⟨[], rfl, rfl, fun _ h => by cases h⟩
  | cons d l ih =>
    obtain ⟨a, ha, ho⟩ := h d (hl d (List.mem_cons_self ..))
    obtain ⟨bs, h1, h2, h3⟩ := ih fun x hx => hl x (List.mem_cons_of_mem _ hx)
    exact ⟨a :: bs, by simp only [dAVs, ha, h1, List.map_cons], by simp [h2], fun x hx => (List.mem_cons.1 hx).elim (fun e => e ▸ ho) (h3 x)⟩
theorem rn_of (n : Nat) (d : DataW H) (h : TyD Tryz.ty n 109 d) : ∃ r : Int × Int, dAV d = rnA r ∧ True := by
  obtain ⟨m, l, rfl, rfl, hl, hf⟩ := h.struct fields109
  match l, hl with
  | [d0, d1], _ =>
  obtain ⟨x, rfl, _⟩ := (hf 0 3 d0 rfl rfl).int (k := .i64) (by kernel_rfl)
  obtain ⟨a, rfl, _⟩ := (hf 1 3 d1 rfl rfl).int (k := .i64) (by kernel_rfl)
  exact ⟨(x, a), rfl, trivial⟩
theorem limb_of (n : Nat) (d : DataW H) (h : TyD Tryz.ty n 211 d) : ∃ x : Nat, dAV d = u3A x ∧ x < 2 ^ 32 := by
  obtain ⟨x, rfl, hx⟩ := h.int (k := .u32) (by kernel_rfl)
  have h0 : (0 : Int) ≤ x ∧ x ≤ 4294967295 := by
    simp only [Lit.wf, Bool.and_eq_true, decide_eq_true_eq] at hx
    exact hx
  refine ⟨x.toNat, ?_, by rw [p32]; omega⟩
  show AV.int .u32 x = .int .u32 ((x.toNat : Nat) : Int)
  rw [Int.toNat_of_nonneg h0.1]
theorem val_of (n : Nat) (d : DataW H) (h : TyD Tryz.ty n 27 d) : ∃ so b neg n l, dAV d = vlA so b neg n l ∧ limbs n ∧ n.length ≤ maxLen ∧ l.length ≤ maxLen := by
  obtain ⟨m, l, rfl, rfl, hl, hf⟩ := h.struct fields27
  match l, hl with
  | [d0, d1, d2, d3], _ =>
  obtain ⟨so, rfl, _⟩ := (hf 0 3 d0 rfl rfl).int (k := .i64) (by kernel_rfl)
  obtain ⟨b, rfl⟩ := (hf 1 4 d1 rfl rfl).bool (by kernel_rfl)
  obtain ⟨m1, l1, rfl, rfl, hl1, hf1⟩ := (hf 2 24 d2 rfl rfl).struct fields24
  obtain ⟨m2, its, hm, hv, hlen, hel⟩ := (hf 3 25 d3 rfl rfl).list (e := 109) (by kernel_rfl)
  obtain ⟨rs, h1, h2, _⟩ := vlist_of (f := rnA) (fun d h => rn_of m2 d h) its hel
  match l1, hl1, hf1 with
  | [e0, e1], _, hf1 =>
  obtain ⟨neg, rfl⟩ := (hf1 0 4 e0 rfl rfl).bool (by kernel_rfl)
  obtain ⟨m3, its3, hm3, hv3, hlen3, hel3⟩ := (hf1 1 22 e1 rfl rfl).list (e := 211) (by kernel_rfl)
  obtain ⟨ns, h3, h4, h5⟩ := vlist_of (f := u3A) (fun d h => limb_of m3 d h) its3 hel3
  refine ⟨so, b, neg, ns, rs, ?_, h5, by omega, by omega⟩
  simp only [dAV, dAVc, AV.cells, hv, hv3, h1, h3, List.cons_append, List.nil_append, List.append_nil]
  rfl
end
end Go.Proofs.YtdehdahimkcakaaGreatDoor
end
