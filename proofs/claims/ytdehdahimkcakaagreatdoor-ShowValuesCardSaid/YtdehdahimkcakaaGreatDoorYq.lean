/- Texts joined by wip/tools/pack.py: Eg, Lo, Swr, Sw, Vl, Sv, Rv, Rb, Rt, Rp. -/
import Derived.Test.YtdehdahimkcakaaGreatDoorYp
section
set_option linter.unusedVariables false
set_option linter.unusedSimpArgs false
set_option maxRecDepth 100000
set_option maxHeartbeats 4000000
namespace Go.Proofs.YtdehdahimkcakaaGreatDoor
open Go Ai
def xscP (c : Int) : List UInt8 := bif asc c then [ascB c] else [92, 117, 123] ++ hexM c.toNat ++ [125]
def xscM (l : List Int) : List UInt8 := l.flatMap xscP
theorem hexGo_len (f : Nat) : ∀ (n : Nat) (acc : List UInt8), (hexGo f n acc).length ≤ f + 1 + acc.length := by
  induction f with
  | zero => intro n acc; simp [hexGo]; omega
  | succ f ih =>
    intro n acc
    simp only [hexGo]
    cases Nat.ble 16 n with
    | true => have := ih (n / 16) (dig n :: acc); simp only [cond_true]; rw [List.length_cons] at this; omega
    | false => simp only [cond_false, List.length_cons]; omega
theorem xscP_len (c : Int) : (xscP c).length ≤ 21 := by
  unfold xscP
  cases asc c with
  | true => simp
  | false =>
    have := hexGo_len 16 c.toNat []
    simp only [cond_false, List.length_append, List.length_cons, List.length_nil, hexM] at this ⊢
    omega
theorem xscM_len (l : List Int) : (xscM l).length ≤ 21 * l.length := by
  induction l with
  | nil => exact Nat.le_refl _
  | cons c l ih =>
    have := xscP_len c
    have e : xscM (c :: l) = xscP c ++ xscM l := rfl
    rw [e, List.length_append, List.length_cons]; omega
theorem l167g (ex : Bool) (l : List Int) (hl : l.length ≤ 1000) (ha : ∀ c ∈ l, point c = true) (Q : AV → St → Prop) (lo id : Nat) (hQ : ∀ s, Q (.tup [.str (xscM l), .int .i64 0]) s) :
    ∀ (m i : Nat) (s : St), i + m = l.length → Fresh s → lo ≤ s.nx → Bd lo s id (xscM (l.take i)) → f167l1 Q (m + 1) (.ptr id 0) (.sl ex (l.map inA)) (.int .i64 l.length) (.int .i64 i) s := by
  intro m
  induction m with
  | zero =>
    intro i s hi fr hlo hb
    show f167l1s Q (f167l1 Q 0) _ _ _ _ s
    rw [List.take_of_length_le (by omega)] at hb
    have := xscM_len l
    simp only [f167l1s, f167j1, Int.ofNat_lt, show ¬ (i < l.length) by omega, decide_false, wx, wy, Nat.reduceAdd, Nat.reduceEqDiff, reduceCtorEq]
    exact bstr hb.adv fr.adv (by omega) fun s' => hQ s'
  | succ m ihm =>
    intro i s hi fr hlo hb
    obtain ⟨c, hc⟩ : ∃ c, l[i]? = some c := ⟨_, List.getElem?_eq_getElem (by omega)⟩
    have hix := ix_in ex l i c hc
    have hlt : i < l.length := by omega
    have hpt := ha c (List.mem_of_getElem? hc)
    have hln : (xscM (l.take i)).length ≤ 21 * 1000 := by
      have := xscM_len (l.take i)
      rw [List.length_take] at this; omega
    have e : xscM (l.take (i + 1)) = xscM (l.take i) ++ xscP c := by
      rw [List.take_add_one, hc]; simp [xscM]
    have hj : ∀ s, Fresh s → lo ≤ s.nx → Bd lo s id (xscM (l.take i) ++ xscP c) → f167j2 Q (f167l1 Q (m + 1)) (.int .i64 i) (.ptr id 0) (.sl ex (l.map inA)) (.int .i64 l.length) s := by
      intro s fr hlo hb
      unfold f167j2
      simp only [wx, wy, Nat.reduceAdd, Nat.reduceEqDiff, reduceCtorEq]
      rw [wrap_len i _ hlt (by have : maxLen = 9223372036854775807 := rfl; omega)]
      exact ihm (i + 1) _ (by omega) fr.adv (by simp only [adv_nx]; omega) (by rw [e]; exact hb.adv)
    show f167l1s Q (f167l1 Q (m + 1)) _ _ _ _ s
    simp only [f167l1s, Int.ofNat_lt, hlt, decide_true, hix, wx, wy, Nat.reduceAdd, Nat.reduceEqDiff, reduceCtorEq]
    refine callPu (c181 c) (by simp [AV.closed]) ?_
    cases hac : asc c with
    | true =>
      have hby := ascB_by hac
      have hac' := hac
      simp only [asc, Bool.and_eq_true] at hac'
      obtain ⟨a1, a2, a3⟩ := hac'
      have ee : xscP c = [ascB c] := by simp [xscP, hac]
      rw [ee] at hj
      simp only [hpt, a1, a2, a3, cv35, hby, wx, wy, Nat.reduceAdd, Nat.reduceEqDiff, reduceCtorEq]
      refine wb hb.adv (fr.adv) (by simp only [adv_nx]; omega) (by omega) fun s' hb' hk => ?_
      obtain ⟨k1, k2, k3⟩ := hk
      simp only [adv_nx] at k1
      exact hj _ k2 (by omega) hb'
    | false =>
      have ee : xscP c = [92, 117, 123] ++ hexM c.toNat ++ [125] := by simp [xscP, hac]
      rw [ee] at hj
      have hpt' := hpt
      simp only [point, Bool.and_eq_true, decide_eq_true_eq] at hpt'
      have hc0 : c = ((c.toNat : Nat) : Int) := by omega
      have hfi := c207 c.toNat (by omega)
      rw [← hc0] at hfi
      have hxl : (hexM c.toNat).length ≤ 17 := by have := hexGo_len 16 c.toNat []; exact this
      have hk : ∀ s, Fresh s → lo ≤ s.nx → Bd lo s id (xscM (l.take i)) → CallPu Tryz.env 207 [.int .i64 c, .int .i64 16] s fun t14 s7 => Bnd (bn .add 9 (.str [92, 117, 123]) t14) fun t15 => Bnd (bn .add 9 t15 (.str [125])) fun t16 => CallWi Tryz.env 156 [.ptr id 0, t16] s7 fun t17 s8 => f167j2 Q (f167l1 Q (m + 1)) (.int .i64 i) (.ptr id 0) (.sl ex (l.map inA)) (.int .i64 l.length) s8 := by
        intro s fr hlo hb
        refine callPu hfi (by simp [AV.closed]) ?_
        rw [add_str (by simp only [List.length_cons, List.length_nil]; omega)]
        simp only [Bnd_some]
        rw [add_str (by simp only [List.length_append, List.length_cons, List.length_nil]; omega)]
        simp only [Bnd_some]
        refine ws hb fr hlo (by simp only [List.length_append, List.length_cons, List.length_nil]; omega) fun s' hb' hk => ?_
        obtain ⟨k1, k2, k3⟩ := hk
        exact hj _ k2 (by omega) hb'
      simp only [asc, Bool.and_eq_false_iff] at hac
      cases a1 : decide (c ≥ 32) with
      | false =>
        simp only [hpt, a1, wx, wy, Nat.reduceAdd, Nat.reduceEqDiff, reduceCtorEq]
        exact hk _ fr.adv (by simp only [adv_nx]; omega) hb.adv
      | true =>
        cases a2 : decide (c ≤ 126) with
        | false =>
          simp only [hpt, a1, a2, wx, wy, Nat.reduceAdd, Nat.reduceEqDiff, reduceCtorEq]
          exact hk _ fr.adv (by simp only [adv_nx]; omega) hb.adv
        | true =>
          have a3 : (c != 92) = false := by rw [a1, a2] at hac; simpa using hac
          simp only [hpt, a1, a2, a3, wx, wy, Nat.reduceAdd, Nat.reduceEqDiff, reduceCtorEq]
          exact hk _ fr.adv (by simp only [adv_nx]; omega) hb.adv
theorem c167g (ex : Bool) (l : List Int) (hl : l.length ≤ 1000) (ha : ∀ c ∈ l, point c = true) : PureC Tryz.env 167 [.sl ex (l.map inA)] (.tup [.str (xscM l), .int .i64 0]) := by
  refine pure_closed rfl (f167_run _ _ ?_)
  unfold f167
  simp only [zr163, len72s, List.length_map, Bnd_some]
  refine ⟨l.length + 1, ?_⟩
  refine l167g ex l hl ha _ 3 2 (fun _ => rfl) l.length 0 _ (by omega) ((fresh_empty.adv.set (by decide)).adv) (by decide) ?_
  exact ⟨by decide, .nilp, .nils, .inl rfl, by rw [adv_h]; exact st_same, gw_nil, fun _ => rfl⟩
theorem expand_pt (l : List (Int × Int)) (h : ∀ r ∈ l, runOk r = true) : ∀ c ∈ expand l, point c = true := by
  intro c hc
  unfold expand at hc
  obtain ⟨r, hr, hc⟩ := List.mem_flatMap.1 hc
  have h1 := h r hr
  have h2 := (List.mem_replicate.1 hc).2
  simp only [runOk, Bool.and_eq_true] at h1
  rw [h2]; exact h1.1.1
theorem c115g (ex : Bool) (l : List (Int × Int)) (hcl : (AV.sl ex (l.map rnA)).closed = true) (hlen : l.length ≤ maxLen) (out : List Int) (hm : listM l 1000 = (out, 0)) (hl : out.length ≤ 1000) (ha : ∀ c ∈ out, point c = true) :
    PureC Tryz.env 115 [.sl ex (l.map rnA)] (.tup [(atS 6 (xscM out)).av, .int .i64 0]) := by
  refine pure_closed rfl (f115_run _ _ ?_)
  unfold f115
  simp only [zr33, Bnd_some]
  have h1 := c166 ex l hlen 1000 (by omega) (by omega)
  rw [hm] at h1
  have hcl2 : (AV.sl false (out.map inA)).closed = true := by
    simp only [AV.closed, Bool.not_false, Bool.true_and]
    exact closedL_map _ _ fun _ => rfl
  refine callPu h1 (by simp only [List.mem_cons, List.mem_nil_iff, or_false, forall_eq_or_imp, forall_eq]; exact ⟨hcl, rfl⟩) ?_
  simp only [tupS, bn34n, wx, wy, Nat.reduceAdd, Nat.reduceEqDiff, reduceCtorEq, show ((0 : Int) != 0) = false from rfl]
  refine callPu (c167g false out hl ha) (by simp only [List.mem_cons, List.mem_nil_iff, or_false, forall_eq]; exact hcl2) ?_
  simp only [wx, wy, Nat.reduceAdd, Nat.reduceEqDiff, reduceCtorEq]
  refine callPu (c58 6 (xscM out)) (by simp [AV.closed]) ?_
  rw [sto_at (by simp only [adv_h, st_same]) 6 (xscM out) (.inr rfl)]
  simp only [Bnd_some]
  rw [st_same]
  rfl
end Go.Proofs.YtdehdahimkcakaaGreatDoor
end
section
set_option linter.unusedVariables false
set_option linter.unusedSimpArgs false
set_option maxRecDepth 100000
set_option maxHeartbeats 4000000
namespace Go.Proofs.YtdehdahimkcakaaGreatDoor
open Go Ai
theorem digA_len : ∀ f u, (digA f u).length ≤ f := by
  intro f
  induction f with
  | zero => intro u; exact Nat.le_refl _
  | succ f ih =>
    intro u
    simp only [digA]
    cases Nat.blt u 10 with
    | true => simp
    | false => simp only [cond_false, List.length_append, List.length_cons, List.length_nil]; have := ih (u / 10); omega
theorem itoaL_len (n : Int) : (itoaL n).length ≤ 21 := by
  unfold itoaL
  split
  · have := digA_len 20 n.natAbs; simp; omega
  · have := digA_len 20 n.toNat; omega
theorem c206 (n : Int) (h0 : -9223372036854775808 ≤ n) (h1 : n ≤ 9223372036854775807) : PureC Tryz.env 206 [.int .i64 n] (.str (itoaL n)) :=
  pure_q ⟨_, _, prim_f (g := itoaA) (by kernel_rfl) (by simp only [itoaA, h0, h1, and_self, if_true]; rfl), pureQ_closed rfl⟩
def halfS (k : Nat) : Sx := atS 3 (100 :: itoaL k)
theorem c163 (k : Nat) (hk : k < 2 ^ 62) : PureC Tryz.env 163 [.int .i64 k] (halfS k).av := by
  refine pure_q (f163_run _ _ ?_)
  unfold f163
  simp only [zf33, wx, wy, Nat.reduceAdd, Nat.reduceEqDiff, reduceCtorEq]
  refine callPu (c206 k (by omega) (by omega)) (by simp [AV.closed]) ?_
  have := itoaL_len k
  rw [add_str (x := [100]) (by simp only [List.length_cons, List.length_nil]; omega)]
  simp only [Bnd_some]
  refine callPu (c56 _) (by simp [AV.closed]) ?_
  rw [sto_sx]
  simp only [wx, wy, Nat.reduceAdd, Nat.reduceEqDiff, reduceCtorEq, sx_part]
  exact pureQ_closed (sx_closed (halfS k))
theorem rch0 (s : St) (k : IntKind) (n : Int) (f : FuncId) : rch s [.fn f [] [], .int k n] = [] := rfl
theorem bsl_two {t e : TypeId} {z b : Nat} {ag : Bool} (h : SlTy t e z ag b) (hm : 2 * z ≤ 2 ^ 24) {v w : AV} (hv : v.cells.length = z) (ho : v.cells.all AV.one = true) (hv' : w.cells.length = z) (ho' : w.cells.all AV.one = true) : bsl t 2 [(0, v), (1, w)] = some (.sl true [v, w]) := by
  have h4 := h.zr
  cases hz : zero Tryz.ty e with
  | none => rw [hz] at h4; cases h4
  | some zv =>
    rw [hz] at h4
    simp only [Option.map_some, Option.some.injEq] at h4
    simp [buildSl, h.u, h.l, hz, h4, h.pos, hm, setParts, hv, ho, hv', ho', List.replicate]
def bindS (k : Nat) (v : Sx) : Sx := .mk true 0 [] 0 0 [.mk true 0 [] 0 0 [halfS k, v]]
def letN : List UInt8 := [108, 101, 116]
def aroundM (k : Nat) (v y : Sx) : Sx := lstS letN [bindS k v, y]
def rawA (l : List AV) : AV := .agg [.bool true, .int .i64 0, .str [], .int .i64 0, .int .i64 0, .sl true l]
theorem raw_b (l : List AV) : bld 33 [(0, .bool true), (3, .sl true l)] = some (rawA l) := by rw [bf33]; rfl
theorem raw_len (l : List AV) : (rawA l).cells.length = 6 := rfl
theorem raw_ones (l : List AV) : (rawA l).cells.all AV.one = true := rfl
theorem raw_part (l : List AV) : Ai.part 6 true 0 (rawA l).cells = some (rawA l) := rfl
theorem purL_two {f : AV → Option (AV × List Nat)} {a b a' b' : AV} (h1 : f a = some (a', [])) (h2 : f b = some (b', [])) : purL f [a, b] = some ([a', b'], []) := by
  simp only [purL, h1, h2]; rfl
theorem pur_raw {s : St} {k : Nat} {l l' : List AV} (h : purL (pur Tryz.env.P s k) l = some (l', [])) : pur Tryz.env.P s (k + 2) (rawA l) = some (.agg [.bool true, .int .i64 0, .str [], .int .i64 0, .int .i64 0, .sl false l'], []) := by
  have h1 : pur Tryz.env.P s (k + 1) (.sl true l) = some (.sl false l', []) := by
    unfold pur
    rw [if_neg (by simp [AV.closed])]
    simp only [h, Option.map_some]
  have h2 : ∀ v : AV, v.closed = true → pur Tryz.env.P s (k + 1) v = some (v, []) := fun v hv => pur_closed (k + 1) hv
  conv => lhs; unfold pur rawA
  rw [if_neg (by simp [AV.closed, closedL])]
  simp only [purL, h1, h2 (.bool true) rfl, h2 (.int .i64 0) rfl, h2 (.str []) rfl]
  rfl
theorem pur_letargs {s : St} (k : Nat) (v y : Sx) : pur Tryz.env.P s 11 (.sl true [rawA [rawA [(halfS k).av, v.av]], y.av]) = some (lsA [bindS k v, y], []) := by
  have a1 := pur_raw (s := s) (k := 6) (l := [(halfS k).av, v.av]) (l' := [(halfS k).av, v.av]) (purL_closed 6 (by simp only [closedL, sx_closed, Bool.and_self]))
  have a2 := pur_raw (s := s) (k := 8) (l := [rawA [(halfS k).av, v.av]]) (by simp only [purL, a1]; rfl)
  unfold pur
  rw [if_neg (by simp [AV.closed])]
  simp only [purL_two a2 (pur_closed 10 (sx_closed y)), Option.map_some]
  rfl
theorem nbeq_add (n k : Nat) : Nat.beq n (n + (k + 1)) = false := by
  cases h : Nat.beq n (n + (k + 1)) with
  | false => rfl
  | true => have := Nat.eq_of_beq_eq_true h; omega
theorem c165 {s : St} {K : AV → St → Prop} {n6 : Nat} (k : Nat) (hk : k < 2 ^ 62) (v y : Sx) (fr : Fresh s) (h6 : s.h n6 = some (.cells y.av.cells 33 true true)) (hK : ∀ s', EF [n6] s s' → s'.h n6 = some (.cells (aroundM k v y).av.cells 33 true true) → K (.tup []) s') :
    CallWi Tryz.env 165 [.int .i64 k, v.av, .ptr n6 0] s K := by
  have hlt : n6 < s.nx := by
    by_cases hc : n6 < s.nx
    · exact hc
    · rw [fr n6 (by omega)] at h6; cases h6
  refine callWiF (by kernel_rfl) (f165_run _ _ _ _ ?_)
  unfold f165
  refine ⟨sx_ones v, ?_⟩
  rw [rch0]
  refine callPuD (c163 k hk) (by simp [AV.closed]) ?_
  have b2 := bsl_two tf31 (by decide) (sx_len (halfS k)) (sx_ones (halfS k)) (sx_len v) (sx_ones v)
  have b1 : ∀ l, bsl 31 1 [(0, rawA l)] = some (.sl true [rawA l]) := fun l => bsl_one tf31 (by decide) (raw_len l) (raw_ones l)
  have b3 : ∀ l, bsl 31 2 [(0, rawA l), (1, y.av)] = some (.sl true [rawA l, y.av]) := fun l => bsl_two tf31 (by decide) (raw_len l) (raw_ones l) (sx_len y) (sx_ones y)
  have z1 : s.h (s.nx + 6) = none := fr _ (by omega)
  have z2 : s.h (s.nx + 7) = none := fr _ (by omega)
  simp only [wx, wy, Nat.reduceAdd, Nat.reduceEqDiff, reduceCtorEq, sx_part, b2, raw_b]
  refine ⟨by simp only [clear, List.all_cons, List.all_nil, Mark.apart, okLo, disj_nil, bit_of, Nat.reduceShiftRight, Nat.reduceMod, Bool.not_true, Bool.not_false, Option.isNone_none, Option.isNone_some, decide_true, decide_false, Nat.reduceEqDiff, Nat.zero_ne_one, wx, wy, Nat.reduceAdd, Nat.reduceEqDiff, reduceCtorEq]; simp [disj, memB, nbeq_add], ?_⟩
  simp only [zf33, z1, z2, wx, wy, Nat.reduceAdd, Nat.reduceEqDiff, reduceCtorEq]
  rw [sto_all (z := 6) (v := rawA [(halfS k).av, v.av]) (by simp only [adv_h, st_same]; rfl) rfl (raw_len _) (raw_ones _)]
  simp only [wx, wy, Nat.reduceAdd, Nat.reduceEqDiff, reduceCtorEq, raw_part, b1, raw_b, old_ne hlt, old_ne0 hlt, h6, sx_part, b3]
  have E1 : EF [] s (Ai.adv ((s.set s.nx (some (.cells v.av.cells 33 true true))).set (s.nx + 6) (some (.cells (rawA [(halfS k).av, v.av]).cells 33 true true))) 15) :=
    (((EF.refl [] fr).adv (n := 15)).set (i := s.nx) (by simp only [adv_nx]; omega) (.inl (Nat.le_refl _))).set (i := s.nx + 6) (by simp only [adv_nx, set_nx]; omega) (.inl (by omega))
  refine c57 (l := [bindS k v, y]) (M := []) (by simp) E1.fr (fun s' he => ⟨[], pur_letargs k v y, fun i hi => by cases hi⟩) rfl rfl fun s' he => ?_
  have h6' : s'.h n6 = some (.cells y.av.cells 33 true true) := by
    rw [he.h n6 (by simp only [adv_nx, set_nx]; omega) (by simp), adv_h, st_other (by omega), st_other (by omega)]; exact h6
  have E2 := E1.trans he (fun i hi => by cases hi)
  rw [sto_all (z := 6) h6' (sx_len y) (sx_len _) (sx_ones _)]
  simp only [Bnd_some]
  have hnx := E2.nx
  exact hK _ ((E2.sub (M' := [n6]) (fun i hi => by cases hi)).set (by omega) (.inr (by simp))) (by rw [st_same]; rfl)
def flt (l : List Sx) : List AV := (l.map Sx.av).flatMap AV.cells
theorem flt_app (a b : List Sx) : flt (a ++ b) = flt a ++ flt b := by simp [flt]
theorem flt_cons (x : Sx) (b : List Sx) : flt (x :: b) = x.av.cells ++ flt b := by simp [flt]
theorem flt_len (a : List Sx) : (flt a).length = a.length * 6 := by
  induction a with
  | nil => rfl
  | cons x a ih => rw [flt_cons, List.length_append, sx_len, ih, List.length_cons]; omega
theorem sx_agg (y : Sx) : AV.agg y.av.cells = y.av := by cases y; rfl
theorem ld6 {l : List Sx} {k i : Nat} {y : Sx} {e : TypeId} {ex wr : Bool} {s : St} (hs : s.h i = some (.cells (flt l) e ex wr)) (hk : l[k]? = some y) : ld 6 true (.ptr i (k * 6)) s = some y.av := by
  have h := drop_flat (z := 6) (vs := l.map Sx.av) (i := k) (v := y.av) (fun v hv => by obtain ⟨a, _, rfl⟩ := List.mem_map.1 hv; exact sx_len a) (by rw [List.getElem?_map, hk]; rfl)
  rw [ld_ptr, hs]
  simp only [part_agg]
  unfold flt
  rw [if_pos h.2, h.1, sx_agg]
theorem sto6 {A B : List Sx} {y v : Sx} {i : Nat} {e : TypeId} {ex : Bool} {s : St} (hs : s.h i = some (.cells (flt (A ++ y :: B)) e ex true)) : sto 6 (.ptr i (A.length * 6)) v.av s = some (s.set i (some (.cells (flt (A ++ v :: B)) e ex true))) := by
  show Ai.store 6 (.ptr i (A.length * 6)) v.av s = _
  unfold Ai.store
  simp only [hs]
  rw [if_pos ⟨sx_len v, by rw [flt_len, List.length_append, List.length_cons]; omega, sx_ones v⟩]
  have := many_in v.av.cells (flt A) (y.av.cells ++ flt B) (by rw [List.length_append, sx_len, sx_len]; omega)
  rw [flt_app, flt_cons, ← flt_len A, this, sx_len, flt_app, flt_cons, List.append_assoc]
  rw [show (y.av.cells ++ flt B).drop 6 = flt B by rw [← sx_len y, List.drop_left]]
theorem two_ends {α : Type} (l : List α) (h : 2 ≤ l.length) : ∃ x m y, l = x :: (m ++ [y]) := by
  match l, h with
  | x :: t, h =>
    have ht : t ≠ [] := by intro h0; subst h0; simp at h
    exact ⟨x, t.dropLast, t.getLast ht, by rw [List.dropLast_concat_getLast]⟩
theorem l164 (Q : AV → St → Prop) (s0 : St) (id N : Nat) (hN : N ≤ 2 ^ 40) (hid : id < s0.nx) (e : TypeId) (ex : Bool) (r : List Sx) (hQ : ∀ s', EF [id] s0 s' → s'.h id = some (.cells (flt r) e ex true) → Q (.tup []) s') :
    ∀ (m : Nat) (A mid B : List Sx) (s : St), mid.length ≤ m → A.length + mid.length + B.length = N → EF [id] s0 s → s.h id = some (.cells (flt (A ++ mid ++ B)) e ex true) → A ++ mid.reverse ++ B = r →
      f164l1 Q (m + 1) (.ref id 0 N none 33) (.int .i64 A.length) (.int .i64 ((A.length : Int) + mid.length - 1)) s := by
  intro m
  induction m with
  | zero =>
    intro A mid B s hm hn ef hs hr
    have : mid = [] := List.length_eq_zero_iff.1 (by omega)
    subst this
    have h1 : decide ((A.length : Int) < (A.length : Int) + (([] : List Sx).length : Int) - 1) = false := by simp; omega
    show f164l1s Q (f164l1 Q 0) _ _ _ s
    simp only [f164l1s, h1, wx, wy, Nat.reduceAdd, Nat.reduceEqDiff, reduceCtorEq]
    exact hQ _ ef.adv (by rw [adv_h, hs, ← hr]; rfl)
  | succ m ih =>
    intro A mid B s hm hn ef hs hr
    show f164l1s Q (f164l1 Q (m + 1)) _ _ _ s
    by_cases h2 : 2 ≤ mid.length
    · obtain ⟨x, mm, y, hmid⟩ := two_ends mid h2
      subst hmid
      simp only [List.length_cons, List.length_append, List.length_nil] at hm hn ⊢
      obtain ⟨J, hJ⟩ : ∃ J, J = A.length + mm.length + 1 := ⟨_, rfl⟩
      have hj : ((A.length : Int) + ((mm.length + (0 + 1) + 1 : Nat) : Int) - 1) = (J : Int) := by omega
      rw [hj]
      have h1 : decide ((A.length : Int) < (J : Int)) = true := by simp; omega
      have i1 := ix_ref (e := 33) (z := 6) (i := A.length) (id := id) (off := 0) (n := N) (c := none) (by omega) .i64
      have i2 := ix_ref (e := 33) (z := 6) (i := J) (id := id) (off := 0) (n := N) (c := none) (by omega) .i64
      rw [Nat.zero_add] at i1 i2
      have hnx := ef.nx
      have z1 : s.h (s.nx + 16) = none := ef.fr _ (by omega)
      have z2 : s.h (s.nx + 18) = none := ef.fr _ (by omega)
      have hs0 : ∀ n, (Ai.adv s n).h id = some (.cells (flt (A ++ x :: (mm ++ y :: B))) e ex true) := fun n => by
        rw [adv_h, hs]; simp
      have lx := ld6 (k := A.length) (y := x) (hs0 19) (by simp)
      have ly := ld6 (k := J) (y := y) (hs0 19) (by
        rw [List.getElem?_append_right (by omega), show J - A.length = mm.length + 1 by omega, List.getElem?_cons_succ, List.getElem?_append_right (by omega)]; simp)
      have hs1 : ((Ai.adv s 19).set id (some (.cells (flt (A ++ y :: (mm ++ y :: B))) e ex true))).h id = some (.cells (flt ((A ++ y :: mm) ++ y :: B)) e ex true) := by rw [st_same]; simp
      have hst := sto6 (v := x) hs1
      rw [show (A ++ y :: mm).length = J by simp; omega, set_set] at hst
      have hne : s.nx + 18 ≠ id := by omega
      have w1 : IntKind.i64.wrap ((A.length : Int) + 1) = ((A.length + 1 : Nat) : Int) := by rw [IntWalk.i64_in _ (by omega)]; rfl
      have w2 : IntKind.i64.wrap ((J : Int) - 1) = (((A ++ [y]).length : Nat) : Int) + (mm.length : Int) - 1 := by rw [IntWalk.i64_in _ (by omega)]; simp; omega
      have hl1 := sto6 (v := y) (hs0 19)
      have hth : (Ai.adv s 19).h (s.nx + 16) = none := z1
      have hth2 : ((Ai.adv s 19).set id (some (.cells (flt (A ++ y :: (mm ++ y :: B))) e ex true))).h (s.nx + 18) = none := by rw [st_other hne]; exact z2
      simp only [f164l1s, bin_lss, h1, i1, i2, IfP_bool, if_true, Bnd_some, lx, ly, hl1, hst, hth, hth2, true_and]
      simp only [f164j1, w1, w2, wx, wy, Nat.reduceAdd, Nat.reduceEqDiff, reduceCtorEq]
      have := ih (A ++ [y]) mm (x :: B) (Ai.adv ((Ai.adv s 19).set id (some (.cells (flt ((A ++ y :: mm) ++ x :: B)) e ex true))) 6) (by omega) (by simp; omega) ((ef.adv.set (by simp only [adv_nx]; omega) (.inr (by simp))).adv) (by rw [adv_h, st_same]; simp) (by rw [← hr]; simp)
      rw [show ((A ++ [y]).length : Nat) = A.length + 1 by simp] at this
      simpa [adv_set, adv_two] using this
    · have h1 : decide ((A.length : Int) < (A.length : Int) + (mid.length : Int) - 1) = false := by simp; omega
      simp only [f164l1s, h1, wx, wy, Nat.reduceAdd, Nat.reduceEqDiff, reduceCtorEq]
      refine hQ _ ef.adv (by
        rw [adv_h, hs, ← hr]
        have : mid.reverse = mid := by
          match mid, h2 with
          | [], _ => rfl
          | [a], _ => rfl
          | a :: b :: t, h2 => simp at h2
        rw [this])
theorem c164 {s : St} {K : AV → St → Prop} {x : AV} {l : List Sx} (hl : l.length ≤ 2 ^ 30) (g : Gw 33 6 0 s x (l.map Sx.av)) (fr : Fresh s) (hk : ∀ s', EF (idOf x) s s' → Gw 33 6 0 s' x (l.reverse.map Sx.av) → K (.tup []) s') : CallWi Tryz.env 164 [x] s K := by
  refine callWiF (by kernel_rfl) (f164_run _ _ ?_)
  have hlt := g.id_lt fr
  obtain ⟨h1, ⟨rfl, h2⟩ | ⟨i, hi, rfl, hs⟩⟩ := g
  · have hl0 : l = [] := by simpa using h2
    subst hl0
    unfold f164
    simp only [ln31n, wx, wy, Nat.reduceAdd, Nat.reduceEqDiff, reduceCtorEq]
    refine ⟨1, ?_⟩
    show f164l1s K (f164l1 K 0) _ _ _ _
    have e1 : IntKind.i64.wrap (0 - 1) = -1 := rfl
    have e2 : decide ((0 : Int) < -1) = false := rfl
    simp only [f164l1s, e1, e2, wx, wy, Nat.reduceAdd, Nat.reduceEqDiff, reduceCtorEq]
    exact hk _ (EF.refl _ fr).adv gw_nil
  · unfold f164
    rw [List.length_map] at hk ⊢
    have hil : i < s.nx := hlt i (by simp [idOf])
    have e1 : IntKind.i64.wrap ((l.length : Int) - 1) = (l.length : Int) - 1 := IntWalk.i64_in _ (by omega)
    simp only [ln31r, e1, wx, wy, Nat.reduceAdd, Nat.reduceEqDiff, reduceCtorEq]
    refine ⟨l.length + 1, ?_⟩
    have := l164 K s i l.length (by omega) hil 33 false l.reverse (fun s' ef hh => hk s' ef ⟨fun v hv => ?_, .inr ⟨i, by omega, by simp, hh⟩⟩) l.length [] l [] (Ai.adv s 5) (by omega) (by simp) (EF.refl _ fr).adv (by rw [adv_h, hs]; simp [flt]) (by simp)
    · simpa using this
    · obtain ⟨a, _, rfl⟩ := List.mem_map.1 hv; exact ⟨sx_len a, sx_ones a⟩
def bitsTo (n K : Nat) : List Nat := (List.range K).filter fun k => n / 2 ^ k % 2 == 1
def bitsDn (n : Nat) : List Nat := (bitsTo n (n.log2 + 1)).reverse
def longIn (n : Nat) : Sx := bif (bitsDn n).length == 1 then ((bitsDn n).map halfS).headD zeroSx0 else lstS stpp ((bitsDn n).map halfS)
def longUp : Nat → Sx → Sx
  | 0, y => y
  | k + 1, y => longUp k (aroundM (k + 1) (lstS stpp [halfS k, halfS k]) y)
def longM (r : Int × Int) : Sx := aroundM 0 (atS 6 (xscM [r.1])) (longUp r.2.toNat.log2 (longIn r.2.toNat))
structure LgI (s : St) (p1 p2 n6 : Nat) (r : Int × Int) (y : Sx) : Prop where
  fr : Fresh s
  h1 : s.h p1 = some (.cells (rnA r).cells 109 true true)
  h2 : s.h p2 = some (.cells zeroB.cells 33 true true)
  h6 : s.h n6 = some (.cells y.av.cells 33 true true)
  n1 : n6 ≠ p1
  n2 : n6 ≠ p2
theorem lt_of_h {s : St} {i : Nat} {b : Blk} (fr : Fresh s) (h : s.h i = some b) : i < s.nx := by
  by_cases hc : i < s.nx
  · exact hc
  · rw [fr i (by omega)] at h; cases h
theorem LgI.ext {s s' : St} {p1 p2 n6 : Nat} {r : Int × Int} {y : Sx} (h : LgI s p1 p2 n6 r y) (he : EF [] s s') : LgI s' p1 p2 n6 r y :=
  ⟨he.fr, by rw [he.h _ (lt_of_h h.fr h.h1) (by simp)]; exact h.h1, by rw [he.h _ (lt_of_h h.fr h.h2) (by simp)]; exact h.h2, by rw [he.h _ (lt_of_h h.fr h.h6) (by simp)]; exact h.h6, h.n1, h.n2⟩
theorem LgI.step {s s' : St} {p1 p2 n6 : Nat} {r : Int × Int} {y y' : Sx} (h : LgI s p1 p2 n6 r y) (he : EF [n6] s s') (h6 : s'.h n6 = some (.cells y'.av.cells 33 true true)) : LgI s' p1 p2 n6 r y' :=
  ⟨he.fr, by rw [he.h _ (lt_of_h h.fr h.h1) (by simp [h.n1.symm])]; exact h.h1, by rw [he.h _ (lt_of_h h.fr h.h2) (by simp [h.n2.symm])]; exact h.h2, h6, h.n1, h.n2⟩
theorem callV165 {a b c : AV} {s : St} {K : AV → St → Prop} (h : CallWi Tryz.env 165 [a, b, c] s K) : CallV Tryz.env 114 (.fn 165 [] [c]) [a, b] s K := by
  have hp : Tryz.env.pm 114 165 = false := by kernel_rfl
  show CallP Tryz.env 114 165 [a, b, c] s K
  unfold CallP
  rw [hp]
  exact h
theorem j114 (Q : AV → St → Prop) (r : Int × Int) (hr : runOk r = true) (p1 p2 n6 : Nat) (y : Sx) (s : St) (h : LgI s p1 p2 n6 r y) (hQ : ∀ s, Q (aroundM 0 (atS 6 (xscM [r.1])) y).av s) :
    f114j3 Q (.ptr p1 0) (.fn 165 [] [.ptr n6 0]) (.ptr n6 0) (.ptr p2 0) s := by
  have l1 : (rnA r).cells[0]? = some (.int .i64 r.1) := rfl
  have b1 : bld 109 [(0, .int .i64 r.1), (1, .int .i64 1)] = some (rnA (r.1, 1)) := by rw [bf109]; rfl
  have b2 : bsl 25 1 [(0, rnA (r.1, 1))] = some (.sl true [rnA (r.1, 1)]) := bsl_one tf25 (by decide) rfl rfl
  have hpt : point r.1 = true := by simp only [runOk, Bool.and_eq_true] at hr; exact hr.1.1
  have h115 := c115g false [(r.1, 1)] rfl (by simp [maxLen]) [r.1] (by
    have hok : ∀ q ∈ [(r.1, (1 : Int))], runOk q = true := fun q hq => by
      rw [List.mem_singleton.1 hq]; simp [runOk, hpt]
    have := listGo_exp [(r.1, 1)] [] hok (by simp [sumR])
    have h2 := chunk_list [(r.1, 1)] hok
    have hg : greedy [(r.1, (1 : Int))] 0 = 1 := rfl
    rw [hg] at h2
    exact h2.1) (by simp) (fun c hc => by rw [List.mem_singleton.1 hc]; exact hpt)
  have hp1 := lt_of_h h.fr h.h1
  have hp2 := lt_of_h h.fr h.h2
  have hp6 := lt_of_h h.fr h.h6
  unfold f114j3
  simp only [wx, wy, Nat.reduceAdd, Nat.reduceEqDiff, reduceCtorEq, h.h1, l1, b1, b2]
  refine callPur (args2 := [.sl false [rnA (r.1, 1)]]) (ids := []) rfl h115 ?_
  simp only [List.isEmpty_nil, Bool.true_or, if_true, zf33, wx, wy, Nat.reduceAdd, Nat.reduceEqDiff, reduceCtorEq]
  rw [sto_sx]
  simp only [wx, wy, Nat.reduceAdd, Nat.reduceEqDiff, reduceCtorEq, sx_part]
  have E1 : EF [] s (Ai.adv (s.set (s.nx + 8) (some (.cells (atS 6 (xscM [r.1])).av.cells 33 true true))) 14) := ((EF.refl [] h.fr).adv (n := 14)).set (i := s.nx + 8) (by simp only [adv_nx]; omega) (.inl (by omega))
  have H1 := h.ext E1
  refine callV165 (c165 0 (by decide) _ y H1.fr H1.h6 fun s' he h6' => ?_)
  have H2 := H1.step he h6'
  simp only [wx, wy, Nat.reduceAdd, Nat.reduceEqDiff, reduceCtorEq, H2.h6, sx_part]
  rw [sto_all (z := 6) (by rw [adv_h]; exact H2.h2) rfl (sx_len _) (sx_ones _)]
  simp only [wx, wy, Nat.reduceAdd, Nat.reduceEqDiff, reduceCtorEq, sx_part]
  exact hQ _
theorem l114a (Q : AV → St → Prop) (r : Int × Int) (hr : runOk r = true) (p1 p2 n6 : Nat) : ∀ (k : Nat) (y : Sx) (s : St), k < 2 ^ 60 → LgI s p1 p2 n6 r y → (∀ s, Q (aroundM 0 (atS 6 (xscM [r.1])) (longUp k y)).av s) →
    f114l1 Q (k + 1) (.ptr p1 0) (.ptr p2 0) (.ptr n6 0) (.fn 165 [] [.ptr n6 0]) (.int .i64 k) s := by
  intro k
  induction k with
  | zero =>
    intro y s hk h hQ
    show f114l1s Q (f114l1 Q 0) _ _ _ _ _ s
    simp only [f114l1s, show decide (((0 : Nat) : Int) > 0) = false from rfl, wx, wy, Nat.reduceAdd, Nat.reduceEqDiff, reduceCtorEq]
    exact j114 Q r hr p1 p2 n6 y _ (h.ext (EF.refl _ h.fr).adv) hQ
  | succ k ih =>
    intro y s hk h hQ
    show f114l1s Q (f114l1 Q (k + 1)) _ _ _ _ _ s
    have h1 : decide (((k + 1 : Nat) : Int) > 0) = true := by simp
    have h2 : IntKind.i64.wrap (((k + 1 : Nat) : Int) - 1) = (k : Int) := by rw [IntWalk.i64_in _ (by omega)]; omega
    simp only [f114l1s, h1, h2, wx, wy, Nat.reduceAdd, Nat.reduceEqDiff, reduceCtorEq]
    refine callPu (c163 k (by omega)) (by simp [AV.closed]) ?_
    refine callPu (c163 k (by omega)) (by simp [AV.closed]) ?_
    rw [bsl_two tf31 (by decide) (sx_len _) (sx_ones _) (sx_len _) (sx_ones _)]
    simp only [Bnd_some]
    have E0 : EF [] s (Ai.adv s 13) := (EF.refl _ h.fr).adv
    refine c57 (l := [halfS k, halfS k]) (M := []) (by simp) E0.fr (fun s' he => ?_) rfl rfl fun s' he => ?_
    · obtain ⟨ids, e1, e2⟩ := pur_sl (s := s') (ex := true) (k := 10) (l := [(halfS k).av, (halfS k).av]) (by simp only [closedL, sx_closed, Bool.and_self])
      subst e2
      exact ⟨[], e1, fun i hi => by cases hi⟩
    · have H1 := h.ext (E0.trans (M' := []) he fun i hi => by cases hi)
      refine callV165 (c165 (k + 1) (by omega) _ y H1.fr H1.h6 fun s2 he2 h6' => ?_)
      have H2 := H1.step he2 h6'
      simp only [f114j4, h2, wx, wy, Nat.reduceAdd, Nat.reduceEqDiff, reduceCtorEq]
      exact ih _ _ (by omega) (H2.ext (EF.refl _ H2.fr).adv) hQ
theorem k114 (Q : AV → St → Prop) (r : Int × Int) (hr : runOk r = true) (p1 p2 : Nat) (hp : p1 ≠ p2) (top : Nat) (ht : top < 2 ^ 60) (L : List Sx) (hL0 : L ≠ []) (hL : L.length ≤ 2 ^ 16) (x : AV) (s : St) (fr : Fresh s) (h1 : s.h p1 = some (.cells (rnA r).cells 109 true true)) (h2 : s.h p2 = some (.cells zeroB.cells 33 true true)) (g : Gw 33 6 0 s x (L.map Sx.av)) (d1 : p1 ∉ idOf x) (d2 : p2 ∉ idOf x)
    (hQ : ∀ s, Q (aroundM 0 (atS 6 (xscM [r.1])) (longUp top (bif L.reverse.length == 1 then L.reverse.headD zeroSx0 else lstS stpp L.reverse))).av s) : f114j1 Q x (.int .i64 top) (.ptr p1 0) (.ptr p2 0) s := by
  unfold f114j1
  refine c164 (by omega) g.adv fr.adv fun s1 he g1 => ?_
  have hlp1 := lt_of_h fr h1
  have hlp2 := lt_of_h fr h2
  have he0 : EF (idOf x) s s1 := ⟨by have := he.nx; simp only [adv_nx] at this; omega, fun j hj hm => by rw [he.h j (by simp only [adv_nx]; omega) hm, adv_h], he.fr⟩
  have h1' : s1.h p1 = some (.cells (rnA r).cells 109 true true) := by rw [he0.h p1 hlp1 d1]; exact h1
  have h2' : s1.h p2 = some (.cells zeroB.cells 33 true true) := by rw [he0.h p2 hlp2 d2]; exact h2
  have g1lt := g1.id_lt he.fr
  have hone := g1.one
  obtain ⟨q1, ⟨rfl, q2⟩ | ⟨i, hi, rfl, hs⟩⟩ := g
  · exfalso; exact hL0 (by simpa using q2)
  simp only [idOf, List.mem_singleton] at d1 d2
  rw [List.length_map] at *
  generalize hR : L.reverse = R at *
  have hRl : R.length = L.length := by rw [← hR, List.length_reverse]
  obtain ⟨y0, R', hy⟩ : ∃ y0 R', R = y0 :: R' := by
    match R, hRl with
    | y0 :: R', _ => exact ⟨y0, R', rfl⟩
    | [], hRl => exfalso; exact hL0 (List.length_eq_zero_iff.1 hRl.symm)
  have hil : i < s1.nx := g1lt i (by simp [idOf])
  have hLp : 0 < L.length := List.length_pos_iff.2 hL0
  have hs1 : s1.h i = some (.cells (flt R) 33 false true) := by
    obtain ⟨_, ⟨hx, _⟩ | ⟨i', _, hx, hs'⟩⟩ := g1
    · cases hx
    · injection hx with e1 e2 e3; subst e1; exact hs'
  have i1 := ix_ref (e := 33) (z := 6) (i := 0) (id := i) (off := 0) (n := L.length) (c := none) hLp .i64
  have hl6 := fun n => ld6 (k := 0) (y := y0) (s := Ai.adv s1 n) (l := R) (by rw [adv_h]; exact hs1) (by rw [hy]; rfl)
  simp only [Nat.zero_mul, Nat.add_zero] at hl6 i1
  have hi1 : ixS 6 (.ref i 0 L.length none 33) (.int .i64 0) = some (.ptr i 0) := i1
  simp only [hi1, Bnd_some, hl6, zf33]
  rw [sto_all (z := 6) (c := zeroB.cells) (by rw [st_same]; rfl) rfl (sx_len y0) (sx_ones y0), set_set]
  have hnx := he0.nx
  have E1 : EF [] s1 (Ai.adv (s1.set (s1.nx + 3) (some (.cells y0.av.cells 33 true true))) 8) := ((EF.refl [] he.fr).adv (n := 8)).set (i := s1.nx + 3) (by simp only [adv_nx]; omega) (.inl (by omega))
  have H : ∀ n, LgI (Ai.adv (s1.set (s1.nx + 3) (some (.cells y0.av.cells 33 true true))) (n + 8)) p1 p2 (s1.nx + 3) r y0 := fun n =>
    ⟨fresh_set he.fr _ (by omega), by rw [adv_h, st_other (by omega)]; exact h1', by rw [adv_h, st_other (by omega)]; exact h2', by rw [adv_h, st_same], by omega, by omega⟩
  simp only [ln31r, wx, wy, Nat.reduceAdd, Nat.reduceEqDiff, reduceCtorEq]
  have hl1 : decide ((L.length : Int) > 1) = !(R.length == 1) := by
    rw [hRl]
    cases hb : (L.length == 1) with
    | true => have : L.length = 1 := by simpa using hb
              rw [this]; rfl
    | false => have : L.length ≠ 1 := by simpa using hb
               simp; omega
  simp only [hl1]
  cases hb : (R.length == 1) with
  | true =>
    rw [hb] at hQ
    simp only [Bool.not_true, Bool.false_eq_true, if_false]
    refine ⟨top + 1, ?_⟩
    have hQ' : ∀ s, Q (aroundM 0 (atS 6 (xscM [r.1])) (longUp top y0)).av s := fun s => by have := hQ s; rw [hy] at this; exact this
    rw [adv_two]
    exact l114a Q r hr p1 p2 (s1.nx + 3) top y0 _ ht (H 4) hQ'
  | false =>
    rw [hb] at hQ
    simp only [Bool.not_false, if_true]
    have H11 := H 3
    have E11 : EF [] s1 (Ai.adv (s1.set (s1.nx + 3) (some (.cells y0.av.cells 33 true true))) 11) := ((EF.refl [] he.fr).adv (n := 11)).set (i := s1.nx + 3) (by simp only [adv_nx]; omega) (.inl (by omega))
    refine c57 (x := .ref i 0 L.length none 33) (l := R) (M := [i]) (by omega) E11.fr (fun s' he' => ?_) rfl rfl fun s3 he3 => ?_
    · have g2 := g1.ext he.fr (E11.trans (M' := []) he' fun i hi => by cases hi) (fun j _ hj => by cases hj)
      obtain ⟨ids, e1, e2⟩ := pur_map tf31 g2 (fun a _ => sx_closed a) (fun a _ => (sx_agg a).symm) 10
      refine ⟨ids, e1, fun j hj => ?_⟩
      rw [e2] at hj
      simp only [idOf, List.mem_singleton] at hj
      subst hj
      exact ⟨by simp, by simp only [adv_nx, set_nx]; omega⟩
    · have h6' : s3.h (s1.nx + 3) = some (.cells y0.av.cells 33 true true) := by
        rw [he3.h _ (by simp only [adv_nx, set_nx]; omega) (by simp; omega)]; exact H11.h6
      rw [sto_all (z := 6) h6' (sx_len y0) (sx_len _) (sx_ones _)]
      simp only [Bnd_some]
      refine ⟨top + 1, ?_⟩
      have hn3 := he3.nx
      simp only [adv_nx, set_nx] at hn3
      refine l114a Q r hr p1 p2 (s1.nx + 3) top (lstS stpp R) _ ht ?_ hQ
      refine ⟨fresh_set he3.fr 4 (by omega), ?_, ?_, by rw [adv_h, st_same]; rfl, by omega, by omega⟩
      · rw [adv_h, st_other (by omega), he3.h p1 (by simp only [adv_nx, set_nx]; omega) (by simpa using d1)]; exact H11.h1
      · rw [adv_h, st_other (by omega), he3.h p2 (by simp only [adv_nx, set_nx]; omega) (by simpa using d2)]; exact H11.h2
theorem and1 (n : Nat) (h : n < 2 ^ 63) : bitsA .and .i64 (n : Int) 1 = ((n % 2 : Nat) : Int) := by
  have e2 : (BitVec.ofInt 64 (n : Int)).toNat = n := by
    rw [BitVec.ofInt_natCast, BitVec.toNat_ofNat, Nat.mod_eq_of_lt (Nat.lt_trans h (by decide))]
  show IntKind.i64.wrap (((BitVec.ofInt 64 (n : Int) &&& BitVec.ofInt 64 1 : BitVec 64).toNat : Nat) : Int) = _
  rw [BitVec.toNat_and, e2]
  have : (BitVec.ofInt 64 1).toNat = 2 ^ 1 - 1 := by decide
  rw [this, Nat.and_two_pow_sub_one_eq_mod, IntWalk.i64_in _ (by omega)]
theorem bits_succ (n K : Nat) : bitsTo n (K + 1) = bitsTo n K ++ (bif n / 2 ^ K % 2 == 1 then [K] else []) := by
  unfold bitsTo
  rw [List.range_succ, List.filter_append]
  cases h : (n / 2 ^ K % 2 == 1) <;> simp [h]
theorem bits_len (n K : Nat) : (bitsTo n K).length ≤ K := by
  unfold bitsTo
  have := List.length_filter_le (fun k => n / 2 ^ k % 2 == 1) (List.range K)
  rw [List.length_range] at this; exact this
theorem bits_ne (n : Nat) (h : n ≠ 0) : bitsTo n (n.log2 + 1) ≠ [] := by
  rw [bits_succ]
  have h1 := Nat.log2_self_le h
  have h2 := @Nat.lt_log2_self n
  have : n / 2 ^ n.log2 = 1 := by
    rw [Nat.pow_succ] at h2
    exact Nat.div_eq_of_lt_le (by omega) (by omega)
  rw [this]
  simp
theorem l114b (Q : AV → St → Prop) (r : Int × Int) (hr : runOk r = true) (p1 p2 : Nat) (hp : p1 ≠ p2) (hQ : ∀ s, Q (longM r).av s) :
    ∀ (m k : Nat) (x : AV) (s : St), k + m = r.2.toNat.log2 + 1 → Fresh s → s.h p1 = some (.cells (rnA r).cells 109 true true) → s.h p2 = some (.cells zeroB.cells 33 true true) → Gw 33 6 0 s x (((bitsTo r.2.toNat k).map halfS).map Sx.av) → p1 ∉ idOf x → p2 ∉ idOf x →
      f114l2 Q (m + 1) (.ptr p1 0) (.ptr p2 0) x (.int .i64 ((k - 1 : Nat) : Int)) (.int .i64 k) s := by
  have hn : r.2 = ((r.2.toNat : Nat) : Int) := by
    simp only [runOk, Bool.and_eq_true, decide_eq_true_eq] at hr; omega
  have hn1 : r.2.toNat ≠ 0 := by
    simp only [runOk, Bool.and_eq_true, decide_eq_true_eq] at hr; omega
  have hn2 : r.2.toNat ≤ 2 ^ 40 := by
    simp only [runOk, Bool.and_eq_true, decide_eq_true_eq] at hr; omega
  have hlr : (rnA r).cells[1]? = some (.int .i64 r.2) := rfl
  unfold longM longIn bitsDn at hQ
  generalize hN : r.2.toNat = N at *
  have hT1 := Nat.log2_self_le hn1
  have hT2 := @Nat.lt_log2_self N
  have hT : N.log2 ≤ 40 := by
    by_cases hc : N.log2 ≤ 40
    · exact hc
    · exfalso
      have : 2 ^ 41 ≤ 2 ^ N.log2 := Nat.pow_le_pow_right (by decide) (by omega)
      omega
  have hne := bits_ne N hn1
  have hbl := bits_len N
  generalize N.log2 = T at *
  have hshl : ∀ k : Nat, k ≤ 41 → bn .shl 3 (.int .i64 1) (.int .i64 (k : Int)) = some (.int .i64 ((2 ^ k : Nat) : Int)) := fun k hk => by
    have h := bin_shl (T := Tryz.ty) (q := Tryz.eqOk) (t := 3) (k := .i64) (k' := .i64) (a := 1) (n := k) (by show k ≤ 64; omega)
    have e : (1 : Int) * 2 ^ k = ((2 ^ k : Nat) : Int) := by rw [Int.one_mul]; norm_cast
    have hb : 2 ^ k ≤ 2 ^ 41 := Nat.pow_le_pow_right (by decide) hk
    rw [e] at h
    generalize (2 : Nat) ^ k = P at h hb ⊢
    rw [IntWalk.i64_in _ (by omega)] at h
    exact h
  have hshr : ∀ k : Nat, k ≤ 41 → bn .shr 3 (.int .i64 (N : Int)) (.int .i64 (k : Int)) = some (.int .i64 ((N / 2 ^ k : Nat) : Int)) := fun k hk => by
    have h := bin_shr (T := Tryz.ty) (q := Tryz.eqOk) (t := 3) (k := .i64) (k' := .i64) (a := (N : Int)) (n := k) (by show k ≤ 64; omega)
    have e : (N : Int).fdiv (2 ^ k) = ((N / 2 ^ k : Nat) : Int) := by
      have e0 : (2 : Int) ^ k = ((2 ^ k : Nat) : Int) := by norm_cast
      rw [e0, Int.fdiv_eq_ediv_of_nonneg _ (Int.natCast_nonneg _)]; rfl
    rw [e] at h
    exact h
  intro m
  induction m with
  | zero =>
    intro k x s hk fr h1 h2 g d1 d2
    have hk : k = T + 1 := by omega
    subst hk
    show f114l2s Q (f114l2 Q 0) _ _ _ _ _ s
    have c1 : decide (((2 ^ (T + 1) : Nat) : Int) ≤ (N : Int)) = false := by simp only [decide_eq_false_iff_not]; omega
    simp only [f114l2s, hshl (T + 1) (by omega), wx, wy, Nat.reduceAdd, Nat.reduceEqDiff, reduceCtorEq, h1, hlr, hn, c1]
    refine k114 Q r hr p1 p2 hp T (by omega) ((bitsTo N (T + 1)).map halfS) (by simpa using hne) (by rw [List.length_map]; have := hbl (T + 1); omega) x _ fr.adv (by rw [adv_h]; exact h1) (by rw [adv_h]; exact h2) g.adv d1 d2 (fun s => ?_)
    have := hQ s
    rw [← List.map_reverse, List.length_map]
    exact this
  | succ m ih =>
    intro k x s hk fr h1 h2 g d1 d2
    show f114l2s Q (f114l2 Q (m + 1)) _ _ _ _ _ s
    have hkT : 2 ^ k ≤ 2 ^ T := Nat.pow_le_pow_right (by decide) (by omega)
    have c1 : decide (((2 ^ k : Nat) : Int) ≤ (N : Int)) = true := by simp only [decide_eq_true_eq]; omega
    have hdl : N / 2 ^ k ≤ N := Nat.div_le_self _ _
    have w1 : IntKind.i64.wrap ((k : Int) + 1) = ((k + 1 : Nat) : Int) := by rw [IntWalk.i64_in _ (by omega)]; rfl
    have ha1 : bn .and 3 (.int .i64 ((N / 2 ^ k : Nat) : Int)) (.int .i64 1) = some (.int .i64 ((N / 2 ^ k % 2 : Nat) : Int)) := by
      rw [← and1 _ (by omega)]; exact bin_and
    have hbs := bits_succ N k
    simp only [f114l2s, hshl k (by omega), wx, wy, Nat.reduceAdd, Nat.reduceEqDiff, reduceCtorEq, h1, hlr, hn, c1, hshr k (by omega), ha1]
    have hib : (((N / 2 ^ k % 2 : Nat) : Int) == 1) = (N / 2 ^ k % 2 == 1) := by
      rw [Bool.eq_iff_iff, beq_iff_eq, beq_iff_eq]; omega
    simp only [hib]
    cases hb : (N / 2 ^ k % 2 == 1) with
    | true =>
      rw [hb] at hbs
      simp only [wx, wy, Nat.reduceAdd, Nat.reduceEqDiff, reduceCtorEq]
      refine callPu (c163 k (by omega)) (by simp [AV.closed]) ?_
      have b31 := bsl_one tf31 (by decide) (sx_len (halfS k)) (sx_ones (halfS k))
      have hlen := hbl k
      simp only [b31, wx, wy, Nat.reduceAdd, Nat.reduceEqDiff, reduceCtorEq]
      rw [app_map tf31 encSx g.adv (by rw [List.length_map]; omega) (by rw [List.length_map]; omega)]
      simp only [wx, wy, Nat.reduceAdd, Nat.reduceEqDiff, reduceCtorEq, f114j5, w1]
      have hp1 := lt_of_h fr h1
      have hp2 := lt_of_h fr h2
      have hmap : ((bitsTo N (k + 1)).map halfS) = (bitsTo N k).map halfS ++ [halfS k] := by rw [hbs, cond_true, List.map_append]; rfl
      rw [← hmap]
      have hlm : ((bitsTo N k).map halfS).length = (bitsTo N k).length := List.length_map ..
      have hl2 : ((bitsTo N (k + 1)).map halfS).length = (bitsTo N k).length + 1 := by rw [hmap, List.length_append, hlm]; rfl
      rw [hlm]
      have := ih (k + 1) (.ref (s.nx + 17) 0 ((bitsTo N k).length + 1) none 33) (Ai.adv ((s.drop (idOf x)).set (s.nx + 17) (some (.cells ((((bitsTo N (k + 1)).map halfS).map Sx.av).flatMap AV.cells) 33 false true))) 22) (by omega) (fresh_app fr _ _ (by omega))
        (by rw [adv_h, st_other (by omega), get_drop', if_neg d1]; exact h1) (by rw [adv_h, st_other (by omega), get_drop', if_neg d2]; exact h2) (gw_map encSx hl2.symm) (by simp [idOf]; omega) (by simp [idOf]; omega)
      rw [Nat.add_sub_cancel] at this
      exact this
    | false =>
      rw [hb] at hbs
      simp only [wx, wy, Nat.reduceAdd, Nat.reduceEqDiff, reduceCtorEq, f114j5, w1]
      have := ih (k + 1) x (Ai.adv s 16) (by omega) fr.adv (by rw [adv_h]; exact h1) (by rw [adv_h]; exact h2) (by rw [hbs, cond_false, List.append_nil]; exact g.adv) d1 d2
      rw [Nat.add_sub_cancel] at this
      exact this
theorem c114 (r : Int × Int) (hr : runOk r = true) : PureC Tryz.env 114 [rnA r] (longM r).av := by
  refine pure_q (f114_run _ _ ?_)
  unfold f114
  refine ⟨rfl, ?_⟩
  simp only [zf33, wx, wy, Nat.reduceAdd, Nat.reduceEqDiff, reduceCtorEq]
  refine ⟨r.2.toNat.log2 + 2, l114b _ r hr St.empty.nx (St.empty.nx + 1) (by omega) (fun s => pureQ_closed (sx_closed _)) (r.2.toNat.log2 + 1) 0 .nils _ (by omega) ?_ ?_ ?_ gw_nil (by simp [idOf]) (by simp [idOf])⟩
  · rw [← adv_set]
    exact Fresh.set (fresh_set fresh_empty 5 (by omega)) (by simp only [adv_nx, set_nx]; omega)
  · rw [adv_h, st_other (by omega), st_same]
  · rw [adv_h, st_same]; rfl
end Go.Proofs.YtdehdahimkcakaaGreatDoor
end
section
set_option linter.unusedVariables false
set_option linter.unusedSimpArgs false
set_option maxRecDepth 100000
set_option maxHeartbeats 4000000
namespace Go.Proofs.YtdehdahimkcakaaGreatDoor
open Go Ai
theorem z54 : pureF 54 [.int .i64 (-5)] = some (.agg [.bool true, .sl false [.int .u32 5]]) := by kernel_rfl
def valA (so : Int) (b neg : Bool) (n : List AV) (l : List AV) : AV := .agg [.int .i64 so, .bool b, .bool neg, .sl false n, .sl false l]
def minus5 : AV := .agg [.bool true, .int .i64 0, .str [], .int .i64 0, .int .i64 0, .sl false [.agg [.bool false, .int .i64 3, .str [45], .int .i64 0, .int .i64 0, .sl false []], .agg [.bool false, .int .i64 4, .str [53], .int .i64 0, .int .i64 0, .sl false []]]]
theorem r16a : pureF 16 [valA 2 false true [.int .u32 5] []] = some (.tup [minus5, .int .i64 0]) := by kernel_rfl
theorem r55 : pureF 55 [minus5] = some (.tup [.str [40, 45, 32, 53, 41], .int .i64 0]) := by kernel_rfl
theorem r60 : pureF 60 [.sl false [rnA (97, 1000), rnA (98, 1)]] = some (.bool true) := by kernel_rfl
theorem r22 : pureF 22 [.int .i64 22] = some (.str [115, 116, 114, 46, 43, 43]) := by kernel_rfl
noncomputable def chk : Option AV → Bool
  | some (.tup [.agg cs, .int .i64 0]) => closedL cs && (cs.length == 6) && cs.all AV.one && (match pureF 21 [.agg cs] with
    | some (.int .i64 13) => true
    | _ => false)
  | _ => false
theorem rchk : chk (pureF 16 [valA 3 false false [] [rnA (97, 1001)]]) = true := by kernel_rfl
theorem r16c : ∃ cs, PureC Tryz.env 16 [valA 3 false false [] [rnA (97, 1001)]] (.tup [.agg cs, .int .i64 0]) ∧ closedL cs = true ∧ cs.length = 6 ∧ cs.all AV.one = true ∧ PureC Tryz.env 21 [.agg cs] (.int .i64 13) := by
  have h := rchk
  unfold chk at h
  split at h
  · rename_i cs hr
    simp only [Bool.and_eq_true, beq_iff_eq] at h
    obtain ⟨⟨⟨h1, h2⟩, h3⟩, h4⟩ := h
    refine ⟨cs, pure_f hr, h1, h2, h3, ?_⟩
    split at h4
    · rename_i hr2; exact pure_f hr2
    · cases h4
  · cases h
end Go.Proofs.YtdehdahimkcakaaGreatDoor
end
section
set_option linter.unusedVariables false
set_option linter.unusedSimpArgs false
set_option maxRecDepth 100000
set_option maxHeartbeats 4000000
namespace Go.Proofs.YtdehdahimkcakaaGreatDoor
open Go Ai
def ascS (a : List (Int × Int)) : Sx := atS 6 ((expand a).map ascB)
theorem t61 : PureC Tryz.env 61 [.sl false ([(97, 1000), (98, 1)].map rnA)] (.tup [(lstS stpp [ascS [(97, 1000)], ascS [(98, 1)]]).av, .int .i64 0]) := by
  refine c61 ascS (fun _ => zeroSx0) (fun r => asc r.1 && runOk r && decide (r.2 ≤ 1000)) (fun l hl hg => ?_) (fun r hr hn => ?_) [(97, 1000), (98, 1)] (fun p hp => ?_) (by decide) (by decide)
  · have hok : ∀ r ∈ l, runOk r = true := fun r hr => by have := hl r hr; simp only [Bool.and_eq_true] at this; exact this.1.2
    obtain ⟨h1, h2⟩ := chunk_list l hok
    refine c115 false _ (sl_closed_map rnA _ fun _ _ => rfl) ?_ _ h1 h2 fun c hc => ?_
    · have : ∀ (a : List (Int × Int)), (∀ r ∈ a, runOk r = true) → a.length ≤ (expand a).length := by
        intro a
        induction a with
        | nil => intro _; simp
        | cons r a ih =>
          intro h
          have hr := h r (List.mem_cons_self ..)
          simp only [runOk, Bool.and_eq_true, decide_eq_true_eq] at hr
          have := ih fun x hx => h x (List.mem_cons_of_mem _ hx)
          simp only [expand, List.flatMap_cons, List.length_append, List.length_replicate, List.length_cons] at this ⊢
          omega
      have hm : maxLen = 9223372036854775807 := rfl
      have := this (l.take (greedy l 0)) fun r hr => hok r (List.mem_of_mem_take hr)
      omega
    · obtain ⟨r, hr, hc⟩ := List.mem_flatMap.1 hc
      obtain ⟨_, rfl⟩ := List.mem_replicate.1 hc
      have := hl r (List.mem_of_mem_take hr)
      simp only [Bool.and_eq_true] at this; exact this.1.1
  · simp only [Bool.and_eq_true, decide_eq_true_eq, runOk] at hr
    exfalso
    apply hn
    rw [Int.zero_add, IntWalk.i64_in _ (by omega)]; omega
  · have : txtGo ascS (fun _ => zeroSx0) [((97 : Int), (1000 : Int)), (98, 1)].length [(97, 1000), (98, 1)] = [ascS [(97, 1000)], ascS [(98, 1)]] := rfl
    rw [this] at hp
    simp only [List.mem_cons, List.mem_nil_iff, or_false] at hp
    have h0 : isInt 0 = true := by decide
    have h6 : isInt 6 = true := by decide
    rcases hp with rfl | rfl
    · have : ((expand [((97 : Int), (1000 : Int))]).map ascB).length = 1000 := by simp [expand]
      simp [ascS, atS, Sx.ok, Sx.oks, h0, h6, expand, maxLen]
    · simp [ascS, atS, Sx.ok, Sx.oks, h0, h6, expand, maxLen]
def xb : Sx := lstS stpp [ascS [(97, 1000)], ascS [(98, 1)]]
theorem r16b : PureC Tryz.env 16 [valA 3 false false [] [rnA (97, 1000), rnA (98, 1)]] (.tup [xb.av, .int .i64 0]) := by
  refine pure_q (f16_run _ _ ?_)
  unfold f16
  refine ⟨rfl, ?_⟩
  have hc : (valA 3 false false [] [rnA (97, 1000), rnA (98, 1)]).cells = [.int .i64 3, .bool false, .bool false, .sl false [], .sl false [rnA (97, 1000), rnA (98, 1)]] := rfl
  simp only [zf33, hc, wx, wy, Nat.reduceAdd, Nat.reduceEqDiff, reduceCtorEq, show ((3 : Int) == 1) = false from rfl, show ((3 : Int) == 2) = false from rfl, show ((3 : Int) == 3) = true from rfl]
  refine callPu (pure_f r60) (by simp [AV.closed, closedL, rnA]) ?_
  simp only [wx, wy, Nat.reduceAdd, Nat.reduceEqDiff, reduceCtorEq]
  refine callPu t61 (by simp [AV.closed, closedL, rnA]) ?_
  simp only [sto_sx, sx_part, if_true, wx, wy, Nat.reduceAdd, Nat.reduceEqDiff, reduceCtorEq]
  exact pureQ_closed (by simp only [AV.closed, closedL, sx_closed xb, Bool.and_self])
theorem awake12 : PureC Tryz.env 15 [] (.bool true) := by
  obtain ⟨cs, q1, q2, q3, q4, q5⟩ := r16c
  refine pure_q (f15_run _ ?_)
  unfold f15
  refine callPu (pure_f z54) (by simp [AV.closed]) ?_
  have b1 : bld 27 [(0, .int .i64 2), (2, .agg [.bool true, .sl false [.int .u32 5]])] = some (.agg [.int .i64 2, .bool false, .bool true, .sl false [.int .u32 5], .nils]) := by rw [bf27]; rfl
  have b2 : bsl 25 2 [(0, rnA (97, 1000)), (1, rnA (98, 1))] = some (.sl true [rnA (97, 1000), rnA (98, 1)]) := by kernel_rfl
  have b3 : bsl 25 1 [(0, rnA (97, 1001))] = some (.sl true [rnA (97, 1001)]) := by kernel_rfl
  have b4 : ∀ l, bld 27 [(0, .int .i64 3), (3, .sl true l)] = some (.agg [.int .i64 3, .bool false, .bool false, .nils, .sl true l]) := fun l => by rw [bf27]; rfl
  have b5 : ∀ a b : Int, bld 109 [(0, .int .i64 a), (1, .int .i64 b)] = some (rnA (a, b)) := fun a b => by rw [bf109]; rfl
  simp only [b1, wx, wy, Nat.reduceAdd, Nat.reduceEqDiff, reduceCtorEq]
  refine callPur (args2 := [valA 2 false true [.int .u32 5] []]) (ids := []) rfl (pure_f r16a) ?_
  have st1 : ∀ (v : AV) (q : St) (i n : Nat), v.cells.length = 6 → v.cells.all AV.one = true → sto 6 (.ptr i 0) v (Ai.adv (q.set i (some (.cells (AV.agg [.bool false, .int .i64 0, .str [], .int .i64 0, .int .i64 0, .nils]).cells 33 true true))) n) = some (Ai.adv (q.set i (some (.cells v.cells 33 true true))) n) := fun v q i n e1 e2 => by
    rw [sto_all (z := 6) (by rw [adv_h, st_same]) rfl e1 e2, adv_set, set_set]
  have p1 : Ai.part 6 true 0 minus5.cells = some minus5 := rfl
  simp only [List.isEmpty_nil, Bool.true_or, if_true, wx, wy, Nat.reduceAdd, Nat.reduceEqDiff, reduceCtorEq, zf33]
  rw [st1 _ _ _ _ rfl rfl]
  simp only [wx, wy, Nat.reduceAdd, Nat.reduceEqDiff, reduceCtorEq, if_true, p1]
  refine callPu (pure_f r55) (by simp [AV.closed, closedL, minus5]) ?_
  simp only [wx, wy, Nat.reduceAdd, Nat.reduceEqDiff, reduceCtorEq, b5, b2, b4]
  refine callPur (args2 := [valA 3 false false [] [rnA (97, 1000), rnA (98, 1)]]) (ids := []) rfl r16b ?_
  simp only [List.isEmpty_nil, Bool.true_or, if_true, wx, wy, Nat.reduceAdd, Nat.reduceEqDiff, reduceCtorEq, zf33]
  rw [st1 _ _ _ _ (sx_len _) (sx_ones _)]
  simp only [wx, wy, Nat.reduceAdd, Nat.reduceEqDiff, reduceCtorEq, b5, b3, b4]
  refine callPur (args2 := [valA 3 false false [] [rnA (97, 1001)]]) (ids := []) rfl q1 ?_
  simp only [List.isEmpty_nil, Bool.true_or, if_true, wx, wy, Nat.reduceAdd, Nat.reduceEqDiff, reduceCtorEq, zf33]
  rw [st1 (.agg cs) _ _ _ q3 q4]
  have e0 : ((0 : Int) == 0) = true := rfl
  have hx5 : xb.av.cells[5]? = some (.sl false (Sx.avs [atS 3 stpp, ascS [(97, 1000)], ascS [(98, 1)]])) := rfl
  have hl3 : ((Sx.avs [atS 3 stpp, ascS [(97, 1000)], ascS [(98, 1)]]).length : Int) = 3 := rfl
  have p2 : Ai.part 6 true 0 cs = some (.agg cs) := by
    simp only [part_agg, q3, List.drop_zero, Nat.zero_add, Nat.le_refl, if_true]
    rw [List.take_of_length_le (by omega)]
  simp only [wx, wy, Nat.reduceAdd, Nat.reduceEqDiff, reduceCtorEq, e0, show (([40, 45, 32, 53, 41] : List UInt8) == [40, 45, 32, 53, 41]) = true from rfl, hx5, ln31s, hl3, if_true, show ((3 : Int) == 3) = true from rfl, show (AV.agg cs).cells = cs from rfl, p2]
  refine callPu q5 (by simp [AV.closed, q2]) ?_
  simp only [wx, wy, Nat.reduceAdd, Nat.reduceEqDiff, reduceCtorEq, show ((13 : Int) == 13) = true from rfl]
  refine callPu (pure_f r22) (by simp [AV.closed]) ?_
  simp only [wx, wy, Nat.reduceAdd, Nat.reduceEqDiff, reduceCtorEq, show (([115, 116, 114, 46, 43, 43] : List UInt8) == [115, 116, 114, 46, 43, 43]) = true from rfl]
  exact pureQ_closed rfl
end Go.Proofs.YtdehdahimkcakaaGreatDoor
end
section
set_option linter.unusedVariables false
set_option linter.unusedSimpArgs false
set_option maxRecDepth 100000
set_option maxHeartbeats 4000000
namespace Go.Proofs.YtdehdahimkcakaaGreatDoor
open Go Ai
def wzA (neg : Bool) (n : List Nat) : AV := .agg [.bool neg, nsA n]
theorem wz_closed (neg : Bool) (n : List Nat) : (wzA neg n).closed = true := by
  simp only [wzA, AV.closed, closedL, ns_closed, Bool.and_self]
def madeM (neg : Bool) (n : List Nat) : Bool × List Nat := (neg && !(normM n == []), normM n)
theorem c105 (neg : Bool) (n : List Nat) (hn : n.length ≤ 2 ^ 30) : PureC Tryz.env 105 [.bool neg, nsA n] (wzA (madeM neg n).1 (madeM neg n).2) := by
  refine pure_q (f105_run _ _ _ ?_)
  unfold f105
  simp only [zf24, wx, wy, Nat.reduceAdd, Nat.reduceEqDiff, reduceCtorEq]
  refine callPu (c110 n hn) (by simp [ns_closed]) ?_
  have hb : ∀ b : Bool, bld 24 [(0, .bool b), (1, nsA (normM n))] = some (wzA b (normM n)) := fun b => by rw [bf24]; rfl
  have hl : decide (((normM n).length : Int) > 0) = !(normM n == []) := by
    cases h : normM n with
    | nil => rfl
    | cons x t => simp
  have hln : ∀ id s, bt .len #[22] [nsA (normM n)] id s = some (.int .i64 (normM n).length, s) := fun id s => by
    show bt .len #[22] [.sl false ((normM n).map u3A)] id s = _
    rw [ln22s, List.length_map]
  have hfin : ∀ (b : Bool) (s : St) (n1 : Nat), sto 2 (.ptr s.nx 0) (wzA b (normM n)) (Ai.adv (s.set s.nx (some (.cells (AV.agg [.bool false, .nils]).cells 24 true true))) n1) = some (Ai.adv (s.set s.nx (some (.cells (wzA b (normM n)).cells 24 true true))) n1) := fun b s n1 => by
    rw [sto_all (z := 2) (by rw [adv_h, st_same]) rfl rfl rfl, adv_set, set_set]
  have hp : ∀ b : Bool, Ai.part 2 true 0 (wzA b (normM n)).cells = some (wzA b (normM n)) := fun b => rfl
  cases neg with
  | false =>
    simp only [hb, wx, wy, Nat.reduceAdd, Nat.reduceEqDiff, reduceCtorEq]
    rw [hfin]
    simp only [wx, wy, Nat.reduceAdd, Nat.reduceEqDiff, reduceCtorEq, hp]
    exact pureQ_closed (wz_closed _ _)
  | true =>
    simp only [hln, hl, hb, wx, wy, Nat.reduceAdd, Nat.reduceEqDiff, reduceCtorEq]
    rw [hfin]
    simp only [wx, wy, Nat.reduceAdd, Nat.reduceEqDiff, reduceCtorEq, hp]
    exact pureQ_closed (wz_closed _ _)
theorem wz_part (b : Bool) (n : List Nat) : Ai.part 2 true 0 (wzA b n).cells = some (wzA b n) := rfl
theorem wz0 (b : Bool) (n : List Nat) : (wzA b n).cells[0]? = some (.bool b) := rfl
theorem wz1 (b : Bool) (n : List Nat) : (wzA b n).cells[1]? = some (nsA n) := rfl
theorem ln22ns (n : List Nat) (id : Nat) (s : St) : bt .len #[22] [nsA n] id s = some (.int .i64 n.length, s) := by
  show bt .len #[22] [.sl false (n.map u3A)] id s = _
  rw [ln22s, List.length_map]
theorem sto_wz (b b' : Bool) (n n' : List Nat) (q : St) (i c : Nat) : sto 2 (.ptr i 0) (wzA b n) (Ai.adv (q.set i (some (.cells (wzA b' n').cells 24 true true))) c) = some (Ai.adv (q.set i (some (.cells (wzA b n).cells 24 true true))) c) := by
  rw [sto_all (z := 2) (by rw [adv_h, st_same]) rfl rfl rfl, adv_set, set_set]
theorem c69 (neg : Bool) (n : List Nat) (hn : n.length ≤ 2 ^ 30) : PureC Tryz.env 69 [wzA neg n] (wzA (madeM neg n).1 (madeM neg n).2) := by
  refine pure_q (f69_run _ _ ?_)
  unfold f69
  refine ⟨rfl, ?_⟩
  simp only [zf24, wz0, wz1, wx, wy, Nat.reduceAdd, Nat.reduceEqDiff, reduceCtorEq]
  refine callPu (c105 neg n hn) (by simp [ns_closed, AV.closed]) ?_
  rw [sto_all (z := 2) (by rw [adv_h, st_same]) rfl rfl rfl]
  simp only [wx, wy, Nat.reduceAdd, Nat.reduceEqDiff, reduceCtorEq, wz_part]
  exact pureQ_closed (wz_closed _ _)
def signM (neg : Bool) (n : List Nat) : Int := bif normM n == [] then 0 else bif neg then -1 else 1
theorem c20 (neg : Bool) (n : List Nat) (hn : n.length ≤ 2 ^ 30) : PureC Tryz.env 20 [wzA neg n] (.int .i64 (signM neg n)) := by
  refine pure_q (f20_run _ _ ?_)
  unfold f20
  refine ⟨rfl, ?_⟩
  simp only [wz_part, wx, wy, Nat.reduceAdd, Nat.reduceEqDiff, reduceCtorEq]
  refine callPu (c69 neg n hn) (by simp [wz_closed]) ?_
  rw [sto_wz]
  simp only [wz0, wz1, ln22ns, wx, wy, Nat.reduceAdd, Nat.reduceEqDiff, reduceCtorEq]
  have hl : decide (((normM n).length : Int) > 0) = !(normM n == []) := by
    cases h : normM n with
    | nil => rfl
    | cons x t => simp
  unfold signM madeM
  simp only [hl]
  cases h : (normM n == []) <;> cases neg <;> simp only [Bool.not_true, Bool.not_false, cond_true, cond_false, wx, wy, Nat.reduceAdd, Nat.reduceEqDiff, reduceCtorEq, f20j1] <;> exact pureQ_closed rfl
def mayGo (left : Int) (p : Option Int) : List (Int × Int) → Bool
  | [] => true
  | r :: l => bif decide (r.1 < 0) || (decide (r.1 > 196607) || (decide (r.2 < 1) || (decide (r.2 > left) || p == some r.1))) then false else mayGo (left - r.2) (some r.1) l
def mayM (l : List (Int × Int)) : Bool := decide (l.length ≤ 65536) && mayGo 1099511627776 none l
theorem l60 (l : List (Int × Int)) (hl : l.length ≤ 65536) (ex : Bool) (Q : AV → St → Prop) (b : Bool) (hQ : ∀ s, Q (.bool b) s) : ∀ (m i : Nat) (left : Int) (p : Option Int) (s : St), i + m = l.length → 0 ≤ left → left ≤ 2 ^ 40 → (p = if i = 0 then none else (l[i - 1]?).map Prod.fst) → mayGo left p (l.drop i) = b →
    f60l1 Q (m + 1) (.sl ex (l.map rnA)) (.int .i64 left) (.sl ex (l.map rnA)) (.int .i64 l.length) (.int .i64 i) s := by
  intro m
  induction m with
  | zero =>
    intro i left p s hi h0 h1 hp hb
    show f60l1s Q (f60l1 Q 0) _ _ _ _ _ s
    have c1 : decide ((i : Int) < (l.length : Int)) = false := by simp; omega
    rw [List.drop_of_length_le (by omega)] at hb
    simp only [f60l1s, c1, f60j1, wx, wy, Nat.reduceAdd, Nat.reduceEqDiff, reduceCtorEq]
    have : b = true := hb.symm
    subst this
    exact hQ _
  | succ m ih =>
    intro i left p s hi h0 h1 hp hb
    show f60l1s Q (f60l1 Q (m + 1)) _ _ _ _ _ s
    have c1 : decide ((i : Int) < (l.length : Int)) = true := by simp; omega
    obtain ⟨r, hr⟩ : ∃ r, l[i]? = some r := ⟨_, List.getElem?_eq_getElem (by omega)⟩
    rw [get_drop l i r hr] at hb
    simp only [mayGo] at hb
    have hst : ∀ (v : AV) (q : St) (i n : Nat), v.cells.length = 2 → v.cells.all AV.one = true → sto 2 (.ptr i 0) v (Ai.adv (q.set i (some (.cells (AV.agg [.int .i64 0, .int .i64 0]).cells 109 true true))) n) = some (Ai.adv (q.set i (some (.cells v.cells 109 true true))) n) := fun v q i n e1 e2 => by
      rw [sto_all (z := 2) (by rw [adv_h, st_same]) rfl e1 e2, adv_set, set_set]
    have hix := ix_map encRn ex hr .i64
    have w1 : IntKind.i64.wrap ((i : Int) + 1) = ((i + 1 : Nat) : Int) := by rw [IntWalk.i64_in _ (by omega)]; rfl
    simp only [f60l1s, c1, hix, rn_part, zf109, wx, wy, Nat.reduceAdd, Nat.reduceEqDiff, reduceCtorEq]
    rw [hst _ _ _ _ rfl rfl]
    cases e1 : decide (r.1 < 0) with
    | true =>
      rw [e1, Bool.true_or, cond_true] at hb
      subst hb
      simp only [rn0, rn1, e1, wx, wy, Nat.reduceAdd, Nat.reduceEqDiff, reduceCtorEq]
      exact hQ _
    | false =>
    cases e2 : decide (r.1 > 196607) with
    | true =>
      rw [e1, e2, Bool.false_or, Bool.true_or, cond_true] at hb
      subst hb
      simp only [rn0, rn1, e1, e2, wx, wy, Nat.reduceAdd, Nat.reduceEqDiff, reduceCtorEq]
      exact hQ _
    | false =>
    cases e3 : decide (r.2 < 1) with
    | true =>
      rw [e1, e2, e3, Bool.false_or, Bool.false_or, Bool.true_or, cond_true] at hb
      subst hb
      simp only [rn0, rn1, e1, e2, e3, wx, wy, Nat.reduceAdd, Nat.reduceEqDiff, reduceCtorEq]
      exact hQ _
    | false =>
    cases e4 : decide (r.2 > left) with
    | true =>
      rw [e1, e2, e3, e4, Bool.false_or, Bool.false_or, Bool.false_or, Bool.true_or, cond_true] at hb
      subst hb
      simp only [rn0, rn1, e1, e2, e3, e4, wx, wy, Nat.reduceAdd, Nat.reduceEqDiff, reduceCtorEq]
      exact hQ _
    | false =>
    rw [e1, e2, e3, e4, Bool.false_or, Bool.false_or, Bool.false_or, Bool.false_or] at hb
    have o3 := of_decide_eq_false e3
    have o4 := of_decide_eq_false e4
    have w2 : IntKind.i64.wrap (left - r.2) = left - r.2 := IntWalk.i64_in _ (by omega)
    cases i with
    | zero =>
      simp only [if_true] at hp
      subst hp
      have hb : mayGo (left - r.2) (some r.1) (l.drop 1) = b := hb
      simp only [rn0, rn1, e1, e2, e3, e4, show decide (((0 : Nat) : Int) > 0) = false from rfl, f60j2, w1, w2, wx, wy, Nat.reduceAdd, Nat.reduceEqDiff, reduceCtorEq]
      exact ih 1 _ (some r.1) _ (by omega) (by omega) (by omega) (by simp only [Nat.one_ne_zero, if_false, Nat.sub_self]; rw [hr]; rfl) hb
    | succ k =>
      have c2 : decide (((k + 1 : Nat) : Int) > 0) = true := by simp
      obtain ⟨q, hq⟩ : ∃ q, l[k]? = some q := ⟨_, List.getElem?_eq_getElem (by omega)⟩
      have hix2 := ix_map encRn ex hq .i64
      have w3 : IntKind.i64.wrap (((k + 1 : Nat) : Int) - 1) = (k : Int) := by rw [IntWalk.i64_in _ (by omega)]; omega
      have hp : p = some q.1 := by rw [hp, if_neg (by omega), Nat.add_sub_cancel, hq]; rfl
      subst hp
      have e5 : (some q.1 == some r.1) = (q.1 == r.1) := rfl
      rw [e5] at hb
      cases e6 : (q.1 == r.1) with
      | true =>
        rw [e6, cond_true] at hb
        subst hb
        simp only [rn0, rn1, e1, e2, e3, e4, c2, w3, hix2, e6, wx, wy, Nat.reduceAdd, Nat.reduceEqDiff, reduceCtorEq]
        exact hQ _
      | false =>
        rw [e6, cond_false] at hb
        simp only [rn0, rn1, e1, e2, e3, e4, c2, w3, hix2, e6, f60j2, w1, w2, wx, wy, Nat.reduceAdd, Nat.reduceEqDiff, reduceCtorEq]
        exact ih (k + 1 + 1) _ (some r.1) _ (by omega) (by omega) (by omega) (by rw [if_neg (by omega), Nat.add_sub_cancel, hr]; rfl) hb
theorem c60 (ex : Bool) (l : List (Int × Int)) (hl : l.length ≤ 2 ^ 40) : PureC Tryz.env 60 [.sl ex (l.map rnA)] (.bool (mayM l)) := by
  refine pure_q (f60_run _ _ ?_)
  unfold f60 mayM
  simp only [ln25s, List.length_map, wx, wy, Nat.reduceAdd, Nat.reduceEqDiff, reduceCtorEq]
  cases h : decide (l.length ≤ 65536) with
  | false =>
    have h1 : decide ((l.length : Int) > 65536) = true := by simp at h ⊢; omega
    simp only [h1, wx, wy, Nat.reduceAdd, Nat.reduceEqDiff, reduceCtorEq]
    exact pureQ_closed rfl
  | true =>
    have h2 := of_decide_eq_true h
    have h1 : decide ((l.length : Int) > 65536) = false := by simp; omega
    simp only [h1, wx, wy, Nat.reduceAdd, Nat.reduceEqDiff, reduceCtorEq]
    exact ⟨l.length + 1, l60 l h2 ex _ _ (fun s => pureQ_closed rfl) l.length 0 1099511627776 none _ (by omega) (by decide) (by decide) rfl rfl⟩
theorem may_ok : ∀ (l : List (Int × Int)) (left : Int) (p : Option Int), 0 ≤ left → left ≤ 2 ^ 40 → mayGo left p l = true → (∀ r ∈ l, runOk r = true) ∧ sumR l ≤ left := by
  intro l
  induction l with
  | nil => intro left p h0 h1 _; exact ⟨fun r h => (by cases h), h0⟩
  | cons r l ih =>
    intro left p h0 h1 hb
    simp only [mayGo] at hb
    cases e1 : decide (r.1 < 0) with
    | true => rw [e1] at hb; cases hb
    | false =>
    cases e2 : decide (r.1 > 196607) with
    | true => rw [e1, e2] at hb; cases hb
    | false =>
    cases e3 : decide (r.2 < 1) with
    | true => rw [e1, e2, e3] at hb; cases hb
    | false =>
    cases e4 : decide (r.2 > left) with
    | true => rw [e1, e2, e3, e4] at hb; cases hb
    | false =>
    rw [e1, e2, e3, e4, Bool.false_or, Bool.false_or, Bool.false_or, Bool.false_or] at hb
    have o1 := of_decide_eq_false e1
    have o2 := of_decide_eq_false e2
    have o3 := of_decide_eq_false e3
    have o4 := of_decide_eq_false e4
    cases e5 : (p == some r.1) with
    | true => rw [e5] at hb; cases hb
    | false =>
      rw [e5, cond_false] at hb
      obtain ⟨h2, h3⟩ := ih _ _ (by omega) (by omega) hb
      refine ⟨fun q hq => ?_, by simp only [sumR]; omega⟩
      rcases List.mem_cons.1 hq with rfl | hq
      · simp only [runOk, point, Bool.and_eq_true, decide_eq_true_eq]; omega
      · exact h2 q hq
theorem mayM_ok {l : List (Int × Int)} (h : mayM l = true) : (∀ r ∈ l, runOk r = true) ∧ sumR l ≤ 2 ^ 40 ∧ l.length ≤ 65536 := by
  simp only [mayM, Bool.and_eq_true, decide_eq_true_eq] at h
  obtain ⟨h1, h2⟩ := may_ok l _ _ (by decide) (by decide) h.2
  exact ⟨h1, h2, h.1⟩
theorem sumR_drop (l : List (Int × Int)) (h : ∀ r ∈ l, runOk r = true) : ∀ i, 0 ≤ sumR (l.take i) ∧ sumR (l.take i) + sumR (l.drop i) = sumR l := by
  induction l with
  | nil => intro i; simp [sumR]
  | cons r l ih =>
    intro i
    have hr := h r (List.mem_cons_self ..)
    simp only [runOk, Bool.and_eq_true, decide_eq_true_eq] at hr
    cases i with
    | zero => simp [sumR]
    | succ i =>
      obtain ⟨h1, h2⟩ := ih (fun q hq => h q (List.mem_cons_of_mem _ hq)) i
      simp only [List.take_succ_cons, List.drop_succ_cons, sumR]
      omega
def lenM (l : List (Int × Int)) : Int := bif mayM l then sumR l else 0
end Go.Proofs.YtdehdahimkcakaaGreatDoor
end
section
set_option linter.unusedVariables false
set_option linter.unusedSimpArgs false
set_option maxRecDepth 100000
set_option maxHeartbeats 4000000
namespace Go.Proofs.YtdehdahimkcakaaGreatDoor
open Go Ai
theorem at_ok {k : Int} {x : List UInt8} (hk : isInt k = true) (hx : x.length ≤ 2 ^ 40) : (atS k x).ok = true := by
  have h0 : isInt 0 = true := by decide
  have : maxLen = 9223372036854775807 := rfl
  simp only [atS, Sx.ok, Sx.oks, h0, hk, List.length_nil, Bool.and_true, Bool.true_and, Bool.and_eq_true, decide_eq_true_eq]
  omega
theorem half_ok (k : Nat) : (halfS k).ok = true := at_ok (by decide) (by have := itoaL_len k; simp only [List.length_cons]; omega)
theorem mk_ok {l : List Sx} (h : ∀ x ∈ l, x.ok = true) (hl : l.length ≤ 2 ^ 40) : (Sx.mk true 0 [] 0 0 l).ok = true := by
  have hs : Sx.oks l = true := by
    clear hl
    induction l with
    | nil => rfl
    | cons a l ih => simp only [Sx.oks, h a (List.mem_cons_self ..), ih fun x hx => h x (List.mem_cons_of_mem _ hx), Bool.and_self]
  have h0 : isInt 0 = true := by decide
  have : maxLen = 9223372036854775807 := rfl
  simp only [Sx.ok, h0, hs, List.length_nil, Bool.and_true, Bool.true_and, Bool.and_eq_true, decide_eq_true_eq]
  omega
theorem mem_two {α : Type} {p : α → Prop} {a b : α} (h1 : p a) (h2 : p b) : ∀ x ∈ [a, b], p x := by
  intro x hx
  simp only [List.mem_cons, List.mem_nil_iff, or_false] at hx
  rcases hx with rfl | rfl
  · exact h1
  · exact h2
theorem mem_one {α : Type} {p : α → Prop} {a : α} (h1 : p a) : ∀ x ∈ [a], p x := by
  intro x hx
  rw [List.mem_singleton.1 hx]; exact h1
theorem lst_ok2 {nm : List UInt8} {l : List Sx} (h1 : nm.length ≤ 2 ^ 40) (h2 : l.length ≤ 2 ^ 40) (h : ∀ x ∈ l, x.ok = true) : (lstS nm l).ok = true := by
  have : maxLen = 9223372036854775807 := rfl
  exact lst_ok (by omega) (by omega) h
theorem around_ok {k : Nat} {v y : Sx} (hv : v.ok = true) (hy : y.ok = true) : (aroundM k v y).ok = true :=
  lst_ok2 (by decide) (by simp) (mem_two (mk_ok (mem_one (mk_ok (mem_two (half_ok k) hv) (by simp))) (by simp)) hy)
theorem longUp_ok : ∀ (k : Nat) (y : Sx), y.ok = true → (longUp k y).ok = true := by
  intro k
  induction k with
  | zero => intro y h; exact h
  | succ k ih => intro y h; exact ih _ (around_ok (lst_ok2 (by decide) (by simp) (mem_two (half_ok k) (half_ok k))) h)
theorem longIn_ok (n : Nat) (hn : n.log2 ≤ 60) : (longIn n).ok = true := by
  unfold longIn
  have hl := bits_len n (n.log2 + 1)
  cases h : ((bitsDn n).length == 1) with
  | true =>
    simp only [cond_true]
    cases hb : bitsDn n with
    | nil => rw [hb] at h; cases h
    | cons k t => exact half_ok k
  | false =>
    refine lst_ok2 (by decide) (by simp only [List.length_map, bitsDn, List.length_reverse]; omega) fun x hx => ?_
    obtain ⟨k, _, rfl⟩ := List.mem_map.1 hx
    exact half_ok k
theorem log_le {n : Nat} (h : n ≤ 2 ^ 40) : n.log2 ≤ 40 := by
  by_cases h0 : n = 0
  · subst h0; decide
  · have h1 := Nat.log2_self_le h0
    by_cases hc : n.log2 ≤ 40
    · exact hc
    · exfalso
      have : 2 ^ 41 ≤ 2 ^ n.log2 := Nat.pow_le_pow_right (by decide) (by omega)
      omega
theorem run_log {r : Int × Int} (h : runOk r = true) : r.2.toNat.log2 ≤ 40 := by
  simp only [runOk, Bool.and_eq_true, decide_eq_true_eq] at h
  exact log_le (by omega)
theorem longM_ok {r : Int × Int} (h : runOk r = true) : (longM r).ok = true := by
  have hl := run_log h
  refine around_ok (at_ok (by decide) ?_) (longUp_ok _ _ (longIn_ok _ (by omega)))
  have := xscM_len [r.1]
  simp only [List.length_cons, List.length_nil] at this
  omega
def litS (l : List (Int × Int)) : Sx := atS 6 (xscM (expand l))
theorem txt_ok (n : Nat) : ∀ (l : List (Int × Int)), (∀ r ∈ l, runOk r = true) → ∀ p ∈ txtGo litS longM n l, p.ok = true := by
  induction n with
  | zero => intro l _ p hp; cases hp
  | succ n ih =>
    intro l hl p hp
    cases l with
    | nil => cases hp
    | cons r t =>
      simp only [txtGo] at hp
      cases h : (greedy (r :: t) 0 == 0) with
      | true =>
        rw [h, cond_true] at hp
        rcases List.mem_cons.1 hp with rfl | hp
        · exact longM_ok (hl r (List.mem_cons_self ..))
        · exact ih t (fun q hq => hl q (List.mem_cons_of_mem _ hq)) p hp
      | false =>
        rw [h, cond_false] at hp
        rcases List.mem_cons.1 hp with rfl | hp
        · have h2 := (chunk_list (r :: t) hl).2
          have := xscM_len (expand ((r :: t).take (greedy (r :: t) 0)))
          exact at_ok (by decide) (by omega)
        · exact ih _ (fun q hq => hl q (List.mem_of_mem_drop hq)) p hp
theorem len_sum : ∀ (l : List (Int × Int)), (∀ r ∈ l, runOk r = true) → (l.length : Int) ≤ sumR l := by
  intro l
  induction l with
  | nil => intro _; exact Int.le_refl 0
  | cons r l ih =>
    intro h
    have h1 := h r (List.mem_cons_self ..)
    simp only [runOk, Bool.and_eq_true, decide_eq_true_eq] at h1
    have := ih fun x hx => h x (List.mem_cons_of_mem _ hx)
    simp only [sumR, List.length_cons]; omega
def txtL (l : List (Int × Int)) : List Sx := txtGo litS longM l.length l
theorem c61g (l : List (Int × Int)) (hl : ∀ r ∈ l, runOk r = true) (hlen : l.length ≤ 2 ^ 20) : PureC Tryz.env 61 [.sl false (l.map rnA)] (.tup [(txtM (txtL l)).1.av, .int .i64 (txtM (txtL l)).2]) := by
  refine c61 litS longM runOk (fun l hl h0 => ?_) (fun r hr _ => c114 r hr) l (txt_ok _ l hl) hl hlen
  have hc := chunk_list l hl
  have hg := greedy_le l 0
  exact c115g false _ (sl_closed_map _ _ fun _ _ => rfl) (by
    have h1 := greedy_sum l 0 hl (by decide) (by decide)
    have h2 := len_sum (l.take (greedy l 0)) fun q hq => hl q (List.mem_of_mem_take hq)
    have : maxLen = 9223372036854775807 := rfl
    omega) _ hc.1 hc.2 (expand_pt _ fun q hq => hl q (List.mem_of_mem_take hq))
def minN : List UInt8 := [45]
def trueN : List UInt8 := [116, 114, 117, 101]
def falseN : List UInt8 := [102, 97, 108, 115, 101]
def valM (so : Int) (b neg : Bool) (n : List Nat) (l : List (Int × Int)) : Sx × Int :=
  bif so == 1 then (atS 3 (bif b then trueN else falseN), 0) else
  bif so == 2 then (bif decide (signM neg n < 0) then lstS minN [atS 4 (textM n)] else atS 4 (textM n), 0) else
  bif so == 3 && mayM l then txtM (txtL l) else (zeroSx0, 1)
def vlA (so : Int) (b neg : Bool) (n : List Nat) (l : List (Int × Int)) : AV := .agg [.int .i64 so, .bool b, .bool neg, nsA n, .sl false (l.map rnA)]
theorem vl_closed (so : Int) (b neg : Bool) (n : List Nat) (l : List (Int × Int)) : (vlA so b neg n l).closed = true := by
  have h : (AV.sl false (l.map rnA)).closed = true := sl_closed_map _ _ fun _ _ => rfl
  simp only [vlA, AV.closed, closedL, ns_closed, h, Bool.and_self]
  simpa [AV.closed] using h
section
variable (so : Int) (b neg : Bool) (n : List Nat) (l : List (Int × Int))
theorem vl_cells : (vlA so b neg n l).cells = [.int .i64 so, .bool b, .bool neg, nsA n, .sl false (l.map rnA)] := rfl
theorem c16 (hlm : limbs n) (hn : n.length ≤ 30) (hl : l.length ≤ 300) : PureC Tryz.env 16 [vlA so b neg n l] (.tup [(valM so b neg n l).1.av, .int .i64 (valM so b neg n l).2]) := by
  refine pure_q (f16_run _ _ ?_)
  unfold f16
  refine ⟨rfl, ?_⟩
  have hcl : (AV.sl false (l.map rnA)).closed = true := sl_closed_map _ _ fun _ _ => rfl
  have hp : ∀ q, Ai.part 2 true 2 [AV.int .i64 so, AV.bool b, AV.bool neg, nsA n, q] = some (wzA neg n) := fun q => rfl
  have hfin : ∀ (v : Sx) (e : Int), PureQ (.tup [v.av, .int .i64 e]) (.tup [v.av, .int .i64 e]) = fun s => PureQ (.tup [v.av, .int .i64 e]) (.tup [v.av, .int .i64 e]) s := fun _ _ => rfl
  have hq : ∀ (v : Sx) (e : Int) (s : St), PureQ (.tup [v.av, .int .i64 e]) (.tup [v.av, .int .i64 e]) s := fun v e s => pureQ_closed (by simp only [AV.closed, closedL, sx_closed, Bool.and_self])
  simp only [zf33, vl_cells, wx, wy, Nat.reduceAdd, Nat.reduceEqDiff, reduceCtorEq]
  unfold valM
  cases h1 : (so == 1) with
  | true =>
    cases b with
    | true =>
      simp only [wx, wy, Nat.reduceAdd, Nat.reduceEqDiff, reduceCtorEq]
      refine callPu (c56 trueN) (by simp [AV.closed]) ?_
      simp only [sto_sx, sto_sx0, sx_part, wx, wy, Nat.reduceAdd, Nat.reduceEqDiff, reduceCtorEq]
      exact hq _ _ _
    | false =>
      simp only [wx, wy, Nat.reduceAdd, Nat.reduceEqDiff, reduceCtorEq]
      refine callPu (c56 falseN) (by simp [AV.closed]) ?_
      simp only [sto_sx, sto_sx0, sx_part, wx, wy, Nat.reduceAdd, Nat.reduceEqDiff, reduceCtorEq]
      exact hq _ _ _
  | false =>
  cases h2 : (so == 2) with
  | true =>
    have c0 : bsl 31 1 [(0, (atS 4 (textM n)).av)] = some (.sl true [(atS 4 (textM n)).av]) := bsl_one tf31 (by decide) (sx_len _) (sx_ones _)
    simp only [hp, wx, wy, Nat.reduceAdd, Nat.reduceEqDiff, reduceCtorEq]
    refine callPu (c20 neg n (by omega)) (by simp [wz_closed]) ?_
    cases h4 : decide (signM neg n < 0) with
    | true =>
      simp only [h4, wx, wy, Nat.reduceAdd, Nat.reduceEqDiff, reduceCtorEq]
      refine callPu (c59 n hlm (by omega)) (by simp [ns_closed]) ?_
      refine callPu (c58 4 _) (by simp [AV.closed]) ?_
      simp only [c0, wx, wy, Nat.reduceAdd, Nat.reduceEqDiff, reduceCtorEq]
      refine c57 (l := [atS 4 (textM n)]) (M := []) (by simp) ?_ (fun s' he => ?_) rfl rfl fun s' he => ?_
      · rw [← adv_set]
        exact Fresh.set (fresh_set fresh_empty _ (by omega)) (by simp only [adv_nx, set_nx]; omega)
      · obtain ⟨ids, e1, e2⟩ := pur_sl (s := s') (ex := true) (k := 10) (l := [(atS 4 (textM n)).av]) (by simp only [closedL, sx_closed, Bool.and_self])
        subst e2
        exact ⟨[], e1, fun i hi => by cases hi⟩
      · rw [sto_all (z := 6) (by rw [he.h _ (by simp only [adv_nx, set_nx]; omega) (by simp), adv_h, st_same]) rfl (sx_len _) (sx_ones _)]
        simp only [sx_part, wx, wy, Nat.reduceAdd, Nat.reduceEqDiff, reduceCtorEq]
        exact hq _ _ _
    | false =>
      simp only [h4, h2, wx, wy, Nat.reduceAdd, Nat.reduceEqDiff, reduceCtorEq]
      refine callPu (c59 n hlm (by omega)) (by simp [ns_closed]) ?_
      refine callPu (c58 4 _) (by simp [AV.closed]) ?_
      simp only [sto_sx, sto_sx0, sx_part, wx, wy, Nat.reduceAdd, Nat.reduceEqDiff, reduceCtorEq]
      exact hq _ _ _
  | false =>
  have hz : ∀ s : St, ∀ i n, sto 6 (.ptr i 0) zeroB (Ai.adv (s.set i (some (.cells (AV.agg [.bool false, .int .i64 0, .str [], .int .i64 0, .int .i64 0, .nils]).cells 33 true true))) n) = some (Ai.adv (s.set i (some (.cells zeroB.cells 33 true true))) n) := fun s i n => by
    rw [sto_all (z := 6) (by rw [adv_h, st_same]) rfl rfl rfl, adv_set, set_set]
  have hzp : Ai.part 6 true 0 zeroB.cells = some zeroB := rfl
  have hzq : ∀ s, PureQ (.tup [zeroSx0.av, .int .i64 1]) (.tup [zeroB, .int .i64 1]) s := fun s => pureQ_of ⟨[], rfl, rfl⟩
  cases h3 : (so == 3) with
  | false =>
    simp only [f16j1, bld33z, wx, wy, Nat.reduceAdd, Nat.reduceEqDiff, reduceCtorEq]
    rw [hz]
    simp only [hzp, wx, wy, Nat.reduceAdd, Nat.reduceEqDiff, reduceCtorEq]
    exact hzq _
  | true =>
    simp only [wx, wy, Nat.reduceAdd, Nat.reduceEqDiff, reduceCtorEq]
    refine callPu (c60 false l (by omega)) (by simpa using hcl) ?_
    cases h4 : mayM l with
    | false =>
      simp only [f16j1, bld33z, wx, wy, Nat.reduceAdd, Nat.reduceEqDiff, reduceCtorEq]
      rw [hz]
      simp only [hzp, wx, wy, Nat.reduceAdd, Nat.reduceEqDiff, reduceCtorEq]
      exact hzq _
    | true =>
      obtain ⟨m1, m2, m3⟩ := mayM_ok h4
      simp only [wx, wy, Nat.reduceAdd, Nat.reduceEqDiff, reduceCtorEq]
      refine callPu (c61g l m1 (by omega)) (by simpa using hcl) ?_
      simp only [sto_sx, sto_sx0, sx_part, wx, wy, Nat.reduceAdd, Nat.reduceEqDiff, reduceCtorEq]
      exact hq _ _ _
end
def dpM : Nat → Sx → Nat
  | 0, _ => 0
  | m + 1, .mk l _ _ _ _ items => bif l then (items.map (dpM m)).foldl Nat.max 0 + 1 else 0
theorem foldl_max (f : Sx → Nat) (l : List Sx) (d : Nat) (h : ∀ x ∈ l, f x ≤ d) : ∀ a, a ≤ d → (l.map f).foldl Nat.max a ≤ d := by
  induction l with
  | nil => intro a ha; exact ha
  | cons x l ih =>
    intro a ha
    simp only [List.map_cons, List.foldl_cons]
    exact ih (fun y hy => h y (List.mem_cons_of_mem _ hy)) _ (Nat.max_le.2 ⟨ha, h x (List.mem_cons_self ..)⟩)
def Dp (d : Nat) (x : Sx) : Prop := ∀ m, dpM m x ≤ d
theorem dp_at (k : Int) (x : List UInt8) (d : Nat) : Dp d (atS k x) := fun m => by cases m <;> simp [dpM, atS]
theorem dp_mono {d e : Nat} {x : Sx} (h : Dp d x) (hd : d ≤ e) : Dp e x := fun m => Nat.le_trans (h m) hd
theorem dp_mk {d : Nat} {l : List Sx} {k p a : Int} {t : List UInt8} (h : ∀ x ∈ l, Dp d x) : Dp (d + 1) (.mk true k t p a l) := fun m => by
  cases m with
  | zero => exact Nat.zero_le _
  | succ m =>
    have := foldl_max (dpM m) l d (fun x hx => h x hx m) 0 (by omega)
    simp only [dpM, cond_true]; omega
theorem dp_lst {d : Nat} {nm : List UInt8} {l : List Sx} (h : ∀ x ∈ l, Dp d x) : Dp (d + 1) (lstS nm l) := by
  refine dp_mk fun x hx => ?_
  rcases List.mem_cons.1 hx with rfl | hx
  · exact dp_at _ _ _
  · exact h x hx
theorem dp_around {d k : Nat} {v y : Sx} (hd : 3 ≤ d) (hv : Dp 1 v) (hy : Dp d y) : Dp (d + 1) (aroundM k v y) :=
  dp_lst (mem_two (dp_mono (dp_mk (d := 2) (mem_one (dp_mk (mem_two (dp_at _ _ _) hv)))) hd) hy)
theorem dp_up : ∀ (k d : Nat) (y : Sx), 3 ≤ d → Dp d y → Dp (d + k) (longUp k y) := by
  intro k
  induction k with
  | zero => intro d y _ h; exact h
  | succ k ih =>
    intro d y hd h
    have := ih (d + 1) (aroundM (k + 1) (lstS stpp [halfS k, halfS k]) y) (by omega) (dp_around hd (dp_lst (d := 0) (mem_two (dp_at _ _ _) (dp_at _ _ _))) h)
    rw [show d + 1 + k = d + (k + 1) by omega] at this
    exact this
theorem dp_in (n : Nat) : Dp 3 (longIn n) := by
  unfold longIn
  cases ((bitsDn n).length == 1) with
  | true =>
    simp only [cond_true]
    cases bitsDn n with
    | nil => exact dp_at 0 [] 3
    | cons k t => exact dp_at _ _ _
  | false =>
    refine dp_mono (dp_lst (d := 0) fun x hx => ?_) (by decide)
    obtain ⟨k, _, rfl⟩ := List.mem_map.1 hx
    exact dp_at _ _ _
theorem dp_long {r : Int × Int} (h : runOk r = true) : Dp 44 (longM r) := by
  have := run_log h
  exact dp_mono (dp_around (d := 3 + r.2.toNat.log2) (by omega) (dp_at _ _ _) (dp_up _ 3 _ (by decide) (dp_in _))) (by omega)
theorem dp_txts (n : Nat) : ∀ (l : List (Int × Int)), (∀ r ∈ l, runOk r = true) → ∀ p ∈ txtGo litS longM n l, Dp 44 p := by
  induction n with
  | zero => intro l _ p hp; cases hp
  | succ n ih =>
    intro l hl p hp
    cases l with
    | nil => cases hp
    | cons r t =>
      simp only [txtGo] at hp
      cases h : (greedy (r :: t) 0 == 0) with
      | true =>
        rw [h, cond_true] at hp
        rcases List.mem_cons.1 hp with rfl | hp
        · exact dp_long (hl r (List.mem_cons_self ..))
        · exact ih t (fun q hq => hl q (List.mem_cons_of_mem _ hq)) p hp
      | false =>
        rw [h, cond_false] at hp
        rcases List.mem_cons.1 hp with rfl | hp
        · exact dp_at _ _ _
        · exact ih _ (fun q hq => hl q (List.mem_of_mem_drop hq)) p hp
def Sx.lst : Sx → Bool
  | .mk l _ _ _ _ _ => l
theorem greedy_more : ∀ (l : List (Int × Int)) (n : Int), (∀ r ∈ l, runOk r = true) → 0 ≤ n → n ≤ 1000 → greedy l n < l.length → n + sumR l > 1000 := by
  intro l
  induction l with
  | nil => intro n _ _ _ h; simp at h
  | cons r l ih =>
    intro n h h0 h1 hg
    have hr := h r (List.mem_cons_self ..)
    simp only [runOk, Bool.and_eq_true, decide_eq_true_eq] at hr
    have hp := sumR_pos l fun x hx => h x (List.mem_cons_of_mem _ hx)
    have hw : IntKind.i64.wrap (n + r.2) = n + r.2 := IntWalk.i64_in _ (by omega)
    simp only [greedy, hw] at hg
    simp only [sumR]
    cases hd : decide (n + r.2 ≤ 1000) with
    | true =>
      rw [hd, cond_true, List.length_cons] at hg
      have := ih (n + r.2) (fun x hx => h x (List.mem_cons_of_mem _ hx)) (by omega) (of_decide_eq_true hd) (by omega)
      omega
    | false => have := of_decide_eq_false hd; omega
theorem txt_spec (ps : List Sx) (hd : ∀ p ∈ ps, Dp 44 p) (hok : ∀ p ∈ ps, p.ok = true) (hl : ps.length ≤ 2 ^ 20) :
    ((txtM ps).2 = 2 ∧ (txtM ps).1 = zeroSx0) ∨ ((txtM ps).2 = 0 ∧ Dp 45 (txtM ps).1 ∧ (txtM ps).1.ok = true ∧ (txtM ps).1.lst = (match ps with | [] => false | [p] => p.lst | _ => true)) := by
  unfold txtM
  match ps, hd, hok, hl with
  | [], _, _, _ => exact .inr ⟨rfl, dp_at _ _ _, by decide, rfl⟩
  | [p], hd, hok, _ => exact .inr ⟨rfl, dp_mono (hd p (by simp)) (by decide), hok p (by simp), rfl⟩
  | p :: q :: t, hd, hok, hl =>
    have h0 : ((p :: q :: t).length == 0) = false := rfl
    simp only [h0, cond_false]
    cases decide (((p :: q :: t).length : Int) > 200) with
    | true => exact .inl ⟨rfl, rfl⟩
    | false =>
      simp only [cond_false]
      cases decide ((lstS stpp (p :: q :: t)).siz > 2000) with
      | true => exact .inl ⟨rfl, rfl⟩
      | false => exact .inr ⟨rfl, dp_lst hd, lst_ok2 (by decide) (by omega) hok, rfl⟩
theorem txtGo_ne (n : Nat) (r : Int × Int) (t : List (Int × Int)) : txtGo litS longM (n + 1) (r :: t) ≠ [] := by
  simp only [txtGo]
  cases (greedy (r :: t) 0 == 0) <;> simp
theorem txtL_lst (l : List (Int × Int)) (hl : ∀ r ∈ l, runOk r = true) : (match txtL l with | [] => false | [p] => p.lst | _ => true) = decide (sumR l > 1000) := by
  cases l with
  | nil => rfl
  | cons r t =>
    have hr := hl r (List.mem_cons_self ..)
    simp only [runOk, Bool.and_eq_true, decide_eq_true_eq] at hr
    have hp := sumR_pos t fun x hx => hl x (List.mem_cons_of_mem _ hx)
    have hgm := greedy_more (r :: t) 0 hl (by decide) (by decide)
    have hgs := greedy_sum (r :: t) 0 hl (by decide) (by decide)
    have hgl := greedy_le (r :: t) 0
    unfold txtL
    rw [List.length_cons]
    simp only [txtGo]
    cases h : (greedy (r :: t) 0 == 0) with
    | true =>
      have h0 : greedy (r :: t) 0 = 0 := by simpa using h
      have hs := hgm (by rw [h0]; simp)
      have : decide (sumR (r :: t) > 1000) = true := by simp only [decide_eq_true_eq]; omega
      rw [this]
      simp only [cond_true]
      cases txtGo litS longM t.length t with
      | nil => rfl
      | cons q u => rfl
    | false =>
      have h0 : greedy (r :: t) 0 ≠ 0 := by simpa using h
      generalize hg : greedy (r :: t) 0 = g at *
      simp only [cond_false]
      by_cases hx : g = (r :: t).length
      · subst hx
        rw [List.drop_length, List.take_length] at *
        have : decide (sumR (r :: t) > 1000) = false := by simp only [decide_eq_false_iff_not]; omega
        rw [this]
        cases t.length with
        | zero => rfl
        | succ m => rfl
      · have hs := hgm (by omega)
        have : decide (sumR (r :: t) > 1000) = true := by simp only [decide_eq_true_eq]; omega
        rw [this]
        obtain ⟨q, u, hq⟩ : ∃ q u, (r :: t).drop g = q :: u := by
          cases hd : (r :: t).drop g with
          | nil => exfalso; have := List.drop_eq_nil_iff.1 hd; omega
          | cons q u => exact ⟨q, u, rfl⟩
        have hn : 0 < t.length := by
          have : ((r :: t).drop g).length = u.length + 1 := by rw [hq]; rfl
          rw [List.length_drop, List.length_cons] at this; omega
        obtain ⟨m, hm⟩ : ∃ m, t.length = m + 1 := ⟨t.length - 1, by omega⟩
        have hne := txtGo_ne m q u
        rw [hq, hm]
        cases hh : txtGo litS longM (m + 1) (q :: u) with
        | nil => exact absurd hh hne
        | cons a b => rfl
theorem txtL_len (n : Nat) : ∀ (l : List (Int × Int)), (txtGo litS longM n l).length ≤ n := by
  induction n with
  | zero => intro l; simp [txtGo]
  | succ n ih =>
    intro l
    cases l with
    | nil => simp [txtGo]
    | cons r t =>
      simp only [txtGo]
      cases (greedy (r :: t) 0 == 0)
      · simp only [cond_false, List.length_cons]; have := ih ((r :: t).drop (greedy (r :: t) 0)); omega
      · simp only [cond_true, List.length_cons]; have := ih t; omega
def longB (so : Int) (l : List (Int × Int)) : Bool := so == 3 && decide (lenM l > 1000)
def belowB (so : Int) (neg : Bool) (n : List Nat) : Bool := so == 2 && decide (signM neg n < 0)
theorem textM_len (n : List Nat) (hl : limbs n) (hn : n.length ≤ 30) : (textM n).length ≤ 2 ^ 30 := by
  have hnl := norm_len n
  have hvt := val_ten (normM n) (norm_limbs hl)
  have hlen := text_len (val n) (2 * (normM n).length) (normM n) [] (norm_limbs hl) (norm_zero hl).1 hvt
  have hd : ((textGo (val n) (normM n) []).dropWhile (· == 48)).length ≤ (textGo (val n) (normM n) []).length := (List.dropWhile_suffix _).length_le
  unfold textM
  simp only
  rw [List.length_nil] at hlen
  split
  · simp
  · omega
theorem val_spec (so : Int) (b neg : Bool) (n : List Nat) (l : List (Int × Int)) (hlm : limbs n) (hn : n.length ≤ 30) (hl : l.length ≤ 300) :
    (((valM so b neg n l).2 = 1 ∨ (valM so b neg n l).2 = 2) ∧ (valM so b neg n l).1 = zeroSx0) ∨ ((valM so b neg n l).2 = 0 ∧ Dp 64 (valM so b neg n l).1 ∧ (valM so b neg n l).1.ok = true ∧ (valM so b neg n l).1.lst = (longB so l || belowB so neg n)) := by
  have ht := textM_len n hlm hn
  unfold valM longB belowB
  cases h1 : (so == 1) with
  | true =>
    have : so = 1 := by simpa using h1
    subst this
    right
    simp only [cond_true]
    exact ⟨trivial, dp_at _ _ _, at_ok (by decide) (by cases b <;> decide), rfl⟩
  | false =>
  cases h2 : (so == 2) with
  | true =>
    have : so = 2 := by simpa using h2
    subst this
    right
    simp only [cond_true, cond_false]
    cases decide (signM neg n < 0) with
    | true => exact ⟨trivial, dp_mono (dp_lst (d := 0) (mem_one (dp_at _ _ _))) (by decide), lst_ok2 (by decide) (by simp) (mem_one (at_ok (by decide) (by omega))), rfl⟩
    | false => exact ⟨trivial, dp_at _ _ _, at_ok (by decide) (by omega), rfl⟩
  | false =>
  cases h3 : (so == 3) with
  | false => left; exact ⟨.inl rfl, rfl⟩
  | true =>
    simp only [cond_false, Bool.true_and]
    cases h4 : mayM l with
    | false => left; exact ⟨.inl rfl, rfl⟩
    | true =>
      obtain ⟨m1, m2, m3⟩ := mayM_ok h4
      have hts := txt_spec (txtL l) (dp_txts _ l m1) (txt_ok _ l m1) (by have := txtL_len l.length l; unfold txtL; omega)
      simp only [cond_true]
      rcases hts with ⟨a1, a2⟩ | ⟨a1, a2, a3, a4⟩
      · left; exact ⟨.inr a1, a2⟩
      · right
        refine ⟨a1, dp_mono a2 (by decide), a3, ?_⟩
        rw [a4, txtL_lst l m1, lenM, h4]
        simp
end Go.Proofs.YtdehdahimkcakaaGreatDoor
end
section
set_option linter.unusedVariables false
set_option linter.unusedSimpArgs false
set_option maxRecDepth 100000
namespace Go.Proofs.YtdehdahimkcakaaGreatDoor
open Go Ai
section
variable {H : Type}
theorem fields27 : fieldTys Tryz.ty 27 = some [3, 4, 24, 25] := by kernel_rfl
theorem fields24 : fieldTys Tryz.ty 24 = some [4, 22] := by kernel_rfl
theorem fields109 : fieldTys Tryz.ty 109 = some [3, 3] := by kernel_rfl
theorem vlist_of {α : Type} {f : α → AV} {p : DataW H → Prop} {ok : α → Prop} (h : ∀ d, p d → ∃ a, dAV d = f a ∧ ok a) (l : List (DataW H)) (hl : ∀ d ∈ l, p d) : ∃ bs : List α, dAVs l = bs.map f ∧ bs.length = l.length ∧ ∀ a ∈ bs, ok a := by
  induction l with
  | nil => exact ⟨[], rfl, rfl, fun _ h => by cases h⟩
  | cons d l ih =>
    obtain ⟨a, ha, ho⟩ := h d (hl d (List.mem_cons_self ..))
    obtain ⟨bs, h1, h2, h3⟩ := ih fun x hx => hl x (List.mem_cons_of_mem _ hx)
    exact ⟨a :: bs, by simp only [dAVs, ha, h1, List.map_cons], by simp [h2], fun x hx => (List.mem_cons.1 hx).elim (fun e => e ▸ ho) (h3 x)⟩
theorem rn_of (n : Nat) (d : DataW H) (h : TyD Tryz.ty n 109 d) : ∃ r : Int × Int, dAV d = rnA r ∧ True := by
  obtain ⟨m, l, rfl, rfl, hl, hf⟩ := h.struct fields109
  match l, hl with
  | [d0, d1], _ =>
  obtain ⟨x, rfl, _⟩ := (hf 0 3 d0 rfl rfl).int (k := .i64) (by kernel_rfl)
  obtain ⟨a, rfl, _⟩ := (hf 1 3 d1 rfl rfl).int (k := .i64) (by kernel_rfl)
  exact ⟨(x, a), rfl, trivial⟩
theorem limb_of (n : Nat) (d : DataW H) (h : TyD Tryz.ty n 211 d) : ∃ x : Nat, dAV d = u3A x ∧ x < 2 ^ 32 := by
  obtain ⟨x, rfl, hx⟩ := h.int (k := .u32) (by kernel_rfl)
  have h0 : (0 : Int) ≤ x ∧ x ≤ 4294967295 := by
    simp only [Lit.wf, Bool.and_eq_true, decide_eq_true_eq] at hx
    exact hx
  refine ⟨x.toNat, ?_, by rw [p32]; omega⟩
  show AV.int .u32 x = .int .u32 ((x.toNat : Nat) : Int)
  rw [Int.toNat_of_nonneg h0.1]
theorem val_of (n : Nat) (d : DataW H) (h : TyD Tryz.ty n 27 d) : ∃ so b neg n l, dAV d = vlA so b neg n l ∧ limbs n ∧ n.length ≤ maxLen ∧ l.length ≤ maxLen := by
  obtain ⟨m, l, rfl, rfl, hl, hf⟩ := h.struct fields27
  match l, hl with
  | [d0, d1, d2, d3], _ =>
  obtain ⟨so, rfl, _⟩ := (hf 0 3 d0 rfl rfl).int (k := .i64) (by kernel_rfl)
  obtain ⟨b, rfl⟩ := (hf 1 4 d1 rfl rfl).bool (by kernel_rfl)
  obtain ⟨m1, l1, rfl, rfl, hl1, hf1⟩ := (hf 2 24 d2 rfl rfl).struct fields24
  obtain ⟨m2, its, hm, hv, hlen, hel⟩ := (hf 3 25 d3 rfl rfl).list (e := 109) (by kernel_rfl)
  obtain ⟨rs, h1, h2, _⟩ := vlist_of (f := rnA) (fun d h => rn_of m2 d h) its hel
  match l1, hl1, hf1 with
  | [e0, e1], _, hf1 =>
  obtain ⟨neg, rfl⟩ := (hf1 0 4 e0 rfl rfl).bool (by kernel_rfl)
  obtain ⟨m3, its3, hm3, hv3, hlen3, hel3⟩ := (hf1 1 22 e1 rfl rfl).list (e := 211) (by kernel_rfl)
  obtain ⟨ns, h3, h4, h5⟩ := vlist_of (f := u3A) (fun d h => limb_of m3 d h) its3 hel3
  refine ⟨so, b, neg, ns, rs, ?_, h5, by omega, by omega⟩
  simp only [dAV, dAVc, AV.cells, hv, hv3, h1, h3, List.cons_append, List.nil_append, List.append_nil]
  rfl
end
end Go.Proofs.YtdehdahimkcakaaGreatDoor
end
section
set_option linter.unusedVariables false
set_option linter.unusedSimpArgs false
set_option maxRecDepth 100000
set_option maxHeartbeats 4000000
namespace Go.Proofs.YtdehdahimkcakaaGreatDoor
open Go Ai
theorem encB : Enc AV.bool 1 := ⟨fun _ => rfl, fun _ => rfl⟩
def bsA (l : List Bool) : AV := .sl false (l.map AV.bool)
theorem bs_closed (l : List Bool) : (bsA l).closed = true := sl_closed_map _ _ fun _ => fun _ => rfl
def b2n (b : Bool) : Nat := bif b then 1 else 0
def valB : List Bool → Nat
  | [] => 0
  | b :: l => b2n b + 2 * valB l
def bitGo : Nat → Nat → List Bool
  | 0, _ => []
  | f + 1, v => bif v == 0 then [] else (v % 2 == 1) :: bitGo f (v / 2)
def bitL (v : Nat) : List Bool := bitGo v v
theorem b2n_le (b : Bool) : b2n b ≤ 1 := by cases b <;> decide
theorem b2n_mod (b : Bool) (n : Nat) : ((b2n b + 2 * n) % 2 == 1) = b ∧ (b2n b + 2 * n) / 2 = n := by
  cases b
  · have e : b2n false = 0 := rfl
    rw [e]
    refine ⟨?_, by omega⟩
    rw [show (0 + 2 * n) % 2 = 0 by omega]; rfl
  · have e : b2n true = 1 := rfl
    rw [e]
    refine ⟨?_, by omega⟩
    rw [show (1 + 2 * n) % 2 = 1 by omega]; rfl
theorem bitGo_fuel : ∀ f v, v ≤ f → bitGo f v = bitL v := by
  have key : ∀ n v, v ≤ n → ∀ f, v ≤ f → bitGo f v = bitGo v v := by
    intro n
    induction n with
    | zero =>
      intro v hv f _
      have : v = 0 := by omega
      subst this
      cases f <;> rfl
    | succ n ih =>
      intro v hv f hf
      cases v with
      | zero => cases f <;> rfl
      | succ v =>
        obtain ⟨g, rfl⟩ : ∃ g, f = g + 1 := ⟨f - 1, by omega⟩
        simp only [bitGo]
        rw [ih ((v + 1) / 2) (by omega) g (by omega), ih ((v + 1) / 2) (by omega) v (by omega)]
  intro f v h
  exact key v v (Nat.le_refl _) f h
theorem bitL_zero : bitL 0 = [] := rfl
theorem bitL_pos {v : Nat} (h : v ≠ 0) : bitL v = (v % 2 == 1) :: bitL (v / 2) := by
  obtain ⟨w, rfl⟩ : ∃ w, v = w + 1 := ⟨v - 1, by omega⟩
  unfold bitL
  have h0 : (w + 1 == 0) = false := by simp
  rw [bitGo, h0, cond_false, bitGo_fuel w ((w + 1) / 2) (by omega)]
  rfl
theorem valB_bitL (v : Nat) : valB (bitL v) = v := by
  induction v using Nat.strongRecOn with
  | ind v ih =>
    by_cases h : v = 0
    · subst h; rfl
    · rw [bitL_pos h, valB, ih (v / 2) (by omega)]
      have : b2n (v % 2 == 1) = v % 2 := by
        have : v % 2 = 0 ∨ v % 2 = 1 := by omega
        rcases this with h | h <;> rw [h] <;> rfl
      omega
def trimmed (l : List Bool) : Prop := l.getLast? ≠ some false
theorem trimmed_bitL : ∀ (l : List Bool), trimmed l → l = bitL (valB l) ∧ (valB l = 0 → l = []) := by
  intro l
  induction l with
  | nil => intro _; exact ⟨rfl, fun _ => rfl⟩
  | cons b l ih =>
    intro h
    have hl : trimmed l := by
      unfold trimmed at h ⊢
      cases l with
      | nil => simp
      | cons x t => rw [List.getLast?_cons_cons] at h; exact h
    obtain ⟨h1, h2⟩ := ih hl
    have hm := b2n_mod b (valB l)
    have hne : valB (b :: l) ≠ 0 := by
      intro h0
      simp only [valB] at h0
      have : l = [] := h2 (by omega)
      subst this
      cases b with
      | false => exact h rfl
      | true => simp [valB, b2n] at h0
    refine ⟨?_, fun h0 => absurd h0 hne⟩
    rw [bitL_pos hne]
    simp only [valB]
    rw [hm.1, hm.2, ← h1]
def trimB (a : List Bool) : Nat → Nat
  | 0 => 0
  | n + 1 => bif a[n]? == some false then trimB a n else n + 1
theorem trimB_le (a : List Bool) : ∀ n, trimB a n ≤ n := by
  intro n
  induction n with
  | zero => exact Nat.le_refl 0
  | succ n ih => simp only [trimB]; cases (a[n]? == some false) <;> simp only [cond_true, cond_false] <;> omega
theorem valB_append (a b : List Bool) : valB (a ++ b) = valB a + 2 ^ a.length * valB b := by
  induction a with
  | nil => simp [valB]
  | cons x a ih =>
    simp only [List.cons_append, valB, ih, List.length_cons, Nat.pow_succ]
    rw [Nat.mul_add, Nat.add_assoc]
    congr 2
    rw [Nat.mul_comm (2 ^ a.length) 2, Nat.mul_assoc]
theorem trimB_spec (a : List Bool) : ∀ n, n ≤ a.length → valB (a.take (trimB a n)) = valB (a.take n) ∧ trimmed (a.take (trimB a n)) := by
  intro n
  induction n with
  | zero => intro _; exact ⟨rfl, by simp [trimB, trimmed]⟩
  | succ n ih =>
    intro hn
    simp only [trimB]
    obtain ⟨x, hx⟩ : ∃ x, a[n]? = some x := ⟨_, List.getElem?_eq_getElem (by omega)⟩
    have e : a.take (n + 1) = a.take n ++ [x] := by rw [List.take_add_one, hx]; rfl
    cases x with
    | false =>
      obtain ⟨h1, h2⟩ := ih (by omega)
      rw [hx, show ((some false : Option Bool) == some false) = true from rfl, cond_true]
      refine ⟨?_, h2⟩
      rw [h1, e, valB_append]
      simp [valB, b2n]
    | true =>
      rw [hx, show ((some true : Option Bool) == some false) = false from rfl, cond_false]
      refine ⟨rfl, ?_⟩
      rw [e]
      simp [trimmed]
theorem trim_eq (a : List Bool) : a.take (trimB a a.length) = bitL (valB a) := by
  obtain ⟨h1, h2⟩ := trimB_spec a a.length (Nat.le_refl _)
  rw [List.take_length] at h1
  rw [(trimmed_bitL _ h2).1, h1]
theorem l168 (a : List Bool) (Q : AV → St → Prop) (ha : a.length ≤ 2 ^ 30) : ∀ (n : Nat) (s : St), n ≤ a.length → (∀ c, f168j1 Q (bsA a) (.int .i64 (trimB a n)) (adv s c)) → f168l1 Q (n + 1) (bsA a) (.int .i64 n) s := by
  intro n
  induction n with
  | zero =>
    intro s hn hj
    show f168l1s Q (f168l1 Q 0) _ _ s
    simp only [f168l1s, show decide (((0 : Nat) : Int) > 0) = false from rfl, wx, wy, Nat.reduceAdd, Nat.reduceEqDiff, reduceCtorEq]
    exact hj 10
  | succ n ih =>
    intro s hn hj
    show f168l1s Q (f168l1 Q (n + 1)) _ _ s
    obtain ⟨x, hx⟩ : ∃ x, a[n]? = some x := ⟨_, List.getElem?_eq_getElem (by omega)⟩
    have h1 : decide (((n + 1 : Nat) : Int) > 0) = true := by simp
    have h2 : IntKind.i64.wrap (((n + 1 : Nat) : Int) - 1) = (n : Int) := by rw [IntWalk.i64_in _ (by omega)]; try omega
    have hc0 : (AV.bool x).cells[0]? = some (.bool x) := rfl
    simp only [f168l1s, h1, h2, bsA, ix_map encB false hx, hc0, wx, wy, Nat.reduceAdd, Nat.reduceEqDiff, reduceCtorEq]
    simp only [trimB, hx] at hj
    cases x with
    | false =>
      rw [show ((some false : Option Bool) == some false) = true from rfl] at hj
      simp only [h2, wx, wy, Nat.reduceAdd, Nat.reduceEqDiff, reduceCtorEq]
      exact ih _ (by omega) fun c => by rw [adv_two]; exact hj _
    | true =>
      rw [show ((some true : Option Bool) == some false) = false from rfl] at hj
      simp only [wx, wy, Nat.reduceAdd, Nat.reduceEqDiff, reduceCtorEq]
      exact hj _
theorem c168 (a : List Bool) (ha : a.length ≤ 2 ^ 30) : PureC Tryz.env 168 [bsA a] (bsA (bitL (valB a))) := by
  refine pure_q (f168_run _ _ ?_)
  unfold f168
  simp only [bsA, ln173s, List.length_map, wx, wy, Nat.reduceAdd, Nat.reduceEqDiff, reduceCtorEq]
  refine ⟨a.length + 1, l168 a _ ha a.length _ (Nat.le_refl _) fun c => ?_⟩
  have hs : ∀ s, slc 173 (.sl false (a.map AV.bool)) none (some (.int .i64 ((trimB a a.length : Nat) : Int))) none s = some (.sl (false && trimB a a.length == a.length) ((a.take (trimB a a.length)).map AV.bool)) := fun s => slc_take tf173 (fun _ => rfl) false a (trimB_le a _) .i64
  unfold f168j1
  rw [trim_eq] at hs
  simp only [bsA, hs, Bool.false_and, wx, wy, Nat.reduceAdd, Nat.reduceEqDiff, reduceCtorEq]
  have hlen : (bitL (valB a)).length ≤ a.length := by
    rw [← trim_eq, List.length_take]; omega
  by_cases h0 : bitL (valB a) = []
  · rw [h0]
    rw [show ([] : List Bool).map AV.bool = [] from rfl, app_nothing tf173 gw_nil false]
    simp only [wx, wy, Nat.reduceAdd, Nat.reduceEqDiff, reduceCtorEq]
    exact pureQ_of ⟨[], rfl, rfl⟩
  · rw [apps_map tf173 encB (l := []) gw_nil h0 (by simp; omega) (by simp; omega)]
    simp only [wx, wy, Nat.reduceAdd, Nat.reduceEqDiff, reduceCtorEq, List.nil_append]
    refine pureQ_of (pur_map1 tf173 (gw_map encB (by simp)) (fun _ _ => rfl) (fun _ _ => rfl) 11)
def lowB : Nat → Nat → List Bool
  | 0, _ => []
  | k + 1, x => (x % 2 == 1) :: lowB k (x / 2)
theorem lowB_len (k x : Nat) : (lowB k x).length = k := by
  induction k generalizing x with
  | zero => rfl
  | succ k ih => simp [lowB, ih]
theorem lowB_succ (k : Nat) : ∀ x, lowB (k + 1) x = lowB k x ++ [x / 2 ^ k % 2 == 1] := by
  induction k with
  | zero => intro x; simp [lowB]
  | succ k ih =>
    intro x
    rw [lowB, ih (x / 2), lowB, Nat.div_div_eq_div_mul, Nat.pow_succ, Nat.mul_comm 2]
    rfl
theorem valB_low (k : Nat) : ∀ x, valB (lowB k x) = x % 2 ^ k := by
  induction k with
  | zero => intro x; simp [lowB, valB, Nat.mod_one]
  | succ k ih =>
    intro x
    rw [lowB, valB, ih, Nat.pow_succ, Nat.mul_comm (2 ^ k) 2, Nat.mod_mul]
    have : b2n (x % 2 == 1) = x % 2 := by
      have : x % 2 = 0 ∨ x % 2 = 1 := by omega
      rcases this with h | h <;> rw [h] <;> rfl
    rw [this]
def rawB (a : List Nat) : List Bool := a.flatMap (lowB 32)
theorem rawB_len (a : List Nat) : (rawB a).length = 32 * a.length := by
  induction a with
  | nil => rfl
  | cons x a ih =>
    have : rawB (x :: a) = lowB 32 x ++ rawB a := rfl
    rw [this, List.length_append, lowB_len, ih, List.length_cons]; omega
theorem valB_raw (a : List Nat) (h : limbs a) : valB (rawB a) = val a := by
  induction a with
  | nil => rfl
  | cons x a ih =>
    have hx := h x (List.mem_cons_self ..)
    have : rawB (x :: a) = lowB 32 x ++ rawB a := rfl
    rw [this, valB_append, lowB_len, valB_low, ih fun y hy => h y (List.mem_cons_of_mem _ hy), val, Nat.mod_eq_of_lt hx]
theorem l117b (Q : AV → St → Prop) (t0 t4 : AV) (ih1 : AV → AV → AV → St → Prop) (x0 : Nat) (hx0 : x0 < 2 ^ 32) (base : List Bool) (hb : base.length ≤ 2 ^ 30)
    (hQ : ∀ x s, Fresh s → Gw 4 1 0 s x ((base ++ lowB 32 x0).map AV.bool) → f117j2 Q ih1 t4 t0 x s) :
    ∀ (m j : Nat) (x : AV) (s : St), j + m = 32 → Fresh s → Gw 4 1 0 s x ((base ++ lowB j x0).map AV.bool) → f117l2 Q ih1 (m + 1) t0 x t4 (.int .u32 ((x0 / 2 ^ j : Nat) : Int)) (.int .i64 j) s := by
  intro m
  induction m with
  | zero =>
    intro j x s hj fr g
    have : j = 32 := by omega
    subst this
    show f117l2s Q ih1 (f117l2 Q ih1 0) _ _ _ _ _ s
    have c1 : decide (((32 : Nat) : Int) < 32) = false := by decide
    simp only [f117l2s, c1, wx, wy, Nat.reduceAdd, Nat.reduceEqDiff, reduceCtorEq]
    exact hQ _ _ fr.adv g.adv
  | succ m ih =>
    intro j x s hj fr g
    show f117l2s Q ih1 (f117l2 Q ih1 (m + 1)) _ _ _ _ _ s
    have c1 : decide ((j : Int) < 32) = true := by simp; omega
    have hy : x0 / 2 ^ j < 2 ^ 32 := Nat.lt_of_le_of_lt (Nat.div_le_self _ _) hx0
    have hd : x0 / 2 ^ (j + 1) = x0 / 2 ^ j / 2 := by rw [Nat.pow_succ, Nat.div_div_eq_div_mul]
    have hsucc := lowB_succ j x0
    have ih := fun x s => ih (j + 1) x s (by omega)
    rw [hd, hsucc, ← List.append_assoc] at ih
    generalize x0 / 2 ^ j = y at *
    have w1 : IntKind.i64.wrap ((j : Int) + 1) = ((j + 1 : Nat) : Int) := by rw [IntWalk.i64_in _ (by omega)]; rfl
    have hrem : bn .rem 211 (.int .u32 (y : Int)) (.int .u32 2) = some (.int .u32 ((y % 2 : Nat) : Int)) := bin_rem (b := 2) (by decide)
    have hquo : bn .quo 211 (.int .u32 (y : Int)) (.int .u32 2) = some (.int .u32 (IntKind.u32.wrap ((y / 2 : Nat) : Int))) := bin_quo (b := 2) (by decide)
    rw [p32] at hy
    rw [IntWalk.u32_in _ (by omega)] at hquo
    have he : (((y % 2 : Nat) : Int) == 1) = (y % 2 == 1) := by rw [Bool.eq_iff_iff, beq_iff_eq, beq_iff_eq]; omega
    have hb1 : bsl 173 1 [(0, .bool (y % 2 == 1))] = some (.sl true [.bool (y % 2 == 1)]) := bsl_one tf173 (by decide) rfl rfl
    have hlen : (base ++ lowB j x0).length ≤ 2 ^ 31 := by rw [List.length_append, lowB_len]; omega
    simp only [f117l2s, c1, hrem, hquo, he, hb1, wx, wy, Nat.reduceAdd, Nat.reduceEqDiff, reduceCtorEq]
    rw [app_map tf173 encB g.adv (by omega) (by omega)]
    simp only [hquo, f117j3, w1, wx, wy, Nat.reduceAdd, Nat.reduceEqDiff, reduceCtorEq]
    exact ih _ _ (fresh_app fr _ _ (by omega)) (gw_map encB (by simp; omega))
theorem l117a (Q : AV → St → Prop) (a : List Nat) (hl : limbs a) (ha : a.length ≤ 2 ^ 20) (hQ : ∀ x s, Fresh s → Gw 4 1 0 s x ((rawB a).map AV.bool) → f117j1 Q x s) :
    ∀ (m i : Nat) (x : AV) (s : St), i + m = a.length → Fresh s → Gw 4 1 0 s x ((rawB (a.take i)).map AV.bool) → f117l1 Q (m + 1) (nsA a) x (.int .i64 i) s := by
  intro m
  induction m with
  | zero =>
    intro i x s hi fr g
    show f117l1s Q (f117l1 Q 0) _ _ _ s
    have c1 : decide ((i : Int) < (a.length : Int)) = false := by simp; omega
    rw [List.take_of_length_le (by omega)] at g
    simp only [f117l1s, ln22ns, c1, wx, wy, Nat.reduceAdd, Nat.reduceEqDiff, reduceCtorEq]
    exact hQ _ _ fr.adv g.adv
  | succ m ih =>
    intro i x s hi fr g
    show f117l1s Q (f117l1 Q (m + 1)) _ _ _ s
    have c1 : decide ((i : Int) < (a.length : Int)) = true := by simp; omega
    obtain ⟨y, hy⟩ : ∃ y, a[i]? = some y := ⟨_, List.getElem?_eq_getElem (by omega)⟩
    have hyl := hl y (List.mem_of_getElem? hy)
    have hix : ixS 1 (nsA a) (.int .i64 (i : Int)) = some (.pel (u3A y).cells 0) := ix_map encU false hy .i64
    have w1 : IntKind.i64.wrap ((i : Int) + 1) = ((i + 1 : Nat) : Int) := by rw [IntWalk.i64_in _ (by omega)]; rfl
    have hr : rawB (a.take (i + 1)) = rawB (a.take i) ++ lowB 32 y := by rw [List.take_add_one, hy]; simp [rawB]
    have hlen := rawB_len (a.take i)
    rw [List.length_take] at hlen
    simp only [f117l1s, ln22ns, c1, hix, u3_0, wx, wy, Nat.reduceAdd, Nat.reduceEqDiff, reduceCtorEq]
    refine ⟨33, ?_⟩
    have := l117b Q (nsA a) (.int .i64 (i : Int)) (f117l1 Q (m + 1)) y hyl (rawB (a.take i)) (by omega) (fun x s fr g => ?_) 32 0 x (Ai.adv s 10) (by omega) fr.adv (by simpa [lowB] using g.adv)
    · simpa using this
    · unfold f117j2
      simp only [w1, wx, wy, Nat.reduceAdd, Nat.reduceEqDiff, reduceCtorEq]
      exact ih (i + 1) x _ (by omega) fr.adv (by rw [hr]; exact g.adv)
theorem c117 (a : List Nat) (hl : limbs a) (ha : a.length ≤ 2 ^ 20) : PureC Tryz.env 117 [nsA a] (bsA (bitL (val a))) := by
  refine pure_q (f117_run _ _ ?_)
  unfold f117
  refine ⟨a.length + 1, l117a _ a hl ha (fun x s fr g => ?_) a.length 0 .nils _ (by omega) fresh_empty.adv gw_nil⟩
  unfold f117j1
  have h := c168 (rawB a) (by rw [rawB_len]; omega)
  rw [valB_raw a hl] at h
  obtain ⟨ids, e1, e2⟩ := pur_map1 tf173 (g.adv (n := 3)) (fun _ _ => rfl) (fun _ _ => rfl) 11
  refine callPur (args2 := [bsA (rawB a)]) (ids := ids) (by simp only [purL, e1, List.append_nil]; rfl) h ?_
  exact pureQ_closed (bs_closed _)
def limGo : Nat → Nat → List Nat
  | 0, _ => []
  | f + 1, v => bif v == 0 then [] else (v % 4294967296) :: limGo f (v / 4294967296)
def limL (v : Nat) : List Nat := limGo v v
theorem limGo_fuel : ∀ f v, v ≤ f → limGo f v = limL v := by
  have key : ∀ n v, v ≤ n → ∀ f, v ≤ f → limGo f v = limGo v v := by
    intro n
    induction n with
    | zero =>
      intro v hv f _
      have : v = 0 := by omega
      subst this
      cases f <;> rfl
    | succ n ih =>
      intro v hv f hf
      cases v with
      | zero => cases f <;> rfl
      | succ v =>
        obtain ⟨g, rfl⟩ : ∃ g, f = g + 1 := ⟨f - 1, by omega⟩
        simp only [limGo]
        rw [ih ((v + 1) / 4294967296) (by omega) g (by omega), ih ((v + 1) / 4294967296) (by omega) v (by omega)]
  intro f v h
  exact key v v (Nat.le_refl _) f h
theorem limL_pos {v : Nat} (h : v ≠ 0) : limL v = (v % 4294967296) :: limL (v / 4294967296) := by
  obtain ⟨w, rfl⟩ : ∃ w, v = w + 1 := ⟨v - 1, by omega⟩
  unfold limL
  have h0 : (w + 1 == 0) = false := by simp
  rw [limGo, h0, cond_false, limGo_fuel w ((w + 1) / 4294967296) (by omega)]
  rfl
def normed (a : List Nat) : Prop := a.getLast? ≠ some 0
theorem normed_limL : ∀ (a : List Nat), limbs a → normed a → a = limL (val a) ∧ (val a = 0 → a = []) := by
  intro a
  induction a with
  | nil => intro _ _; exact ⟨rfl, fun _ => rfl⟩
  | cons x a ih =>
    intro hl h
    have hx := hl x (List.mem_cons_self ..)
    have hn : normed a := by
      unfold normed at h ⊢
      cases a with
      | nil => simp
      | cons y t => rw [List.getLast?_cons_cons] at h; exact h
    obtain ⟨h1, h2⟩ := ih (fun y hy => hl y (List.mem_cons_of_mem _ hy)) hn
    rw [p32] at hx
    have hne : val (x :: a) ≠ 0 := by
      intro h0
      simp only [val] at h0
      have : a = [] := h2 (by omega)
      subst this
      have : x = 0 := by omega
      subst this
      exact h rfl
    refine ⟨?_, fun h0 => absurd h0 hne⟩
    rw [limL_pos hne]
    simp only [val]
    rw [show (x + 4294967296 * val a) % 4294967296 = x by omega, show (x + 4294967296 * val a) / 4294967296 = val a by omega, ← h1]
theorem norm_normed (a : List Nat) : normed (normM a) := by
  rcases (trim_spec a a.length (Nat.le_refl _)).2 with h0 | ⟨x, hx, h0⟩
  · unfold normM normed; rw [h0]; simp
  · unfold normM normed
    have hle := trimN_le a a.length
    rw [List.getLast?_take]
    by_cases hz : trimN a a.length = 0
    · rw [hz]; simp
    · rw [if_neg hz, hx]
      simpa using h0
theorem norm_limL {a : List Nat} (h : limbs a) : normM a = limL (val a) := by
  have := (normed_limL (normM a) (norm_limbs h) (norm_normed a)).1
  rw [this, val_norm]
theorem bitL_take (k : Nat) : ∀ v, valB ((bitL v).take k) = v % 2 ^ k ∧ (bitL v).drop k = bitL (v / 2 ^ k) := by
  induction k with
  | zero => intro v; simp [valB, Nat.mod_one]
  | succ k ih =>
    intro v
    by_cases h : v = 0
    · subst h; simp [bitL_zero, valB, Nat.zero_div]
    · rw [bitL_pos h]
      obtain ⟨h1, h2⟩ := ih (v / 2)
      simp only [List.take_succ_cons, List.drop_succ_cons, valB, h1, h2]
      have : b2n (v % 2 == 1) = v % 2 := by
        have : v % 2 = 0 ∨ v % 2 = 1 := by omega
        rcases this with h | h <;> rw [h] <;> rfl
      rw [this, Nat.pow_succ, Nat.mul_comm (2 ^ k) 2, Nat.mod_mul, Nat.div_div_eq_div_mul]
      exact ⟨rfl, rfl⟩
theorem bitL_len (v : Nat) : ∀ k, v < 2 ^ k → (bitL v).length ≤ k := by
  intro k
  induction k generalizing v with
  | zero => intro h; have : v = 0 := by omega
            subst this; exact Nat.le_refl _
  | succ k ih =>
    intro h
    by_cases h0 : v = 0
    · subst h0; simp [bitL_zero]
    · rw [bitL_pos h0, List.length_cons]
      have := ih (v / 2) (by rw [Nat.pow_succ] at h; omega)
      omega
theorem bitL_get (v k : Nat) : (bitL v)[k]?.getD false = (v / 2 ^ k % 2 == 1) := by
  induction k generalizing v with
  | zero =>
    by_cases h0 : v = 0
    · subst h0; rfl
    · rw [bitL_pos h0]; simp
  | succ k ih =>
    by_cases h0 : v = 0
    · subst h0; simp [bitL_zero, Nat.zero_div]
    · rw [bitL_pos h0, List.getElem?_cons_succ, ih, Nat.div_div_eq_div_mul, Nat.pow_succ, Nat.mul_comm 2]
def hiN (v i k : Nat) : Nat := v / 2 ^ k % 2 ^ (i + 32 - k)
theorem hiN_step (v i k : Nat) (h : i ≤ k) (h2 : k < i + 32) : hiN v i k = 2 * hiN v i (k + 1) + v / 2 ^ k % 2 := by
  unfold hiN
  obtain ⟨j, hj⟩ : ∃ j, i + 32 - k = j + 1 := ⟨i + 31 - k, by omega⟩
  have hj2 : i + 32 - (k + 1) = j := by omega
  rw [hj, hj2, Nat.pow_succ, Nat.mul_comm (2 ^ j) 2, Nat.mod_mul, Nat.div_div_eq_div_mul, ← Nat.pow_succ]
  exact Nat.add_comm _ _
theorem hiN_top (v i : Nat) : hiN v i (i + 32) = 0 := by unfold hiN; simp [Nat.mod_one]
theorem hiN_lt (v i k : Nat) (h : i ≤ k) (h2 : k ≤ i + 32) : hiN v i k < 4294967296 := by
  unfold hiN
  have : v / 2 ^ k % 2 ^ (i + 32 - k) < 2 ^ (i + 32 - k) := Nat.mod_lt _ (Nat.pow_pos (by decide))
  have : 2 ^ (i + 32 - k) ≤ 2 ^ 32 := Nat.pow_le_pow_right (by decide) (by omega)
  have h32 : (2 : Nat) ^ 32 = 4294967296 := rfl
  omega
theorem l189b (Q : AV → St → Prop) (t3 : AV) (ih1 : AV → AV → AV → St → Prop) (v i : Nat) (hi : i ≤ 2 ^ 30) (hv : (bitL v).length ≤ 2 ^ 30)
    (s0 : St) (hQ : ∀ c, f189j3 Q ih1 t3 (.int .u32 ((v / 2 ^ i % 4294967296 : Nat) : Int)) (.int .i64 i) (bsA (bitL v)) (adv s0 c)) :
    ∀ (m k : Nat) (s : St), m ≤ 32 → k = i + m → (∃ c, s = adv s0 c) → f189l2 Q ih1 (m + 1) (bsA (bitL v)) t3 (.int .i64 i) (.int .u32 (hiN v i k)) (.int .i64 ((k : Int) - 1)) s := by
  intro m
  induction m with
  | zero =>
    intro k s hm hk hc
    obtain ⟨c, rfl⟩ := hc
    have : k = i := by omega
    subst this
    show f189l2s Q ih1 (f189l2 Q ih1 0) _ _ _ _ _ _
    have c1 : decide ((k : Int) - 1 ≥ (k : Int)) = false := by simp; omega
    simp only [f189l2s, c1, wx, wy, Nat.reduceAdd, Nat.reduceEqDiff, reduceCtorEq]
    have e : hiN v k k = v / 2 ^ k % 4294967296 := by unfold hiN; rw [show k + 32 - k = 32 by omega]
    rw [e]
    exact hQ _
  | succ m ih =>
    intro k s hm hk hc
    obtain ⟨c, rfl⟩ := hc
    obtain ⟨k, rfl⟩ : ∃ j, k = j + 1 := ⟨k - 1, by omega⟩
    show f189l2s Q ih1 (f189l2 Q ih1 (m + 1)) _ _ _ _ _ _
    have e1 : ((k + 1 : Nat) : Int) - 1 = (k : Int) := by omega
    rw [e1]
    have c1 : decide ((k : Int) ≥ (i : Int)) = true := by simp; omega
    have hst := hiN_step v i k (by omega) (by omega)
    have hlt := hiN_lt v i k (by omega) (by omega)
    have hg := bitL_get v k
    have ih := fun c => ih k (Ai.adv s0 c) (by omega) (by omega) ⟨c, rfl⟩
    have w1 : IntKind.i64.wrap ((k : Int) - 1) = (k : Int) - 1 := IntWalk.i64_in _ (by omega)
    have hln : ∀ id s, bt .len #[173] [bsA (bitL v)] id s = some (.int .i64 (bitL v).length, s) := fun id s => by
      show bt .len #[173] [.sl false ((bitL v).map AV.bool)] id s = _
      rw [ln173s, List.length_map]
    generalize hiN v i (k + 1) = H at *
    have hH : IntKind.u32.wrap ((H : Int) * 2) = ((H * 2 : Nat) : Int) := by rw [IntWalk.u32_in _ (by omega)]; rfl
    by_cases hk2 : k < (bitL v).length
    · obtain ⟨y, hy⟩ : ∃ y, (bitL v)[k]? = some y := ⟨_, List.getElem?_eq_getElem hk2⟩
      have c2 : decide ((k : Int) < ((bitL v).length : Int)) = true := by simp; omega
      have hix : ixS 1 (bsA (bitL v)) (.int .i64 (k : Int)) = some (.pel (AV.bool y).cells 0) := ix_map encB false hy .i64
      have hc0 : (AV.bool y).cells[0]? = some (.bool y) := rfl
      rw [hy] at hg
      have hg : y = (v / 2 ^ k % 2 == 1) := hg
      cases y with
      | true =>
        have hb : v / 2 ^ k % 2 = 1 := by simpa using hg.symm
        have hH2 : IntKind.u32.wrap (((H * 2 : Nat) : Int) + 1) = ((hiN v i k : Nat) : Int) := by rw [IntWalk.u32_in _ (by omega)]; omega
        simp only [f189l2s, c1, hH, hln, c2, hix, hc0, hH2, f189j4, w1, wx, wy, Nat.reduceAdd, Nat.reduceEqDiff, reduceCtorEq]
        exact ih _
      | false =>
        have hb : v / 2 ^ k % 2 = 0 := by
          have : v / 2 ^ k % 2 ≠ 1 := by intro h; rw [h] at hg; cases hg
          omega
        have hH2 : H * 2 = hiN v i k := by omega
        rw [hH2] at hH
        simp only [f189l2s, c1, hH, hln, c2, hix, hc0, f189j4, w1, wx, wy, Nat.reduceAdd, Nat.reduceEqDiff, reduceCtorEq]
        exact ih _
    · have c2 : decide ((k : Int) < ((bitL v).length : Int)) = false := by simp; omega
      rw [List.getElem?_eq_none (by omega)] at hg
      have hb : v / 2 ^ k % 2 = 0 := by
        have : v / 2 ^ k % 2 ≠ 1 := by intro h; rw [h] at hg; cases hg
        omega
      have hH2 : H * 2 = hiN v i k := by omega
      rw [hH2] at hH
      simp only [f189l2s, c1, hH, hln, c2, f189j4, w1, wx, wy, Nat.reduceAdd, Nat.reduceEqDiff, reduceCtorEq]
      exact ih _
theorem l189a (Q : AV → St → Prop) (v : Nat) (hv : (bitL v).length ≤ 2 ^ 29) (hQ : ∀ x s, Fresh s → Gw 211 1 0 s x ((limL v).map u3A) → f189j1 Q x s) :
    ∀ (m i : Nat) (p : List Nat) (x : AV) (s : St), (bitL v).length ≤ 32 * i + 32 * m → 32 * i ≤ 2 ^ 30 → p.length = i → m ≤ 2 ^ 25 → i + m ≤ 2 ^ 25 → Fresh s → Gw 211 1 0 s x (p.map u3A) → p ++ limL (v / 2 ^ (32 * i)) = limL v → f189l1 Q (m + 1) (bsA (bitL v)) x (.int .i64 ((32 * i : Nat) : Int)) s := by
  have hln : ∀ id s, bt .len #[173] [bsA (bitL v)] id s = some (.int .i64 (bitL v).length, s) := fun id s => by
    show bt .len #[173] [.sl false ((bitL v).map AV.bool)] id s = _
    rw [ln173s, List.length_map]
  have hend : ∀ i, (bitL v).length ≤ 32 * i → v / 2 ^ (32 * i) = 0 := fun i h => by
    have h1 := (bitL_take (32 * i) v).2
    rw [List.drop_of_length_le h] at h1
    have h2 := valB_bitL (v / 2 ^ (32 * i))
    rw [← h1] at h2
    exact h2.symm
  intro m
  induction m with
  | zero =>
    intro i p x s hb hi hp hm him fr g he
    show f189l1s Q (f189l1 Q 0) _ _ _ s
    have c1 : decide (((32 * i : Nat) : Int) < ((bitL v).length : Int)) = false := by simp; omega
    rw [hend i (by omega)] at he
    have he : p ++ [] = limL v := he
    rw [List.append_nil] at he
    rw [he] at g
    simp only [f189l1s, hln, c1, wx, wy, Nat.reduceAdd, Nat.reduceEqDiff, reduceCtorEq]
    exact hQ _ _ fr.adv g.adv
  | succ m ih =>
    intro i p x s hb hi hp hm him fr g he
    show f189l1s Q (f189l1 Q (m + 1)) _ _ _ s
    by_cases hlt : 32 * i < (bitL v).length
    · have c1 : decide (((32 * i : Nat) : Int) < ((bitL v).length : Int)) = true := by simp; omega
      have hne : v / 2 ^ (32 * i) ≠ 0 := by
        intro h0
        have h1 := (bitL_take (32 * i) v).2
        rw [h0, bitL_zero] at h1
        have := List.drop_eq_nil_iff.1 h1
        omega
      have hdd : v / 2 ^ (32 * i) / 4294967296 = v / 2 ^ (32 * (i + 1)) := by
        rw [Nat.div_div_eq_div_mul, show (4294967296 : Nat) = 2 ^ 32 from rfl, ← Nat.pow_add, show 32 * i + 32 = 32 * (i + 1) by omega]
      rw [limL_pos hne, hdd] at he
      have w1 : IntKind.i64.wrap (((32 * i : Nat) : Int) + 31) = ((32 * i + 32 : Nat) : Int) - 1 := by rw [IntWalk.i64_in _ (by omega)]; omega
      have w2 : IntKind.i64.wrap (((32 * i : Nat) : Int) + 32) = ((32 * (i + 1) : Nat) : Int) := by rw [IntWalk.i64_in _ (by omega)]; omega
      simp only [f189l1s, hln, c1, w1, wx, wy, Nat.reduceAdd, Nat.reduceEqDiff, reduceCtorEq]
      refine ⟨33, ?_⟩
      have := l189b Q x (f189l1 Q (m + 1)) v (32 * i) hi (by omega) s (fun c => ?_) 32 (32 * i + 32) (Ai.adv s 8) (Nat.le_refl _) rfl ⟨8, rfl⟩
      · rw [hiN_top] at this
        exact this
      · unfold f189j3
        have hb1 : bsl 22 1 [(0, u3A (v / 2 ^ (32 * i) % 4294967296))] = some (.sl true [u3A (v / 2 ^ (32 * i) % 4294967296)]) := bsl_one tf22 (by decide) rfl rfl
        have hb1' : bsl 22 1 [(0, .int .u32 ((v / 2 ^ (32 * i) % 4294967296 : Nat) : Int))] = some (.sl true [u3A (v / 2 ^ (32 * i) % 4294967296)]) := hb1
        simp only [hb1', wx, wy, Nat.reduceAdd, Nat.reduceEqDiff, reduceCtorEq]
        rw [app_map tf22 encU g.adv (by omega) (by omega)]
        simp only [f189j2, w2, wx, wy, Nat.reduceAdd, Nat.reduceEqDiff, reduceCtorEq]
        refine ih (i + 1) (p ++ [v / 2 ^ (32 * i) % 4294967296]) _ _ (by omega) (by omega) (by simp [hp]) (by omega) (by omega) (fresh_app fr _ _ (by omega)) (gw_map encU (by simp)) ?_
        rw [← he, List.append_assoc]; rfl
    · have c1 : decide (((32 * i : Nat) : Int) < ((bitL v).length : Int)) = false := by simp; omega
      rw [hend i (by omega)] at he
      have he : p ++ [] = limL v := he
      rw [List.append_nil] at he
      rw [he] at g
      simp only [f189l1s, hln, c1, wx, wy, Nat.reduceAdd, Nat.reduceEqDiff, reduceCtorEq]
      exact hQ _ _ fr.adv g.adv
theorem c189 (v : Nat) (hv : (bitL v).length ≤ 2 ^ 29) : PureC Tryz.env 189 [bsA (bitL v)] (nsA (limL v)) := by
  refine pure_q (f189_run _ _ ?_)
  unfold f189
  have h := c168 (bitL v) (by omega)
  rw [valB_bitL] at h
  refine callPu h (by simp [bs_closed]) ?_
  refine ⟨2 ^ 24 + 1, ?_⟩
  have := l189a (PureQ (nsA (limL v))) v hv (fun x s fr g => ?_) (2 ^ 24) 0 [] .nils (Ai.adv (Ai.adv St.empty 4) 2) (by omega) (by decide) rfl (by decide) (by decide) fresh_empty.adv.adv gw_nil (by simp)
  · exact this
  · exact pureQ_of (pur_map1 tf22 g.adv (fun _ _ => rfl) (fun _ _ => rfl) 11)
theorem val_bits (a : List Nat) (hl : limbs a) : (bitL (val a)).length ≤ 32 * a.length := by
  refine bitL_len _ _ ?_
  have := val_lt a hl
  rw [Nat.pow_mul]
  exact this
theorem c137 (a : List Nat) (hl : limbs a) (ha : a.length ≤ 2 ^ 20) : PureC Tryz.env 137 [nsA a] (nsA (normM a)) := by
  refine pure_q (f137_run _ _ ?_)
  unfold f137
  refine callPu (c117 a hl ha) (by simp [ns_closed]) ?_
  have := val_bits a hl
  refine callPu (c189 (val a) (by omega)) (by simp [bs_closed]) ?_
  rw [norm_limL hl]
  exact pureQ_closed (ns_closed _)
theorem c118 (neg : Bool) (n : List Nat) (hl : limbs n) (hn : n.length ≤ 2 ^ 20) : PureC Tryz.env 118 [wzA neg n] (wzA (madeM neg n).1 (madeM neg n).2) := by
  refine pure_q (f118_run _ _ ?_)
  unfold f118
  refine ⟨rfl, ?_⟩
  simp only [zf24, wz0, wz1, wx, wy, Nat.reduceAdd, Nat.reduceEqDiff, reduceCtorEq]
  refine callPu (c137 n hl hn) (by simp [ns_closed]) ?_
  have hb : ∀ b : Bool, bld 24 [(0, .bool b), (1, nsA (normM n))] = some (wzA b (normM n)) := fun b => by rw [bf24]; rfl
  have hlz : decide (((normM n).length : Int) > 0) = !(normM n == []) := by
    cases h : normM n with
    | nil => rfl
    | cons x t => simp
  have hz : ∀ (q : St) (i c : Nat) (b : Bool), sto 2 (.ptr i 0) (wzA b (normM n)) (Ai.adv (q.set i (some (.cells (AV.agg [.bool false, .nils]).cells 24 true true))) c) = some (Ai.adv (q.set i (some (.cells (wzA b (normM n)).cells 24 true true))) c) := fun q i c b => by
    rw [sto_all (z := 2) (by rw [adv_h, st_same]) rfl rfl rfl, adv_set, set_set]
  cases neg with
  | false =>
    simp only [wz0, hb, wx, wy, Nat.reduceAdd, Nat.reduceEqDiff, reduceCtorEq]
    rw [hz]
    simp only [wz_part, wx, wy, Nat.reduceAdd, Nat.reduceEqDiff, reduceCtorEq]
    exact pureQ_closed (wz_closed _ _)
  | true =>
    simp only [wz0, ln22ns, hlz, hb, wx, wy, Nat.reduceAdd, Nat.reduceEqDiff, reduceCtorEq]
    rw [hz]
    simp only [wz_part, wx, wy, Nat.reduceAdd, Nat.reduceEqDiff, reduceCtorEq]
    exact pureQ_closed (wz_closed _ _)
theorem c64 (neg : Bool) (n : List Nat) (hl : limbs n) (hn : n.length ≤ 2 ^ 20) : PureC Tryz.env 64 [wzA neg n] (.int .i64 (signM neg n)) := by
  refine pure_q (f64_run _ _ ?_)
  unfold f64
  refine ⟨rfl, ?_⟩
  simp only [wz_part, wx, wy, Nat.reduceAdd, Nat.reduceEqDiff, reduceCtorEq]
  refine callPu (c118 neg n hl hn) (by simp [wz_closed]) ?_
  have hz : ∀ (q : St) (i c : Nat) (b : Bool) (m : List Nat), sto 2 (.ptr i 0) (wzA b m) (Ai.adv (q.set i (some (.cells (AV.agg [.bool false, .nils]).cells 24 true true))) c) = some (Ai.adv (q.set i (some (.cells (wzA b m).cells 24 true true))) c) := fun q i c b m => by
    rw [sto_all (z := 2) (by rw [adv_h, st_same]) rfl rfl rfl, adv_set, set_set]
  simp only [zf24, wx, wy, Nat.reduceAdd, Nat.reduceEqDiff, reduceCtorEq]
  rw [hz]
  have hlz : (((normM n).length : Int) == 0) = (normM n == []) := by
    cases h : normM n with
    | nil => rfl
    | cons x t => simp; omega
  unfold signM madeM
  simp only [wz0, wz1, ln22ns, hlz, wx, wy, Nat.reduceAdd, Nat.reduceEqDiff, reduceCtorEq]
  cases h : (normM n == []) <;> cases neg <;> simp only [Bool.not_true, Bool.not_false, cond_true, cond_false, wx, wy, Nat.reduceAdd, Nat.reduceEqDiff, reduceCtorEq] <;> exact pureQ_closed rfl
end Go.Proofs.YtdehdahimkcakaaGreatDoor
end
section
set_option linter.unusedVariables false
set_option linter.unusedSimpArgs false
set_option maxRecDepth 100000
set_option maxHeartbeats 4000000
namespace Go.Proofs.YtdehdahimkcakaaGreatDoor
open Go Ai
def digGo : Nat → Nat → List Nat
  | 0, _ => []
  | f + 1, v => bif v == 0 then [] else (v % 10) :: digGo f (v / 10)
def digL (v : Nat) : List Nat := digGo v v
theorem digGo_fuel : ∀ f v, v ≤ f → digGo f v = digL v := by
  have key : ∀ n v, v ≤ n → ∀ f, v ≤ f → digGo f v = digGo v v := by
    intro n
    induction n with
    | zero =>
      intro v hv f _
      have : v = 0 := by omega
      subst this
      cases f <;> rfl
    | succ n ih =>
      intro v hv f hf
      cases v with
      | zero => cases f <;> rfl
      | succ v =>
        obtain ⟨g, rfl⟩ : ∃ g, f = g + 1 := ⟨f - 1, by omega⟩
        simp only [digGo]
        rw [ih ((v + 1) / 10) (by omega) g (by omega), ih ((v + 1) / 10) (by omega) v (by omega)]
  intro f v h
  exact key v v (Nat.le_refl _) f h
theorem digL_zero : digL 0 = [] := rfl
theorem digL_pos {v : Nat} (h : v ≠ 0) : digL v = (v % 10) :: digL (v / 10) := by
  obtain ⟨w, rfl⟩ : ∃ w, v = w + 1 := ⟨v - 1, by omega⟩
  unfold digL
  have h0 : (w + 1 == 0) = false := by simp
  rw [digGo, h0, cond_false, digGo_fuel w ((w + 1) / 10) (by omega)]
  rfl
theorem digL_lt (v : Nat) : ∀ x ∈ digL v, x < 10 := by
  induction v using Nat.strongRecOn with
  | ind v ih =>
    by_cases h : v = 0
    · subst h; intro x hx; cases hx
    · rw [digL_pos h]
      intro x hx
      rcases List.mem_cons.1 hx with rfl | hx
      · exact Nat.mod_lt _ (by decide)
      · exact ih (v / 10) (by omega) x hx
theorem digL_len (v : Nat) : ∀ k, v < 10 ^ k → (digL v).length ≤ k := by
  intro k
  induction k generalizing v with
  | zero => intro h; have : v = 0 := by omega
            subst this; exact Nat.le_refl _
  | succ k ih =>
    intro h
    by_cases h0 : v = 0
    · subst h0; simp [digL_zero]
    · rw [digL_pos h0, List.length_cons]
      have := ih (v / 10) (by rw [Nat.pow_succ] at h; omega)
      omega
def dbl : List Nat → Nat → List Nat
  | [], _ => []
  | x :: t, c => (2 * x + c) % 10 :: dbl t ((2 * x + c) / 10)
def cry : List Nat → Nat → Nat
  | [], c => c
  | x :: t, c => cry t ((2 * x + c) / 10)
theorem dbl_len (l : List Nat) : ∀ c, (dbl l c).length = l.length := by
  induction l with
  | nil => intro c; rfl
  | cons x t ih => intro c; simp [dbl, ih]
theorem dbl_eq (v : Nat) : ∀ c, c ≤ 1 → cry (digL v) c ≤ 1 ∧ dbl (digL v) c ++ (bif Nat.blt 0 (cry (digL v) c) then [cry (digL v) c] else []) = digL (2 * v + c) := by
  induction v using Nat.strongRecOn with
  | ind v ih =>
    intro c hc
    by_cases h : v = 0
    · subst h
      have : c = 0 ∨ c = 1 := by omega
      rcases this with rfl | rfl <;> exact ⟨by decide, rfl⟩
    · have hm : v % 10 < 10 := Nat.mod_lt _ (by decide)
      have hc' : (2 * (v % 10) + c) / 10 ≤ 1 := by omega
      obtain ⟨h1, h2⟩ := ih (v / 10) (by omega) ((2 * (v % 10) + c) / 10) hc'
      rw [digL_pos h]
      refine ⟨h1, ?_⟩
      rw [digL_pos (show 2 * v + c ≠ 0 by omega)]
      rw [show (2 * v + c) % 10 = (2 * (v % 10) + c) % 10 by omega, show (2 * v + c) / 10 = 2 * (v / 10) + (2 * (v % 10) + c) / 10 by omega, ← h2]
      rfl
def niA (n : Nat) : AV := .int .i64 (n : Int)
theorem encN : Enc niA 1 := ⟨fun _ => rfl, fun _ => rfl⟩
theorem flat_ni (l : List Nat) : (l.map niA).flatMap AV.cells = l.map niA := flat_one fun v hv => by obtain ⟨c, _, rfl⟩ := List.mem_map.1 hv; rfl
theorem l63c (Q : AV → St → Prop) (t3 t5 : AV) (ih2 : AV → AV → AV → St → Prop) (id n : Nat) (hn : n ≤ 2 ^ 30) (r : List Nat) (cr : Nat) (s0 : St) (hid : id < s0.nx)
    (hQ : ∀ s, EF [id] s0 s → s.h id = some (.cells (r.map niA) 3 false true) → f63j6 Q ih2 (.int .i64 cr) (.ref id 0 n none 3) t5 t3 s) :
    ∀ (rest done : List Nat) (c : Nat) (s : St), done.length + rest.length = n → c ≤ 1 → (∀ x ∈ rest, x < 10) → EF [id] s0 s → s.h id = some (.cells ((done ++ rest).map niA) 3 false true) → done ++ dbl rest c = r → cry rest c = cr →
      f63l3 Q ih2 (rest.length + 1) t3 (.ref id 0 n none 3) t5 (.int .i64 c) (.int .i64 done.length) s := by
  intro rest
  induction rest with
  | nil =>
    intro done c s hl hc hx ef hs hr hcr
    show f63l3s Q ih2 (f63l3 Q ih2 0) _ _ _ _ _ s
    have c1 : decide ((done.length : Int) < (n : Int)) = false := by simp at hl ⊢; omega
    simp only [f63l3s, ln72r, c1, wx, wy, Nat.reduceAdd, Nat.reduceEqDiff, reduceCtorEq]
    have hr : done ++ [] = r := hr
    rw [List.append_nil] at hr hs
    have hcr : c = cr := hcr
    subst hcr hr
    exact hQ _ ef.adv (by rw [adv_h]; exact hs)
  | cons x rest ih =>
    intro done c s hl hc hx ef hs hr hcr
    show f63l3s Q ih2 (f63l3 Q ih2 (rest.length + 1)) _ _ _ _ _ s
    have hx9 := hx x (List.mem_cons_self ..)
    simp only [List.length_cons] at hl
    have c1 : decide ((done.length : Int) < (n : Int)) = true := by simp; omega
    have hix := ix_ref0 (e := 3) (i := done.length) (id := id) (n := n) (c := none) (by omega) .i64
    have hget : ((done ++ x :: rest).map niA)[done.length]? = some (niA x) := by
      rw [List.getElem?_map, List.getElem?_append_right (by omega), Nat.sub_self]; rfl
    have w1 : IntKind.i64.wrap (2 * (x : Int)) = ((2 * x : Nat) : Int) := by rw [IntWalk.i64_in _ (by omega)]; omega
    have w2 : IntKind.i64.wrap (((2 * x : Nat) : Int) + (c : Int)) = ((2 * x + c : Nat) : Int) := by rw [IntWalk.i64_in _ (by omega)]; omega
    have w3 : IntKind.i64.wrap ((done.length : Int) + 1) = ((done.length + 1 : Nat) : Int) := by rw [IntWalk.i64_in _ (by omega)]; rfl
    simp only [dbl, cry] at hr hcr
    have hb : 2 * x + c ≤ 19 := by omega
    generalize 2 * x + c = y at *
    have hrem : bn .rem 3 (.int .i64 (y : Int)) (.int .i64 10) = some (.int .i64 ((y % 10 : Nat) : Int)) := bin_rem (b := 10) (by decide)
    have hquo : bn .quo 3 (.int .i64 (y : Int)) (.int .i64 10) = some (.int .i64 (IntKind.i64.wrap ((y / 10 : Nat) : Int))) := bin_quo (b := 10) (by decide)
    rw [IntWalk.i64_in _ (by omega)] at hquo
    have hset : ((done ++ x :: rest).map niA).set done.length (.int .i64 ((y % 10 : Nat) : Int)) = ((done ++ [y % 10]) ++ rest).map niA := by
      have := set_mid (a := done.map niA) (x := niA x) (v := niA (y % 10)) (b := rest.map niA)
      rw [List.length_map] at this
      rw [List.map_append, List.map_cons, List.append_assoc, List.map_append]
      exact this
    have hsn : ∀ k, (Ai.adv s k).h id = some (.cells ((done ++ x :: rest).map niA) 3 false true) := fun k => by rw [adv_h]; exact hs
    have hniA : niA x = .int .i64 (x : Int) := rfl
    rw [hniA] at hget
    simp only [f63l3s, ln72r, c1, hix, hs, hget, w1, w2, hrem, hquo, wx, wy, Nat.reduceAdd, Nat.reduceEqDiff, reduceCtorEq]
    rw [sto_c (hsn _) (by simp) rfl rfl, hset]
    simp only [f63j7, w3, wx, wy, Nat.reduceAdd, Nat.reduceEqDiff, reduceCtorEq]
    have := ih (done ++ [y % 10]) (y / 10) (Ai.adv (s.set id (some (.cells (((done ++ [y % 10]) ++ rest).map niA) 3 false true))) 24) (by simp; omega) (by omega) (fun z hz => hx z (List.mem_cons_of_mem _ hz)) ((ef.set (by have := ef.nx; omega) (.inr (by simp))).adv) (by rw [adv_h, st_same]) (by rw [← hr, List.append_assoc]; rfl) hcr
    rw [show (done ++ [y % 10]).length = done.length + 1 by simp] at this
    exact this
def decT (v : Nat) : List UInt8 := bif v == 0 then [48] else (digL v).reverse.map fun x => UInt8.ofNat (48 + x)
theorem l63a (Q : AV → St → Prop) (d : List Nat) (hd : ∀ x ∈ d, x < 10) (hlen : d.length ≤ 2 ^ 30) (id : Nat) (hQ : ∀ s, Q (.str (d.reverse.map fun x => UInt8.ofNat (48 + x))) s) :
    ∀ (m : Nat) (x : AV) (s : St), m ≤ d.length → Fresh s → s.h id = some (.cells (d.map niA) 3 false true) → id ∉ idOf x → Gw 5 1 0 s x (((d.drop m).reverse.map fun x => UInt8.ofNat (48 + x)).map byt) →
      f63l1 Q (m + 1) (.ref id 0 d.length none 3) x (.int .i64 ((m : Int) - 1)) s := by
  intro m
  induction m with
  | zero =>
    intro x s hm fr hs hx g
    show f63l1s Q (f63l1 Q 0) _ _ _ s
    rw [List.drop_zero] at g
    simp only [f63l1s, show decide (((0 : Nat) : Int) - 1 ≥ 0) = false from rfl, f63j2, wx, wy, Nat.reduceAdd, Nat.reduceEqDiff, reduceCtorEq]
    obtain ⟨q1, ⟨rfl, q2⟩ | ⟨i, hi, rfl, hs'⟩⟩ := g
    · have hd0 : d = [] := by simpa using q2
      subst hd0
      rw [show cv 161 9 .nils (Ai.adv s 5) = some (.str []) from by kernel_rfl]
      simp only [wx, wy, Nat.reduceAdd, Nat.reduceEqDiff, reduceCtorEq]
      exact hQ _
    · rw [List.length_map]
      have hf : ((d.reverse.map fun x => UInt8.ofNat (48 + x)).map byt).flatMap AV.cells = (d.reverse.map fun x => UInt8.ofNat (48 + x)).map byt := flat_one fun v hv => by obtain ⟨c, _, rfl⟩ := List.mem_map.1 hv; rfl
      rw [hf] at hs'
      have := str_ref (s := Ai.adv s 5) (id := i) (pre := []) (post := []) (off := 0) (n := (d.reverse.map fun x => UInt8.ofNat (48 + x)).length) (cp := none) (e := 5) (bs := d.reverse.map fun x => UInt8.ofNat (48 + x)) (by rw [adv_h, List.nil_append, List.append_nil]; exact hs') rfl rfl
      rw [this]
      simp only [wx, wy, Nat.reduceAdd, Nat.reduceEqDiff, reduceCtorEq]
      exact hQ _
  | succ m ih =>
    intro x s hm fr hs hx g
    show f63l1s Q (f63l1 Q (m + 1)) _ _ _ s
    have e1 : ((m + 1 : Nat) : Int) - 1 = (m : Int) := by omega
    rw [e1]
    have c1 : decide ((m : Int) ≥ 0) = true := by simp
    obtain ⟨y, hy⟩ : ∃ y, d[m]? = some y := ⟨_, List.getElem?_eq_getElem (by omega)⟩
    have hy9 := hd y (List.mem_of_getElem? hy)
    have hix := ix_ref0 (e := 3) (i := m) (id := id) (n := d.length) (c := none) (by omega) .i64
    have hget : (d.map niA)[m]? = some (.int .i64 (y : Int)) := by rw [List.getElem?_map, hy]; rfl
    have w1 : IntKind.i64.wrap (48 + (y : Int)) = ((48 + y : Nat) : Int) := by rw [IntWalk.i64_in _ (by omega)]; omega
    have w2 : AV.int .u8 (IntKind.u8.wrap ((48 + y : Nat) : Int)) = byt (UInt8.ofNat (48 + y)) := by
      rw [IntWalk.u8_in _ (by omega)]
      simp [byt]
      omega
    have hb1 : bsl 161 1 [(0, byt (UInt8.ofNat (48 + y)))] = some (.sl true [byt (UInt8.ofNat (48 + y))]) := bsl_one tf161 (by decide) rfl rfl
    have w3 : IntKind.i64.wrap ((m : Int) - 1) = (m : Int) - 1 := IntWalk.i64_in _ (by omega)
    have hdm : (d.drop m).reverse = (d.drop (m + 1)).reverse ++ [y] := by rw [get_drop d m y hy, List.reverse_cons]
    have hlm : ((d.drop (m + 1)).reverse.map fun x => UInt8.ofNat (48 + x)).length ≤ 2 ^ 30 := by
      rw [List.length_map, List.length_reverse, List.length_drop]; omega
    simp only [f63l1s, c1, hix, hs, hget, w1, cf3_5, w2, hb1, wx, wy, Nat.reduceAdd, Nat.reduceEqDiff, reduceCtorEq]
    rw [app_map tf161 encBy g.adv (by omega) (by omega)]
    simp only [f63j3, w3, wx, wy, Nat.reduceAdd, Nat.reduceEqDiff, reduceCtorEq]
    have hlt := g.id_lt fr
    have hil := lt_of_h fr hs
    refine ih _ _ (by omega) (fresh_app fr _ _ (by omega)) (by rw [adv_h, st_other (by omega), get_drop', if_neg hx]; exact hs) (by simp [idOf]; omega) ?_
    have em : (((d.drop (m + 1)).reverse ++ [y]).map fun x => UInt8.ofNat (48 + x)) = ((d.drop (m + 1)).reverse.map fun x => UInt8.ofNat (48 + x)) ++ [UInt8.ofNat (48 + y)] := List.map_append ..
    rw [hdm, em]
    exact gw_map1 (a := UInt8.ofNat (48 + y)) (l := (d.drop (m + 1)).reverse.map fun x => UInt8.ofNat (48 + x)) encBy
theorem j63 (Q : AV → St → Prop) (v : Nat) (hl : (digL v).length ≤ 2 ^ 30) (hQ : ∀ s, Q (.str (decT v)) s) (x : AV) (s : St) (fr : Fresh s) (g : Gw 3 1 0 s x ((digL v).map niA)) : f63j1 Q x s := by
  unfold f63j1
  have hln := fun (id : Nat) (n : Nat) => ln72g (g.adv (n := n)) id
  have hln' : ∀ (id n : Nat), bt .len #[72] [x] id (Ai.adv s n) = some (.int .i64 (digL v).length, Ai.adv s n) := fun id n => by rw [hln, List.length_map]
  simp only [hln', wx, wy, Nat.reduceAdd, Nat.reduceEqDiff, reduceCtorEq]
  by_cases h : v = 0
  · subst h
    simp only [show (((digL 0).length : Int) == 0) = true from rfl, wx, wy, Nat.reduceAdd, Nat.reduceEqDiff, reduceCtorEq]
    exact hQ _
  · have hne : (((digL v).length : Int) == 0) = false := by rw [digL_pos h]; simp; omega
    have w1 : IntKind.i64.wrap (((digL v).length : Int) - 1) = ((digL v).length : Int) - 1 := IntWalk.i64_in _ (by omega)
    simp only [hne, w1, hln', wx, wy, Nat.reduceAdd, Nat.reduceEqDiff, reduceCtorEq]
    obtain ⟨q1, ⟨rfl, q2⟩ | ⟨i, hi, rfl, hs⟩⟩ := g
    · rw [digL_pos h] at q2; simp at q2
    · rw [flat_ni] at hs
      rw [List.length_map]
      have hQ' : ∀ s, Q (.str ((digL v).reverse.map fun x => UInt8.ofNat (48 + x))) s := fun s => by
        have := hQ s
        unfold decT at this
        rw [show (v == 0) = false by simpa using h, cond_false] at this
        exact this
      exact ⟨(digL v).length + 1, l63a Q (digL v) (digL_lt v) hl i hQ' (digL v).length .nils _ (Nat.le_refl _) fr.adv (by rw [adv_h]; exact hs) (by simp [idOf]) (by rw [List.drop_length]; exact gw_nil)⟩
theorem valB_lt (l : List Bool) : valB l < 2 ^ l.length := by
  induction l with
  | nil => simp [valB]
  | cons b l ih => have := b2n_le b; simp only [valB, List.length_cons, Nat.pow_succ]; omega
theorem dig_bits (v u : Nat) (h : u ≤ v) : (digL u).length ≤ (bitL v).length := by
  refine digL_len _ _ ?_
  have h1 := valB_lt (bitL v)
  rw [valB_bitL] at h1
  have h2 : 2 ^ (bitL v).length ≤ 10 ^ (bitL v).length := Nat.pow_le_pow_left (by decide) _
  omega
theorem l63b (Q : AV → St → Prop) (v : Nat) (hb : (bitL v).length ≤ 2 ^ 25) (hj : ∀ x s, Fresh s → Gw 3 1 0 s x ((digL v).map niA) → f63j1 Q x s) :
    ∀ (m : Nat) (x : AV) (s : St), m ≤ (bitL v).length → Fresh s → Gw 3 1 0 s x ((digL (v / 2 ^ m)).map niA) → f63l2 Q (m + 1) (bsA (bitL v)) x (.int .i64 ((m : Int) - 1)) s := by
  intro m
  induction m with
  | zero =>
    intro x s hm fr g
    show f63l2s Q (f63l2 Q 0) _ _ _ s
    rw [Nat.pow_zero, Nat.div_one] at g
    simp only [f63l2s, show decide (((0 : Nat) : Int) - 1 ≥ 0) = false from rfl, wx, wy, Nat.reduceAdd, Nat.reduceEqDiff, reduceCtorEq]
    exact hj _ _ fr.adv g.adv
  | succ m ih =>
    intro x s hm fr g
    show f63l2s Q (f63l2 Q (m + 1)) _ _ _ s
    have e1 : ((m + 1 : Nat) : Int) - 1 = (m : Int) := by omega
    rw [e1]
    have c1 : decide ((m : Int) ≥ 0) = true := by simp
    obtain ⟨y, hy⟩ : ∃ y, (bitL v)[m]? = some y := ⟨_, List.getElem?_eq_getElem (by omega)⟩
    have hix : ixS 1 (bsA (bitL v)) (.int .i64 (m : Int)) = some (.pel (AV.bool y).cells 0) := ix_map encB false hy .i64
    have hc0 : (AV.bool y).cells[0]? = some (.bool y) := rfl
    have hg := bitL_get v m
    rw [hy] at hg
    have hg : y = (v / 2 ^ m % 2 == 1) := hg
    have hvm : 2 * (v / 2 ^ (m + 1)) + b2n y = v / 2 ^ m := by
      rw [Nat.pow_succ, ← Nat.div_div_eq_div_mul]
      have : b2n y = v / 2 ^ m % 2 := by
        rw [hg]
        have : v / 2 ^ m % 2 = 0 ∨ v / 2 ^ m % 2 = 1 := by omega
        rcases this with h | h <;> rw [h] <;> rfl
      omega
    have hdb := dbl_eq (v / 2 ^ (m + 1)) (b2n y) (b2n_le y)
    rw [hvm] at hdb
    have w1 : IntKind.i64.wrap ((m : Int) - 1) = (m : Int) - 1 := IntWalk.i64_in _ (by omega)
    have hdl : (digL (v / 2 ^ (m + 1))).length ≤ 2 ^ 25 := Nat.le_trans (dig_bits v _ (Nat.div_le_self _ _)) hb
    generalize v / 2 ^ (m + 1) = u at *
    have ih := fun x s => ih x s (by omega)
    rw [← hdb.2] at ih
    have hd9 := digL_lt u
    generalize digL u = d at *
    have h6 : ∀ (cr : Nat) (x : AV) (s : St), cr ≤ 1 → cr = cry d (b2n y) → Fresh s → Gw 3 1 0 s x ((dbl d (b2n y)).map niA) → f63j6 Q (f63l2 Q (m + 1)) (.int .i64 cr) x (.int .i64 m) (bsA (bitL v)) s := by
      intro cr x s hc1 hcr fr g
      have hdl2 : (dbl d (b2n y)).length ≤ 2 ^ 25 := by rw [dbl_len]; exact hdl
      rw [← hcr] at ih
      unfold f63j6
      have : cr = 0 ∨ cr = 1 := by omega
      rcases this with rfl | rfl
      · rw [show Nat.blt 0 0 = false from rfl, cond_false, List.append_nil] at ih
        simp only [show decide (((0 : Nat) : Int) > 0) = false from rfl, f63j4, w1, wx, wy, Nat.reduceAdd, Nat.reduceEqDiff, reduceCtorEq]
        exact ih _ _ fr.adv g.adv
      · rw [show Nat.blt 0 1 = true from rfl, cond_true] at ih
        have hb1 : bsl 72 1 [(0, niA 1)] = some (.sl true [niA 1]) := bsl_one tf72 (by decide) rfl rfl
        have hb1' : bsl 72 1 [(0, .int .i64 ((1 : Nat) : Int))] = some (.sl true [niA 1]) := hb1
        simp only [show decide (((1 : Nat) : Int) > 0) = true from rfl, hb1', wx, wy, Nat.reduceAdd, Nat.reduceEqDiff, reduceCtorEq]
        rw [app_map tf72 encN g.adv (by omega) (by omega)]
        simp only [f63j4, w1, wx, wy, Nat.reduceAdd, Nat.reduceEqDiff, reduceCtorEq]
        exact ih _ _ (fresh_app fr _ _ (by omega)) (gw_map encN (by simp))
    have h5 : ∀ (s : St) (x : AV), Fresh s → Gw 3 1 0 s x (d.map niA) → f63j5 Q (f63l2 Q (m + 1)) (bsA (bitL v)) x (.int .i64 m) (.int .i64 (b2n y)) s := by
      intro s x fr g
      unfold f63j5
      obtain ⟨q1, ⟨rfl, q2⟩ | ⟨i, hi, rfl, hs⟩⟩ := g
      · have hd0 : d = [] := by simpa using q2
        subst hd0
        refine ⟨1, ?_⟩
        show f63l3s Q (f63l2 Q (m + 1)) _ _ _ _ _ _ _
        have c2 : decide ((0 : Int) < 0) = false := rfl
        simp only [f63l3s, ln72n, c2, wx, wy, Nat.reduceAdd, Nat.reduceEqDiff, reduceCtorEq]
        exact h6 (b2n y) .nils _ (b2n_le y) rfl fr.adv gw_nil
      · rw [flat_ni] at hs
        rw [List.length_map]
        have hil := lt_of_h fr hs
        refine ⟨d.length + 1, ?_⟩
        exact l63c Q (bsA (bitL v)) (.int .i64 m) (f63l2 Q (m + 1)) i d.length (by omega) (dbl d (b2n y)) (cry d (b2n y)) s hil (fun s' ef hs' => h6 _ _ s' hdb.1 rfl ef.fr ⟨fun v hv => by obtain ⟨c, _, rfl⟩ := List.mem_map.1 hv; exact ⟨rfl, rfl⟩, .inr ⟨i, by omega, by rw [List.length_map, dbl_len], by rw [flat_ni]; exact hs'⟩⟩) d [] (b2n y) _ (by simp) (b2n_le y) hd9 ((EF.refl _ fr).adv) (by rw [adv_h]; exact hs) rfl rfl
    cases y with
    | true =>
      simp only [f63l2s, c1, hix, hc0, wx, wy, Nat.reduceAdd, Nat.reduceEqDiff, reduceCtorEq]
      exact h5 _ _ fr.adv g.adv
    | false =>
      simp only [f63l2s, c1, hix, hc0, wx, wy, Nat.reduceAdd, Nat.reduceEqDiff, reduceCtorEq]
      exact h5 _ _ fr.adv g.adv
theorem c63 (a : List Nat) (hl : limbs a) (ha : a.length ≤ 2 ^ 20) : PureC Tryz.env 63 [nsA a] (.str (decT (val a))) := by
  refine pure_q (f63_run _ _ ?_)
  unfold f63
  have hvb := val_bits a hl
  have hln : ∀ id s, bt .len #[173] [bsA (bitL (val a))] id s = some (.int .i64 (bitL (val a)).length, s) := fun id s => by
    show bt .len #[173] [.sl false ((bitL (val a)).map AV.bool)] id s = _
    rw [ln173s, List.length_map]
  have hdl := dig_bits (val a) (val a) (Nat.le_refl _)
  refine callPu (c117 a hl ha) (by simp [ns_closed]) ?_
  have w1 : IntKind.i64.wrap (((bitL (val a)).length : Int) - 1) = ((bitL (val a)).length : Int) - 1 := IntWalk.i64_in _ (by omega)
  simp only [hln, w1, wx, wy, Nat.reduceAdd, Nat.reduceEqDiff, reduceCtorEq]
  refine ⟨(bitL (val a)).length + 1, l63b _ (val a) (by omega) (fun x s fr g => j63 _ (val a) (by omega) (fun s => pureQ_closed rfl) x s fr g) _ .nils _ (Nat.le_refl _) fresh_empty.adv ?_⟩
  have h1 := valB_lt (bitL (val a))
  rw [valB_bitL] at h1
  rw [Nat.div_eq_of_lt h1]
  exact gw_nil
def chD (x : Nat) : UInt8 := UInt8.ofNat (48 + x)
theorem decT_eq (v : Nat) : decT v = bif v == 0 then [48] else (digL v).reverse.map chD := rfl
theorem nine_dig (k : Nat) : ∀ v, v < 10 ^ k → nineGo k v = List.replicate (k - (digL v).length) 48 ++ (digL v).reverse.map chD := by
  induction k with
  | zero =>
    intro v hv
    have : v = 0 := by omega
    subst this
    rfl
  | succ k ih =>
    intro v hv
    rw [nineGo, ih (v / 10) (by rw [Nat.pow_succ] at hv; omega)]
    by_cases h : v = 0
    · subst h
      rw [Nat.zero_div, digL_zero]
      simp only [List.length_nil, Nat.sub_zero, List.reverse_nil, List.map_nil, List.append_nil, Nat.zero_mod]
      rw [List.replicate_succ']
      rfl
    · rw [digL_pos h]
      simp only [List.reverse_cons, List.map_append, List.length_cons, Nat.add_sub_add_right, List.append_assoc]
      rfl
theorem nine_app (j : Nat) : ∀ (k q m : Nat), m < 10 ^ j → nineGo (k + j) (q * 10 ^ j + m) = nineGo k q ++ nineGo j m := by
  induction j with
  | zero =>
    intro k q m hm
    have : m = 0 := by omega
    subst this
    simp [nineGo]
  | succ j ih =>
    intro k q m hm
    rw [← Nat.add_assoc, nineGo, nineGo]
    have h1 : (q * 10 ^ (j + 1) + m) / 10 = q * 10 ^ j + m / 10 := by
      rw [Nat.pow_succ, ← Nat.mul_assoc]
      generalize q * 10 ^ j = Z
      omega
    have h2 : (q * 10 ^ (j + 1) + m) % 10 = m % 10 := by
      rw [Nat.pow_succ, ← Nat.mul_assoc]
      generalize q * 10 ^ j = Z
      omega
    rw [h1, h2, ih k q (m / 10) (by rw [Nat.pow_succ] at hm; omega), List.append_assoc]
theorem text_nine : ∀ (f : Nat) (a : List Nat) (s : List UInt8), limbs a → (val a = 0 → a = []) → val a ≤ f → ∃ K, textGo f a s = nineGo K (val a) ++ s ∧ val a < 10 ^ K := by
  intro f
  induction f with
  | zero =>
    intro a s hl h0 hv
    have := h0 (by omega)
    subst this
    exact ⟨0, rfl, by decide⟩
  | succ f ih =>
    intro a s hl h0 hv
    cases ha : a with
    | nil => exact ⟨0, rfl, by decide⟩
    | cons x t =>
      have hpos : 0 < val a := by
        rcases Nat.eq_zero_or_pos (val a) with h | h
        · rw [h0 h] at ha; cases ha
        · exact h
      have hsl := small_limbs 1000000000 (by decide) a hl
      have hsv := small_val 1000000000 (by decide) a
      have hm := small_lt 1000000000 (by decide) a
      have e : textGo (f + 1) (x :: t) s = textGo f (normM (smallM 1000000000 a).1) (nineGo 9 (smallM 1000000000 a).2 ++ s) := by rw [ha]; rfl
      obtain ⟨K, h1, h2⟩ := ih (normM (smallM 1000000000 a).1) (nineGo 9 (smallM 1000000000 a).2 ++ s) (norm_limbs hsl) (norm_zero hsl).1 (by rw [val_norm]; omega)
      rw [val_norm] at h1 h2
      refine ⟨K + 9, ?_, ?_⟩
      · rw [e, h1, ← ha, ← List.append_assoc, ← hsv]
        congr 1
        exact (nine_app 9 K _ _ hm).symm
      · rw [← ha, ← hsv, Nat.pow_add]
        have h3 : (10 : Nat) ^ 9 = 1000000000 := rfl
        rw [h3]
        generalize 10 ^ K = Z at *
        omega
theorem dig_last (v : Nat) (h : v ≠ 0) : ∃ x t, (digL v).reverse = x :: t ∧ x ≠ 0 ∧ x < 10 := by
  induction v using Nat.strongRecOn with
  | ind v ih =>
    rw [digL_pos h, List.reverse_cons]
    by_cases h1 : v / 10 = 0
    · rw [h1, digL_zero]
      exact ⟨v % 10, [], rfl, by omega, by omega⟩
    · obtain ⟨x, t, e, h2, h3⟩ := ih (v / 10) (by omega) h1
      exact ⟨x, t ++ [v % 10], by rw [e]; rfl, h2, h3⟩
theorem drop_zeros (n : Nat) (w : List UInt8) : (List.replicate n 48 ++ w).dropWhile (· == 48) = w.dropWhile (· == 48) := by
  induction n with
  | zero => rfl
  | succ n ih => rw [List.replicate_succ, List.cons_append, List.dropWhile_cons]; simp
theorem text_dec (a : List Nat) (hl : limbs a) : textM a = decT (val a) := by
  obtain ⟨K, h1, h2⟩ := text_nine (val a) (normM a) [] (norm_limbs hl) (norm_zero hl).1 (by rw [val_norm]; exact Nat.le_refl _)
  rw [val_norm, List.append_nil] at h1
  rw [val_norm] at h2
  unfold textM
  simp only [h1]
  rw [nine_dig K _ h2, drop_zeros, decT_eq]
  by_cases h : val a = 0
  · rw [h]; rfl
  · obtain ⟨x, t, e, h3, h4⟩ := dig_last (val a) h
    have hc : (chD x == 48) = false := by
      simp only [chD, beq_eq_false_iff_ne, ne_eq]
      intro hh
      have := congrArg UInt8.toNat hh
      simp at this
      omega
    rw [e, List.map_cons, List.dropWhile_cons, hc, show (val a == 0) = false by simpa using h]
    simp
end Go.Proofs.YtdehdahimkcakaaGreatDoor
end
section
set_option linter.unusedVariables false
set_option linter.unusedSimpArgs false
set_option maxRecDepth 100000
set_option maxHeartbeats 4000000
namespace Go.Proofs.YtdehdahimkcakaaGreatDoor
open Go Ai
theorem c119 (c : Int) : PureC Tryz.env 119 [.int .i64 c] (.bool (point c)) := by
  refine pure_q (f119_run _ _ ?_)
  unfold f119 point
  cases h : decide (c ≥ 0) with
  | false => simp only [h, wx, wy, Nat.reduceAdd, Nat.reduceEqDiff, reduceCtorEq]; exact pureQ_closed rfl
  | true =>
    have : decide (c < 196608) = decide (c ≤ 196607) := by
      rw [decide_eq_decide]; omega
    simp only [h, this, wx, wy, Nat.reduceAdd, Nat.reduceEqDiff, reduceCtorEq]
    exact pureQ_closed rfl
theorem c62 (k : Int) (x : List UInt8) : PureC Tryz.env 62 [.int .i64 k, .str x] (atS k x).av := by
  refine pure_q (f62_run _ _ _ ?_)
  unfold f62
  simp only [zr33, bld30, bld33a, Bnd_some]
  rw [sto_at (by rw [adv_h, st_same]) k x (.inl rfl)]
  simp only [Bnd_some, ld_back]
  exact ⟨[], at_pur k x 10 _⟩
theorem hexGo_app (f : Nat) : ∀ n acc, hexGo f n acc = hexGo f n [] ++ acc := by
  induction f with
  | zero => intro n acc; rfl
  | succ f ih =>
    intro n acc
    simp only [hexGo]
    cases Nat.ble 16 n with
    | true => simp only [cond_true]; rw [ih (n / 16) (dig n :: acc), ih (n / 16) [dig n], List.append_assoc]; rfl
    | false => rfl
def hexS : List UInt8 := [48, 49, 50, 51, 52, 53, 54, 55, 56, 57, 97, 98, 99, 100, 101, 102]
theorem hex_one (n : Nat) (h : n < 16) (s : St) : slc 9 (.str [48, 49, 50, 51, 52, 53, 54, 55, 56, 57, 97, 98, 99, 100, 101, 102]) (some (.int .i64 (n : Int))) (some (.int .i64 ((n + 1 : Nat) : Int))) none s = some (.str [dig n]) := by
  have := slc_both (x := hexS) (n := n) (j := n + 1) (s := s) .i64 .i64 (by omega) (by show n + 1 ≤ 16; omega)
  have e : ((hexS.drop n).take (n + 1 - n)) = [dig n] := by
    have : ∀ k : Fin 16, ((hexS.drop k.val).take (k.val + 1 - k.val)) = [dig k.val] := by decide
    exact this ⟨n, h⟩
  rw [e] at this
  exact this
theorem c208 : ∀ (f n : Nat), f ≤ 16 → n < 2 ^ 62 → n < 16 ^ (f + 1) → PureC Tryz.env 208 [.int .i64 n] (.str (hexGo f n [])) := by
  intro f
  induction f with
  | zero =>
    intro n _ _ hn
    have h16 : n < 16 := by simpa using hn
    refine pure_q (f208_run _ _ ?_)
    unfold f208
    have c1 : decide ((n : Int) < 16) = true := by simp; omega
    have w1 : IntKind.i64.wrap ((n : Int) + 1) = ((n + 1 : Nat) : Int) := by rw [IntWalk.i64_in _ (by omega)]; rfl
    simp only [c1, w1, hex_one n h16, wx, wy, Nat.reduceAdd, Nat.reduceEqDiff, reduceCtorEq]
    exact pureQ_closed rfl
  | succ f ih =>
    intro n hf hb hn
    refine pure_q (f208_run _ _ ?_)
    unfold f208
    simp only [hexGo]
    cases hc : Nat.ble 16 n with
    | false =>
      have h16 : n < 16 := by
        rcases Nat.lt_or_ge n 16 with h | h
        · exact h
        · rw [Nat.ble_eq_true_of_le h] at hc; cases hc
      have c1 : decide ((n : Int) < 16) = true := by simp; omega
      have w1 : IntKind.i64.wrap ((n : Int) + 1) = ((n + 1 : Nat) : Int) := by rw [IntWalk.i64_in _ (by omega)]; rfl
      simp only [c1, w1, hex_one n h16, wx, wy, Nat.reduceAdd, Nat.reduceEqDiff, reduceCtorEq]
      exact pureQ_closed rfl
    | true =>
      have h16 : 16 ≤ n := Nat.le_of_ble_eq_true hc
      have c1 : decide ((n : Int) < 16) = false := by simp; omega
      have hrem : bn .rem 3 (.int .i64 (n : Int)) (.int .i64 16) = some (.int .i64 ((n % 16 : Nat) : Int)) := bin_rem (b := 16) (by decide)
      have hquo : bn .quo 3 (.int .i64 (n : Int)) (.int .i64 16) = some (.int .i64 (IntKind.i64.wrap ((n / 16 : Nat) : Int))) := bin_quo (b := 16) (by decide)
      rw [IntWalk.i64_in _ (by omega)] at hquo
      have w1 : IntKind.i64.wrap (((n % 16 : Nat) : Int) + 1) = ((n % 16 + 1 : Nat) : Int) := by rw [IntWalk.i64_in _ (by omega)]; rfl
      have hd : dig (n % 16) = dig n := by unfold dig; rw [Nat.mod_mod]
      have h1 := hex_one (n % 16) (Nat.mod_lt _ (by decide))
      rw [hd] at h1
      have hl := hexGo_len f (n / 16) []
      simp only [List.length_nil] at hl
      simp only [c1, hquo, wx, wy, Nat.reduceAdd, Nat.reduceEqDiff, reduceCtorEq]
      rw [rch0]
      refine callPuD (ih (n / 16) (by omega) (by omega) ?_) (by simp [AV.closed]) ?_
      · rw [Nat.pow_succ] at hn
        generalize 16 ^ (f + 1) = K at *
        omega
      · simp only [hrem, w1, h1, wx, wy, Nat.reduceAdd, Nat.reduceEqDiff, reduceCtorEq]
        rw [add_str (by simp only [List.length_cons, List.length_nil]; omega)]
        simp only [wx, wy, Nat.reduceAdd, Nat.reduceEqDiff, reduceCtorEq]
        rw [hexGo_app f (n / 16) [dig n]]
        exact pureQ_closed rfl
theorem c208h (n : Nat) (h : n < 2 ^ 62) : PureC Tryz.env 208 [.int .i64 n] (.str (hexM n)) :=
  c208 16 n (by decide) h (Nat.lt_trans h (by decide))
theorem l171 (l : List Int) (hl : l.length ≤ 1000) (ha : ∀ c ∈ l, point c = true) (Q : AV → St → Prop) (hQ : ∀ s, Q (.tup [.str (xscM l), .int .i64 0]) s) :
    ∀ (m i : Nat) (s : St), i + m = l.length → f171l1 Q (m + 1) (.sl false (l.map inA)) (.str (xscM (l.take i))) (.int .i64 i) s := by
  intro m
  induction m with
  | zero =>
    intro i s hi
    show f171l1s Q (f171l1 Q 0) _ _ _ s
    have c1 : decide ((i : Int) < (l.length : Int)) = false := by simp; omega
    rw [List.take_of_length_le (by omega)]
    simp only [f171l1s, ln72s, List.length_map, c1, f171j1, wx, wy, Nat.reduceAdd, Nat.reduceEqDiff, reduceCtorEq]
    exact hQ _
  | succ m ih =>
    intro i s hi
    show f171l1s Q (f171l1 Q (m + 1)) _ _ _ s
    have c1 : decide ((i : Int) < (l.length : Int)) = true := by simp; omega
    obtain ⟨c, hc⟩ : ∃ c, l[i]? = some c := ⟨_, List.getElem?_eq_getElem (by omega)⟩
    have hix := ix_in false l i c hc
    have hpt := ha c (List.mem_of_getElem? hc)
    have hpt' := hpt
    simp only [point, Bool.and_eq_true, decide_eq_true_eq] at hpt'
    have hln : (xscM (l.take i)).length ≤ 21 * 1000 := by
      have := xscM_len (l.take i)
      rw [List.length_take] at this; omega
    have e : xscM (l.take (i + 1)) = xscM (l.take i) ++ xscP c := by
      rw [List.take_add_one, hc]; simp [xscM]
    have w1 : IntKind.i64.wrap ((i : Int) + 1) = ((i + 1 : Nat) : Int) := by rw [IntWalk.i64_in _ (by omega)]; rfl
    have ih := fun s => ih (i + 1) s (by omega)
    rw [e] at ih
    simp only [f171l1s, ln72s, List.length_map, c1, hix, wx, wy, Nat.reduceAdd, Nat.reduceEqDiff, reduceCtorEq]
    refine callPu (c119 c) (by simp [AV.closed]) ?_
    have hasc : asc c = (decide (c ≥ 32) && (decide (c < 127) && (c != 92))) := by
      unfold asc
      have : decide (c < 127) = decide (c ≤ 126) := by rw [decide_eq_decide]; omega
      rw [this]
    cases hac : asc c with
    | true =>
      have hby := ascB_by hac
      have ee : xscP c = [ascB c] := by simp [xscP, hac]
      rw [ee] at ih
      rw [hasc] at hac
      simp only [Bool.and_eq_true] at hac
      obtain ⟨a1, a2, a3⟩ := hac
      have hb1 : bsl 161 1 [(0, byA (ascB c))] = some (.sl true [byA (ascB c)]) := bsl_one tf161 (by decide) rfl rfl
      have hcv : ∀ s, cv 161 9 (.sl true [byA (ascB c)]) s = some (.str [ascB c]) := fun s => by
        show cv 161 9 (.sl true ([ascB c].map byt)) s = _
        simp only [cv, convA, und161, und9, und5]
        rw [u8s_map]
        simp only [Option.map_some, u8s_back]
      simp only [hpt, a1, a2, a3, cv35, hby, hb1, hcv, wx, wy, Nat.reduceAdd, Nat.reduceEqDiff, reduceCtorEq]
      rw [add_str (by simp only [List.length_cons, List.length_nil]; omega)]
      simp only [f171j2, w1, wx, wy, Nat.reduceAdd, Nat.reduceEqDiff, reduceCtorEq]
      exact ih _
    | false =>
      have ee : xscP c = [92, 117, 123] ++ hexM c.toNat ++ [125] := by simp [xscP, hac]
      rw [ee] at ih
      have hc0 : c = ((c.toNat : Nat) : Int) := by omega
      have hfi := c208h c.toNat (by omega)
      rw [← hc0] at hfi
      have hxl : (hexM c.toNat).length ≤ 17 := by have := hexGo_len 16 c.toNat []; exact this
      have hk : ∀ s, Bnd (bn .add 9 (.str (xscM (l.take i))) (.str [92, 117, 123])) fun t39 =>
          CallPu Tryz.env 208 [.int .i64 c] s fun t41 s6 =>
          Bnd (bn .add 9 t39 t41) fun t42 =>
          Bnd (bn .add 9 t42 (.str [125])) fun t43 =>
          f171j2 Q (f171l1 Q (m + 1)) (.int .i64 i) (.sl false (l.map inA)) t43 s6 := by
        intro s
        rw [add_str (by simp only [List.length_cons, List.length_nil]; omega)]
        simp only [Bnd_some]
        refine callPu hfi (by simp [AV.closed]) ?_
        rw [add_str (by simp only [List.length_append, List.length_cons, List.length_nil]; omega)]
        simp only [Bnd_some]
        rw [add_str (by simp only [List.length_append, List.length_cons, List.length_nil]; omega)]
        simp only [f171j2, w1, wx, wy, Nat.reduceAdd, Nat.reduceEqDiff, reduceCtorEq]
        have := ih (Ai.adv s 3)
        simpa [List.append_assoc] using this
      rw [hasc] at hac
      simp only [Bool.and_eq_false_iff] at hac
      cases a1 : decide (c ≥ 32) with
      | false =>
        simp only [hpt, a1, wx, wy, Nat.reduceAdd, Nat.reduceEqDiff, reduceCtorEq]
        exact hk _
      | true =>
        cases a2 : decide (c < 127) with
        | false =>
          simp only [hpt, a1, a2, wx, wy, Nat.reduceAdd, Nat.reduceEqDiff, reduceCtorEq]
          exact hk _
        | true =>
          have a3 : (c != 92) = false := by rw [a1, a2] at hac; simpa using hac
          simp only [hpt, a1, a2, a3, wx, wy, Nat.reduceAdd, Nat.reduceEqDiff, reduceCtorEq]
          exact hk _
theorem c171 (l : List Int) (hl : l.length ≤ 1000) (ha : ∀ c ∈ l, point c = true) : PureC Tryz.env 171 [.sl false (l.map inA)] (.tup [.str (xscM l), .int .i64 0]) := by
  refine pure_q (f171_run _ _ ?_)
  unfold f171
  exact ⟨l.length + 1, l171 l hl ha _ (fun s => pureQ_closed rfl) l.length 0 _ (by omega)⟩
theorem encI : Enc inA 1 := ⟨fun _ => rfl, fun _ => rfl⟩
section
variable (l : List (Int × Int)) (hok : ∀ r ∈ l, runOk r = true) (hl : l.length ≤ 65536)
theorem ln25rs (id : Nat) (s : St) : bt .len #[25] [.sl false (l.map rnA)] id s = some (.int .i64 l.length, s) := by rw [ln25s, List.length_map]
include hok hl in
theorem l170d (Q : AV → St → Prop) (hQ : ∀ s, Fresh s → f170j1 Q (.int .i64 1000) (.sl false (l.map rnA)) s) : ∀ (m i : Nat) (s : St), i + m = l.length → Fresh s → f170l4 Q (m + 1) (.sl false (l.map rnA)) (.int .i64 1000) (.int .i64 i) s := by
  intro m
  induction m with
  | zero =>
    intro i s hi fr
    show f170l4s Q (f170l4 Q 0) _ _ _ s
    have c1 : decide ((i : Int) < (l.length : Int)) = false := by simp; omega
    simp only [f170l4s, ln25rs, c1, wx, wy, Nat.reduceAdd, Nat.reduceEqDiff, reduceCtorEq]
    exact hQ _ fr.adv
  | succ m ih =>
    intro i s hi fr
    show f170l4s Q (f170l4 Q (m + 1)) _ _ _ s
    have c1 : decide ((i : Int) < (l.length : Int)) = true := by simp; omega
    obtain ⟨r, hr⟩ : ∃ r, l[i]? = some r := ⟨_, List.getElem?_eq_getElem (by omega)⟩
    have hro := hok r (List.mem_of_getElem? hr)
    simp only [runOk, Bool.and_eq_true, decide_eq_true_eq] at hro
    have hix := ix_map encRn false hr .i64
    have w1 : IntKind.i64.wrap ((i : Int) + 1) = ((i + 1 : Nat) : Int) := by rw [IntWalk.i64_in _ (by omega)]; rfl
    have c3 : decide (r.2 < 1) = false := by simp; omega
    simp only [f170l4s, ln25rs, c1, hix, rn0, wx, wy, Nat.reduceAdd, Nat.reduceEqDiff, reduceCtorEq]
    refine callPu (c119 r.1) (by simp [AV.closed]) ?_
    simp only [hro.1.1, hix, rn1, c3, f170j7, w1, wx, wy, Nat.reduceAdd, Nat.reduceEqDiff, reduceCtorEq]
    exact ih (i + 1) _ (by omega) fr.adv
include hok hl in
theorem l170c (hs : sumR l ≤ 1000) (Q : AV → St → Prop) (hQ : ∀ s, Fresh s → f170j2 Q (.sl false (l.map rnA)) s) : ∀ (m i : Nat) (s : St), i + m = l.length → Fresh s → f170l3 Q (m + 1) (.sl false (l.map rnA)) (.int .i64 (1000 - sumR (l.take i))) (.int .i64 i) s := by
  intro m
  induction m with
  | zero =>
    intro i s hi fr
    show f170l3s Q (f170l3 Q 0) _ _ _ s
    have c1 : decide ((i : Int) < (l.length : Int)) = false := by simp; omega
    simp only [f170l3s, ln25rs, c1, wx, wy, Nat.reduceAdd, Nat.reduceEqDiff, reduceCtorEq]
    exact hQ _ fr.adv
  | succ m ih =>
    intro i s hi fr
    show f170l3s Q (f170l3 Q (m + 1)) _ _ _ s
    have c1 : decide ((i : Int) < (l.length : Int)) = true := by simp; omega
    obtain ⟨r, hr⟩ : ∃ r, l[i]? = some r := ⟨_, List.getElem?_eq_getElem (by omega)⟩
    have hix := ix_map encRn false hr .i64
    have w1 : IntKind.i64.wrap ((i : Int) + 1) = ((i + 1 : Nat) : Int) := by rw [IntWalk.i64_in _ (by omega)]; rfl
    have d0 := sumR_drop l hok i
    have hd : 0 ≤ sumR (l.drop (i + 1)) := sumR_pos _ fun q hq => hok q (List.mem_of_mem_drop hq)
    have d1 := sumR_drop l hok (i + 1)
    have e1 := d0.2
    rw [get_drop l i r hr] at e1
    simp only [sumR] at e1
    have c3 : decide (r.2 > 1000 - sumR (l.take i)) = false := by simp; omega
    have w2 : IntKind.i64.wrap (1000 - sumR (l.take i) - r.2) = 1000 - sumR (l.take (i + 1)) := by rw [IntWalk.i64_in _ (by omega)]; omega
    simp only [f170l3s, ln25rs, c1, hix, rn1, c3, w2, f170j6, w1, wx, wy, Nat.reduceAdd, Nat.reduceEqDiff, reduceCtorEq]
    exact ih (i + 1) _ (by omega) fr.adv
theorem expand_take (i : Nat) (r : Int × Int) (hr : l[i]? = some r) : expand (l.take (i + 1)) = expand (l.take i) ++ List.replicate r.2.toNat r.1 := by
  rw [List.take_add_one, hr]; simp [expand]
include hok hl in
theorem l170a (hs : sumR l ≤ 1000) (Q : AV → St → Prop) (hQ : ∀ x s, Fresh s → Gw 3 1 0 s x ((expand l).map inA) → Q (.tup [x, .int .i64 0]) s) : ∀ (m i : Nat) (x : AV) (s : St), i + m = l.length → Fresh s → Gw 3 1 0 s x ((expand (l.take i)).map inA) → f170l1 Q (m + 1) (.sl false (l.map rnA)) x (.int .i64 i) s := by
  intro m
  induction m with
  | zero =>
    intro i x s hi fr g
    show f170l1s Q (f170l1 Q 0) _ _ _ s
    have c1 : decide ((i : Int) < (l.length : Int)) = false := by simp; omega
    rw [List.take_of_length_le (by omega)] at g
    simp only [f170l1s, ln25rs, c1, f170j3, wx, wy, Nat.reduceAdd, Nat.reduceEqDiff, reduceCtorEq]
    exact hQ _ _ fr.adv g.adv
  | succ m ih =>
    intro i x s hi fr g
    show f170l1s Q (f170l1 Q (m + 1)) _ _ _ s
    have c1 : decide ((i : Int) < (l.length : Int)) = true := by simp; omega
    obtain ⟨r, hr⟩ : ∃ r, l[i]? = some r := ⟨_, List.getElem?_eq_getElem (by omega)⟩
    have hro := hok r (List.mem_of_getElem? hr)
    simp only [runOk, Bool.and_eq_true, decide_eq_true_eq] at hro
    have hix := ix_map encRn false hr .i64
    have w1 : IntKind.i64.wrap ((i : Int) + 1) = ((i + 1 : Nat) : Int) := by rw [IntWalk.i64_in _ (by omega)]; rfl
    have het := expand_take l i r hr
    have hlen := expand_len (l.take (i + 1)) fun q hq => hok q (List.mem_of_mem_take hq)
    have d1 := sumR_drop l hok (i + 1)
    have hd : 0 ≤ sumR (l.drop (i + 1)) := sumR_pos _ fun q hq => hok q (List.mem_of_mem_drop hq)
    rw [het, List.length_append, List.length_replicate] at hlen
    have inner : ∀ (m' k : Nat) (x : AV) (s : St), k + m' = r.2.toNat → Fresh s → Gw 3 1 0 s x ((expand (l.take i) ++ List.replicate k r.1).map inA) → f170l2 Q (f170l1 Q (m + 1)) (m' + 1) (.sl false (l.map rnA)) x (.int .i64 i) (.int .i64 k) s := by
      intro m'
      induction m' with
      | zero =>
        intro k x s hk fr g
        show f170l2s Q (f170l1 Q (m + 1)) (f170l2 Q (f170l1 Q (m + 1)) 0) _ _ _ _ s
        have c2 : decide ((k : Int) < r.2) = false := by simp; omega
        have hk : k = r.2.toNat := by omega
        subst hk
        simp only [f170l2s, hix, rn1, c2, f170j4, w1, wx, wy, Nat.reduceAdd, Nat.reduceEqDiff, reduceCtorEq]
        exact ih (i + 1) x _ (by omega) fr.adv (by rw [het]; exact g.adv)
      | succ m' ih' =>
        intro k x s hk fr g
        show f170l2s Q (f170l1 Q (m + 1)) (f170l2 Q (f170l1 Q (m + 1)) (m' + 1)) _ _ _ _ s
        have c2 : decide ((k : Int) < r.2) = true := by simp; omega
        have w2 : IntKind.i64.wrap ((k : Int) + 1) = ((k + 1 : Nat) : Int) := by rw [IntWalk.i64_in _ (by omega)]; rfl
        have hb1 : bsl 72 1 [(0, inA r.1)] = some (.sl true [inA r.1]) := bsl_one tf72 (by decide) rfl rfl
        have hb1' : bsl 72 1 [(0, .int .i64 r.1)] = some (.sl true [inA r.1]) := hb1
        have hll : (expand (l.take i) ++ List.replicate k r.1).length ≤ 1000 := by rw [List.length_append, List.length_replicate]; omega
        simp only [f170l2s, hix, rn1, c2, rn0, hb1', wx, wy, Nat.reduceAdd, Nat.reduceEqDiff, reduceCtorEq]
        rw [app_map tf72 encI g.adv (by omega) (by omega)]
        simp only [f170j5, w2, wx, wy, Nat.reduceAdd, Nat.reduceEqDiff, reduceCtorEq]
        have hrep : expand (l.take i) ++ List.replicate (k + 1) r.1 = (expand (l.take i) ++ List.replicate k r.1) ++ [r.1] := by rw [List.replicate_succ', List.append_assoc]
        refine ih' (k + 1) _ _ (by omega) (fresh_app fr _ _ (by omega)) ?_
        rw [hrep]
        exact gw_map1 encI
    simp only [f170l1s, ln25rs, c1, wx, wy, Nat.reduceAdd, Nat.reduceEqDiff, reduceCtorEq]
    exact ⟨r.2.toNat + 1, inner r.2.toNat 0 x _ (by omega) fr.adv (by simpa using g.adv)⟩
include hok hl in
theorem c170 (hs : sumR l ≤ 1000) : PureC Tryz.env 170 [.sl false (l.map rnA), .int .i64 1000] (.tup [.sl false ((expand l).map inA), .int .i64 0]) := by
  refine pure_q (f170_run _ _ _ ?_)
  unfold f170
  refine ⟨l.length + 1, l170d l hok hl _ (fun s fr => ?_) l.length 0 _ (by omega) fresh_empty.adv⟩
  unfold f170j1
  simp only [show decide ((1000 : Int) < 0) = false from rfl, wx, wy, Nat.reduceAdd, Nat.reduceEqDiff, reduceCtorEq]
  refine ⟨l.length + 1, ?_⟩
  have := l170c l hok hl hs (PureQ (.tup [.sl false ((expand l).map inA), .int .i64 0])) (fun s fr => ?_) l.length 0 (Ai.adv s 5) (by omega) fr.adv
  · simpa [sumR] using this
  · unfold f170j2
    refine ⟨l.length + 1, l170a l hok hl hs _ (fun x s fr g => ?_) l.length 0 .nils _ (by omega) fr.adv gw_nil⟩
    obtain ⟨ids, e1, e2⟩ := pur_map1 tf72 g (fun _ _ => rfl) (fun _ _ => rfl) 10
    refine ⟨ids, ?_⟩
    have hn := g.not_closed
    have h2 : pur Tryz.env.P s 11 (.int .i64 0) = some (.int .i64 0, []) := rfl
    unfold pur
    rw [if_neg (by simp [AV.closed, closedL, hn])]
    simp only [purL, e1, h2, List.append_nil]
    rfl
end
theorem app_sl {t e : TypeId} {z b : Nat} {ag : Bool} {s : St} (h : SlTy t e z ag b) {vs ws : List AV} (hv : ∀ v ∈ vs, v.cells.length = z ∧ v.cells.all AV.one = true) (hw : ∀ v ∈ ws, v.cells.length = z ∧ v.cells.all AV.one = true) (hne : ws ≠ []) (hf : fitsA (vs.length + ws.length) b = true) {y : AV} (hy : srcCells z y s = some (ws.flatMap AV.cells)) (id : Nat) :
    bt .append #[t, t] [.sl true vs, y] id s = some (.ref id 0 (vs.length + ws.length) none e, s.set id (some (.cells ((vs ++ ws).flatMap AV.cells) e false true))) := by
  rw [app_any h, hy, Option.bind_some]
  have hall : vs.all (fun v => v.cells.length == z) = true := List.all_eq_true.2 fun v hv' => by simp [(hv v hv').1]
  have hwl := flat_len hw
  have hvl := flat_len hv
  have hpos : 0 < ws.length := List.length_pos_iff.2 hne
  have hmul : 0 < ws.length * z := Nat.mul_pos hpos h.pos
  have hem : (ws.flatMap AV.cells).isEmpty = false := by
    cases hc : ws.flatMap AV.cells with
    | nil => rw [hc] at hwl; simp at hwl; omega
    | cons a b => rfl
  have hones : (ws.flatMap AV.cells).all AV.one = true := by
    rw [List.all_eq_true]
    intro y hy
    obtain ⟨v, hv, hy⟩ := List.mem_flatMap.1 hy
    exact List.all_eq_true.1 (hw v hv).2 y hy
  have hl2 : (vs.flatMap AV.cells ++ ws.flatMap AV.cells).length / z = vs.length + ws.length := by
    rw [List.length_append, hvl, hwl, ← Nat.add_mul, Nat.mul_div_cancel _ h.pos]
  unfold appendA
  simp only [hem, hones, hall, grown, hl2, hf, newSl, Bool.not_true, Bool.false_eq_true, if_false, if_true]
  simp
theorem c121 (l : List (Int × Int)) (hok : ∀ r ∈ l, runOk r = true) (hl : l.length ≤ 65536) (hs : sumR l ≤ 1000) : PureC Tryz.env 121 [.sl false (l.map rnA)] (.tup [(litS l).av, .bool true]) := by
  refine pure_q (f121_run _ _ ?_)
  unfold f121
  have hcl : (AV.sl false (l.map rnA)).closed = true := sl_closed_map _ _ fun _ _ => rfl
  have hcl2 : (AV.sl false ((expand l).map inA)).closed = true := sl_closed_map _ _ fun _ _ => rfl
  have hel : (expand l).length ≤ 1000 := by have := expand_len l hok; omega
  simp only [zf33, wx, wy, Nat.reduceAdd, Nat.reduceEqDiff, reduceCtorEq]
  refine callPu (c170 l hok hl hs) (by simp only [List.mem_cons, List.mem_nil_iff, or_false, forall_eq_or_imp, forall_eq]; exact ⟨hcl, rfl⟩) ?_
  simp only [show ((0 : Int) != 0) = false from rfl, wx, wy, Nat.reduceAdd, Nat.reduceEqDiff, reduceCtorEq]
  refine callPu (c171 (expand l) hel (expand_pt l hok)) (by simp only [List.mem_cons, List.mem_nil_iff, or_false, forall_eq]; exact hcl2) ?_
  simp only [wx, wy, Nat.reduceAdd, Nat.reduceEqDiff, reduceCtorEq]
  refine callPu (c62 6 (xscM (expand l))) (by simp [AV.closed]) ?_
  rw [sto_sx]
  simp only [wx, wy, Nat.reduceAdd, Nat.reduceEqDiff, reduceCtorEq, sx_part]
  exact pureQ_closed (by simp only [AV.closed, closedL, sx_closed, Bool.and_self])
theorem digA_dec : ∀ (f u : Nat), u < 10 ^ f → u ≠ 0 → digA f u = (digL u).reverse.map chD := by
  intro f
  induction f with
  | zero => intro u h h0; omega
  | succ f ih =>
    intro u h h0
    rw [digL_pos h0, List.reverse_cons, List.map_append]
    simp only [digA]
    cases hb : Nat.blt u 10 with
    | true =>
      have hu : u + 1 ≤ 10 := Nat.le_of_ble_eq_true hb
      rw [show u / 10 = 0 by omega, digL_zero, show u % 10 = u by omega]
      rfl
    | false =>
      have hu : 10 ≤ u := by
        rcases Nat.lt_or_ge u 10 with h' | h'
        · have : Nat.blt u 10 = true := Nat.ble_eq_true_of_le h'
          rw [this] at hb; cases hb
        · exact h'
      rw [cond_false, ih (u / 10) (by rw [Nat.pow_succ] at h; omega) (by omega)]
      rfl
theorem itoa_dec (k : Nat) (h : k < 2 ^ 62) : itoaL (k : Int) = decT k := by
  have h20 : k < 10 ^ 20 := Nat.lt_trans h (by decide)
  unfold itoaL
  rw [if_neg (by omega), Int.toNat_natCast]
  by_cases h0 : k = 0
  · subst h0; rfl
  · rw [digA_dec 20 k h20 h0, decT_eq, show (k == 0) = false by simpa using h0]; rfl
theorem c169 (k : Nat) (hk : k < 2 ^ 31) : PureC Tryz.env 169 [.int .i64 k] (halfS k).av := by
  refine pure_q (f169_run _ _ ?_)
  unfold f169
  have w1 : IntKind.u32.wrap (k : Int) = (k : Int) := IntWalk.u32_in _ (by omega)
  have b1 : bsl 22 1 [(0, .int .u32 (k : Int))] = some (.sl true [u3A k]) := bsl_one tf22 (by decide) rfl rfl
  have hlk : limbs [k] := mem_one (by rw [p32]; omega)
  have h63 := c63 [k] hlk (by simp)
  rw [show val [k] = k by simp [val], ← itoa_dec k (by omega)] at h63
  simp only [zf33, cf3_211, w1, b1, wx, wy, Nat.reduceAdd, Nat.reduceEqDiff, reduceCtorEq]
  refine callPur (args2 := [nsA [k]]) (ids := []) rfl h63 ?_
  simp only [List.isEmpty_nil, Bool.true_or, if_true, wx, wy, Nat.reduceAdd, Nat.reduceEqDiff, reduceCtorEq]
  have := itoaL_len k
  rw [add_str (x := [100]) (by simp only [List.length_cons, List.length_nil]; omega)]
  simp only [Bnd_some]
  refine callPu (c62 3 _) (by simp [AV.closed]) ?_
  rw [sto_sx]
  simp only [wx, wy, Nat.reduceAdd, Nat.reduceEqDiff, reduceCtorEq, sx_part]
  exact pureQ_closed (sx_closed (halfS k))
theorem l66 (l : List (Int × Int)) (hl : l.length ≤ 65536) (Q : AV → St → Prop) (b : Bool) (hQ : ∀ s, Q (.bool b) s) : ∀ (m i : Nat) (left : Int) (p : Option Int) (s : St), i + m = l.length → 0 ≤ left → left ≤ 2 ^ 40 → (p = if i = 0 then none else (l[i - 1]?).map Prod.fst) → mayGo left p (l.drop i) = b →
    f66l1 Q (m + 1) (.sl false (l.map rnA)) (.int .i64 (1099511627776 - left)) (.int .i64 i) s := by
  intro m
  induction m with
  | zero =>
    intro i left p s hi h0 h1 hp hb
    show f66l1s Q (f66l1 Q 0) _ _ _ s
    have c1 : decide ((i : Int) < (l.length : Int)) = false := by simp; omega
    rw [List.drop_of_length_le (by omega)] at hb
    simp only [f66l1s, ln25rs, c1, f66j1, wx, wy, Nat.reduceAdd, Nat.reduceEqDiff, reduceCtorEq]
    have : b = true := hb.symm
    subst this
    exact hQ _
  | succ m ih =>
    intro i left p s hi h0 h1 hp hb
    show f66l1s Q (f66l1 Q (m + 1)) _ _ _ s
    have c1 : decide ((i : Int) < (l.length : Int)) = true := by simp; omega
    obtain ⟨r, hr⟩ : ∃ r, l[i]? = some r := ⟨_, List.getElem?_eq_getElem (by omega)⟩
    rw [get_drop l i r hr] at hb
    simp only [mayGo] at hb
    have hix := ix_map encRn false hr .i64
    have w1 : IntKind.i64.wrap ((i : Int) + 1) = ((i + 1 : Nat) : Int) := by rw [IntWalk.i64_in _ (by omega)]; rfl
    have w4 : IntKind.i64.wrap (1099511627776 - (1099511627776 - left)) = left := by rw [IntWalk.i64_in _ (by omega)]; omega
    have hpb : (decide (r.1 < 0) || decide (r.1 > 196607)) = !(point r.1) := by
      unfold point
      rw [Bool.eq_iff_iff]
      simp only [Bool.or_eq_true, decide_eq_true_eq, Bool.not_eq_true', Bool.and_eq_false_iff, decide_eq_false_iff_not]
      omega
    rw [← Bool.or_assoc, hpb] at hb
    simp only [f66l1s, ln25rs, c1, hix, rn0, wx, wy, Nat.reduceAdd, Nat.reduceEqDiff, reduceCtorEq]
    refine callPu (c119 r.1) (by simp [AV.closed]) ?_
    cases e1 : point r.1 with
    | false =>
      rw [e1, Bool.not_false, Bool.true_or, cond_true] at hb
      subst hb
      simp only [hix, rn0, rn1, wx, wy, Nat.reduceAdd, Nat.reduceEqDiff, reduceCtorEq]
      exact hQ _
    | true =>
    cases e3 : decide (r.2 < 1) with
    | true =>
      rw [e1, e3, Bool.not_true, Bool.false_or, Bool.true_or, cond_true] at hb
      subst hb
      simp only [hix, rn0, rn1, e3, wx, wy, Nat.reduceAdd, Nat.reduceEqDiff, reduceCtorEq]
      exact hQ _
    | false =>
    cases e4 : decide (r.2 > left) with
    | true =>
      rw [e1, e3, e4, Bool.not_true, Bool.false_or, Bool.false_or, Bool.true_or, cond_true] at hb
      subst hb
      simp only [hix, rn0, rn1, e3, w4, e4, wx, wy, Nat.reduceAdd, Nat.reduceEqDiff, reduceCtorEq]
      exact hQ _
    | false =>
    rw [e1, e3, e4, Bool.not_true, Bool.false_or, Bool.false_or, Bool.false_or] at hb
    have o3 := of_decide_eq_false e3
    have o4 := of_decide_eq_false e4
    have w2 : IntKind.i64.wrap (1099511627776 - left + r.2) = 1099511627776 - (left - r.2) := by rw [IntWalk.i64_in _ (by omega)]; omega
    cases i with
    | zero =>
      simp only [if_true] at hp
      subst hp
      have hb : mayGo (left - r.2) (some r.1) (l.drop 1) = b := hb
      simp only [hix, rn0, rn1, e3, w4, e4, show decide (((0 : Nat) : Int) > 0) = false from rfl, f66j2, w1, w2, wx, wy, Nat.reduceAdd, Nat.reduceEqDiff, reduceCtorEq]
      exact ih 1 _ (some r.1) _ (by omega) (by omega) (by omega) (by simp only [Nat.one_ne_zero, if_false, Nat.sub_self]; rw [hr]; rfl) hb
    | succ k =>
      have c2 : decide (((k + 1 : Nat) : Int) > 0) = true := by simp
      obtain ⟨q, hq⟩ : ∃ q, l[k]? = some q := ⟨_, List.getElem?_eq_getElem (by omega)⟩
      have hix2 := ix_map encRn false hq .i64
      have w3 : IntKind.i64.wrap (((k + 1 : Nat) : Int) - 1) = (k : Int) := by rw [IntWalk.i64_in _ (by omega)]; omega
      have hp : p = some q.1 := by rw [hp, if_neg (by omega), Nat.add_sub_cancel, hq]; rfl
      subst hp
      have e5 : (some q.1 == some r.1) = (r.1 == q.1) := by
        show (q.1 == r.1) = (r.1 == q.1)
        rw [Bool.eq_iff_iff, beq_iff_eq, beq_iff_eq]; omega
      rw [e5] at hb
      cases e6 : (r.1 == q.1) with
      | true =>
        rw [e6, cond_true] at hb
        subst hb
        simp only [hix, rn0, rn1, e3, w4, e4, c2, w3, hix2, e6, wx, wy, Nat.reduceAdd, Nat.reduceEqDiff, reduceCtorEq]
        exact hQ _
      | false =>
        rw [e6, cond_false] at hb
        simp only [hix, rn0, rn1, e3, w4, e4, c2, w3, hix2, e6, f66j2, w1, w2, wx, wy, Nat.reduceAdd, Nat.reduceEqDiff, reduceCtorEq]
        exact ih (k + 1 + 1) _ (some r.1) _ (by omega) (by omega) (by omega) (by rw [if_neg (by omega), Nat.add_sub_cancel, hr]; rfl) hb
theorem c66 (l : List (Int × Int)) (hl : l.length ≤ 2 ^ 40) : PureC Tryz.env 66 [.sl false (l.map rnA)] (.bool (mayM l)) := by
  refine pure_q (f66_run _ _ ?_)
  unfold f66 mayM
  simp only [ln25rs, wx, wy, Nat.reduceAdd, Nat.reduceEqDiff, reduceCtorEq]
  cases h : decide (l.length ≤ 65536) with
  | false =>
    have h1 : decide ((l.length : Int) > 65536) = true := by simp at h ⊢; omega
    simp only [h1, wx, wy, Nat.reduceAdd, Nat.reduceEqDiff, reduceCtorEq]
    exact pureQ_closed rfl
  | true =>
    have h2 := of_decide_eq_true h
    have h1 : decide ((l.length : Int) > 65536) = false := by simp; omega
    simp only [h1, wx, wy, Nat.reduceAdd, Nat.reduceEqDiff, reduceCtorEq]
    have := l66 l h2 (PureQ (.bool (mayGo 1099511627776 none l))) _ (fun s => pureQ_closed rfl) l.length 0 1099511627776 none (Ai.adv St.empty 6) (by omega) (by decide) (by decide) rfl rfl
    exact ⟨l.length + 1, by simpa using this⟩
end Go.Proofs.YtdehdahimkcakaaGreatDoor
end
