/- Texts joined by wip/tools/pack.py: Rq, Ru, Rw, Rx, Ry. -/
import Derived.Test.YtdehdahimkcakaaGreatDoorYq
section
set_option linter.unusedVariables false
set_option linter.unusedSimpArgs false
set_option maxRecDepth 100000
set_option maxHeartbeats 4000000
namespace Go.Proofs.YtdehdahimkcakaaGreatDoor
open Go Ai
mutual
theorem ids_closed : (v : AV) → v.closed = true → idsOf v = []
  | .sl ex l, h => by
    simp only [AV.closed, Bool.and_eq_true] at h
    simp only [idsOf, ids_closedL l h.2]
  | .pel cs _, h => by simp only [AV.closed] at h; simp only [idsOf, ids_closedL cs h]
  | .agg cs, h => by simp only [AV.closed] at h; simp only [idsOf, ids_closedL cs h]
  | .tup cs, h => by simp only [AV.closed] at h; simp only [idsOf, ids_closedL cs h]
  | .fn _ a b, h => by
    simp only [AV.closed, Bool.and_eq_true] at h
    simp only [idsOf, ids_closedL a h.1, ids_closedL b h.2, List.append_nil]
  | .undef, _ | .bool _, _ | .int _ _, _ | .str _, _ | .nilp, _ | .nilm, _ | .nilc, _ | .nilf, _ | .nili, _ => rfl
  | .ptr _ _, h => by cases h
  | .ref _ _ _ _ _, h => by cases h
  | .nils, h => rfl
  | .emp, h => rfl
  | .map _, h => by cases h
  | .chan _, h => by cases h
  | .iface _ _, h => by cases h
theorem ids_closedL : (l : List AV) → closedL l = true → idsL l = []
  | [], _ => rfl
  | v :: l, h => by
    simp only [closedL, Bool.and_eq_true] at h
    simp only [idsL, ids_closed v h.1, ids_closedL l h.2, List.append_nil]
end
theorem ids_sx (x : Sx) : idsOf x.av = [] := ids_closed _ (sx_closed x)
theorem ids_app (a b : List AV) : idsL (a ++ b) = idsL a ++ idsL b := by
  induction a with
  | nil => rfl
  | cons x a ih => simp only [List.cons_append, idsL, ih, List.append_assoc]
theorem ids_flt (l : List Sx) : idsL (flt l) = [] := by
  induction l with
  | nil => rfl
  | cons x l ih =>
    rw [flt_cons, ids_app, ih, List.append_nil]
    have := ids_sx x
    cases x with
    | mk a b c d e f => exact this
def refA (i n : Nat) : AV := .agg [.bool true, .int .i64 0, .str [], .int .i64 0, .int .i64 0, .ref i 0 n none 33]
theorem ref_b (i n : Nat) : bld 33 [(0, .bool true), (3, .ref i 0 n none 33)] = some (refA i n) := by rw [bf33]; rfl
theorem c65g {q : St} {x : AV} {nm : List UInt8} {vs : List AV} {Q : AV → St → Prop} (fr : Fresh q) (hv : ∀ v ∈ vs, v.cells.length = 6 ∧ v.cells.all AV.one = true) (hl : vs.length ≤ 2 ^ 20) (hne : vs ≠ []) (src : ∀ q', EF [] q q' → srcCells 6 x q' = some (vs.flatMap AV.cells))
    (hQ : ∀ i q', EF [] q q' → q.nx ≤ i → Gw 33 6 0 q' (.ref i 0 (vs.length + 1) none 33) ((atS 3 nm).av :: vs) → Q (refA i (vs.length + 1)) q') : f65 Q (.str nm) x q := by
  unfold f65
  have b31 : bsl 31 1 [(0, (atS 3 nm).av)] = some (.sl true [(atS 3 nm).av]) := bsl_one tf31 (by decide) (sx_len _) (sx_ones _)
  simp only [zf33, wx, wy, Nat.reduceAdd, Nat.reduceEqDiff, reduceCtorEq]
  refine callPu (c62 3 nm) (by simp [AV.closed]) ?_
  simp only [b31, wx, wy, Nat.reduceAdd, Nat.reduceEqDiff, reduceCtorEq]
  have E1 : EF [] q (Ai.adv (q.set q.nx (some (.cells (AV.agg [.bool false, .int .i64 0, .str [], .int .i64 0, .int .i64 0, .nils]).cells 33 true true))) 10) := ((EF.refl [] fr).adv (n := 10)).set (i := q.nx) (by simp only [adv_nx]; omega) (.inl (Nat.le_refl _))
  have hap := fun id => app_sl (s := Ai.adv (q.set q.nx (some (.cells (AV.agg [.bool false, .int .i64 0, .str [], .int .i64 0, .int .i64 0, .nils]).cells 33 true true))) 10) tf31 (vs := [(atS 3 nm).av]) (ws := vs) (mem_one ⟨sx_len _, sx_ones _⟩) hv hne (fits_of (by simp; omega) (by simp; omega)) (src _ E1) id
  simp only [hap, wx, wy, Nat.reduceAdd, Nat.reduceEqDiff, reduceCtorEq]
  rw [show ([(atS 3 nm).av].length + vs.length) = vs.length + 1 by simp; omega]
  simp only [ref_b, wx, wy, Nat.reduceAdd, Nat.reduceEqDiff, reduceCtorEq]
  rw [sto_all (z := 6) (c := (AV.agg [.bool false, .int .i64 0, .str [], .int .i64 0, .int .i64 0, .nils]).cells) (by rw [adv_h, st_other (by omega), st_same]) rfl rfl rfl]
  have hp : Ai.part 6 true 0 (refA (q.nx + 7) (vs.length + 1)).cells = some (refA (q.nx + 7) (vs.length + 1)) := rfl
  have hne7 : q.nx ≠ q.nx + 7 := by omega
  simp only [wx, wy, Nat.reduceAdd, Nat.reduceEqDiff, reduceCtorEq, hp]
  refine hQ _ _ ?_ (by omega) ?_
  · refine ⟨by simp only [adv_nx, set_nx]; omega, fun j hj _ => by rw [adv_h, st_other (by omega), st_other (by omega), st_other (by omega)], ?_⟩
    refine fun j hj => ?_
    simp only [adv_nx, set_nx] at hj
    rw [adv_h, st_other (by omega), st_other (by omega), st_other (by omega)]
    exact fr j (by omega)
  · refine ⟨fun v hv' => (List.mem_cons.1 hv').elim (fun e => by subst e; exact ⟨sx_len _, sx_ones _⟩) (hv v), .inr ⟨q.nx + 7, by omega, by simp, ?_⟩⟩
    rw [adv_h, st_other (by omega), st_same]
    rfl
theorem pur_refA {s : St} {i : Nat} {l : List Sx} {nm : List UInt8} (g : Gw 33 6 0 s (.ref i 0 (l.length + 1) none 33) ((atS 3 nm :: l).map Sx.av)) (k : Nat) : pur Tryz.env.P s (k + 2) (refA i (l.length + 1)) = some ((lstS nm l).av, [i]) := by
  obtain ⟨ids, e1, e2⟩ := pur_map tf31 g (fun a _ => sx_closed a) (fun a _ => (sx_agg a).symm) k
  have h2 : ∀ v : AV, v.closed = true → pur Tryz.env.P s (k + 1) v = some (v, []) := fun v hv => pur_closed (k + 1) hv
  have hn := g.not_closed
  conv => lhs; unfold pur refA
  rw [if_neg (by simp [AV.closed, closedL])]
  simp only [purL, e1, h2 (.bool true) rfl, h2 (.int .i64 0) rfl, h2 (.str []) rfl]
  rw [e2]
  have : (lstS nm l).av = .agg [.bool true, .int .i64 0, .str [], .int .i64 0, .int .i64 0, .sl false ((atS 3 nm :: l).map Sx.av)] := by
    simp only [lstS, Sx.av, Sx.avs_eq]
  rw [this]
  rfl
def Raw (p : AV × Sx) : Prop := p.1.cells.length = 6 ∧ p.1.cells.all AV.one = true ∧ ∀ s k, purL (pur Tryz.env.P s (k + 6)) p.1.cells = some (p.2.av.cells, [])
theorem raw_sx (x : Sx) : Raw (x.av, x) := ⟨sx_len x, sx_ones x, fun s k => purL_closed (k + 6) (by
  have := sx_closed x
  cases x with
  | mk a b c d e f => simp only [Sx.av, AV.closed] at this; exact this)⟩
theorem purL_app {f : AV → Option (AV × List Nat)} : ∀ (a b a' b' : List AV), purL f a = some (a', []) → purL f b = some (b', []) → purL f (a ++ b) = some (a' ++ b', []) := by
  intro a
  induction a with
  | nil => intro b a' b' h1 h2; simp only [purL] at h1; cases h1; exact h2
  | cons x a ih =>
    intro b a' b' h1 h2
    simp only [purL] at h1
    cases hx : f x with
    | none => rw [hx] at h1; cases h1
    | some y =>
      obtain ⟨y, i⟩ := y
      cases ha : purL f a with
      | none => rw [hx, ha] at h1; cases h1
      | some z =>
        obtain ⟨z, j⟩ := z
        rw [hx, ha] at h1
        simp only [Option.some.injEq, Prod.mk.injEq] at h1
        obtain ⟨h3, h4⟩ := h1
        obtain ⟨rfl, rfl⟩ := List.append_eq_nil_iff.1 h4
        simp only [List.cons_append, purL, hx, ih b z b' ha h2, List.append_nil]
        rw [← h3]; rfl
theorem raw_flat (s : St) (k : Nat) : ∀ (ps : List (AV × Sx)), (∀ p ∈ ps, Raw p) → purL (pur Tryz.env.P s (k + 6)) ((ps.map Prod.fst).flatMap AV.cells) = some (flt (ps.map Prod.snd), []) := by
  intro ps
  induction ps with
  | nil => intro _; rfl
  | cons p ps ih =>
    intro h
    rw [List.map_cons, List.flatMap_cons, List.map_cons, flt_cons]
    exact purL_app _ _ _ _ ((h p (List.mem_cons_self ..)).2.2 s k) (ih fun q hq => h q (List.mem_cons_of_mem _ hq))
theorem pur_rawA {s : St} {i : Nat} {ps : List (AV × Sx)} {nm : List UInt8} (hps : ∀ p ∈ ps, Raw p) (g : Gw 33 6 0 s (.ref i 0 (ps.length + 1) none 33) ((atS 3 nm).av :: ps.map Prod.fst)) (k : Nat) : pur Tryz.env.P s (k + 8) (refA i (ps.length + 1)) = some ((lstS nm (ps.map Prod.snd)).av, [i]) := by
  have h2 : ∀ v : AV, v.closed = true → pur Tryz.env.P s (k + 7) v = some (v, []) := fun v hv => pur_closed (k + 7) hv
  have hr : pur Tryz.env.P s (k + 7) (.ref i 0 (ps.length + 1) none 33) = some (.sl false ((atS 3 nm :: ps.map Prod.snd).map Sx.av), [i]) := by
    obtain ⟨h1, ⟨h0, _⟩ | ⟨j, hj, h0, hs⟩⟩ := g
    · cases h0
    · injection h0 with e1
      subst e1
      have hl : lay Tryz.env.P 33 = some (6, true) := tf31.l
      have hfl := flat_len h1
      have hf := raw_flat s k (((atS 3 nm).av, atS 3 nm) :: ps) (fun p hp => (List.mem_cons.1 hp).elim (fun e => by subst e; exact raw_sx _) (hps p))
      have hlen : (((atS 3 nm).av :: ps.map Prod.fst)).length = ps.length + 1 := by simp
      unfold pur
      rw [if_neg (by simp [AV.closed])]
      simp only [hs, hl, Nat.zero_add, List.drop_zero]
      rw [if_pos ⟨by rw [hfl, hlen]; exact Nat.le_refl _, by decide⟩]
      rw [show (((atS 3 nm).av :: ps.map Prod.fst).flatMap AV.cells).take ((ps.length + 1) * 6) = ((atS 3 nm).av :: ps.map Prod.fst).flatMap AV.cells from List.take_of_length_le (by rw [hfl, hlen]; exact Nat.le_refl _)]
      have hf : purL (pur Tryz.env.P s (k + 6)) (((atS 3 nm).av :: ps.map Prod.fst).flatMap AV.cells) = some (flt (atS 3 nm :: ps.map Prod.snd), []) := hf
      rw [hf]
      have hcb := chunk_back (z := 6) (vs := (atS 3 nm :: ps.map Prod.snd).map Sx.av) (fun v hv => by obtain ⟨a, _, rfl⟩ := List.mem_map.1 hv; exact ⟨sx_len a, sx_ones a⟩) (fun v hv => by obtain ⟨a, _, rfl⟩ := List.mem_map.1 hv; exact (sx_agg a).symm)
      have hln2 : ((atS 3 nm :: ps.map Prod.snd).map Sx.av).length = ps.length + 1 := by simp
      rw [hln2] at hcb
      simp only [Option.bind_some, Bool.true_or, if_true, flt, hcb]
  conv => lhs; unfold pur refA
  rw [if_neg (by simp [AV.closed, closedL])]
  simp only [purL, hr, h2 (.bool true) rfl, h2 (.int .i64 0) rfl, h2 (.str []) rfl]
  have : (lstS nm (ps.map Prod.snd)).av = .agg [.bool true, .int .i64 0, .str [], .int .i64 0, .int .i64 0, .sl false ((atS 3 nm :: ps.map Prod.snd).map Sx.av)] := by
    simp only [lstS, Sx.av, Sx.avs_eq]
  rw [this]
  rfl
theorem src_sl (ex : Bool) (l : List Sx) (s : St) : srcCells 6 (.sl ex (l.map Sx.av)) s = some (flt l) := by
  have hall : (l.map Sx.av).all (fun v => v.cells.length == 6) = true := List.all_eq_true.2 fun v hv => by obtain ⟨a, _, rfl⟩ := List.mem_map.1 hv; simp [sx_len a]
  simp only [srcCells, hall, if_true, flt]
theorem c65p (nm : List UInt8) (l : List Sx) (hl : l.length ≤ 2 ^ 20) (hne : l ≠ []) : PureC Tryz.env 65 [.str nm, lsA l] (lstS nm l).av := by
  refine pure_q (f65_run _ _ _ ?_)
  have := c65g (q := St.empty) (x := lsA l) (nm := nm) (vs := l.map Sx.av) (Q := PureQ (lstS nm l).av) fresh_empty (fun v hv => by obtain ⟨a, _, rfl⟩ := List.mem_map.1 hv; exact ⟨sx_len a, sx_ones a⟩) (by rw [List.length_map]; exact hl) (by simpa using hne) (fun q' _ => src_sl false l q') fun i q' _ _ g => ⟨[i], by rw [List.length_map] at g ⊢; exact pur_refA g 10⟩
  exact this
theorem c65d {s : St} {K : AV → St → Prop} {x : AV} {nm : List UInt8} {ps : List (AV × Sx)} {L : List Nat} (fr : Fresh s) (hps : ∀ p ∈ ps, Raw p) (hl : ps.length ≤ 2 ^ 20) (hne : ps ≠ []) (hL : ∀ i ∈ L, i < s.nx) (src : ∀ q', EF [] (s.only L) q' → srcCells 6 x q' = some ((ps.map Prod.fst).flatMap AV.cells))
    (hK : ∀ s', EF L s s' → K (lstS nm (ps.map Prod.snd)).av s') : CallWiD Tryz.env 65 [.str nm, x] L s K := by
  have frq : Fresh (s.only L) := fun j hj => by
    show cond (memB j L) (s.h j) none = none
    cases memB j L with
    | true => exact fr j hj
    | false => rfl
  obtain ⟨r, s', hw, i, e1, e2, g⟩ := f65_run _ _ _ (Q := fun r s' => ∃ i, EF [] (s.only L) s' ∧ r = refA i (ps.length + 1) ∧ Gw 33 6 0 s' (.ref i 0 (ps.length + 1) none 33) ((atS 3 nm).av :: ps.map Prod.fst)) (c65g (x := x) (nm := nm) (vs := ps.map Prod.fst) frq (fun v hv => by obtain ⟨a, ha, rfl⟩ := List.mem_map.1 hv; exact ⟨(hps a ha).1, (hps a ha).2.1⟩) (by rw [List.length_map]; exact hl) (by simpa using hne) src fun i q' h1 h2 g => ⟨i, h1, by rw [List.length_map], by rw [List.length_map] at g; exact g⟩)
  subst e2
  refine .mk _ s' hw ?_
  have hz : Tryz.env.fz 65 = true := by kernel_rfl
  rw [hz]
  simp only [cond_true]
  rw [pur_rawA hps g 4]
  simp only [Bnd_some]
  have hnx : s.nx ≤ s'.nx := e1.nx
  refine hK _ ⟨hnx, fun j hj hm => ?_, fun j hj => ?_⟩
  · show cond (memB j L || Nat.ble s.nx j) _ _ = _
    have h1 : memB j L = false := by
      cases hb : memB j L with
      | false => rfl
      | true => exact absurd (memB_mem.1 hb) hm
    have h2 : Nat.ble s.nx j = false := by
      cases hb : Nat.ble s.nx j with
      | false => rfl
      | true => have := Nat.le_of_ble_eq_true hb; omega
    rw [h1, h2]; rfl
  · have hj : s'.nx ≤ j := by
      have : (s'.drop [i]).nx = s'.nx := nx_drop _
      show s'.nx ≤ j
      rw [← this]; exact hj
    show cond (memB j L || Nat.ble s.nx j) ((s'.drop [i]).h j) (s.h j) = none
    have h2 : Nat.ble s.nx j = true := Nat.ble_eq_true_of_le (by omega)
    rw [h2, Bool.or_true, cond_true, get_drop']
    split
    · rfl
    · exact e1.fr j hj
end Go.Proofs.YtdehdahimkcakaaGreatDoor
end
section
set_option linter.unusedVariables false
set_option linter.unusedSimpArgs false
set_option maxRecDepth 100000
set_option maxHeartbeats 4000000
namespace Go.Proofs.YtdehdahimkcakaaGreatDoor
open Go Ai
def rawB1 (k : Nat) (v : Sx) : AV := rawA [rawA [(halfS k).av, v.av]]
theorem raw_bind (k : Nat) (v : Sx) : Raw (rawB1 k v, bindS k v) := by
  refine ⟨rfl, rfl, fun s n => ?_⟩
  have a1 := pur_raw (s := s) (k := n + 3) (l := [(halfS k).av, v.av]) (l' := [(halfS k).av, v.av]) (purL_closed (n + 3) (by simp only [closedL, sx_closed, Bool.and_self]))
  have a2 : pur Tryz.env.P s (n + 6) (.sl true [rawA [(halfS k).av, v.av]]) = some (.sl false [.agg [.bool true, .int .i64 0, .str [], .int .i64 0, .int .i64 0, .sl false [(halfS k).av, v.av]]], []) := by
    unfold pur
    rw [if_neg (by simp [AV.closed])]
    simp only [purL, a1]
    rfl
  have h2 : ∀ w : AV, w.closed = true → pur Tryz.env.P s (n + 6) w = some (w, []) := fun w hw => pur_closed (n + 6) hw
  show purL (pur Tryz.env.P s (n + 6)) [.bool true, .int .i64 0, .str [], .int .i64 0, .int .i64 0, .sl true [rawA [(halfS k).av, v.av]]] = _
  simp only [purL, a2, h2 (.bool true) rfl, h2 (.int .i64 0) rfl, h2 (.str []) rfl]
  rfl
theorem ids_raw (k : Nat) (v : Sx) : idsOf (rawB1 k v) = [] := by
  simp only [rawB1, rawA, idsOf, idsL, ids_sx, List.append_nil]
theorem rch_let (s : St) (f : FuncId) (nm : List UInt8) (k : Nat) (v y : Sx) : rch s [.fn f [] [], .str nm, .sl true [rawB1 k v, y.av]] = [] := by
  unfold rch
  have : idsL [.fn f [] [], .str nm, .sl true [rawB1 k v, y.av]] = [] := by simp only [idsOf, idsL, ids_raw, ids_sx, List.append_nil]
  rw [this]
  rfl
theorem let120 {S : St} {K : AV → St → Prop} (k : Nat) (v y : Sx) (fr : Fresh S) (hK : ∀ s', EF [] S s' → K (aroundM k v y).av s') :
    CallWiD Tryz.env 65 [.str [108, 101, 116], .sl true [rawB1 k v, y.av]] (rch S [.fn 65 [] [], .str [108, 101, 116], .sl true [rawB1 k v, y.av]]) S K := by
  rw [rch_let]
  exact c65d (x := .sl true [rawB1 k v, y.av]) (nm := letN) (ps := [(rawB1 k v, bindS k v), (y.av, y)]) fr (mem_two (raw_bind k v) (raw_sx y)) (by simp) (by simp) (fun i hi => by cases hi) (fun q' _ => by
    have h1 : (rawB1 k v).cells.length = 6 := rfl
    simp only [srcCells, List.all_cons, List.all_nil, h1, sx_len, beq_self_eq_true, Bool.and_self, if_true]
    rfl) hK
def segS (r : Int × Int) (k : Nat) : Sx := if k = 0 then atS 6 (xscM [r.1]) else lstS stpp [halfS (k - 1), halfS (k - 1)]
def tailY (r : Int × Int) (y : Sx) : Nat → Nat → Sx
  | 0, k => aroundM k (segS r k) y
  | m + 1, k => aroundM k (segS r k) (tailY r y m (k + 1))
theorem tail_last (r : Int × Int) : ∀ (m k : Nat) (y : Sx), tailY r y (m + 1) k = tailY r (aroundM (k + m + 1) (segS r (k + m + 1)) y) m k := by
  intro m
  induction m with
  | zero => intro k y; rfl
  | succ m ih =>
    intro k y
    show aroundM k (segS r k) (tailY r y (m + 1) (k + 1)) = aroundM k (segS r k) (tailY r _ m (k + 1))
    rw [ih (k + 1) y, show k + 1 + m + 1 = k + (m + 1) + 1 by omega]
theorem tail_up (r : Int × Int) : ∀ (T : Nat) (y : Sx), aroundM 0 (atS 6 (xscM [r.1])) (longUp T y) = tailY r y T 0 := by
  intro T
  induction T with
  | zero => intro y; rfl
  | succ T ih =>
    intro y
    rw [tail_last, Nat.zero_add]
    exact ih _
theorem tail_long (r : Int × Int) : longM r = tailY r (longIn r.2.toNat) r.2.toNat.log2 0 := tail_up r _ _
def dnB (n : Nat) : Nat → List Nat
  | 0 => []
  | k + 1 => (bif n / 2 ^ k % 2 == 1 then [k] else []) ++ dnB n k
theorem dnB_eq (n K : Nat) : (bitsTo n K).reverse = dnB n K := by
  induction K with
  | zero => rfl
  | succ K ih =>
    rw [bits_succ, List.reverse_append, ih, dnB]
    cases (n / 2 ^ K % 2 == 1) <;> rfl
theorem dnB_len (n K : Nat) : (dnB n K).length ≤ K := by
  rw [← dnB_eq, List.length_reverse]; exact bits_len n K
theorem rch_ref (s : St) (f : FuncId) (nm : List UInt8) (i n : Nat) (l : List Sx) (hs : s.h i = some (.cells (flt l) 33 false true)) : rch s [.fn f [] [], .str nm, .ref i 0 n none 33] = [i] := by
  have h1 : idsL [.fn f [] [], .str nm, .ref i 0 n none 33] = [i] := rfl
  unfold rch
  rw [h1]
  show cond (memB i []) _ (match s.h i with | none => _ | some b => reach s.h 3999 (blkIds b ++ []) (i :: [])) = [i]
  rw [hs]
  show reach s.h 3999 (idsL (flt l) ++ []) [i] = [i]
  rw [ids_flt]
  rfl
structure RuI (s : St) (p6 n9 : Nat) (c9 : List AV) : Prop where
  fr : Fresh s
  h6 : s.h p6 = some (.cells zeroB.cells 33 true true)
  h9 : s.h n9 = some (.cells c9 33 true true)
theorem RuI.ext {s s' : St} {p6 n9 : Nat} {c9 : List AV} {M : List Nat} (h : RuI s p6 n9 c9) (he : EF M s s') (d6 : p6 ∉ M) (d9 : n9 ∉ M) : RuI s' p6 n9 c9 :=
  ⟨he.fr, by rw [he.h _ (lt_of_h h.fr h.h6) d6]; exact h.h6, by rw [he.h _ (lt_of_h h.fr h.h9) d9]; exact h.h9⟩
theorem fin120 {Q : AV → St → Prop} {s : St} {p6 n9 : Nat} {c9 : List AV} (v : Sx) (h : RuI s p6 n9 c9) (hQ : ∀ s, Q v.av s) : Bnd (sto 6 (.ptr p6 0) v.av s) fun s3 => RetP ((resC [ld 6 true (.ptr p6 0) s3]).map tupV) fun w => Q w s3 := by
  rw [sto_all (z := 6) h.h6 rfl (sx_len _) (sx_ones _)]
  simp only [wx, wy, Nat.reduceAdd, Nat.reduceEqDiff, reduceCtorEq, sx_part]
  exact hQ _
theorem j120 (Q : AV → St → Prop) (k : Nat) (v : Sx) (p6 n9 : Nat) (l : List Sx) (hl : l.length ≤ 2 ^ 16) (hne : l ≠ []) (x : AV) (s : St) (h : RuI s p6 n9 (rawB1 k v).cells) (g : Gw 33 6 0 s x (l.map Sx.av)) (d6 : p6 ∉ idOf x) (d9 : n9 ∉ idOf x) (hQ : ∀ s, Q (aroundM k v (lstS stpp l)).av s) : f120j2 Q (.ptr n9 0) x (.ptr p6 0) s := by
  obtain ⟨q1, ⟨rfl, q2⟩ | ⟨i, hi, rfl, hs⟩⟩ := g
  · exfalso; exact hne (by simpa using q2)
  simp only [idOf, List.mem_singleton] at d6 d9
  have hil := lt_of_h h.fr hs
  have h9l := lt_of_h h.fr h.h9
  have hflt : (l.map Sx.av).flatMap AV.cells = flt l := rfl
  rw [hflt] at hs
  rw [List.length_map]
  have hrp : Ai.part 6 true 0 (rawB1 k v).cells = some (rawB1 k v) := rfl
  unfold f120j2
  simp only [wx, wy, Nat.reduceAdd, Nat.reduceEqDiff, reduceCtorEq, h.h9, hrp]
  rw [rch_ref (Ai.adv s 6) 65 _ i l.length l (by rw [adv_h]; exact hs)]
  refine ⟨?_, ?_⟩
  · have hd : Nat.beq n9 i = false := by
      cases hb : Nat.beq n9 i with
      | false => rfl
      | true => exact absurd (Nat.eq_of_beq_eq_true hb) d9
    have hlt : Nat.blt n9 (s.nx + 6) = true := Nat.ble_eq_true_of_le (by omega)
    simp only [clear, List.all_cons, List.all_nil, Mark.apart, okLo, disj_nil, bit_of, Nat.reduceShiftRight, Nat.reduceMod, Bool.not_true, Bool.not_false, Option.isNone_none, Option.isNone_some, decide_true, decide_false, Nat.reduceEqDiff, Nat.zero_ne_one, wx, wy, Nat.reduceAdd, Nat.reduceEqDiff, reduceCtorEq]
    simp [disj, memB, hd, hlt, Mark.apart, okLo, bitOf]
  · have E6 : EF [i] s (Ai.adv s 6) := (EF.refl _ h.fr).adv
    refine c65d (nm := stpp) (ps := l.map fun a => (a.av, a)) h.fr.adv (fun p hp => by obtain ⟨a, _, rfl⟩ := List.mem_map.1 hp; exact raw_sx a) (by rw [List.length_map]; omega) (by simpa using hne) (fun j hj => by rw [List.mem_singleton.1 hj]; simp only [adv_nx]; omega) (fun q' he => ?_) fun s1 he1 => ?_
    · have hq : q'.h i = some (.cells (flt l) 33 false true) := by
        rw [he.h i (by show i < s.nx + 6; omega) (by simp)]
        show cond (memB i [i]) (s.h i) none = _
        have : memB i [i] = true := memB_mem.2 (by simp)
        rw [this]; exact hs
      simp only [srcCells, hq, flt_len, Nat.zero_add, Nat.le_refl, if_true, List.drop_zero]
      rw [List.take_of_length_le (by rw [flt_len]; exact Nat.le_refl _)]
      simp [flt, List.map_map, Function.comp_def]
    · have hm : (l.map fun a => (a.av, a)).map Prod.snd = l := by simp [List.map_map, Function.comp_def]
      rw [hm]
      have H1 := h.ext (E6.trans he1 (fun j hj => .inr hj)) (by simpa using d6) (by simpa using d9)
      have hn1 := (E6.trans he1 (fun j hj => .inr hj)).nx
      have hraw6 : (rawB1 k v).cells.length = 6 := rfl
      rw [bsl_two tf31 (by decide) hraw6 rfl (sx_len _) (sx_ones _)]
      simp only [Bnd_some]
      refine let120 k v (lstS stpp l) H1.fr fun s2 he2 => ?_
      have H2 := H1.ext he2 (by simp) (by simp)
      refine ⟨?_, fin120 _ H2 hQ⟩
      have hn1' := he1.nx
      simp only [adv_nx] at hn1'
      rw [he2.h _ (by omega) (by simp), he1.h _ (by simp only [adv_nx]; omega) (by simp; omega), adv_h]
      exact h.fr _ (by omega)
theorem l120 (Q : AV → St → Prop) (k : Nat) (v : Sx) (p6 n9 : Nat) (N : Nat) (hN : N ≤ 2 ^ 40) (L : List Nat) (hL0 : L ≠ []) (hL : L.length ≤ 2 ^ 10) (hQ : ∀ s, Q (aroundM k v (lstS stpp (L.map halfS))).av s) :
    ∀ (m : Nat) (out : List Nat) (x : AV) (s : St), m ≤ 41 → out.length ≤ 2 ^ 10 → out ++ dnB N m = L → RuI s p6 n9 (rawB1 k v).cells → Gw 33 6 0 s x ((out.map halfS).map Sx.av) → p6 ∉ idOf x → n9 ∉ idOf x →
      f120l1 Q (m + 1) (.int .i64 ((2 ^ m / 2 : Nat) : Int)) (.ptr p6 0) (.ptr n9 0) x (.int .i64 ((N % 2 ^ m : Nat) : Int)) (.int .i64 ((m : Int) - 1)) s := by
  intro m
  induction m with
  | zero =>
    intro out x s hm ho he h g d6 d9
    show f120l1s Q (f120l1 Q 0) _ _ _ _ _ _ s
    have he : out ++ [] = L := he
    rw [List.append_nil] at he
    subst he
    simp only [f120l1s, show decide (((0 : Nat) : Int) - 1 ≥ 0) = false from rfl, wx, wy, Nat.reduceAdd, Nat.reduceEqDiff, reduceCtorEq]
    exact j120 Q k v p6 n9 (out.map halfS) (by rw [List.length_map]; omega) (by simpa using hL0) x _ (h.ext (EF.refl [] h.fr).adv (by simp) (by simp)) g.adv d6 d9 hQ
  | succ m ih =>
    intro out x s hm ho he h g d6 d9
    show f120l1s Q (f120l1 Q (m + 1)) _ _ _ _ _ _ s
    have e1 : ((m + 1 : Nat) : Int) - 1 = (m : Int) := by omega
    rw [e1]
    have c1 : decide ((m : Int) ≥ 0) = true := by simp
    have hpow : 2 ^ m ≤ 2 ^ 41 := Nat.pow_le_pow_right (by decide) (by omega)
    have hp2 : 2 ^ (m + 1) / 2 = 2 ^ m := by rw [Nat.pow_succ]; omega
    have hmod : N % 2 ^ (m + 1) = N % 2 ^ m + 2 ^ m * (N / 2 ^ m % 2) := Nat.mod_pow_succ
    have hlt : N % 2 ^ m < 2 ^ m := Nat.mod_lt _ (Nat.pow_pos (by decide))
    have w3 : IntKind.i64.wrap ((m : Int) - 1) = (m : Int) - 1 := IntWalk.i64_in _ (by omega)
    simp only [dnB] at he
    have hquo : bn .quo 3 (.int .i64 ((2 ^ m : Nat) : Int)) (.int .i64 2) = some (.int .i64 (IntKind.i64.wrap ((2 ^ m / 2 : Nat) : Int))) := bin_quo (b := 2) (by decide)
    have hNl : N % 2 ^ (m + 1) ≤ N := Nat.mod_le _ _
    rw [hp2]
    have ih := fun out x s => ih out x s (by omega)
    generalize 2 ^ m = P at *
    rw [IntWalk.i64_in _ (by omega)] at hquo
    cases hb : (N / P % 2 == 1) with
    | true =>
      have hb1 : N / P % 2 = 1 := by simpa using hb
      rw [hb, cond_true] at he
      rw [hb1, Nat.mul_one] at hmod
      have c2 : decide (((N % 2 ^ (m + 1) : Nat) : Int) ≥ (P : Int)) = true := by simp only [decide_eq_true_eq]; omega
      have w4 : IntKind.i64.wrap (((N % 2 ^ (m + 1) : Nat) : Int) - (P : Int)) = ((N % P : Nat) : Int) := by rw [IntWalk.i64_in _ (by omega)]; omega
      simp only [f120l1s, c1, c2, wx, wy, Nat.reduceAdd, Nat.reduceEqDiff, reduceCtorEq]
      refine callPu (c169 m (by omega)) (by simp [AV.closed]) ?_
      have b31 := bsl_one tf31 (by decide) (sx_len (halfS m)) (sx_ones (halfS m))
      simp only [b31, wx, wy, Nat.reduceAdd, Nat.reduceEqDiff, reduceCtorEq]
      rw [app_map tf31 encSx g.adv (by rw [List.length_map]; omega) (by rw [List.length_map]; omega)]
      simp only [w4, f120j4, hquo, f120j3, w3, wx, wy, Nat.reduceAdd, Nat.reduceEqDiff, reduceCtorEq]
      have hmap : ((out ++ [m]).map halfS) = out.map halfS ++ [halfS m] := by rw [List.map_append]; rfl
      have hi6 := lt_of_h h.fr h.h6
      have hi9 := lt_of_h h.fr h.h9
      have hll : (dnB N m).length ≤ 41 := Nat.le_trans (dnB_len N m) (by omega)
      have hlo : out.length + 1 ≤ 2 ^ 10 := by
        have := congrArg List.length he
        simp only [List.length_append, List.length_cons, List.length_nil] at this
        omega
      refine ih (out ++ [m]) _ _ (by simp; omega) (by rw [← he, List.append_assoc]) ⟨fresh_app h.fr _ _ (by omega), ?_, ?_⟩ (by rw [hmap]; exact gw_map1 encSx) (by simp [idOf]; omega) (by simp [idOf]; omega)
      · rw [adv_h, st_other (by omega), get_drop', if_neg d6]; exact h.h6
      · rw [adv_h, st_other (by omega), get_drop', if_neg d9]; exact h.h9
    | false =>
      have hb1 : N / P % 2 = 0 := by
        have : N / P % 2 ≠ 1 := by simpa using hb
        omega
      rw [hb, cond_false, List.nil_append] at he
      rw [hb1, Nat.mul_zero, Nat.add_zero] at hmod
      have c2 : decide (((N % 2 ^ (m + 1) : Nat) : Int) ≥ (P : Int)) = false := by simp only [decide_eq_false_iff_not]; omega
      simp only [f120l1s, c1, c2, f120j4, hquo, f120j3, w3, wx, wy, Nat.reduceAdd, Nat.reduceEqDiff, reduceCtorEq]
      rw [hmod]
      exact ih out x _ ho he (h.ext (EF.refl [] h.fr).adv (by simp) (by simp)) g.adv d6 d9
theorem dn_low (k : Nat) : ∀ j, j ≤ k → dnB (2 ^ k) j = [] := by
  intro j
  induction j with
  | zero => intro _; rfl
  | succ j ih =>
    intro h
    rw [dnB, ih (by omega)]
    have : 2 ^ k / 2 ^ j % 2 = 0 := by
      obtain ⟨d, rfl⟩ : ∃ d, k = j + (d + 1) := ⟨k - j - 1, by omega⟩
      rw [Nat.pow_add, Nat.mul_div_cancel_left _ (Nat.pow_pos (by decide)), Nat.pow_succ]
      exact Nat.mul_mod_left ..
    rw [this]; rfl
theorem dn_pow (k : Nat) : dnB (2 ^ k) (k + 1) = [k] := by
  rw [dnB, dn_low k k (Nat.le_refl _), Nat.div_self (Nat.pow_pos (by decide))]; rfl
theorem dn_nil (n : Nat) : ∀ k, dnB n k = [] → n % 2 ^ k = 0 := by
  intro k
  induction k with
  | zero => intro _; simp [Nat.mod_one]
  | succ k ih =>
    intro h
    rw [dnB] at h
    obtain ⟨h1, h2⟩ := List.append_eq_nil_iff.1 h
    have hm : n % 2 ^ (k + 1) = n % 2 ^ k + 2 ^ k * (n / 2 ^ k % 2) := Nat.mod_pow_succ
    have hb : n / 2 ^ k % 2 = 0 := by
      cases hb : (n / 2 ^ k % 2 == 1) with
      | true => rw [hb] at h1; cases h1
      | false => have : n / 2 ^ k % 2 ≠ 1 := by simpa using hb
                 omega
    rw [hm, ih h2, hb, Nat.mul_zero]
theorem dn_top (n : Nat) (h : n ≠ 0) : dnB n (n.log2 + 1) = n.log2 :: dnB n n.log2 := by
  have h1 := Nat.log2_self_le h
  have h2 := @Nat.lt_log2_self n
  have : n / 2 ^ n.log2 = 1 := by
    rw [Nat.pow_succ] at h2
    exact Nat.div_eq_of_lt_le (by omega) (by omega)
  rw [dnB, this]; rfl
def nextY (r : Int × Int) (k : Nat) : Nat → Sx
  | 0 => longIn r.2.toNat
  | m + 1 => tailY r (longIn r.2.toNat) m (k + 1)
structure RvI (s : St) (p3 p6 n7 : Nat) (r : Int × Int) (v : Sx) : Prop where
  fr : Fresh s
  h3 : s.h p3 = some (.cells (rnA r).cells 109 true true)
  h6 : s.h p6 = some (.cells zeroB.cells 33 true true)
  h7 : s.h n7 = some (.cells v.av.cells 33 true true)
theorem i120 (r : Int × Int) (hr : runOk r = true) (k m : Nat) (hk : k + m = r.2.toNat.log2) (Y : Sx)
    (hY : Y = nextY r k m)
    (ih : ∀ m', m = m' + 1 → PureC Tryz.env 120 [rnA r, .int .i64 ((k + 1 : Nat) : Int), .int .i64 ((2 ^ (k + 1) : Nat) : Int)] Y.av)
    (Q : AV → St → Prop) (v : Sx) (hQ : ∀ s, Q (aroundM k v Y).av s) (p3 p6 n7 : Nat) (s : St) (h : RvI s p3 p6 n7 r v) : f120j1 Q (.int .i64 k) (.ptr n7 0) (.int .i64 ((2 ^ k : Nat) : Int)) (.ptr p3 0) (.ptr p6 0) s := by
  have hn : r.2 = ((r.2.toNat : Nat) : Int) := by
    simp only [runOk, Bool.and_eq_true, decide_eq_true_eq] at hr; omega
  have hn1 : r.2.toNat ≠ 0 := by
    simp only [runOk, Bool.and_eq_true, decide_eq_true_eq] at hr; omega
  have hn2 : r.2.toNat ≤ 2 ^ 40 := by
    simp only [runOk, Bool.and_eq_true, decide_eq_true_eq] at hr; omega
  have hl3 := lt_of_h h.fr h.h3
  have hl6 := lt_of_h h.fr h.h6
  have hl7 := lt_of_h h.fr h.h7
  have hT := log_le hn2
  have z7 : s.h (s.nx + 7) = none := h.fr _ (by omega)
  have z8 : s.h (s.nx + 8) = none := h.fr _ (by omega)
  have b2 := bsl_two tf31 (by decide) (sx_len (halfS k)) (sx_ones (halfS k)) (sx_len v) (sx_ones v)
  have b1 : ∀ l, bsl 31 1 [(0, rawA l)] = some (.sl true [rawA l]) := fun l => bsl_one tf31 (by decide) (raw_len l) (raw_ones l)
  unfold f120j1
  rw [rch0]
  refine callPuD (c169 k (by omega)) (by simp [AV.closed]) ?_
  simp only [wx, wy, Nat.reduceAdd, Nat.reduceEqDiff, reduceCtorEq, h.h7, sx_part, b2, raw_b, b1]
  refine ⟨?_, ?_⟩
  · have hd : Nat.beq n7 (s.nx + 7) = false := by
      cases hb : Nat.beq n7 (s.nx + 7) with
      | false => rfl
      | true => have := Nat.eq_of_beq_eq_true hb; omega
    simp only [clear, List.all_cons, List.all_nil, Mark.apart, okLo, disj_nil, bit_of, Nat.reduceShiftRight, Nat.reduceMod, Bool.not_true, Bool.not_false, Option.isNone_none, Option.isNone_some, decide_true, decide_false, Nat.reduceEqDiff, Nat.zero_ne_one, wx, wy, Nat.reduceAdd, Nat.reduceEqDiff, reduceCtorEq]
    simp [disj, memB, hd]
  simp only [zf33, z7, z8, wx, wy, Nat.reduceAdd, Nat.reduceEqDiff, reduceCtorEq]
  rw [sto_all (z := 6) (v := rawA [rawA [(halfS k).av, v.av]]) (by simp only [adv_h, st_same]; rfl) rfl (raw_len _) (raw_ones _)]
  have hpow : 2 ^ k ≤ 2 ^ 40 := Nat.pow_le_pow_right (by decide) (by omega)
  have w2 : IntKind.i64.wrap (2 * ((2 ^ k : Nat) : Int)) = ((2 ^ (k + 1) : Nat) : Int) := by
    rw [Nat.pow_succ]; generalize 2 ^ k = P at *
    rw [IntWalk.i64_in _ (by omega)]; omega
  simp only [wx, wy, Nat.reduceAdd, Nat.reduceEqDiff, reduceCtorEq, old_ne hl3, old_ne0 hl3, h.h3, rn1, w2]
  have hraw6 : (rawB1 k v).cells.length = 6 := rfl
  have E : ∀ n, EF [] s (Ai.adv (s.set (s.nx + 7) (some (.cells (rawB1 k v).cells 33 true true))) (n + 8)) := fun n => ((EF.refl [] h.fr).adv (n := n + 8)).set (i := s.nx + 7) (by simp only [adv_nx]; omega) (.inl (by omega))
  have R : ∀ n, RuI (Ai.adv (s.set (s.nx + 7) (some (.cells (rawB1 k v).cells 33 true true))) (n + 8)) p6 (s.nx + 7) (rawB1 k v).cells := fun n =>
    ⟨(E n).fr, by rw [adv_h, st_other (by omega)]; exact h.h6, by rw [adv_h, st_same]⟩
  have hrp : Ai.part 6 true 0 (rawA [rawA [(halfS k).av, v.av]]).cells = some (rawB1 k v) := rfl
  have hrr : rawA [rawA [(halfS k).av, v.av]] = rawB1 k v := rfl
  have w1 : IntKind.i64.wrap ((k : Int) + 1) = ((k + 1 : Nat) : Int) := by rw [IntWalk.i64_in _ (by omega)]; rfl
  have hfin : ∀ (y : Sx), y = Y → CallWiD Tryz.env 65 [.str [108, 101, 116], .sl true [rawB1 k v, y.av]] (rch (Ai.adv (s.set (s.nx + 7) (some (.cells (rawB1 k v).cells 33 true true))) 24) [.fn 65 [] [], .str [108, 101, 116], .sl true [rawB1 k v, y.av]]) (Ai.adv (s.set (s.nx + 7) (some (.cells (rawB1 k v).cells 33 true true))) 24) fun t51 s4 =>
      s4.h (s.nx + 23) = none ∧ Bnd (sto 6 (.ptr p6 0) t51 s4) fun s5 => RetP ((resC [ld 6 true (.ptr p6 0) s5]).map tupV) fun w => Q w s5 := by
    intro y hy
    subst hy
    refine let120 k v y (R 16).fr fun s2 he2 => ⟨?_, fin120 _ ((R 16).ext he2 (by simp) (by simp)) hQ⟩
    rw [he2.h _ (by simp only [adv_nx, set_nx]; omega) (by simp), adv_h, st_other (by omega)]
    exact h.fr _ (by omega)
  have hT1 := Nat.log2_self_le hn1
  have hT2 := @Nat.lt_log2_self r.2.toNat
  by_cases hA : 2 ^ (k + 1) ≤ r.2.toNat
  · have cA : decide (((2 ^ (k + 1) : Nat) : Int) ≤ r.2) = true := by simp only [decide_eq_true_eq]; omega
    cases m with
    | zero =>
      exfalso
      rw [← hk, Nat.add_zero] at hT2
      omega
    | succ m' =>
      have hc := ih m' rfl
      simp only [cA, if_true, hrp, rn_part, w1, wx, wy, Nat.reduceAdd, Nat.reduceEqDiff, reduceCtorEq]
      rw [show ∀ S : St, rch S [.fn 120 [] [], rnA r, .int .i64 ((k + 1 : Nat) : Int), .int .i64 ((2 ^ (k + 1) : Nat) : Int)] = [] from fun _ => rfl]
      refine callPuD hc (by simp [AV.closed, closedL, rnA]) ?_
      rw [bsl_two tf31 (by decide) hraw6 rfl (sx_len Y) (sx_ones Y)]
      simp only [Bnd_some]
      exact hfin Y rfl
  · have cA : decide (((2 ^ (k + 1) : Nat) : Int) ≤ r.2) = false := by simp only [decide_eq_false_iff_not]; omega
    have hm0 : m = 0 := by
      rcases Nat.eq_zero_or_pos m with h0 | h0
      · exact h0
      · exfalso
        have : 2 ^ (k + 1) ≤ 2 ^ r.2.toNat.log2 := Nat.pow_le_pow_right (by decide) (by omega)
        omega
    subst hm0
    have hk : k = r.2.toNat.log2 := by omega
    have hY : Y = longIn r.2.toNat := hY
    have hdn : bitsDn r.2.toNat = dnB r.2.toNat (k + 1) := by rw [hk]; exact dnB_eq _ _
    unfold longIn at hY
    rw [hdn] at hY
    by_cases hB : 2 ^ k = r.2.toNat
    · have cB : (((2 ^ k : Nat) : Int) == r.2) = true := by rw [beq_iff_eq]; omega
      rw [← hB, dn_pow] at hY
      have hY : Y = halfS k := hY
      simp only [cA, cB, if_true, hrp, wx, wy, Nat.reduceAdd, Nat.reduceEqDiff, reduceCtorEq]
      rw [rch0]
      refine callPuD (c169 k (by omega)) (by simp [AV.closed]) ?_
      rw [bsl_two tf31 (by decide) hraw6 rfl (sx_len _) (sx_ones _)]
      simp only [Bnd_some]
      exact hfin (halfS k) hY.symm
    · have cB : (((2 ^ k : Nat) : Int) == r.2) = false := by rw [beq_eq_false_iff_ne]; omega
      have htop : dnB r.2.toNat (k + 1) = k :: dnB r.2.toNat k := by
        have ht := dn_top r.2.toNat hn1
        rw [← hk] at ht
        exact ht
      have hne1 : ((dnB r.2.toNat (k + 1)).length == 1) = false := by
        rw [htop]
        cases hd : dnB r.2.toNat k with
        | nil =>
          exfalso
          have hz := dn_nil _ _ hd
          rw [← hk] at hT1 hT2
          rw [Nat.pow_succ] at hT2
          have := Nat.mod_eq_sub_mod hT1
          rw [this] at hz
          have : r.2.toNat - 2 ^ k < 2 ^ k := by omega
          rw [Nat.mod_eq_of_lt this] at hz
          omega
        | cons a b => rfl
      rw [hne1, cond_false] at hY
      have hlen := dnB_len r.2.toNat (k + 1)
      simp only [cA, cB, hrr, Bool.false_eq_true, if_false]
      refine ⟨k + 1 + 1, ?_⟩
      rw [← hk] at hT2
      have := l120 Q k v p6 (s.nx + 7) r.2.toNat hn2 (dnB r.2.toNat (k + 1)) (by rw [htop]; simp) (by omega) (fun s => by rw [← hY]; exact hQ s) (k + 1) [] .nils (Ai.adv (s.set (s.nx + 7) (some (.cells (rawB1 k v).cells 33 true true))) 24) (by omega) (by simp) (by simp) (R 16) gw_nil (by simp [idOf]) (by simp [idOf])
      rw [show 2 ^ (k + 1) / 2 = 2 ^ k by rw [Nat.pow_succ]; omega, Nat.mod_eq_of_lt hT2, show (((k + 1 : Nat) : Int) - 1) = (k : Int) by omega, ← hn] at this
      exact this
theorem c65w {s : St} {K : AV → St → Prop} {x : AV} {nm : List UInt8} {ps : List (AV × Sx)} (fr : Fresh s) (hps : ∀ p ∈ ps, Raw p) (hl : ps.length ≤ 2 ^ 20) (hne : ps ≠ []) (src : ∀ q', EF [] s q' → srcCells 6 x q' = some ((ps.map Prod.fst).flatMap AV.cells))
    (hK : ∀ s', EF [] s s' → K (lstS nm (ps.map Prod.snd)).av s') : CallWi Tryz.env 65 [.str nm, x] s K := by
  obtain ⟨r, s', hw, i, e1, e2, e3, g⟩ := f65_run _ _ _ (Q := fun r s' => ∃ i, EF [] s s' ∧ r = refA i (ps.length + 1) ∧ s.nx ≤ i ∧ Gw 33 6 0 s' (.ref i 0 (ps.length + 1) none 33) ((atS 3 nm).av :: ps.map Prod.fst)) (c65g (x := x) (nm := nm) (vs := ps.map Prod.fst) fr (fun v hv => by obtain ⟨a, ha, rfl⟩ := List.mem_map.1 hv; exact ⟨(hps a ha).1, (hps a ha).2.1⟩) (by rw [List.length_map]; exact hl) (by simpa using hne) src fun i q' h1 h2 g => ⟨i, h1, by rw [List.length_map], h2, by rw [List.length_map] at g; exact g⟩)
  subst e2
  refine callWiZ (by kernel_rfl) ⟨_, s', hw, ?_⟩
  rw [pur_rawA hps g 4]
  simp only [Bnd_some]
  exact hK _ (e1.drop fun j hj => .inl (by rw [List.mem_singleton.1 hj]; exact e3))
theorem c120 (r : Int × Int) (hr : runOk r = true) : ∀ (m k : Nat), k + m = r.2.toNat.log2 → PureC Tryz.env 120 [rnA r, .int .i64 (k : Int), .int .i64 ((2 ^ k : Nat) : Int)] (tailY r (longIn r.2.toNat) m k).av := by
  have hpt : point r.1 = true := by simp only [runOk, Bool.and_eq_true] at hr; exact hr.1.1
  have hok : ∀ q ∈ [(r.1, (1 : Int))], runOk q = true := mem_one (by simp [runOk, hpt])
  have hT := run_log hr
  have main : ∀ (m k : Nat) (Y : Sx), k + m = r.2.toNat.log2 → Y = nextY r k m →
      (∀ m', m = m' + 1 → PureC Tryz.env 120 [rnA r, .int .i64 ((k + 1 : Nat) : Int), .int .i64 ((2 ^ (k + 1) : Nat) : Int)] Y.av) → PureC Tryz.env 120 [rnA r, .int .i64 (k : Int), .int .i64 ((2 ^ k : Nat) : Int)] (aroundM k (segS r k) Y).av := by
    intro m k Y hk hY ih
    refine pure_q (f120_run _ _ _ _ ?_)
    unfold f120
    refine ⟨rfl, ?_⟩
    have b1 : bld 109 [(0, .int .i64 r.1), (1, .int .i64 1)] = some (rnA (r.1, 1)) := by rw [bf109]; rfl
    have b2 : bsl 25 1 [(0, rnA (r.1, 1))] = some (.sl true [rnA (r.1, 1)]) := bsl_one tf25 (by decide) rfl rfl
    have h121 := c121 [(r.1, 1)] hok (by simp) (by simp [sumR])
    have hlit : litS [(r.1, 1)] = atS 6 (xscM [r.1]) := rfl
    rw [hlit] at h121
    simp only [zf33, rn0, b1, b2, wx, wy, Nat.reduceAdd, Nat.reduceEqDiff, reduceCtorEq]
    refine callPur (args2 := [.sl false [rnA (r.1, 1)]]) (ids := []) rfl h121 ?_
    simp only [List.isEmpty_nil, Bool.true_or, if_true, wx, wy, Nat.reduceAdd, Nat.reduceEqDiff, reduceCtorEq]
    rw [sto_sx]
    have e0 : St.empty.nx = 0 := rfl
    simp only [Bnd_some, e0, Nat.zero_add]
    generalize hB : ((St.empty.set 0 (some (.cells (rnA r).cells 109 true true))).set 1 (some (.cells (AV.agg [.bool false, .int .i64 0, .str [], .int .i64 0, .int .i64 0, .nils]).cells 33 true true))).set 10 (some (.cells (atS 6 (xscM [r.1])).av.cells 33 true true)) = B
    have hBn : B.nx = 0 := by rw [← hB]; rfl
    have hBf : ∀ j, 11 ≤ j → B.h j = none := fun j hj => by
      rw [← hB, st_other (by omega), st_other (by omega), st_other (by omega)]; rfl
    have I0 : ∀ n, RvI (Ai.adv B (n + 11)) 0 1 10 r (atS 6 (xscM [r.1])) := fun n =>
      ⟨fun j hj => hBf j (by simp only [adv_nx, hBn] at hj; omega), by rw [adv_h, ← hB, st_other (by omega), st_other (by omega), st_same], by rw [adv_h, ← hB, st_other (by omega), st_same]; rfl, by rw [adv_h, ← hB, st_same]⟩
    cases k with
    | zero =>
      simp only [show decide (((0 : Nat) : Int) > 0) = false from rfl, wx, wy, Nat.reduceAdd, Nat.reduceEqDiff, reduceCtorEq]
      exact i120 r hr 0 m hk Y hY ih _ (atS 6 (xscM [r.1])) (fun s => pureQ_closed (sx_closed _)) 0 1 10 _ (I0 4)
    | succ j =>
      have c1 : decide (((j + 1 : Nat) : Int) > 0) = true := by simp
      have w1 : IntKind.i64.wrap (((j + 1 : Nat) : Int) - 1) = (j : Int) := by rw [IntWalk.i64_in _ (by omega)]; omega
      simp only [c1, w1, wx, wy, Nat.reduceAdd, Nat.reduceEqDiff, reduceCtorEq]
      refine callPu (c169 j (by omega)) (by simp [AV.closed]) ?_
      refine callPu (c169 j (by omega)) (by simp [AV.closed]) ?_
      rw [bsl_two tf31 (by decide) (sx_len _) (sx_ones _) (sx_len _) (sx_ones _)]
      simp only [Bnd_some]
      have I1 := I0 13
      refine c65w (nm := stpp) (ps := [((halfS j).av, halfS j), ((halfS j).av, halfS j)]) I1.fr (mem_two (raw_sx _) (raw_sx _)) (by simp) (by simp) (fun q' _ => src_sl true [halfS j, halfS j] q') fun s' he => ?_
      have h7 : s'.h 10 = some (.cells (atS 6 (xscM [r.1])).av.cells 33 true true) := by rw [he.h _ (by simp only [adv_nx]; omega) (by simp)]; exact I1.h7
      rw [sto_all (z := 6) h7 (sx_len _) (sx_len _) (sx_ones _)]
      simp only [Bnd_some]
      have hn := he.nx
      simp only [adv_nx] at hn
      refine i120 r hr (j + 1) m hk Y hY ih _ (segS r (j + 1)) (fun s => pureQ_closed (sx_closed _)) 0 1 10 _ ⟨he.fr.set (by omega), ?_, ?_, by rw [st_same]; rfl⟩
      · rw [st_other (by omega), he.h _ (by simp only [adv_nx]; omega) (by simp)]; exact I1.h3
      · rw [st_other (by omega), he.h _ (by simp only [adv_nx]; omega) (by simp)]; exact I1.h6
  intro m
  induction m with
  | zero => intro k hk; exact main 0 k _ hk rfl (fun m' h => by cases h)
  | succ m ih => intro k hk; exact main (m + 1) k _ hk rfl (fun m' h => by cases h; exact ih (k + 1) (by omega))
end Go.Proofs.YtdehdahimkcakaaGreatDoor
end
section
set_option linter.unusedVariables false
set_option linter.unusedSimpArgs false
set_option maxRecDepth 100000
set_option maxHeartbeats 4000000
namespace Go.Proofs.YtdehdahimkcakaaGreatDoor
open Go Ai
theorem slc_mid {α : Type} {f : α → AV} {t e : TypeId} {z b : Nat} {ag : Bool} {s : St} (h : SlTy t e z ag b) (he : ∀ a, (f a).cells.length = z) (l : List α) {i j : Nat} (hij : i ≤ j) (hj : j ≤ l.length) (kd kd' : IntKind) : slc t (.sl false (l.map f)) (some (.int kd (i : Int))) (some (.int kd' (j : Int))) none s = some (.sl false (((l.drop i).take (j - i)).map f)) := by
  have hh : ((l.map f).isEmpty || ((l.map f).head?).any fun v => v.cells.length == z) = true := by
    cases l with
    | nil => rfl
    | cons a l => simp [he]
  simp only [slc, sliceA, h.u, h.l, Option.bind_some]
  rw [if_pos hh]
  simp [bounds, optI, asI, hij, hj]
section
variable (l : List (Int × Int)) (hl : l.length ≤ 65536)
include hl in
theorem l67b (Q : AV → St → Prop) (ih1 : AV → AV → AV → St → Prop) (t3 t4 : AV) (s0 : St) :
    ∀ (m k : Nat) (n : Int) (c : Nat), k + m = l.length → (∀ c', f67j2 Q ih1 (.sl false (l.map rnA)) t4 (.int .i64 ((k + greedy (l.drop k) n : Nat) : Int)) t3 (adv s0 c')) →
      f67l2 Q ih1 (m + 1) (.sl false (l.map rnA)) t3 t4 (.int .i64 n) (.int .i64 k) (adv s0 c) := by
  intro m
  induction m with
  | zero =>
    intro k n c hk hf
    show f67l2s Q ih1 (f67l2 Q ih1 0) _ _ _ _ _ _
    rw [List.drop_eq_nil_of_le (by omega)] at hf
    simp only [f67l2s, ln25s, List.length_map, Int.ofNat_lt, show ¬ (k < l.length) by omega, decide_false, wx, wy, Nat.reduceAdd, Nat.reduceEqDiff, reduceCtorEq]
    exact hf _
  | succ m ih =>
    intro k n c hk hf
    show f67l2s Q ih1 (f67l2 Q ih1 (m + 1)) _ _ _ _ _ _
    obtain ⟨r, hr⟩ : ∃ r, l[k]? = some r := ⟨_, List.getElem?_eq_getElem (by omega)⟩
    have hlt : k < l.length := by omega
    rw [get_drop l k r hr, greedy] at hf
    simp only [f67l2s, ln25s, List.length_map, Int.ofNat_lt, hlt, decide_true, ix_map encRn false hr, rn1, wx, wy, Nat.reduceAdd, Nat.reduceEqDiff, reduceCtorEq]
    cases h : decide (IntKind.i64.wrap (n + r.2) ≤ 1000) with
    | true =>
      rw [h] at hf
      simp only [h, ix_map encRn false hr, rn1, wx, wy, Nat.reduceAdd, Nat.reduceEqDiff, reduceCtorEq]
      rw [wrap_len k _ hlt (by have : maxLen = 9223372036854775807 := rfl; omega)]
      refine ih (k + 1) _ _ (by omega) fun c' => ?_
      have := hf c'
      simp only [cond_true] at this
      rw [show k + 1 + greedy (l.drop (k + 1)) (IntKind.i64.wrap (n + r.2)) = k + (greedy (l.drop (k + 1)) (IntKind.i64.wrap (n + r.2)) + 1) by omega]
      exact this
    | false =>
      rw [h] at hf
      simp only [h, wx, wy, Nat.reduceAdd, Nat.reduceEqDiff, reduceCtorEq]
      exact hf _
include hl in
theorem l67a (hok : ∀ r ∈ l, runOk r = true) (Q : AV → St → Prop) (ps : List Sx) (hQ : ∀ x s, Fresh s → Gw 33 6 0 s x (ps.map Sx.av) → f67j1 Q x s) :
    ∀ (m i : Nat) (p : List Sx) (x : AV) (s : St), l.length - i ≤ m → i ≤ l.length → p.length ≤ i → Fresh s → Gw 33 6 0 s x (p.map Sx.av) → p ++ txtGo litS longM m (l.drop i) = ps → f67l1 Q (m + 1) (.sl false (l.map rnA)) x (.int .i64 i) s := by
  intro m
  induction m with
  | zero =>
    intro i p x s hm hi hp fr g he
    show f67l1s Q (f67l1 Q 0) _ _ _ s
    have c1 : decide ((i : Int) < (l.length : Int)) = false := by simp; omega
    have he : p ++ [] = ps := he
    rw [List.append_nil] at he
    subst he
    simp only [f67l1s, ln25rs, c1, wx, wy, Nat.reduceAdd, Nat.reduceEqDiff, reduceCtorEq]
    exact hQ _ _ fr.adv g.adv
  | succ m ih =>
    intro i p x s hm hi hp fr g he
    show f67l1s Q (f67l1 Q (m + 1)) _ _ _ s
    by_cases hlt : i < l.length
    · have c1 : decide ((i : Int) < (l.length : Int)) = true := by simp; omega
      obtain ⟨r, hr⟩ : ∃ r, l[i]? = some r := ⟨_, List.getElem?_eq_getElem hlt⟩
      have hix := ix_map encRn false hr .i64
      have hro := hok r (List.mem_of_getElem? hr)
      have hro' := hro
      simp only [runOk, Bool.and_eq_true, decide_eq_true_eq] at hro'
      have hgd := get_drop l i r hr
      have b31 : ∀ v : Sx, bsl 31 1 [(0, v.av)] = some (.sl true [v.av]) := fun v => bsl_one tf31 (by decide) (sx_len v) (sx_ones v)
      have w0 : IntKind.i64.wrap (0 + r.2) = r.2 := by rw [Int.zero_add]; exact IntWalk.i64_in _ (by omega)
      have w1 : IntKind.i64.wrap ((i : Int) + 1) = ((i + 1 : Nat) : Int) := by rw [IntWalk.i64_in _ (by omega)]; rfl
      simp only [f67l1s, ln25rs, c1, hix, rn1, wx, wy, Nat.reduceAdd, Nat.reduceEqDiff, reduceCtorEq]
      cases hc : decide (r.2 > 1000) with
      | true =>
        have hc' := of_decide_eq_true hc
        have hg0 : greedy (r :: l.drop (i + 1)) 0 = 0 := by
          rw [greedy, w0]
          have : decide (r.2 ≤ 1000) = false := by simp; omega
          rw [this]; rfl
        have h120 := c120 r hro r.2.toNat.log2 0 (by omega)
        rw [← tail_long] at h120
        simp only [rn_part, wx, wy, Nat.reduceAdd, Nat.reduceEqDiff, reduceCtorEq]
        refine callPu h120 (by simp [AV.closed, closedL, rnA]) ?_
        simp only [b31, wx, wy, Nat.reduceAdd, Nat.reduceEqDiff, reduceCtorEq]
        rw [app_map tf31 encSx g.adv (by omega) (by omega)]
        simp only [w1, wx, wy, Nat.reduceAdd, Nat.reduceEqDiff, reduceCtorEq]
        rw [hgd] at he
        simp only [txtGo, hg0, beq_self_eq_true, cond_true] at he
        exact ih (i + 1) (p ++ [longM r]) _ _ (by omega) (by omega) (by simp; omega) (fresh_app fr _ _ (by omega)) (gw_map1 encSx) (by rw [← he, List.append_assoc]; rfl)
      | false =>
        have hc' := of_decide_eq_false hc
        have hg0 : greedy (r :: l.drop (i + 1)) 0 ≠ 0 := by
          rw [greedy, w0]
          have : decide (r.2 ≤ 1000) = true := by simp; omega
          rw [this]; simp
        rw [← hgd] at hg0
        have hgle := greedy_le (l.drop i) 0
        rw [List.length_drop] at hgle
        rw [hgd] at he
        simp only [txtGo] at he
        rw [← hgd] at he
        have hck := chunk_list (l.drop i) fun q hq => hok q (List.mem_of_mem_drop hq)
        have hgs := greedy_sum (l.drop i) 0 (fun q hq => hok q (List.mem_of_mem_drop hq)) (by decide) (by decide)
        generalize hgg : greedy (l.drop i) 0 = G at *
        have hf : (G == 0) = false := by simpa using hg0
        rw [hf, cond_false] at he
        simp only [wx, wy, Nat.reduceAdd, Nat.reduceEqDiff, reduceCtorEq]
        refine ⟨l.length - i + 1, l67b l hl Q (f67l1 Q (m + 1)) x (.int .i64 i) s (l.length - i) i 0 _ (by omega) fun c' => ?_⟩
        rw [hgg]
        unfold f67j2
        have hsl := slc_mid (s := Ai.adv s (c' + 11)) tf25 (f := rnA) (fun _ => rfl) l (i := i) (j := i + G) (by omega) (by omega) .i64 .i64
        rw [show i + G - i = G by omega] at hsl
        have hcl : (AV.sl false (((l.drop i).take G).map rnA)).closed = true := sl_closed_map _ _ fun _ _ => rfl
        simp only [hsl, wx, wy, Nat.reduceAdd, Nat.reduceEqDiff, reduceCtorEq]
        refine callPu (c121 ((l.drop i).take G) (fun q hq => hok q (List.mem_of_mem_drop (List.mem_of_mem_take hq))) (by rw [List.length_take, List.length_drop]; omega) (by omega)) (by simpa using hcl) ?_
        simp only [zf33, wx, wy, Nat.reduceAdd, Nat.reduceEqDiff, reduceCtorEq]
        rw [sto_sx]
        simp only [sx_part, b31, wx, wy, Nat.reduceAdd, Nat.reduceEqDiff, reduceCtorEq]
        have gg : Gw 33 6 0 (Ai.adv (s.set (s.nx + (c' + 8)) (some (.cells (litS ((l.drop i).take G)).av.cells 33 true true))) (c' + 16)) x (p.map Sx.av) := by
          refine g.keep fun j hj => ?_
          have := g.id_lt fr j hj
          rw [adv_h, st_other (by omega)]
        rw [app_map tf31 encSx gg (by omega) (by omega)]
        simp only [wx, wy, Nat.reduceAdd, Nat.reduceEqDiff, reduceCtorEq]
        rw [List.drop_drop] at he
        refine ih (i + G) (p ++ [litS ((l.drop i).take G)]) _ _ (by omega) (by omega) (by simp; omega) ?_ (gw_map1 encSx) (by rw [← he, List.append_assoc]; rfl)
        rw [← adv_set]
        refine Fresh.set ?_ (by simp only [adv_nx, nx_drop, set_nx]; omega)
        rw [← adv_drop]
        exact fresh_drop (fresh_set fr _ (by omega)) _
    · have c1 : decide ((i : Int) < (l.length : Int)) = false := by simp; omega
      have hd : l.drop i = [] := List.drop_eq_nil_of_le (by omega)
      rw [hd] at he
      have he : p ++ [] = ps := he
      rw [List.append_nil] at he
      subst he
      simp only [f67l1s, ln25rs, c1, wx, wy, Nat.reduceAdd, Nat.reduceEqDiff, reduceCtorEq]
      exact hQ _ _ fr.adv g.adv
end
theorem c67 (l : List (Int × Int)) (hok : ∀ r ∈ l, runOk r = true) (hl : l.length ≤ 65536) : PureC Tryz.env 67 [.sl false (l.map rnA)] (lsA (txtL l)) := by
  refine pure_q (f67_run _ _ ?_)
  unfold f67
  refine ⟨l.length + 1, l67a l hl hok _ (txtL l) (fun x s fr g => ?_) l.length 0 [] .nils _ (by omega) (by omega) (by simp) fresh_empty.adv gw_nil rfl⟩
  unfold f67j1
  exact pureQ_of (pur_map tf31 g.adv (fun a _ => sx_closed a) (fun a _ => (sx_agg a).symm) 11)
theorem l18 (items : List Sx) (hlen : items.length ≤ maxLen) (ih0 : ∀ s ∈ items, PureC Tryz.env 18 [s.av, s.av, .bool true] (.bool true)) (s0 : Sx) (hc : ∃ l k x p a, s0 = .mk l k x p a items) (b1 b2 : Nat) (e1 e2 : TypeId) (Q : AV → St → Prop) (hQ : ∀ s, Q (.bool true) s) :
    ∀ (m i : Nat) (s : St), i + m = items.length → s.h b1 = some (.cells s0.av.cells e1 true true) → s.h b2 = some (.cells s0.av.cells e2 true true) → f18l1 Q (m + 1) (.bool true) (.ptr b1 0) (.ptr b2 0) (.int .i64 i) s := by
  obtain ⟨l, k, x, p, a, rfl⟩ := hc
  intro m
  induction m with
  | zero =>
    intro i s hi hs1 hs2
    show f18l1s Q (f18l1 Q 0) _ _ _ _ s
    have c1 : decide ((i : Int) < (items.length : Int)) = false := by simp; omega
    simp only [f18l1s, f18j1, hs1, mk_cells, ln31s, avs_length, c1, wx, wy, Nat.reduceAdd, Nat.reduceEqDiff, reduceCtorEq]
    exact hQ _
  | succ m ih =>
    intro i s hi hs1 hs2
    show f18l1s Q (f18l1 Q (m + 1)) _ _ _ _ s
    have c1 : decide ((i : Int) < (items.length : Int)) = true := by simp; omega
    obtain ⟨y, hy⟩ : ∃ y, items[i]? = some y := ⟨_, List.getElem?_eq_getElem (by omega)⟩
    have hix := ix_avs false items i y hy
    have w1 : IntKind.i64.wrap ((i : Int) + 1) = ((i + 1 : Nat) : Int) := by have : maxLen = 9223372036854775807 := rfl; rw [IntWalk.i64_in _ (by omega)]; rfl
    simp only [f18l1s, hs1, hs2, mk_cells, ln31s, avs_length, c1, hix, sx_part, wx, wy, Nat.reduceAdd, Nat.reduceEqDiff, reduceCtorEq]
    refine callPuD (ih0 y (List.mem_of_getElem? hy)) (by simp [sx_closed, AV.closed]) ?_
    simp only [f18j2, w1, wx, wy, Nat.reduceAdd, Nat.reduceEqDiff, reduceCtorEq]
    exact ih (i + 1) _ (by omega) (by rw [adv_h]; exact hs1) (by rw [adv_h]; exact hs2)
theorem c18 : ∀ x : Sx, x.ok = true → PureC Tryz.env 18 [x.av, x.av, .bool true] (.bool true) := by
  refine sx_all fun l k t p a items ih ho => ?_
  obtain ⟨h1, h2⟩ := ok_items ho
  refine pure_q (f18_run _ _ _ _ ?_)
  unfold f18
  refine ⟨rfl, rfl, ?_⟩
  have e1 : ∀ i : Int, (i != i) = false := fun i => by simp
  have e2 : ∀ b : Bool, (b != b) = false := fun b => by cases b <;> rfl
  cases l with
  | false =>
    simp only [mk_cells, nef4, e1, e2, ln31s, avs_length, wx, wy, Nat.reduceAdd, Nat.reduceEqDiff, reduceCtorEq]
    exact pureQ_closed rfl
  | true =>
    simp only [mk_cells, nef4, e1, e2, ln31s, avs_length, wx, wy, Nat.reduceAdd, Nat.reduceEqDiff, reduceCtorEq]
    refine ⟨items.length + 1, l18 items h1 (fun s hs => ih s hs (h2 s hs)) (Sx.mk true k t p a items) ⟨true, k, t, p, a, rfl⟩ St.empty.nx (St.empty.nx + 1) 33 33 _ (fun s => pureQ_closed rfl) items.length 0 _ (by omega) ?_ ?_⟩
    · rw [adv_h, st_other (by omega), st_same]; rfl
    · rw [adv_h, st_same]; rfl
end Go.Proofs.YtdehdahimkcakaaGreatDoor
end
section
set_option linter.unusedVariables false
set_option linter.unusedSimpArgs false
set_option maxRecDepth 100000
set_option maxHeartbeats 4000000
namespace Go.Proofs.YtdehdahimkcakaaGreatDoor
open Go Ai
mutual
def Sx.sz : Sx → Nat
  | .mk _ _ _ _ _ items => 1 + Sx.szs items
def Sx.szs : List Sx → Nat
  | [] => 0
  | s :: l => s.sz + Sx.szs l
end
theorem szs_mem {l : List Sx} {s : Sx} (h : s ∈ l) : s.sz ≤ Sx.szs l := by
  induction l with
  | nil => cases h
  | cons a l ih =>
    simp only [Sx.szs]
    rcases List.mem_cons.1 h with rfl | h
    · omega
    · have := ih h; omega
theorem sizs_eq : ∀ (l : List Sx), (∀ s ∈ l, s.siz = (s.sz : Int)) → ∀ n : Nat, n + Sx.szs l < 2 ^ 62 → Sx.sizs l n = ((n + Sx.szs l : Nat) : Int) := by
  intro l
  induction l with
  | nil => intro _ n _; rfl
  | cons s l ih =>
    intro h n hn
    simp only [Sx.szs] at hn ⊢
    simp only [Sx.sizs]
    rw [h s (List.mem_cons_self ..), IntWalk.i64_in _ (by omega)]
    have := ih (fun x hx => h x (List.mem_cons_of_mem _ hx)) (n + s.sz) (by omega)
    rw [show ((n : Int) + (s.sz : Int)) = ((n + s.sz : Nat) : Int) by omega, this, Nat.add_assoc]
theorem siz_eq : ∀ s : Sx, s.sz < 2 ^ 62 → s.siz = (s.sz : Int) := by
  refine sx_all fun l k x p a items ih hs => ?_
  simp only [Sx.sz] at hs ⊢
  simp only [Sx.siz]
  exact sizs_eq items (fun s hm => ih s hm (by have := szs_mem hm; omega)) 1 hs
def SzP (s : Sx) : Prop := (s.sz ≤ 5000 → s.size = (s.sz : Int)) ∧ (5000 < s.sz → 5000 < s.size ∧ s.size ≤ (s.sz : Int))
theorem sizes_p : ∀ (l : List Sx), (∀ s ∈ l, SzP s) → ∀ n : Nat, 1 ≤ n → n + Sx.szs l < 2 ^ 62 → (n + Sx.szs l ≤ 5000 → Sx.sizes l n = ((n + Sx.szs l : Nat) : Int)) ∧ (5000 < n + Sx.szs l → 5000 < Sx.sizes l n ∧ Sx.sizes l n ≤ ((n + Sx.szs l : Nat) : Int)) := by
  intro l
  induction l with
  | nil =>
    intro _ n h1 hn
    simp only [Sx.szs, Sx.sizes, Nat.add_zero]
    refine ⟨fun _ => by trivial, fun h => ⟨by omega, by omega⟩⟩
  | cons s l ih =>
    intro h n h1 hn
    simp only [Sx.szs] at hn ⊢
    simp only [Sx.sizes]
    obtain ⟨p1, p2⟩ := h s (List.mem_cons_self ..)
    by_cases hc : n ≤ 5000
    · have c1 : decide ((n : Int) ≤ 5000) = true := by simp; omega
      rw [c1, cond_true]
      obtain ⟨m, hm, hm2, hm3⟩ : ∃ m : Nat, s.size = (m : Int) ∧ m ≤ s.sz ∧ (s.sz ≤ 5000 → m = s.sz) ∧ (5000 < s.sz → 5000 < m) := by
        by_cases hs : s.sz ≤ 5000
        · exact ⟨s.sz, p1 hs, Nat.le_refl _, fun _ => rfl, fun h => by omega⟩
        · obtain ⟨q1, q2⟩ := p2 (by omega)
          exact ⟨s.size.toNat, by omega, by omega, fun h => by omega, fun _ => by omega⟩
      rw [hm, IntWalk.i64_in _ (by omega), show ((n : Int) + (m : Int)) = ((n + m : Nat) : Int) by omega]
      obtain ⟨i1, i2⟩ := ih (fun x hx => h x (List.mem_cons_of_mem _ hx)) (n + m) (by omega) (by omega)
      by_cases hs : s.sz ≤ 5000
      · have := hm3.1 hs
        subst this
        rw [← Nat.add_assoc]
        exact ⟨i1, i2⟩
      · have h5 := hm3.2 (by omega)
        refine ⟨fun hh => by omega, fun _ => ?_⟩
        obtain ⟨j1, j2⟩ := i2 (by omega)
        exact ⟨j1, by omega⟩
    · have c1 : decide ((n : Int) ≤ 5000) = false := by simp; omega
      rw [c1, cond_false]
      exact ⟨fun hh => by omega, fun _ => ⟨by omega, by omega⟩⟩
theorem size_p : ∀ s : Sx, s.sz < 2 ^ 62 → SzP s := by
  refine sx_all fun l k x p a items ih hs => ?_
  simp only [SzP, Sx.sz] at hs ⊢
  simp only [Sx.size]
  exact sizes_p items (fun s hm => ih s hm (by have := szs_mem hm; omega)) 1 (by omega) hs
theorem size_siz (s : Sx) (h : s.sz < 2 ^ 62) : decide (s.size > 2000) = decide (s.siz > 2000) := by
  rw [siz_eq s h]
  obtain ⟨h1, h2⟩ := size_p s h
  rw [decide_eq_decide]
  by_cases hs : s.sz ≤ 5000
  · rw [h1 hs]
  · have := h2 (by omega)
    omega
theorem szs_le (l : List Sx) (d : Nat) (h : ∀ s ∈ l, s.sz ≤ d) : Sx.szs l ≤ l.length * d := by
  induction l with
  | nil => simp [Sx.szs]
  | cons a l ih =>
    have h1 := h a (List.mem_cons_self ..)
    have h2 := ih fun s hs => h s (List.mem_cons_of_mem _ hs)
    simp only [Sx.szs, List.length_cons, Nat.succ_mul]; omega
theorem sz_at (k : Int) (x : List UInt8) : (atS k x).sz = 1 := rfl
theorem sz_half (k : Nat) : (halfS k).sz = 1 := rfl
theorem sz_lst (nm : List UInt8) (l : List Sx) : (lstS nm l).sz = 2 + Sx.szs l := by
  simp only [lstS, Sx.sz, Sx.szs, sz_at]; omega
theorem sz_around (k : Nat) (v y : Sx) : (aroundM k v y).sz = 5 + v.sz + y.sz := by
  unfold aroundM bindS
  rw [sz_lst]
  simp only [Sx.szs, Sx.sz, sz_half]; omega
theorem sz_up : ∀ (k : Nat) (y : Sx), (longUp k y).sz ≤ 9 * k + y.sz := by
  intro k
  induction k with
  | zero => intro y; simp [longUp]
  | succ k ih =>
    intro y
    have h := ih (aroundM (k + 1) (lstS stpp [halfS k, halfS k]) y)
    rw [sz_around, sz_lst] at h
    simp only [Sx.szs, sz_half] at h
    show (longUp k _).sz ≤ _
    omega
theorem sz_in (n : Nat) (h : n.log2 ≤ 40) : (longIn n).sz ≤ 43 := by
  unfold longIn
  have hl : (bitsDn n).length ≤ 41 := by
    have := bits_len n (n.log2 + 1)
    unfold bitsDn
    rw [List.length_reverse]; omega
  cases hb : ((bitsDn n).length == 1) with
  | true =>
    simp only [cond_true]
    cases bitsDn n with
    | nil => exact (by decide : zeroSx0.sz ≤ 43)
    | cons a t => exact (by rw [List.map_cons]; show (halfS a).sz ≤ 43; rw [sz_half]; decide)
  | false =>
    rw [cond_false, sz_lst]
    have := szs_le ((bitsDn n).map halfS) 1 (fun s hs => by obtain ⟨a, _, rfl⟩ := List.mem_map.1 hs; rw [sz_half]; exact Nat.le_refl _)
    rw [List.length_map] at this
    omega
theorem sz_long {r : Int × Int} (h : runOk r = true) : (longM r).sz ≤ 500 := by
  have hl := run_log h
  unfold longM
  rw [sz_around, sz_at]
  have h1 := sz_up r.2.toNat.log2 (longIn r.2.toNat)
  have h2 := sz_in r.2.toNat hl
  omega
theorem sz_txts (n : Nat) : ∀ (l : List (Int × Int)), (∀ r ∈ l, runOk r = true) → ∀ p ∈ txtGo litS longM n l, p.sz ≤ 500 := by
  induction n with
  | zero => intro l _ p hp; cases hp
  | succ n ih =>
    intro l hl p hp
    cases l with
    | nil => cases hp
    | cons r t =>
      simp only [txtGo] at hp
      cases h : (greedy (r :: t) 0 == 0) with
      | true =>
        rw [h, cond_true] at hp
        rcases List.mem_cons.1 hp with rfl | hp
        · exact sz_long (hl r (List.mem_cons_self ..))
        · exact ih t (fun q hq => hl q (List.mem_cons_of_mem _ hq)) p hp
      | false =>
        rw [h, cond_false] at hp
        rcases List.mem_cons.1 hp with rfl | hp
        · exact (by show (atS 6 _).sz ≤ 500; rw [sz_at]; decide)
        · exact ih _ (fun q hq => hl q (List.mem_of_mem_drop hq)) p hp
end Go.Proofs.YtdehdahimkcakaaGreatDoor
end
section
set_option linter.unusedVariables false
set_option linter.unusedSimpArgs false
set_option maxRecDepth 100000
set_option maxHeartbeats 4000000
namespace Go.Proofs.YtdehdahimkcakaaGreatDoor
open Go Ai
section
variable (so : Int) (b neg : Bool) (n : List Nat) (l : List (Int × Int))
theorem c17 (hlm : limbs n) (hn : n.length ≤ 30) (hl : l.length ≤ 300) : PureC Tryz.env 17 [vlA so b neg n l] (.tup [(valM so b neg n l).1.av, .int .i64 (valM so b neg n l).2]) := by
  refine pure_q (f17_run _ _ ?_)
  unfold f17
  refine ⟨rfl, ?_⟩
  have hcl : (AV.sl false (l.map rnA)).closed = true := sl_closed_map _ _ fun _ _ => rfl
  have hp : ∀ q, Ai.part 2 true 2 [AV.int .i64 so, AV.bool b, AV.bool neg, nsA n, q] = some (wzA neg n) := fun q => rfl
  have hq : ∀ (v : Sx) (e : Int) (s : St), PureQ (.tup [v.av, .int .i64 e]) (.tup [v.av, .int .i64 e]) s := fun v e s => pureQ_closed (by simp only [AV.closed, closedL, sx_closed, Bool.and_self])
  have hz : ∀ s : St, ∀ i n, sto 6 (.ptr i 0) zeroB (Ai.adv (s.set i (some (.cells (AV.agg [.bool false, .int .i64 0, .str [], .int .i64 0, .int .i64 0, .nils]).cells 33 true true))) n) = some (Ai.adv (s.set i (some (.cells zeroB.cells 33 true true))) n) := fun s i n => by
    rw [sto_all (z := 6) (by rw [adv_h, st_same]) rfl rfl rfl, adv_set, set_set]
  have hzp : Ai.part 6 true 0 zeroB.cells = some zeroB := rfl
  have hzq : ∀ (e : Int) s, PureQ (.tup [zeroSx0.av, .int .i64 e]) (.tup [zeroB, .int .i64 e]) s := fun e s => pureQ_of ⟨[], rfl, rfl⟩
  simp only [zf33, vl_cells, wx, wy, Nat.reduceAdd, Nat.reduceEqDiff, reduceCtorEq]
  unfold valM
  cases h1 : (so == 1) with
  | true =>
    cases b with
    | true =>
      simp only [wx, wy, Nat.reduceAdd, Nat.reduceEqDiff, reduceCtorEq]
      refine callPu (c62 3 trueN) (by simp [AV.closed]) ?_
      simp only [sto_sx, sto_sx0, sx_part, wx, wy, Nat.reduceAdd, Nat.reduceEqDiff, reduceCtorEq]
      exact hq _ _ _
    | false =>
      simp only [wx, wy, Nat.reduceAdd, Nat.reduceEqDiff, reduceCtorEq]
      refine callPu (c62 3 falseN) (by simp [AV.closed]) ?_
      simp only [sto_sx, sto_sx0, sx_part, wx, wy, Nat.reduceAdd, Nat.reduceEqDiff, reduceCtorEq]
      exact hq _ _ _
  | false =>
  cases h2 : (so == 2) with
  | true =>
    have c0 : bsl 31 1 [(0, (atS 4 (textM n)).av)] = some (.sl true [(atS 4 (textM n)).av]) := bsl_one tf31 (by decide) (sx_len _) (sx_ones _)
    have h63 := c63 n hlm (by omega)
    rw [← text_dec n hlm] at h63
    simp only [wx, wy, Nat.reduceAdd, Nat.reduceEqDiff, reduceCtorEq]
    refine callPu h63 (by simp [ns_closed]) ?_
    refine callPu (c62 4 _) (by simp [AV.closed]) ?_
    have e0 : St.empty.nx = 0 := rfl
    simp only [sto_sx, sto_sx0, hp, wx, wy, Nat.reduceAdd, Nat.reduceEqDiff, reduceCtorEq]
    refine callPu (c64 neg n hlm (by omega)) (by simp [wz_closed]) ?_
    simp only [sx_part, c0, wx, wy, Nat.reduceAdd, Nat.reduceEqDiff, reduceCtorEq]
    cases h4 : decide (signM neg n < 0) with
    | true =>
      simp only [if_true, cond_true]
      refine callPur (args2 := [.str [45], lsA [atS 4 (textM n)]]) (ids := []) (by
        obtain ⟨ids, e1, e2⟩ := pur_sl (s := Ai.adv (((St.empty.set St.empty.nx (some (.cells [.int .i64 so, .bool b, .bool neg, nsA n, .sl false (l.map rnA)] 27 true true))).set (St.empty.nx + 1) (some (.cells (AV.agg [.bool false, .int .i64 0, .str [], .int .i64 0, .int .i64 0, .nils]).cells 33 true true))).set (St.empty.nx + 14) (some (.cells (atS 4 (textM n)).av.cells 33 true true))) 25) (ex := true) (k := 11) (l := [(atS 4 (textM n)).av]) (by simp only [closedL, sx_closed, Bool.and_self])
        subst e2
        have h2 : ∀ s, pur Tryz.env.P s 12 (.str [45]) = some (.str [45], []) := fun s => rfl
        simp only [purL, e1, h2]
        rfl) (c65p [45] [atS 4 (textM n)] (by simp) (by simp)) ?_
      simp only [List.isEmpty_nil, Bool.true_or, if_true]
      rw [sto_all (z := 6) (by rw [adv_h, st_other (by omega), st_same]) rfl (sx_len _) (sx_ones _)]
      simp only [sx_part, wx, wy, Nat.reduceAdd, Nat.reduceEqDiff, reduceCtorEq]
      exact hq _ _ _
    | false =>
      simp only [Bool.false_eq_true, if_false, cond_false]
      rw [sto_all (z := 6) (by rw [adv_h, st_other (by omega), st_same]) rfl (sx_len _) (sx_ones _)]
      simp only [sx_part, wx, wy, Nat.reduceAdd, Nat.reduceEqDiff, reduceCtorEq]
      exact hq _ _ _
  | false =>
  cases h3 : (so == 3) with
  | false =>
    simp only [f17j1, bld33z, wx, wy, Nat.reduceAdd, Nat.reduceEqDiff, reduceCtorEq]
    rw [hz]
    simp only [hzp, wx, wy, Nat.reduceAdd, Nat.reduceEqDiff, reduceCtorEq]
    exact hzq _ _
  | true =>
    simp only [wx, wy, Nat.reduceAdd, Nat.reduceEqDiff, reduceCtorEq]
    refine callPu (c66 l (by omega)) (by simpa using hcl) ?_
    cases h4 : mayM l with
    | false =>
      simp only [bld33z, wx, wy, Nat.reduceAdd, Nat.reduceEqDiff, reduceCtorEq]
      rw [hz]
      simp only [hzp, wx, wy, Nat.reduceAdd, Nat.reduceEqDiff, reduceCtorEq]
      exact hzq _ _
    | true =>
      obtain ⟨m1, m2, m3⟩ := mayM_ok h4
      simp only [wx, wy, Nat.reduceAdd, Nat.reduceEqDiff, reduceCtorEq]
      refine callPu (c67 l m1 (by omega)) (by simpa using hcl) ?_
      have hln : ∀ (ps : List Sx) id s, bt .len #[31] [lsA ps] id s = some (.int .i64 ps.length, s) := fun ps id s => by
        show bt .len #[31] [.sl false (ps.map Sx.av)] id s = _
        rw [ln31s, List.length_map]
      have hsz := sz_txts l.length l m1
      have hok := txt_ok l.length l m1
      have hlen := txtL_len l.length l
      have hps : txtGo litS longM l.length l = txtL l := rfl
      rw [hps] at hsz hok hlen
      have hlc : (lsA (txtL l)).closed = true := sl_closed_map _ _ fun a _ => sx_closed a
      simp only [hln, wx, wy, Nat.reduceAdd, Nat.reduceEqDiff, reduceCtorEq]
      cases hv : txtL l with
      | nil =>
        simp only [List.length_nil, show (((0 : Nat) : Int) == 0) = true from rfl, wx, wy, Nat.reduceAdd, Nat.reduceEqDiff, reduceCtorEq]
        refine callPu (c62 6 []) (by simp [AV.closed]) ?_
        simp only [sto_sx, sto_sx0, sx_part, wx, wy, Nat.reduceAdd, Nat.reduceEqDiff, reduceCtorEq]
        exact hq _ _ _
      | cons p ps =>
        have hne : (((p :: ps).length : Int) == 0) = false := by simp; omega
        cases ps with
        | nil =>
          have hix : ixS 6 (lsA [p]) (.int .i64 0) = some (.pel p.av.cells 0) := ix_map encSx false (l := [p]) (i := 0) rfl .i64
          simp only [hne, hln, show ((([p] : List Sx).length : Int) == 1) = true from rfl, hix, sx_part, wx, wy, Nat.reduceAdd, Nat.reduceEqDiff, reduceCtorEq]
          rw [sto_sx]
          simp only [sx_part, wx, wy, Nat.reduceAdd, Nat.reduceEqDiff, reduceCtorEq]
          exact hq _ _ _
        | cons q t =>
          rw [hv] at hsz hok hlen hlc
          have h1n : (((p :: q :: t).length : Int) == 1) = false := by simp; omega
          have hlok : (lstS stpp (p :: q :: t)).ok = true := lst_ok2 (by decide) (by omega) hok
          have hlsz : (lstS stpp (p :: q :: t)).sz < 2 ^ 62 := by
            rw [sz_lst]
            have h1 := szs_le _ 500 hsz
            have h2 : (p :: q :: t).length * 500 ≤ 300 * 500 := Nat.mul_le_mul_right _ (by omega)
            omega
          have hss := size_siz _ hlsz
          have hcl2 : (lsA (p :: q :: t)).closed = true := hlc
          simp only [hne, hln, h1n, wx, wy, Nat.reduceAdd, Nat.reduceEqDiff, reduceCtorEq]
          refine callPu (c65p stpp (p :: q :: t) (by omega) (by simp)) (by simp [AV.closed, hcl2]) ?_
          rw [sto_sx0]
          have hz2 : ∀ (B : St) (c : Nat), B.h (St.empty.nx + 1) = some (.cells (AV.agg [.bool false, .int .i64 0, .str [], .int .i64 0, .int .i64 0, .nils]).cells 33 true true) → ∀ (v : AV), v.cells.length = 6 → v.cells.all AV.one = true → sto 6 (.ptr (St.empty.nx + 1) 0) v (Ai.adv B c) = some ((Ai.adv B c).set (St.empty.nx + 1) (some (.cells v.cells 33 true true))) := fun B c hB v e1 e2 => sto_all (z := 6) (by rw [adv_h]; exact hB) rfl e1 e2
          have htm : txtM (p :: q :: t) = bif decide (((p :: q :: t).length : Int) > 200) then (zeroSx0, 2) else bif decide ((lstS stpp (p :: q :: t)).siz > 2000) then (zeroSx0, 2) else (lstS stpp (p :: q :: t), 0) := rfl
          rw [htm]
          cases g1 : decide (((p :: q :: t).length : Int) > 200) with
          | true =>
            simp only [bld33z, wx, wy, Nat.reduceAdd, Nat.reduceEqDiff, reduceCtorEq]
            rw [sto_all (z := 6) (c := zeroB.cells) (by rw [adv_h, st_other (by omega), st_same]; rfl) rfl rfl rfl]
            simp only [hzp, wx, wy, Nat.reduceAdd, Nat.reduceEqDiff, reduceCtorEq]
            exact hzq _ _
          | false =>
            simp only [sx_part, wx, wy, Nat.reduceAdd, Nat.reduceEqDiff, reduceCtorEq]
            refine callPu (size_c _ hlok) (by simp [sx_closed]) ?_
            simp only [hss, wx, wy, Nat.reduceAdd, Nat.reduceEqDiff, reduceCtorEq]
            cases g2 : decide ((lstS stpp (p :: q :: t)).siz > 2000) with
            | true =>
              simp only [bld33z, wx, wy, Nat.reduceAdd, Nat.reduceEqDiff, reduceCtorEq]
              rw [sto_all (z := 6) (c := zeroB.cells) (by rw [adv_h, st_other (by omega), st_same]; rfl) rfl rfl rfl]
              simp only [hzp, wx, wy, Nat.reduceAdd, Nat.reduceEqDiff, reduceCtorEq]
              exact hzq _ _
            | false =>
              simp only [sx_part, wx, wy, Nat.reduceAdd, Nat.reduceEqDiff, reduceCtorEq]
              rw [sto_all (z := 6) (c := zeroB.cells) (by rw [adv_h, st_other (by omega), st_same]; rfl) rfl (sx_len _) (sx_ones _)]
              simp only [sx_part, wx, wy, Nat.reduceAdd, Nat.reduceEqDiff, reduceCtorEq]
              exact hq _ _ _
end
theorem val_ok (so : Int) (b neg : Bool) (n : List Nat) (l : List (Int × Int)) (hlm : limbs n) (hn : n.length ≤ 30) (hl : l.length ≤ 300) : (valM so b neg n l).1.ok = true := by
  rcases val_spec so b neg n l hlm hn hl with ⟨_, h⟩ | ⟨_, _, h, _⟩
  · rw [h]; decide
  · exact h
theorem c3 (so : Int) (b neg : Bool) (n : List Nat) (l : List (Int × Int)) (hlm : limbs n) (hnm : n.length ≤ maxLen) (hlm2 : l.length ≤ maxLen) : ∃ s', WideC Tryz.env 3 [vlA so b neg n l] St.empty (.bool true) s' := by
  suffices hh : f3 (fun v _ => v = .bool true) (vlA so b neg n l) St.empty by
    obtain ⟨r, s', h1, rfl⟩ := f3_run _ _ hh
    exact ⟨s', h1⟩
  unfold f3
  refine ⟨rfl, ?_⟩
  refine callPu awake12 (by simp) ?_
  have hl0 : ∀ id s, bt .len #[25] [.sl false (l.map rnA)] id s = some (.int .i64 l.length, s) := fun id s => by rw [ln25s, List.length_map]
  simp only [vl_cells, hl0, wx, wy, Nat.reduceAdd, Nat.reduceEqDiff, reduceCtorEq]
  cases e1 : decide ((l.length : Int) > 300) with
  | true => simp only [wx, wy, Nat.reduceAdd, Nat.reduceEqDiff, reduceCtorEq]
  | false =>
  cases e2 : decide ((n.length : Int) > 30) with
  | true => simp only [ln22ns, e2, wx, wy, Nat.reduceAdd, Nat.reduceEqDiff, reduceCtorEq]
  | false =>
  have hl3 : l.length ≤ 300 := by have := of_decide_eq_false e1; omega
  have hn3 : n.length ≤ 30 := by have := of_decide_eq_false e2; omega
  have hp5 : Ai.part 5 true 0 [AV.int .i64 so, AV.bool b, AV.bool neg, nsA n, .sl false (l.map rnA)] = some (vlA so b neg n l) := rfl
  simp only [ln22ns, e2, hp5, wx, wy, Nat.reduceAdd, Nat.reduceEqDiff, reduceCtorEq]
  refine callPu (c16 so b neg n l hlm hn3 hl3) (by simp [vl_closed]) ?_
  have hok := val_ok so b neg n l hlm hn3 hl3
  have h17 := c17 so b neg n l hlm hn3 hl3
  generalize hx : valM so b neg n l = V at *
  obtain ⟨x, e⟩ := V
  simp only [zf33, wx, wy, Nat.reduceAdd, Nat.reduceEqDiff, reduceCtorEq]
  rw [sto_sx]
  simp only [hp5, wx, wy, Nat.reduceAdd, Nat.reduceEqDiff, reduceCtorEq]
  refine callPu h17 (by simp [vl_closed]) ?_
  simp only [zf33, wx, wy, Nat.reduceAdd, Nat.reduceEqDiff, reduceCtorEq]
  rw [sto_sx]
  simp only [sx_part, wx, wy, Nat.reduceAdd, Nat.reduceEqDiff, reduceCtorEq]
  refine callPu (c18 x hok) (by simp [sx_closed, AV.closed]) ?_
  have he : (e == e) = true := by simp
  simp only [he, wx, wy, Nat.reduceAdd, Nat.reduceEqDiff, reduceCtorEq]
end Go.Proofs.YtdehdahimkcakaaGreatDoor
end
