/- Lists that grow by append. -/
import Derived.Test.YtdehdahimkcakaaGreatDoorStep
set_option linter.unusedVariables false
set_option linter.unusedSimpArgs false
namespace Go.Proofs.YtdehdahimkcakaaGreatDoor
open Go Ai

section
/-- What a type of slices is. -/
structure SlTy (t e : TypeId) (z : Nat) (ag : Bool) (b : Nat) : Prop where
  u : und Tryz.ty t = some (.slice e)
  l : lay Tryz.ty e = some (z, ag)
  b : bytesOf Tryz.ty e = some b
  zr : (zero Tryz.ty e).map (fun v => v.cells.length) = some z
  pos : 0 < z
variable {t e : TypeId} {z b lo id : Nat} {ag : Bool} {s : St} {x : AV} {vs : List AV}
theorem st_other {j id : Nat} {o : Option Blk} (h : j ≠ id) : (s.set id o).h j = s.h j := by
  have : Nat.beq j id = false := by
    cases hb : Nat.beq j id with
    | false => rfl
    | true => exact absurd (Nat.eq_of_beq_eq_true hb) h
  show cond (Nat.beq j id) o (s.h j) = s.h j
  rw [this]; rfl
theorem st_same {id : Nat} {o : Option Blk} : (s.set id o).h id = o := by
  show cond (Nat.beq id id) o (s.h id) = o
  rw [beq_self']; rfl
theorem app_any (h : SlTy t e z ag b) (x y : AV) (id : Nat) (s : St) : bt .append #[t, t] [x, y] id s = (srcCells z y s).bind fun c => appendA e z b x c id s := by
  have h1 : und (bX Tryz.env).P t = some (.slice e) := h.u
  have h2 : lay (bX Tryz.env).P e = some (z, ag) := h.l
  have h3 : bytesOf (bX Tryz.env).P e = some b := h.b
  have h4 := h.zr
  cases hz : zero Tryz.ty e with
  | none => rw [hz] at h4; cases h4
  | some zv =>
    rw [hz] at h4
    simp only [Option.map_some, Option.some.injEq] at h4
    have h5 : zero (bX Tryz.env).P e = some zv := hz
    simp [builtinA, h1, h2, h3, h5, h4, h.pos]
/-- A list that grows, above a number of blocks. -/
def Gw (e : TypeId) (z lo : Nat) (s : St) (x : AV) (vs : List AV) : Prop :=
  (∀ v ∈ vs, v.cells.length = z ∧ v.cells.all AV.one = true) ∧ ((x = .nils ∧ vs = []) ∨ ∃ id, lo ≤ id ∧ x = .ref id 0 vs.length none e ∧ s.h id = some (.cells (vs.flatMap AV.cells) e false true))
theorem gw_nil : Gw e z lo s .nils [] := ⟨fun _ h => (by cases h), .inl ⟨rfl, rfl⟩⟩
theorem flat_len (h : ∀ v ∈ vs, v.cells.length = z ∧ v.cells.all AV.one = true) : (vs.flatMap AV.cells).length = vs.length * z := by
  induction vs with
  | nil => simp
  | cons v l ih =>
    rw [List.flatMap_cons, List.length_append, (h v (List.mem_cons_self ..)).1, ih fun x hx => h x (List.mem_cons_of_mem _ hx), List.length_cons, Nat.succ_mul, Nat.add_comm]
theorem Gw.len (g : Gw e z lo s x vs) : lenA x s = some (vs.length : Int) := by
  obtain ⟨h, ⟨rfl, rfl⟩ | ⟨id, _, rfl, _⟩⟩ := g <;> rfl
theorem Gw.mono {s' : St} (g : Gw e z lo s x vs) (h : ∀ j, lo ≤ j → s.h j ≠ none → s'.h j = s.h j) : Gw e z lo s' x vs := by
  obtain ⟨h1, ⟨rfl, rfl⟩ | ⟨id, hi, rfl, hs⟩⟩ := g
  · exact ⟨h1, .inl ⟨rfl, rfl⟩⟩
  · exact ⟨h1, .inr ⟨id, hi, rfl, by rw [h id hi (by rw [hs]; simp)]; exact hs⟩⟩
/-- One more. -/
theorem gw_app (h : SlTy t e z ag b) (g : Gw e z lo s x vs) {v : AV} (hv : v.cells.length = z) (ho : v.cells.all AV.one = true) (hf : fitsA (vs.length + 1) b = true) (hid : lo ≤ id) (ex : Bool) :
    ∃ x' s', bt .append #[t, t] [x, .sl ex [v]] id s = some (x', s') ∧ Gw e z lo s' x' (vs ++ [v]) ∧ (∀ j, j < lo → s'.h j = s.h j) ∧ s'.nx = s.nx ∧ (∀ j, j ≠ id → (∀ n c, x ≠ .ref j 0 n c e) → s'.h j = s.h j) ∧ x' = .ref id 0 (vs.length + 1) none e := by
  rw [app_any h]
  have hsrc : srcCells z (.sl ex [v]) s = some v.cells := by simp [srcCells, hv]
  rw [hsrc, Option.bind_some]
  have hne : v.cells ≠ [] := fun hh => by rw [hh] at hv; have := h.pos; simp at hv; omega
  have hem : v.cells.isEmpty = false := by cases hc : v.cells with | nil => exact absurd hc hne | cons a b => rfl
  have hdiv : v.cells.length / z = 1 := by rw [hv]; exact Nat.div_self h.pos
  obtain ⟨h1, ⟨rfl, rfl⟩ | ⟨i, hi, rfl, hs⟩⟩ := g
  · have hf' : fitsA 1 b = true := by simpa using hf
    refine ⟨.ref id 0 1 none e, s.set id (some (.cells v.cells e false true)), ?_, ⟨?_, .inr ⟨id, hid, rfl, ?_⟩⟩, ?_, rfl, ?_, rfl⟩
    · unfold appendA
      simp [hem, ho, grown, hdiv, hf', newSl]
    · intro w hw; simp at hw; subst hw; exact ⟨hv, ho⟩
    · rw [st_same]; simp
    · intro j hj
      exact st_other (by omega)
    · intro j hj _; exact st_other hj
  · have hfl := flat_len h1
    have hlen : (vs.flatMap AV.cells ++ v.cells).length / z = vs.length + 1 := by
      rw [List.length_append, hfl, hv, ← Nat.succ_mul, Nat.mul_div_cancel _ h.pos]
    have hgt : ¬ (vs.length * z + v.cells.length ≤ (vs.flatMap AV.cells).length) := by rw [hfl, hv]; have := h.pos; omega
    refine ⟨.ref id 0 (vs.length + 1) none e, (s.set i none).set id (some (.cells (vs.flatMap AV.cells ++ v.cells) e false true)), ?_, ⟨?_, .inr ⟨id, hid, by simp, ?_⟩⟩, ?_, rfl, ?_, rfl⟩
    · unfold appendA
      simp only [hem, ho, Bool.not_true, Bool.false_eq_true, if_false, hs, Nat.zero_add, hfl, Nat.le_refl, and_self, if_true]
      rw [if_neg (by rw [hv]; have := h.pos; omega)]
      simp only [grown, hlen, hf, if_true, newSl]
    · intro w hw
      rcases List.mem_append.1 hw with hw | hw
      · exact h1 w hw
      · simp at hw; subst hw; exact ⟨hv, ho⟩
    · rw [st_same]; simp
    · intro j hj
      rw [st_other (by omega), st_other (by omega)]
    · intro j hj h2
      have : j ≠ i := fun hh => h2 _ _ (by subst hh; rfl)
      rw [st_other hj, st_other this]
theorem many_all : ∀ (vs pre c : List AV), c.length = vs.length → setMany (pre ++ c) pre.length vs = pre ++ vs := by
  intro vs
  induction vs with
  | nil => intro pre c h; simp at h; subst h; rfl
  | cons v l ih =>
    intro pre c h
    match c, h with
    | y :: c, h =>
      simp only [setMany]
      have e : (pre ++ y :: c).set pre.length v = (pre ++ [v]) ++ c := by simp
      have := ih (pre ++ [v]) c (by simpa using h)
      rw [e]
      simpa using this
theorem many0 {c vs : List AV} (h : c.length = vs.length) : setMany c 0 vs = vs := many_all vs [] c h
theorem sto_all {v : AV} {c : List AV} {ex : Bool} (h : s.h id = some (.cells c e ex true)) (hc : c.length = z) (hv : v.cells.length = z) (ho : v.cells.all AV.one = true) : sto z (.ptr id 0) v s = some (s.set id (some (.cells v.cells e ex true))) := by
  show Ai.store z (.ptr id 0) v s = _
  unfold Ai.store
  simp only [h]
  rw [if_pos ⟨hv, by omega, ho⟩, many0 (by omega)]
theorem bsl_one (h : SlTy t e z ag b) (hm : z ≤ 2 ^ 24) {v : AV} (hv : v.cells.length = z) (ho : v.cells.all AV.one = true) : bsl t 1 [(0, v)] = some (.sl true [v]) := by
  have h4 := h.zr
  cases hz : zero Tryz.ty e with
  | none => rw [hz] at h4; cases h4
  | some zv =>
    rw [hz] at h4
    simp only [Option.map_some, Option.some.injEq] at h4
    simp [buildSl, h.u, h.l, hz, h4, h.pos, hm, setParts, hv, ho]
/-- Nothing lies where new blocks come. -/
def Fresh (s : St) : Prop := ∀ j, s.nx ≤ j → s.h j = none
theorem Fresh.adv {n : Nat} (h : Fresh s) : Fresh (adv s n) := fun j hj => h j (by have : s.nx + n ≤ j := hj; omega)
theorem Fresh.set {i : Nat} {o : Option Blk} (h : Fresh s) (hi : i < s.nx) : Fresh (s.set i o) := fun j hj => by
  have hj : s.nx ≤ j := hj
  rw [st_other (by omega)]; exact h j hj
theorem fresh_empty : Fresh St.empty := fun _ _ => rfl
theorem Gw.set {i : Nat} {o : Option Blk} (g : Gw e z lo s x vs) (hi : s.h i = none) : Gw e z lo (s.set i o) x vs :=
  g.mono fun j _ hj => st_other fun he => hj (by rw [he]; exact hi)
theorem Gw.adv {n : Nat} (g : Gw e z lo s x vs) : Gw e z lo (adv s n) x vs := g.mono fun _ _ _ => rfl
theorem gw_step (h : SlTy t e z ag b) (g : Gw e z lo s x vs) (fr : Fresh s) {v : AV} (hv : v.cells.length = z) (ho : v.cells.all AV.one = true) (hf : fitsA (vs.length + 1) b = true) (hid : lo ≤ id) (hid2 : id < s.nx) (ex : Bool) :
    ∃ x' s', bt .append #[t, t] [x, .sl ex [v]] id s = some (x', s') ∧ Gw e z lo s' x' (vs ++ [v]) ∧ Fresh s' ∧ s'.nx = s.nx ∧ (∀ j, j < lo → s'.h j = s.h j) ∧ (∀ j, j ≠ id → (∀ n c, x ≠ .ref j 0 n c e) → s'.h j = s.h j) ∧ x' = .ref id 0 (vs.length + 1) none e := by
  obtain ⟨x', s', h1, h2, h3, h4, h5, h6⟩ := gw_app h g hv ho hf hid ex
  refine ⟨x', s', h1, h2, fun j hj => ?_, h4, h3, h5, h6⟩
  rw [h4] at hj
  rw [h5 j (by omega) (fun n c hx => ?_)]
  · exact fr j hj
  · obtain ⟨_, ⟨h6, _⟩ | ⟨i, _, h6, h7⟩⟩ := g
    · rw [h6] at hx; cases hx
    · rw [h6] at hx; cases hx
      rw [fr _ hj] at h7; cases h7
theorem pur_closed {v : AV} (k : Nat) (h : v.closed = true) : pur Tryz.env.P s k v = some (v, []) := by unfold pur; rw [if_pos h]
theorem purL_closed {l : List AV} (k : Nat) (h : closedL l = true) : purL (pur Tryz.env.P s k) l = some (l, []) := by
  induction l with
  | nil => rfl
  | cons v l ih =>
    simp only [closedL, Bool.and_eq_true] at h
    simp only [purL, pur_closed k h.1, ih h.2, List.append_nil]
theorem chunk_back (h : ∀ v ∈ vs, v.cells.length = z ∧ v.cells.all AV.one = true) (ha : ∀ v ∈ vs, v = .agg v.cells) : chunk z vs.length (vs.flatMap AV.cells) = vs := by
  induction vs with
  | nil => rfl
  | cons v l ih =>
    have hv := (h v (List.mem_cons_self ..)).1
    rw [List.flatMap_cons, List.length_cons, chunk, List.take_left' hv, List.drop_left' hv, ih (fun x hx => h x (List.mem_cons_of_mem _ hx)) (fun x hx => ha x (List.mem_cons_of_mem _ hx)), ← ha v (List.mem_cons_self ..)]
theorem flat_closed (h : ∀ v ∈ vs, v.closed = true) : closedL (vs.flatMap AV.cells) = true := by
  induction vs with
  | nil => rfl
  | cons v l ih =>
    rw [List.flatMap_cons]
    have h1 : closedL v.cells = true := by
      have := h v (List.mem_cons_self ..)
      cases v <;> first | exact this | (simp only [AV.cells, closedL, this, Bool.and_self]; done) | (simp only [AV.cells, closedL, Bool.and_true]; exact this)
    have h2 := ih fun x hx => h x (List.mem_cons_of_mem _ hx)
    generalize v.cells = a at h1
    induction a with
    | nil => exact h2
    | cons y a iha =>
      simp only [List.cons_append, closedL, Bool.and_eq_true] at h1 ⊢
      exact ⟨h1.1, iha h1.2⟩
/-- Such a list of structs, as another function sees it. -/
theorem gw_pur (h : SlTy t e z true b) (g : Gw e z lo s x vs) (hc : ∀ v ∈ vs, v.closed = true) (ha : ∀ v ∈ vs, v = .agg v.cells) : ∃ ids, pur Tryz.env.P s 12 x = some (.sl false vs, ids) := by
  obtain ⟨h1, ⟨rfl, rfl⟩ | ⟨i, hi, rfl, hs⟩⟩ := g
  · exact ⟨[], rfl⟩
  · have h2 : lay Tryz.env.P e = some (z, true) := h.l
    have hp := purL_closed (s := s) 11 (flat_closed hc)
    have hfl := flat_len h1
    refine ⟨[i], ?_⟩
    have hnc : (AV.ref i 0 vs.length none e).closed = false := rfl
    unfold pur
    rw [hnc, if_neg (by simp)]
    simp only [hs, h2, hfl, Nat.zero_add, Nat.le_refl, h.pos, and_self, if_true, List.drop_zero]
    rw [show (vs.flatMap AV.cells).take (vs.length * z) = vs.flatMap AV.cells from List.take_of_length_le (by rw [hfl]; exact Nat.le_refl _)]
    simp only [hp, Option.bind_some, Bool.true_or, if_true, chunk_back h1 ha]
theorem flat_one (h : ∀ v ∈ vs, v.cells = [v]) : vs.flatMap AV.cells = vs := by
  induction vs with
  | nil => rfl
  | cons v l ih => rw [List.flatMap_cons, h v (List.mem_cons_self ..), ih fun x hx => h x (List.mem_cons_of_mem _ hx)]; rfl
/-- Such a list of plain values, as another function sees it. -/
theorem gw_pur1 (h : SlTy t e 1 false b) (g : Gw e 1 lo s x vs) (hc : ∀ v ∈ vs, v.closed = true) (ha : ∀ v ∈ vs, notAgg v = true) (k : Nat) : ∃ ids, pur Tryz.env.P s (k + 1) x = some (.sl false vs, ids) := by
  obtain ⟨h1, ⟨rfl, rfl⟩ | ⟨i, hi, rfl, hs⟩⟩ := g
  · exact ⟨[], rfl⟩
  · have h2 : lay Tryz.env.P e = some (1, false) := h.l
    have hp := purL_closed (s := s) k (flat_closed hc)
    have hfl := flat_len h1
    have hone : vs.flatMap AV.cells = vs := flat_one fun v hv => by
      have := ha v hv
      cases v <;> first | rfl | cases this
    have hall : vs.all notAgg = true := List.all_eq_true.2 ha
    rw [hone] at hp
    refine ⟨[i], ?_⟩
    have hnc : (AV.ref i 0 vs.length none e).closed = false := rfl
    unfold pur
    rw [hnc, if_neg (by simp)]
    simp only [hs, h2, hfl, Nat.zero_add, Nat.le_refl, Nat.lt_one_iff, Nat.zero_lt_one, and_self, if_true, List.drop_zero]
    rw [show (vs.flatMap AV.cells).take (vs.length * 1) = vs.flatMap AV.cells from List.take_of_length_le (by rw [hfl]; exact Nat.le_refl _)]
    rw [hone, hp]
    simp only [Option.bind_some, hall, Bool.and_self, Bool.or_true, Bool.false_or, Bool.true_and, Nat.beq_refl, if_true, Bool.false_eq_true, if_false]
theorem pur_tup2 {y v : AV} {ids : List Nat} {k : Nat} (hx : x.closed = false) (h : pur Tryz.env.P s k x = some (v, ids)) (hy : y.closed = true) : pur Tryz.env.P s (k + 1) (.tup [x, y]) = some (.tup [v, y], ids) := by
  have hc : (AV.tup [x, y]).closed = false := by simp only [AV.closed, closedL, hx, Bool.false_and]
  unfold pur
  rw [hc, if_neg (by simp)]
  simp only [purL, h, pur_closed k hy, List.append_nil, Option.map_some]
/-- A call that runs alone and answers something flat. -/
theorem callPuF {h : FuncId} {args args2 : List AV} {ids : List Nat} {v : AV} {K : AV → St → Prop} (hp : purL (pur Tryz.env.P s 12) args = some (args2, ids)) (hc : PureC Tryz.env h args2 v) (hf : v.flat = true) (hk : K v s) : CallPu Tryz.env h args s K :=
  .mk args2 ids v hp hc (by rw [hf, Bool.or_true, if_pos rfl]; exact hk)
end
end Go.Proofs.YtdehdahimkcakaaGreatDoor
