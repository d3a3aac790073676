/- General lemmas for walks. -/
import Derived.Test.YtdehdahimkcakaaGreatDoorRow
import Derived.Test.YtdehdahimkcakaaGreatDoorGrow
import Derived.IntWalk
set_option linter.unusedVariables false
set_option linter.unusedSimpArgs false
namespace Go.Proofs.YtdehdahimkcakaaGreatDoor
open Go Ai

section
variable {s s' : St} {n m i j : Nat} {o p : Option Blk}
theorem set_set : (s.set i o).set i p = s.set i p := by
  show (⟨_, _⟩ : St) = ⟨_, _⟩
  congr 1
  funext k
  show cond (Nat.beq k i) p (cond (Nat.beq k i) o (s.h k)) = cond (Nat.beq k i) p (s.h k)
  cases Nat.beq k i <;> rfl
theorem adv_set : (adv s n).set i o = adv (s.set i o) n := rfl
theorem adv_drop (l : List Nat) : (adv s n).drop l = adv (s.drop l) n := by
  induction l generalizing s with
  | nil => rfl
  | cons a l ih => exact ih (s := s.set a none)
theorem adv_two : adv (adv s n) m = adv s (n + m) := by simp [adv, Nat.add_assoc]
theorem get_set : (s.set n o).h m = if m = n then o else s.h m := by
  by_cases h : m = n
  · subst h; rw [if_pos rfl, st_same]
  · rw [if_neg h, st_other h]
theorem nx_drop (l : List Nat) : (s.drop l).nx = s.nx := by
  induction l generalizing s with
  | nil => rfl
  | cons a l ih => exact ih
theorem get_drop' (l : List Nat) : (s.drop l).h m = if m ∈ l then none else s.h m := by
  induction l generalizing s with
  | nil => simp [St.drop]
  | cons a l ih =>
    show ((s.set a none).drop l).h m = _
    rw [ih, get_set]
    by_cases h1 : m ∈ l
    · simp [h1]
    · by_cases h2 : m = a <;> simp [h1, h2]
theorem old_ne (h : i < n) (k : Nat) : (i = n + k) = False := by simp; omega
theorem old_ne0 (h : i < n) : (i = n) = False := by simp; omega
theorem new_ne (h : i < n) (k : Nat) : (n + k = i) = False := by simp; omega
theorem new_ne0 (h : i < n) : (n = i) = False := by simp; omega

theorem idOf_ref {i a n : Nat} {c : Option Nat} {e : TypeId} : idOf (.ref i a n c e) = [i] := rfl
theorem idOf_nils : idOf .nils = [] := rfl
theorem idOf_ptr {i a : Nat} : idOf (.ptr i a) = [i] := rfl
theorem idOf_sl {ex : Bool} {l : List AV} : idOf (.sl ex l) = [] := rfl
theorem idOf_pel {l : List AV} {n : Nat} : idOf (.pel l n) = [] := rfl
theorem drop_nil : s.drop [] = s := rfl
theorem drop_cons {l : List Nat} : s.drop (i :: l) = (s.set i none).drop l := rfl

theorem wantV_tup {l : List AV} {w : Bool} : wantV (.tup l) w = some false := rfl
theorem resC_nil : resC [] = some [] := rfl
theorem resC_some {v : AV} {l : List (Option AV)} : resC (some v :: l) = (resC l).map (v :: ·) := rfl
theorem retP_some {v : AV} {Q : AV → Prop} : RetP (some v) Q = Q v := rfl
theorem map_some' {α β : Type} {f : α → β} {a : α} : Option.map f (some a) = some (f a) := rfl
theorem tupV_one {v : AV} : tupV [v] = v := rfl
theorem tupV_two {v w : AV} : tupV [v, w] = .tup [v, w] := rfl

/-! ### Frames -/
/-- From s to s' the old blocks stay, but those of M. -/
structure EF (M : List Nat) (s s' : St) : Prop where
  nx : s.nx ≤ s'.nx
  h : ∀ j, j < s.nx → j ∉ M → s'.h j = s.h j
  fr : Fresh s'
theorem EF.refl (M : List Nat) (fr : Fresh s) : EF M s s := ⟨Nat.le_refl _, fun _ _ _ => rfl, fr⟩
theorem EF.adv {M : List Nat} (h : EF M s s') : EF M s (adv s' n) := ⟨by have := h.nx; show s.nx ≤ s'.nx + n; omega, h.h, h.fr.adv⟩
theorem EF.set {M : List Nat} (h : EF M s s') (hi : i < s'.nx) (hm : s.nx ≤ i ∨ i ∈ M) : EF M s (s'.set i o) :=
  ⟨h.nx, fun j hj hn => by rw [get_set, if_neg (by rintro rfl; rcases hm with hm | hm; omega; exact hn hm)]; exact h.h j hj hn, h.fr.set hi⟩
theorem EF.drop {M l : List Nat} (h : EF M s s') (hm : ∀ i ∈ l, s.nx ≤ i ∨ i ∈ M) : EF M s (s'.drop l) :=
  ⟨by rw [nx_drop]; exact h.nx, fun j hj hn => by rw [get_drop', if_neg (fun hl => by rcases hm j hl with hm | hm; omega; exact hn hm)]; exact h.h j hj hn,
    fun j hj => by rw [nx_drop] at hj; rw [get_drop']; split; rfl; exact h.fr j hj⟩
theorem EF.trans {M M' : List Nat} {s'' : St} (h : EF M s s') (k : EF M' s' s'') (hm : ∀ i ∈ M', s.nx ≤ i ∨ i ∈ M) : EF M s s'' :=
  ⟨Nat.le_trans h.nx k.nx, fun j hj hn => by
    rw [k.h j (Nat.lt_of_lt_of_le hj h.nx) (fun hl => by rcases hm j hl with hm | hm; omega; exact hn hm)]; exact h.h j hj hn, k.fr⟩
theorem EF.sub {M M' : List Nat} (h : EF M s s') (hm : ∀ i ∈ M, s.nx ≤ i ∨ i ∈ M') : EF M' s s' :=
  ⟨h.nx, fun j hj hn => h.h j hj fun hl => by rcases hm j hl with hm | hm; omega; exact hn hm, h.fr⟩
/-- The same, the old blocks ahead of a number. -/
theorem fresh_set (fr : Fresh s) (k : Nat) (h : i < s.nx + k) : Fresh (Ai.adv (s.set i o) k) := by
  have : Fresh (Ai.adv s k) := fr.adv
  rw [← adv_set]; exact this.set h
theorem fresh_app (fr : Fresh s) (l : List Nat) (k : Nat) (h : i < s.nx + k) : Fresh (Ai.adv ((s.drop l).set i o) k) := by
  have h1 : Fresh (s.drop l) := fun j hj => by
    rw [nx_drop] at hj; rw [get_drop']; split; rfl; exact fr j hj
  exact fresh_set h1 k (by rw [nx_drop]; exact h)
theorem fresh_drop (fr : Fresh s) (l : List Nat) : Fresh (s.drop l) := fun j hj => by
  rw [nx_drop] at hj; rw [get_drop']; split; rfl; exact fr j hj
end

section
variable {t e : TypeId} {z b id : Nat} {ag : Bool} {s s' : St} {x : AV} {vs : List AV}
/-! ### Lists that grow: the state is told -/
theorem Gw.id_lt (g : Gw e z 0 s x vs) (fr : Fresh s) : ∀ j ∈ idOf x, j < s.nx := by
  obtain ⟨_, ⟨rfl, _⟩ | ⟨i, _, rfl, hs⟩⟩ := g
  · intro j hj; cases hj
  · intro j hj
    simp only [idOf, List.mem_cons, List.mem_nil_iff, or_false] at hj
    subst hj
    refine Nat.lt_of_not_le fun hc => ?_
    rw [fr _ hc] at hs; cases hs
theorem Gw.keep (g : Gw e z 0 s x vs) (h : ∀ j ∈ idOf x, s'.h j = s.h j) : Gw e z 0 s' x vs := by
  obtain ⟨h1, ⟨rfl, rfl⟩ | ⟨i, hi, rfl, hs⟩⟩ := g
  · exact ⟨h1, .inl ⟨rfl, rfl⟩⟩
  · exact ⟨h1, .inr ⟨i, hi, rfl, by rw [h i (by simp [idOf])]; exact hs⟩⟩
theorem Gw.ext {M : List Nat} (g : Gw e z 0 s x vs) (fr : Fresh s) (h : EF M s s') (hd : ∀ j ∈ idOf x, j ∉ M) : Gw e z 0 s' x vs :=
  g.keep fun j hj => h.h j (g.id_lt fr j hj) (hd j hj)
theorem Gw.here (h : ∀ v ∈ vs, v.cells.length = z ∧ v.cells.all AV.one = true) {s0 : St} {n k : Nat} (hk : k = vs.length) : Gw e z 0 (Ai.adv (s0.set id (some (.cells (vs.flatMap AV.cells) e false true))) n) (.ref id 0 k none e) vs := by
  subst hk
  exact ⟨h, .inr ⟨id, Nat.zero_le _, rfl, by rw [adv_h, st_same]⟩⟩
theorem Gw.one (g : Gw e z 0 s x vs) : x.cells = [x] ∧ x.one = true := by
  obtain ⟨h1, ⟨rfl, rfl⟩ | ⟨i, hi, rfl, hs⟩⟩ := g <;> exact ⟨rfl, rfl⟩
/-- One more: what the block is then. -/
theorem app_one (h : SlTy t e z ag b) (g : Gw e z 0 s x vs) {v : AV} (hv : v.cells.length = z) (ho : v.cells.all AV.one = true) (hf : fitsA (vs.length + 1) b = true) (ex : Bool) (id : Nat) :
    bt .append #[t, t] [x, .sl ex [v]] id s = some (.ref id 0 (vs.length + 1) none e, (s.drop (idOf x)).set id (some (.cells ((vs ++ [v]).flatMap AV.cells) e false true))) := by
  rw [app_any h]
  have hsrc : srcCells z (.sl ex [v]) s = some v.cells := by simp [srcCells, hv]
  rw [hsrc, Option.bind_some]
  have hne : v.cells ≠ [] := fun hh => by rw [hh] at hv; have := h.pos; simp at hv; omega
  have hem : v.cells.isEmpty = false := by cases hc : v.cells with | nil => exact absurd hc hne | cons a b => rfl
  have hdiv : v.cells.length / z = 1 := by rw [hv]; exact Nat.div_self h.pos
  obtain ⟨h1, ⟨rfl, rfl⟩ | ⟨i, hi, rfl, hs⟩⟩ := g
  · have hf' : fitsA 1 b = true := by simpa using hf
    unfold appendA
    simp [hem, ho, grown, hdiv, hf', newSl, idOf, St.drop]
  · have hfl := flat_len h1
    have hlen : (vs.flatMap AV.cells ++ v.cells).length / z = vs.length + 1 := by
      rw [List.length_append, hfl, hv, ← Nat.succ_mul, Nat.mul_div_cancel _ h.pos]
    have hgt : ¬ (vs.length * z + v.cells.length ≤ (vs.flatMap AV.cells).length) := by rw [hfl, hv]; have := h.pos; omega
    unfold appendA
    simp only [hem, ho, Bool.not_true, Bool.false_eq_true, if_false, hs, Nat.zero_add, hfl, Nat.le_refl, and_self, if_true]
    rw [if_neg (by rw [hv]; have := h.pos; omega)]
    simp only [grown, hlen, hf, if_true, newSl, idOf, St.drop]
    simp
/-- Many more. -/
theorem app_many (h : SlTy t e z ag b) (g : Gw e z 0 s x vs) {ws : List AV} (hw : ∀ v ∈ ws, v.cells.length = z ∧ v.cells.all AV.one = true) (hne : ws ≠ []) (hf : fitsA (vs.length + ws.length) b = true) (ex : Bool) (id : Nat) :
    bt .append #[t, t] [x, .sl ex ws] id s = some (.ref id 0 (vs.length + ws.length) none e, (s.drop (idOf x)).set id (some (.cells ((vs ++ ws).flatMap AV.cells) e false true))) := by
  rw [app_any h]
  have hall : ws.all (fun v => v.cells.length == z) = true := List.all_eq_true.2 fun v hv => by simp [(hw v hv).1]
  have hsrc : srcCells z (.sl ex ws) s = some (ws.flatMap AV.cells) := by simp [srcCells, hall]
  rw [hsrc, Option.bind_some]
  have hwl := flat_len hw
  have hpos : 0 < ws.length := List.length_pos_iff.2 hne
  have hmul : 0 < ws.length * z := Nat.mul_pos hpos h.pos
  have hem : (ws.flatMap AV.cells).isEmpty = false := by
    cases hc : ws.flatMap AV.cells with
    | nil => rw [hc] at hwl; simp at hwl; omega
    | cons a b => rfl
  have hones : (ws.flatMap AV.cells).all AV.one = true := by
    rw [List.all_eq_true]
    intro y hy
    obtain ⟨v, hv, hy⟩ := List.mem_flatMap.1 hy
    exact List.all_eq_true.1 (hw v hv).2 y hy
  have hdiv : (ws.flatMap AV.cells).length / z = ws.length := by rw [hwl]; exact Nat.mul_div_cancel _ h.pos
  obtain ⟨h1, ⟨rfl, rfl⟩ | ⟨i, hi, rfl, hs⟩⟩ := g
  · have hf' : fitsA ws.length b = true := by simpa using hf
    unfold appendA
    simp only [hem, hones, grown, hdiv, hf', newSl, idOf, St.drop, Bool.not_true, Bool.false_eq_true, if_false, if_true, List.length_nil, Nat.zero_add, List.nil_append]
  · have hfl := flat_len h1
    have hlen : (vs.flatMap AV.cells ++ ws.flatMap AV.cells).length / z = vs.length + ws.length := by
      rw [List.length_append, hfl, hwl, ← Nat.add_mul, Nat.mul_div_cancel _ h.pos]
    unfold appendA
    simp only [hem, hones, Bool.not_true, Bool.false_eq_true, if_false, hs, Nat.zero_add, hfl, Nat.le_refl, and_self, if_true]
    rw [if_neg (by rw [hwl]; omega)]
    simp only [grown, hlen, hf, if_true, newSl, idOf, St.drop]
    simp
theorem app_nothing (h : SlTy t e z ag b) (g : Gw e z 0 s x vs) (ex : Bool) (id : Nat) : bt .append #[t, t] [x, .sl ex []] id s = some (x, s) := by
  rw [app_any h]
  have hsrc : srcCells z (.sl ex []) s = some [] := by simp [srcCells]
  rw [hsrc, Option.bind_some]
  obtain ⟨h1, ⟨rfl, rfl⟩ | ⟨i, hi, rfl, hs⟩⟩ := g <;> rfl
theorem fits_of {n b : Nat} (h : n * b ≤ 2 ^ 40) (h2 : n ≤ 2 ^ 40) : fitsA n b = true := by
  have h1 : n * b ≤ Ai.most := by unfold Ai.most; omega
  have h2 : n ≤ Ai.most := by unfold Ai.most; omega
  simp only [fitsA, Nat.ble_eq_true_of_le h1, Nat.ble_eq_true_of_le h2, Bool.and_self]
/-- Parts of a list. -/
theorem slc_take {α : Type} {f : α → AV} (h : SlTy t e z ag b) (he : ∀ a, (f a).cells.length = z) (ex : Bool) (l : List α) {k : Nat} (hk : k ≤ l.length) (kd : IntKind) : slc t (.sl ex (l.map f)) none (some (.int kd (k : Int))) none s = some (.sl (ex && k == l.length) ((l.take k).map f)) := by
  have hh : ((l.map f).isEmpty || ((l.map f).head?).any fun v => v.cells.length == z) = true := by
    cases l with
    | nil => rfl
    | cons a l => simp [he]
  simp only [slc, sliceA, h.u, h.l, Option.bind_some]
  rw [if_pos hh]
  simp [bounds, optI, asI, hk]
theorem slc_drop {α : Type} {f : α → AV} (h : SlTy t e z ag b) (he : ∀ a, (f a).cells.length = z) (ex : Bool) (l : List α) {k : Nat} (hk : k ≤ l.length) (kd : IntKind) : slc t (.sl ex (l.map f)) (some (.int kd (k : Int))) none none s = some (.sl ex ((l.drop k).map f)) := by
  have hh : ((l.map f).isEmpty || ((l.map f).head?).any fun v => v.cells.length == z) = true := by
    cases l with
    | nil => rfl
    | cons a l => simp [he]
  simp only [slc, sliceA, h.u, h.l, Option.bind_some]
  rw [if_pos hh]
  simp [bounds, optI, asI, hk]
  exact List.take_of_length_le (by simp)
theorem disj_nil : ∀ l : List Nat, disj l [] = true
  | [] => rfl
  | _ :: l => by simp only [disj, memB, Bool.not_false, Bool.true_and]; exact disj_nil l
theorem bit_of {m k : Nat} : bitOf m k = decide ((m >>> k) % 2 = 1) := by
  unfold bitOf
  cases h : Nat.beq ((m >>> k) % 2) 1 with
  | true => exact (decide_eq_true (Nat.eq_of_beq_eq_true h)).symm
  | false => exact (decide_eq_false (Nat.ne_of_beq_eq_false h)).symm
/-- The first ones of a list in a block. -/
theorem slc_ref0 (h : SlTy t e z ag b) {i n k : Nat} {c : List AV} {e' : TypeId} {ex wr : Bool} (hs : s.h i = some (.cells c e' ex wr)) (hn : n * z ≤ c.length) (hk : k ≤ c.length / z) (kd : IntKind) : slc t (.ref i 0 n none e) none (some (.int kd (k : Int))) none s = some (.ref i 0 k none e) := by
  have hp := h.pos
  have h1 : bounds n (roomA none (c.length - 0) z) none (some (.int kd (k : Int))) none = some (0, k, c.length / z) := by
    unfold bounds optI asI roomA
    simp only [Option.isSome_none, Option.isNone_some, Bool.and_false, Bool.false_eq_true, if_false, Option.bind_some, Nat.sub_zero]
    rw [if_pos ⟨by omega, by omega, by omega, by omega⟩]
    simp only [Int.toNat_natCast, Int.toNat_zero]
  have h2 : slc t (.ref i 0 n none e) none (some (.int kd (k : Int))) none s = (if e = e ∧ 0 < z ∧ 0 ≤ c.length then (bounds n (roomA none (c.length - 0) z) none (some (.int kd (k : Int))) none).map fun r =>
      if r.1 ≠ 0 ∧ r.2.1 = r.1 then .sl false [] else .ref i (0 + r.1 * z) (r.2.1 - r.1) none e else none) := by
    simp only [slc, sliceA, h.u, h.l, Option.bind_some, hs]
    rfl
  rw [h2, h1, if_pos ⟨rfl, hp, Nat.zero_le _⟩]
  simp
/-- A cell is written. -/
theorem sto_c {id off : Nat} {v : AV} {c : List AV} {e : TypeId} {ex : Bool} {s : St} (h : s.h id = some (.cells c e ex true)) (ho : off < c.length) (hv : v.cells = [v]) (hone : v.one = true) : sto 1 (.ptr id off) v s = some (s.set id (some (.cells (c.set off v) e ex true))) := by
  show Ai.store 1 (.ptr id off) v s = _
  unfold Ai.store
  simp only [h]
  rw [if_pos ⟨by rw [hv]; rfl, by omega, by rw [hv]; simp [hone]⟩, hv]
  rfl
/-! ### Places in lists -/
/-- How a value is laid: so many cells. -/
structure Enc {α : Type} (f : α → AV) (z : Nat) : Prop where
  len : ∀ a, (f a).cells.length = z
  ones : ∀ a, (f a).cells.all AV.one = true
theorem ix_map {α : Type} {f : α → AV} {z : Nat} (hf : Enc f z) (ex : Bool) {l : List α} {i : Nat} {a : α} (h : l[i]? = some a) (k : IntKind) : ixS z (.sl ex (l.map f)) (.int k (i : Int)) = some (.pel (f a).cells 0) := by
  obtain ⟨hi, rfl⟩ := List.getElem?_eq_some_iff.1 h
  simp [ixS, asI, idx, hi, hf.len]
theorem ix_ref {e : TypeId} {z i id off n : Nat} {c : Option Nat} (h : i < n) (k : IntKind) : ixS z (.ref id off n c e) (.int k (i : Int)) = some (.ptr id (off + i * z)) := by
  simp [ixS, asI, idx, h]
theorem getElem_flat (h : ∀ v ∈ vs, v.cells.length = z) {i : Nat} {v : AV} (hi : vs[i]? = some v) {k : Nat} (hk : k < z) : (vs.flatMap AV.cells)[i * z + k]? = v.cells[k]? := by
  induction vs generalizing i with
  | nil => cases hi
  | cons a l ih =>
    have ha := h a (List.mem_cons_self ..)
    rw [List.flatMap_cons]
    cases i with
    | zero =>
      simp only [List.getElem?_cons_zero, Option.some.injEq] at hi
      subst hi
      rw [Nat.zero_mul, Nat.zero_add, List.getElem?_append_left (by omega)]
    | succ i =>
      rw [List.getElem?_append_right (by rw [ha, Nat.succ_mul]; omega), ha]
      have : (i + 1) * z + k - z = i * z + k := by rw [Nat.succ_mul]; omega
      rw [this]
      exact ih (fun x hx => h x (List.mem_cons_of_mem _ hx)) (by simpa using hi)
theorem drop_flat (h : ∀ v ∈ vs, v.cells.length = z) {i : Nat} {v : AV} (hi : vs[i]? = some v) : ((vs.flatMap AV.cells).drop (i * z)).take z = v.cells ∧ i * z + z ≤ (vs.flatMap AV.cells).length := by
  induction vs generalizing i with
  | nil => cases hi
  | cons a l ih =>
    have ha := h a (List.mem_cons_self ..)
    rw [List.flatMap_cons]
    cases i with
    | zero =>
      simp only [List.getElem?_cons_zero, Option.some.injEq] at hi
      subst hi
      rw [Nat.zero_mul, Nat.zero_add, List.drop_zero, List.take_left' ha, List.length_append]
      exact ⟨rfl, by omega⟩
    | succ i =>
      obtain ⟨h1, h2⟩ := ih (fun x hx => h x (List.mem_cons_of_mem _ hx)) (by simpa using hi)
      rw [List.drop_append, List.length_append, ha, Nat.succ_mul, List.drop_eq_nil_of_le (by omega), List.nil_append, Nat.add_sub_cancel]
      exact ⟨h1, by omega⟩
/-- A step down to where one begins. -/
theorem down_ind {n : Nat} {G : Nat → Prop} (h0 : G n) (hs : ∀ i, i < n → G (i + 1) → G i) : ∀ i, i ≤ n → G i := by
  have : ∀ m i, i + m = n → G i := by
    intro m
    induction m with
    | zero => intro i hi; have : i = n := by omega
              subst this; exact h0
    | succ m ih => intro i hi; exact hs i (by omega) (ih (i + 1) (by omega))
  intro i hi
  exact this (n - i) i (by omega)
theorem purL_one {l : List AV} {s : St} {k : Nat} (h : closedL l = true) : purL (pur Tryz.env.P s k) l = some (l, []) := purL_closed k h
/-- A call in a region that draws, its arguments without blocks. -/
theorem callPuD {h : FuncId} {args : List AV} {l : List Nat} {v : AV} {K : AV → St → Prop} (hc : PureC Tryz.env h args v) (hcl : ∀ x ∈ args, x.closed = true) (hk : K v s) : CallPuD Tryz.env h args l s K := by
  have hcl2 : closedL args = true := by
    clear hc
    induction args with
    | nil => rfl
    | cons x l ih => simp only [closedL, hcl x (List.mem_cons_self ..), ih fun y hy => hcl y (List.mem_cons_of_mem _ hy), Bool.and_self]
  exact .mk args [] v (purL_closed 12 hcl2) hc rfl hk
theorem callPur {h : FuncId} {args args2 : List AV} {ids : List Nat} {v : AV} {K : AV → St → Prop} (hp : purL (pur Tryz.env.P s 12) args = some (args2, ids)) (hc : PureC Tryz.env h args2 v) (hk : K v (if ids.isEmpty || v.flat then s else s.drop ids)) : CallPu Tryz.env h args s K := .mk args2 ids v hp hc hk
theorem callWiF {h : FuncId} {args : List AV} {s : St} {K : AV → St → Prop} (hz : Tryz.env.fz h = false) (hc : ∃ r s', WideC Tryz.env h args s r s' ∧ K r s') : CallWi Tryz.env h args s K := by
  obtain ⟨r, s', h1, h2⟩ := hc
  exact .mk r s' h1 (by rw [hz]; exact h2)
theorem callWiZ {h : FuncId} {args : List AV} {s : St} {K : AV → St → Prop} (hz : Tryz.env.fz h = true) (hc : ∃ r s', WideC Tryz.env h args s r s' ∧ Bnd (pur Tryz.env.P s' 12 r) fun v => K v.1 (s'.drop v.2)) : CallWi Tryz.env h args s K := by
  obtain ⟨r, s', h1, h2⟩ := hc
  exact .mk r s' h1 (by rw [hz]; exact h2)
abbrev PureQ (v : AV) : AV → St → Prop := fun r s' => ∃ ids, pur Tryz.env.P s' 12 r = some (v, ids)
theorem pure_q {h : FuncId} {args : List AV} {v : AV} (hw : ∃ r s', WideC Tryz.env h args St.empty r s' ∧ PureQ v r s') : PureC Tryz.env h args v := pure_of hw
theorem pureQ_closed {v : AV} {s : St} (h : v.closed = true) : PureQ v v s := ⟨[], pur_closed 12 h⟩
theorem cells_map {α : Type} {f : α → AV} {z : Nat} (h1 : ∀ a, (f a).cells.length = z) (h2 : ∀ a, (f a).cells.all AV.one = true) (l : List α) : ∀ v ∈ l.map f, v.cells.length = z ∧ v.cells.all AV.one = true := fun v hv => by
  obtain ⟨a, _, rfl⟩ := List.mem_map.1 hv
  exact ⟨h1 a, h2 a⟩
theorem closedL_map' {α : Type} (f : α → AV) (l : List α) (h : ∀ x ∈ l, (f x).closed = true) : closedL (l.map f) = true := by
  induction l with
  | nil => rfl
  | cons x l ih => simp only [List.map_cons, closedL, h x (List.mem_cons_self ..), ih fun y hy => h y (List.mem_cons_of_mem _ hy), Bool.and_self]
theorem sl_closed {l : List AV} (h : closedL l = true) : (AV.sl false l).closed = true := by simp only [AV.closed, Bool.not_false, Bool.true_and, h]
theorem sl_closed_map {α : Type} (f : α → AV) (l : List α) (h : ∀ x ∈ l, (f x).closed = true) : (AV.sl false (l.map f)).closed = true := sl_closed (closedL_map' f l h)
theorem pur_sl {ex : Bool} {l : List AV} {k : Nat} (h : closedL l = true) : ∃ ids, pur Tryz.env.P s (k + 1) (.sl ex l) = some (.sl false l, ids) ∧ ids = [] := by
  cases ex with
  | false => exact ⟨[], pur_closed _ (sl_closed h), rfl⟩
  | true =>
    refine ⟨[], ?_, rfl⟩
    unfold pur
    rw [if_neg (by simp [AV.closed])]
    simp only [purL_closed k h, Option.map_some]
theorem Gw.not_closed (g : Gw e z 0 s x vs) : x.closed = false := by
  obtain ⟨_, ⟨rfl, _⟩ | ⟨_, _, rfl, _⟩⟩ := g <;> rfl
/-- Such a list of structs, as another function sees it. -/
theorem gw_purk (h : SlTy t e z true b) (g : Gw e z 0 s x vs) (hc : ∀ v ∈ vs, v.closed = true) (ha : ∀ v ∈ vs, v = .agg v.cells) (k : Nat) : pur Tryz.env.P s (k + 1) x = some (.sl false vs, idOf x) := by
  obtain ⟨h1, ⟨rfl, rfl⟩ | ⟨i, hi, rfl, hs⟩⟩ := g
  · rfl
  · have h2 : lay Tryz.env.P e = some (z, true) := h.l
    have hp := purL_closed (s := s) k (flat_closed hc)
    have hfl := flat_len h1
    have hnc : (AV.ref i 0 vs.length none e).closed = false := rfl
    unfold pur
    rw [hnc, if_neg (by simp)]
    simp only [hs, h2, hfl, Nat.zero_add, Nat.le_refl, h.pos, and_self, if_true, List.drop_zero]
    rw [show (vs.flatMap AV.cells).take (vs.length * z) = vs.flatMap AV.cells from List.take_of_length_le (by rw [hfl]; exact Nat.le_refl _)]
    simp only [hp, Option.bind_some, Bool.true_or, if_true, chunk_back h1 ha, idOf]
theorem gw_purk1 (h : SlTy t e 1 false b) (g : Gw e 1 0 s x vs) (hc : ∀ v ∈ vs, v.closed = true) (ha : ∀ v ∈ vs, notAgg v = true) (k : Nat) : pur Tryz.env.P s (k + 1) x = some (.sl false vs, idOf x) := by
  obtain ⟨h1, ⟨rfl, rfl⟩ | ⟨i, hi, rfl, hs⟩⟩ := g
  · rfl
  · have h2 : lay Tryz.env.P e = some (1, false) := h.l
    have hp := purL_closed (s := s) k (flat_closed hc)
    have hfl := flat_len h1
    have hone : vs.flatMap AV.cells = vs := flat_one fun v hv => by
      have := ha v hv
      cases v <;> first | rfl | cases this
    have hall : vs.all notAgg = true := List.all_eq_true.2 ha
    rw [hone] at hp
    have hnc : (AV.ref i 0 vs.length none e).closed = false := rfl
    unfold pur
    rw [hnc, if_neg (by simp)]
    simp only [hs, h2, hfl, Nat.zero_add, Nat.mul_one, Nat.le_refl, Nat.lt_one_iff, and_self, if_true, List.drop_zero, hone]
    rw [show vs.take vs.length = vs from List.take_length]
    simp [hp, idOf]
    exact ha
/-! ### The same, of a list's elements -/
section
variable {α : Type} {f : α → AV} {l : List α}
theorem app_map (h : SlTy t e z ag b) (he : Enc f z) (g : Gw e z 0 s x (l.map f)) (hf : (l.length + 1) * b ≤ 2 ^ 40) (hf2 : l.length + 1 ≤ 2 ^ 40) (a : α) (ex : Bool) (id : Nat) :
    bt .append #[t, t] [x, .sl ex [f a]] id s = some (.ref id 0 (l.length + 1) none e, (s.drop (idOf x)).set id (some (.cells (((l ++ [a]).map f).flatMap AV.cells) e false true))) := by
  have := app_one h g (he.len a) (he.ones a) (by rw [List.length_map]; exact fits_of hf hf2) ex id
  rw [List.length_map] at this
  rw [this, List.map_append]; rfl
theorem apps_map (h : SlTy t e z ag b) (he : Enc f z) (g : Gw e z 0 s x (l.map f)) {k : List α} (hk : k ≠ []) (hf : (l.length + k.length) * b ≤ 2 ^ 40) (hf2 : l.length + k.length ≤ 2 ^ 40) (ex : Bool) (id : Nat) :
    bt .append #[t, t] [x, .sl ex (k.map f)] id s = some (.ref id 0 (l.length + k.length) none e, (s.drop (idOf x)).set id (some (.cells (((l ++ k).map f).flatMap AV.cells) e false true))) := by
  have := app_many h g (cells_map he.len he.ones k) (by simpa using hk) (by rw [List.length_map, List.length_map]; exact fits_of hf hf2) ex id
  rw [List.length_map, List.length_map] at this
  rw [this, List.map_append]
theorem gw_map (he : Enc f z) {id k n : Nat} {s0 : St} (hk : k = l.length) : Gw e z 0 (Ai.adv (s0.set id (some (.cells ((l.map f).flatMap AV.cells) e false true))) n) (.ref id 0 k none e) (l.map f) := by
  refine Gw.here (cells_map he.len he.ones _) ?_
  rw [List.length_map]; exact hk
theorem gw_map1 (he : Enc f z) {a : α} {id n : Nat} {s0 : St} : Gw e z 0 (Ai.adv (s0.set id (some (.cells (((l ++ [a]).map f).flatMap AV.cells) e false true))) n) (.ref id 0 (l.length + 1) none e) ((l ++ [a]).map f) :=
  gw_map he (by simp)
theorem pur_map (h : SlTy t e z true b) (g : Gw e z 0 s x (l.map f)) (h1 : ∀ a ∈ l, (f a).closed = true) (h2 : ∀ a ∈ l, f a = .agg (f a).cells) (k : Nat) : ∃ ids, pur Tryz.env.P s (k + 1) x = some (.sl false (l.map f), ids) ∧ ids = idOf x :=
  ⟨_, gw_purk h g (fun v hv => by obtain ⟨a, ha, rfl⟩ := List.mem_map.1 hv; exact h1 a ha) (fun v hv => by obtain ⟨a, ha, rfl⟩ := List.mem_map.1 hv; exact h2 a ha) k, rfl⟩
theorem pur_map1 (h : SlTy t e 1 false b) (g : Gw e 1 0 s x (l.map f)) (h1 : ∀ a ∈ l, (f a).closed = true) (h2 : ∀ a ∈ l, notAgg (f a) = true) (k : Nat) : ∃ ids, pur Tryz.env.P s (k + 1) x = some (.sl false (l.map f), ids) ∧ ids = idOf x :=
  ⟨_, gw_purk1 h g (fun v hv => by obtain ⟨a, ha, rfl⟩ := List.mem_map.1 hv; exact h1 a ha) (fun v hv => by obtain ⟨a, ha, rfl⟩ := List.mem_map.1 hv; exact h2 a ha) k, rfl⟩
theorem pureQ_of {x v : AV} {ids : List Nat} (h : ∃ ids', pur Tryz.env.P s 12 x = some (v, ids') ∧ ids' = ids) : PureQ v x s := by
  obtain ⟨i, h1, _⟩ := h
  exact ⟨i, h1⟩
end
theorem wrapN {k : Nat} (h : k < 2 ^ 63) : IntKind.i64.wrap (k : Int) = (k : Int) := IntWalk.i64_in _ (by omega)
end
end Go.Proofs.YtdehdahimkcakaaGreatDoor
