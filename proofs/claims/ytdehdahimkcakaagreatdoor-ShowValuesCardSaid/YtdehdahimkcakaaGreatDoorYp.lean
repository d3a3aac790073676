/- Texts joined by wip/tools/pack.py: Row, Kit, Tf, Str, Sx, Na, Fi, Bd, Li, Es, Dc, Sh, Cc, Lt, Tx. -/
import Derived.Test.YtdehdahimkcakaaGreatDoorCards
import Derived.Test.YtdehdahimkcakaaGreatDoorTie
import Derived.ProofKit
import Derived.LaidMore
import Derived.Lay
import Derived.SevenTiedAt
import Derived.Test.YtdehdahimkcakaaGreatDoorYo
section
set_option linter.unusedVariables false
set_option linter.unusedSimpArgs false
set_option maxRecDepth 100000
namespace Go.Proofs.YtdehdahimkcakaaGreatDoor
open Go Ai
theorem own : ownKnob Tryz.prog.godebug = none := by kernel_rfl
def plainTys : List Nat := [3, 4, 5, 9, 22, 24, 25, 27, 30, 31, 32, 33, 34, 49, 65, 67, 79, 93, 109, 119, 151, 159, 190, 192, 193, 211, 298, 300, 301, 310, 317, 318]
theorem plain_all : (plainTys.all fun t => shapeOk Tryz.ty plainTys t) = true := by kernel_rfl
theorem plain_ok : ∀ t ∈ plainTys, shapeOk Tryz.env.P plainTys t = true := fun t ht => List.all_eq_true.1 plain_all t ht
theorem glob_of {laid : List (String × DataW Unit)} (hp : (laid.all fun x => x.2.handleName?.isNone) = true) {W : World} (h : laidMetH Tryz.prog laid W)
    (hg : ∀ g cs, Tryz.glob g = some cs → ∃ nd ∈ laid, Tryz.prog.globalNamed nd.1 = some g ∧ (∃ t ∈ plainTys, (Tryz.prog.globals[g]?).map (·.type) = some t) ∧ cs = (dAV nd.2).cells) : GlobOk Tryz.env.P Tryz.env.glob W.cell? W := by
  rw [MakeChecks.laidMetH_plain _ _ _ hp] at h
  exact glob_ok env_ok.ty plain_ok h hg
section
variable {H : Type}
def fieldTys (T : Ty) (t : TypeId) : Option (List TypeId) := match und T t with
  | some (.struct fs) => some (fs.toList.map (·.type))
  | _ => none
def intTy (T : Ty) (t : TypeId) : Option IntKind := match und T t with
  | some (.int k) => some k
  | _ => none
def elemTy (T : Ty) (t : TypeId) : Option TypeId := match und T t with
  | some (.slice e) => some e
  | _ => none
def oneTy (T : Ty) (t : TypeId) : Nat := match und T t with
  | some .bool => 1
  | some .string => 2
  | _ => 0
variable {T : Ty} {n : Nat} {t : TypeId} {d : DataW H}
theorem Ai.TyD.struct {ts : List TypeId} (h : fieldTys T t = some ts) (hd : TyD T n t d) : ∃ m l, n = m + 1 ∧ d = .agg l ∧ l.length = ts.length ∧ ∀ (i : Nat) t x, ts[i]? = some t → l[i]? = some x → TyD T m t x := by
  cases n with
  | zero => exact hd.elim
  | succ m =>
    unfold fieldTys at h
    unfold TyD at hd
    split at h
    · rename_i fs hu
      rw [hu] at hd
      obtain ⟨l, rfl, h1, h2⟩ := hd
      cases h
      refine ⟨m, l, rfl, rfl, by simp [h1], fun i t x ht hx => ?_⟩
      obtain ⟨hi, rfl⟩ := List.getElem?_eq_some_iff.1 hx
      have := h2 i hi (by omega)
      have e : fs[i].type = t := by
        rw [List.getElem?_map, Option.map_eq_some_iff] at ht
        obtain ⟨f, hf, rfl⟩ := ht
        rw [Array.getElem?_toList, Array.getElem?_eq_getElem (by omega)] at hf
        cases hf; rfl
      rw [← e]; exact this
    · cases h
theorem Ai.TyD.int {k : IntKind} (h : intTy T t = some k) (hd : TyD T n t d) : ∃ m, d = .lit (.int k m) ∧ (Lit.int k m).wf = true := by
  cases n with
  | zero => exact hd.elim
  | succ m =>
    unfold intTy at h
    unfold TyD at hd
    split at h
    · rename_i k' hu
      rw [hu] at hd; cases h; exact hd
    · cases h
theorem Ai.TyD.bool (h : oneTy T t = 1) (hd : TyD T n t d) : ∃ b, d = .lit (.bool b) := by
  cases n with
  | zero => exact hd.elim
  | succ m =>
    unfold oneTy at h
    unfold TyD at hd
    split at h
    · rename_i hu
      rw [hu] at hd; exact hd
    · cases h
    · cases h
theorem Ai.TyD.str (h : oneTy T t = 2) (hd : TyD T n t d) : ∃ s, d = .lit (.string s) ∧ s.length ≤ maxLen := by
  cases n with
  | zero => exact hd.elim
  | succ m =>
    unfold oneTy at h
    unfold TyD at hd
    split at h
    · cases h
    · rename_i hu
      rw [hu] at hd; exact hd
    · cases h
theorem Ai.TyD.list {e : TypeId} (h : elemTy T t = some e) (hd : TyD T n t d) : ∃ (m : Nat) (l : List (DataW H)), n = m + 1 ∧ dAV d = .sl false (dAVs l) ∧ l.length ≤ maxLen ∧ ∀ x ∈ l, TyD T m e x := by
  cases n with
  | zero => exact hd.elim
  | succ m =>
    unfold elemTy at h
    unfold TyD at hd
    split at h
    · rename_i hu
      rw [hu] at hd; cases h
      rcases hd with rfl | ⟨l, r, rfl, h1, h2⟩
      · exact ⟨m, [], rfl, rfl, by simp, fun _ h => by cases h⟩
      · exact ⟨m, l, rfl, rfl, h1, h2⟩
    · cases h
def isInt (n : Int) : Bool := (Lit.int .i64 n).wf
inductive Sx : Type where
  | mk (l : Bool) (k : Int) (x : List UInt8) (p a : Int) (items : List Sx)
mutual
def Sx.av : Sx → AV
  | .mk l k x p a items => .agg [.bool l, .int .i64 k, .str x, .int .i64 p, .int .i64 a, .sl false (Sx.avs items)]
def Sx.avs : List Sx → List AV
  | [] => []
  | s :: l => s.av :: Sx.avs l
end
theorem Sx.avs_eq (l : List Sx) : Sx.avs l = l.map Sx.av := by induction l with | nil => rfl | cons s l ih => simp [Sx.avs, ih]
mutual
def Sx.ok : Sx → Bool
  | .mk _ k x p a items => isInt k && decide (x.length ≤ maxLen) && isInt p && isInt a && decide (items.length ≤ maxLen) && Sx.oks items
def Sx.oks : List Sx → Bool
  | [] => true
  | s :: l => s.ok && Sx.oks l
end
end
end Go.Proofs.YtdehdahimkcakaaGreatDoor
end
section
set_option linter.unusedVariables false
set_option linter.unusedSimpArgs false
namespace Go.Proofs.YtdehdahimkcakaaGreatDoor
open Go Ai
section
variable {s s' : St} {n m i j : Nat} {o p : Option Blk}
theorem set_set : (s.set i o).set i p = s.set i p := by
  show (⟨_, _⟩ : St) = ⟨_, _⟩
  congr 1
  funext k
  show cond (Nat.beq k i) p (cond (Nat.beq k i) o (s.h k)) = cond (Nat.beq k i) p (s.h k)
  cases Nat.beq k i <;> rfl
theorem adv_set : (adv s n).set i o = adv (s.set i o) n := rfl
theorem adv_drop (l : List Nat) : (adv s n).drop l = adv (s.drop l) n := by
  induction l generalizing s with
  | nil => rfl
  | cons a l ih => exact ih (s := s.set a none)
theorem adv_two : adv (adv s n) m = adv s (n + m) := by simp [adv, Nat.add_assoc]
theorem get_set : (s.set n o).h m = if m = n then o else s.h m := by
  by_cases h : m = n
  · subst h; rw [if_pos rfl, st_same]
  · rw [if_neg h, st_other h]
theorem nx_drop (l : List Nat) : (s.drop l).nx = s.nx := by
  induction l generalizing s with
  | nil => rfl
  | cons a l ih => exact ih
theorem get_drop' (l : List Nat) : (s.drop l).h m = if m ∈ l then none else s.h m := by
  induction l generalizing s with
  | nil => simp [St.drop]
  | cons a l ih =>
    show ((s.set a none).drop l).h m = _
    rw [ih, get_set]
    by_cases h1 : m ∈ l
    · simp [h1]
    · by_cases h2 : m = a <;> simp [h1, h2]
theorem old_ne (h : i < n) (k : Nat) : (i = n + k) = False := by simp; omega
theorem old_ne0 (h : i < n) : (i = n) = False := by simp; omega
theorem idOf_ref {i a n : Nat} {c : Option Nat} {e : TypeId} : idOf (.ref i a n c e) = [i] := rfl
theorem idOf_nils : idOf .nils = [] := rfl
theorem idOf_ptr {i a : Nat} : idOf (.ptr i a) = [i] := rfl
theorem idOf_sl {ex : Bool} {l : List AV} : idOf (.sl ex l) = [] := rfl
theorem idOf_pel {l : List AV} {n : Nat} : idOf (.pel l n) = [] := rfl
theorem drop_nil : s.drop [] = s := rfl
theorem drop_cons {l : List Nat} : s.drop (i :: l) = (s.set i none).drop l := rfl
theorem wantV_tup {l : List AV} {w : Bool} : wantV (.tup l) w = some false := rfl
theorem resC_nil : resC [] = some [] := rfl
theorem resC_some {v : AV} {l : List (Option AV)} : resC (some v :: l) = (resC l).map (v :: ·) := rfl
theorem retP_some {v : AV} {Q : AV → Prop} : RetP (some v) Q = Q v := rfl
theorem map_some' {α β : Type} {f : α → β} {a : α} : Option.map f (some a) = some (f a) := rfl
theorem tupV_one {v : AV} : tupV [v] = v := rfl
theorem tupV_two {v w : AV} : tupV [v, w] = .tup [v, w] := rfl
structure EF (M : List Nat) (s s' : St) : Prop where
  nx : s.nx ≤ s'.nx
  h : ∀ j, j < s.nx → j ∉ M → s'.h j = s.h j
  fr : Fresh s'
theorem EF.refl (M : List Nat) (fr : Fresh s) : EF M s s := ⟨Nat.le_refl _, fun _ _ _ => rfl, fr⟩
theorem EF.adv {M : List Nat} (h : EF M s s') : EF M s (adv s' n) := ⟨by have := h.nx; show s.nx ≤ s'.nx + n; omega, h.h, h.fr.adv⟩
theorem EF.set {M : List Nat} (h : EF M s s') (hi : i < s'.nx) (hm : s.nx ≤ i ∨ i ∈ M) : EF M s (s'.set i o) :=
  ⟨h.nx, fun j hj hn => by rw [get_set, if_neg (by rintro rfl; rcases hm with hm | hm; omega; exact hn hm)]; exact h.h j hj hn, h.fr.set hi⟩
theorem EF.drop {M l : List Nat} (h : EF M s s') (hm : ∀ i ∈ l, s.nx ≤ i ∨ i ∈ M) : EF M s (s'.drop l) :=
  ⟨by rw [nx_drop]; exact h.nx, fun j hj hn => by rw [get_drop', if_neg (fun hl => by rcases hm j hl with hm | hm; omega; exact hn hm)]; exact h.h j hj hn,
    fun j hj => by rw [nx_drop] at hj; rw [get_drop']; split; rfl; exact h.fr j hj⟩
theorem EF.trans {M M' : List Nat} {s'' : St} (h : EF M s s') (k : EF M' s' s'') (hm : ∀ i ∈ M', s.nx ≤ i ∨ i ∈ M) : EF M s s'' :=
  ⟨Nat.le_trans h.nx k.nx, fun j hj hn => by
    rw [k.h j (Nat.lt_of_lt_of_le hj h.nx) (fun hl => by rcases hm j hl with hm | hm; omega; exact hn hm)]; exact h.h j hj hn, k.fr⟩
theorem EF.sub {M M' : List Nat} (h : EF M s s') (hm : ∀ i ∈ M, s.nx ≤ i ∨ i ∈ M') : EF M' s s' :=
  ⟨h.nx, fun j hj hn => h.h j hj fun hl => by rcases hm j hl with hm | hm; omega; exact hn hm, h.fr⟩
theorem fresh_set (fr : Fresh s) (k : Nat) (h : i < s.nx + k) : Fresh (Ai.adv (s.set i o) k) := by
  have : Fresh (Ai.adv s k) := fr.adv
  rw [← adv_set]; exact this.set h
theorem fresh_app (fr : Fresh s) (l : List Nat) (k : Nat) (h : i < s.nx + k) : Fresh (Ai.adv ((s.drop l).set i o) k) := by
  have h1 : Fresh (s.drop l) := fun j hj => by
    rw [nx_drop] at hj; rw [get_drop']; split; rfl; exact fr j hj
  exact fresh_set h1 k (by rw [nx_drop]; exact h)
theorem fresh_drop (fr : Fresh s) (l : List Nat) : Fresh (s.drop l) := fun j hj => by
  rw [nx_drop] at hj; rw [get_drop']; split; rfl; exact fr j hj
end
section
variable {t e : TypeId} {z b id : Nat} {ag : Bool} {s s' : St} {x : AV} {vs : List AV}
theorem Gw.id_lt (g : Gw e z 0 s x vs) (fr : Fresh s) : ∀ j ∈ idOf x, j < s.nx := by
  obtain ⟨_, ⟨rfl, _⟩ | ⟨i, _, rfl, hs⟩⟩ := g
  · intro j hj; cases hj
  · intro j hj
    simp only [idOf, List.mem_cons, List.mem_nil_iff, or_false] at hj
    subst hj
    refine Nat.lt_of_not_le fun hc => ?_
    rw [fr _ hc] at hs; cases hs
theorem Gw.keep (g : Gw e z 0 s x vs) (h : ∀ j ∈ idOf x, s'.h j = s.h j) : Gw e z 0 s' x vs := by
  obtain ⟨h1, ⟨rfl, rfl⟩ | ⟨i, hi, rfl, hs⟩⟩ := g
  · exact ⟨h1, .inl ⟨rfl, rfl⟩⟩
  · exact ⟨h1, .inr ⟨i, hi, rfl, by rw [h i (by simp [idOf])]; exact hs⟩⟩
theorem Gw.ext {M : List Nat} (g : Gw e z 0 s x vs) (fr : Fresh s) (h : EF M s s') (hd : ∀ j ∈ idOf x, j ∉ M) : Gw e z 0 s' x vs :=
  g.keep fun j hj => h.h j (g.id_lt fr j hj) (hd j hj)
theorem Gw.here (h : ∀ v ∈ vs, v.cells.length = z ∧ v.cells.all AV.one = true) {s0 : St} {n k : Nat} (hk : k = vs.length) : Gw e z 0 (Ai.adv (s0.set id (some (.cells (vs.flatMap AV.cells) e false true))) n) (.ref id 0 k none e) vs := by
  subst hk
  exact ⟨h, .inr ⟨id, Nat.zero_le _, rfl, by rw [adv_h, st_same]⟩⟩
theorem Gw.one (g : Gw e z 0 s x vs) : x.cells = [x] ∧ x.one = true := by
  obtain ⟨h1, ⟨rfl, rfl⟩ | ⟨i, hi, rfl, hs⟩⟩ := g <;> exact ⟨rfl, rfl⟩
theorem app_one (h : SlTy t e z ag b) (g : Gw e z 0 s x vs) {v : AV} (hv : v.cells.length = z) (ho : v.cells.all AV.one = true) (hf : fitsA (vs.length + 1) b = true) (ex : Bool) (id : Nat) :
    bt .append #[t, t] [x, .sl ex [v]] id s = some (.ref id 0 (vs.length + 1) none e, (s.drop (idOf x)).set id (some (.cells ((vs ++ [v]).flatMap AV.cells) e false true))) := by
  rw [app_any h]
  have hsrc : srcCells z (.sl ex [v]) s = some v.cells := by simp [srcCells, hv]
  rw [hsrc, Option.bind_some]
  have hne : v.cells ≠ [] := fun hh => by rw [hh] at hv; have := h.pos; simp at hv; omega
  have hem : v.cells.isEmpty = false := by cases hc : v.cells with | nil => exact absurd hc hne | cons a b => rfl
  have hdiv : v.cells.length / z = 1 := by rw [hv]; exact Nat.div_self h.pos
  obtain ⟨h1, ⟨rfl, rfl⟩ | ⟨i, hi, rfl, hs⟩⟩ := g
  · have hf' : fitsA 1 b = true := by simpa using hf
    unfold appendA
    simp [hem, ho, grown, hdiv, hf', newSl, idOf, St.drop]
  · have hfl := flat_len h1
    have hlen : (vs.flatMap AV.cells ++ v.cells).length / z = vs.length + 1 := by
      rw [List.length_append, hfl, hv, ← Nat.succ_mul, Nat.mul_div_cancel _ h.pos]
    have hgt : ¬ (vs.length * z + v.cells.length ≤ (vs.flatMap AV.cells).length) := by rw [hfl, hv]; have := h.pos; omega
    unfold appendA
    simp only [hem, ho, Bool.not_true, Bool.false_eq_true, if_false, hs, Nat.zero_add, hfl, Nat.le_refl, and_self, if_true]
    rw [if_neg (by rw [hv]; have := h.pos; omega)]
    simp only [grown, hlen, hf, if_true, newSl, idOf, St.drop]
    simp
theorem app_many (h : SlTy t e z ag b) (g : Gw e z 0 s x vs) {ws : List AV} (hw : ∀ v ∈ ws, v.cells.length = z ∧ v.cells.all AV.one = true) (hne : ws ≠ []) (hf : fitsA (vs.length + ws.length) b = true) (ex : Bool) (id : Nat) :
    bt .append #[t, t] [x, .sl ex ws] id s = some (.ref id 0 (vs.length + ws.length) none e, (s.drop (idOf x)).set id (some (.cells ((vs ++ ws).flatMap AV.cells) e false true))) := by
  rw [app_any h]
  have hall : ws.all (fun v => v.cells.length == z) = true := List.all_eq_true.2 fun v hv => by simp [(hw v hv).1]
  have hsrc : srcCells z (.sl ex ws) s = some (ws.flatMap AV.cells) := by simp [srcCells, hall]
  rw [hsrc, Option.bind_some]
  have hwl := flat_len hw
  have hpos : 0 < ws.length := List.length_pos_iff.2 hne
  have hmul : 0 < ws.length * z := Nat.mul_pos hpos h.pos
  have hem : (ws.flatMap AV.cells).isEmpty = false := by
    cases hc : ws.flatMap AV.cells with
    | nil => rw [hc] at hwl; simp at hwl; omega
    | cons a b => rfl
  have hones : (ws.flatMap AV.cells).all AV.one = true := by
    rw [List.all_eq_true]
    intro y hy
    obtain ⟨v, hv, hy⟩ := List.mem_flatMap.1 hy
    exact List.all_eq_true.1 (hw v hv).2 y hy
  have hdiv : (ws.flatMap AV.cells).length / z = ws.length := by rw [hwl]; exact Nat.mul_div_cancel _ h.pos
  obtain ⟨h1, ⟨rfl, rfl⟩ | ⟨i, hi, rfl, hs⟩⟩ := g
  · have hf' : fitsA ws.length b = true := by simpa using hf
    unfold appendA
    simp only [hem, hones, grown, hdiv, hf', newSl, idOf, St.drop, Bool.not_true, Bool.false_eq_true, if_false, if_true, List.length_nil, Nat.zero_add, List.nil_append]
  · have hfl := flat_len h1
    have hlen : (vs.flatMap AV.cells ++ ws.flatMap AV.cells).length / z = vs.length + ws.length := by
      rw [List.length_append, hfl, hwl, ← Nat.add_mul, Nat.mul_div_cancel _ h.pos]
    unfold appendA
    simp only [hem, hones, Bool.not_true, Bool.false_eq_true, if_false, hs, Nat.zero_add, hfl, Nat.le_refl, and_self, if_true]
    rw [if_neg (by rw [hwl]; omega)]
    simp only [grown, hlen, hf, if_true, newSl, idOf, St.drop]
    simp
theorem app_nothing (h : SlTy t e z ag b) (g : Gw e z 0 s x vs) (ex : Bool) (id : Nat) : bt .append #[t, t] [x, .sl ex []] id s = some (x, s) := by
  rw [app_any h]
  have hsrc : srcCells z (.sl ex []) s = some [] := by simp [srcCells]
  rw [hsrc, Option.bind_some]
  obtain ⟨h1, ⟨rfl, rfl⟩ | ⟨i, hi, rfl, hs⟩⟩ := g <;> rfl
theorem fits_of {n b : Nat} (h : n * b ≤ 2 ^ 40) (h2 : n ≤ 2 ^ 40) : fitsA n b = true := by
  have h1 : n * b ≤ Ai.most := by unfold Ai.most; omega
  have h2 : n ≤ Ai.most := by unfold Ai.most; omega
  simp only [fitsA, Nat.ble_eq_true_of_le h1, Nat.ble_eq_true_of_le h2, Bool.and_self]
theorem slc_take {α : Type} {f : α → AV} (h : SlTy t e z ag b) (he : ∀ a, (f a).cells.length = z) (ex : Bool) (l : List α) {k : Nat} (hk : k ≤ l.length) (kd : IntKind) : slc t (.sl ex (l.map f)) none (some (.int kd (k : Int))) none s = some (.sl (ex && k == l.length) ((l.take k).map f)) := by
  have hh : ((l.map f).isEmpty || ((l.map f).head?).any fun v => v.cells.length == z) = true := by
    cases l with
    | nil => rfl
    | cons a l => simp [he]
  simp only [slc, sliceA, h.u, h.l, Option.bind_some]
  rw [if_pos hh]
  simp [bounds, optI, asI, hk]
theorem slc_drop {α : Type} {f : α → AV} (h : SlTy t e z ag b) (he : ∀ a, (f a).cells.length = z) (ex : Bool) (l : List α) {k : Nat} (hk : k ≤ l.length) (kd : IntKind) : slc t (.sl ex (l.map f)) (some (.int kd (k : Int))) none none s = some (.sl ex ((l.drop k).map f)) := by
  have hh : ((l.map f).isEmpty || ((l.map f).head?).any fun v => v.cells.length == z) = true := by
    cases l with
    | nil => rfl
    | cons a l => simp [he]
  simp only [slc, sliceA, h.u, h.l, Option.bind_some]
  rw [if_pos hh]
  simp [bounds, optI, asI, hk]
  exact List.take_of_length_le (by simp)
theorem disj_nil : ∀ l : List Nat, disj l [] = true
  | [] => rfl
  | _ :: l => by simp only [disj, memB, Bool.not_false, Bool.true_and]; exact disj_nil l
theorem bit_of {m k : Nat} : bitOf m k = decide ((m >>> k) % 2 = 1) := by
  unfold bitOf
  cases h : Nat.beq ((m >>> k) % 2) 1 with
  | true => exact (decide_eq_true (Nat.eq_of_beq_eq_true h)).symm
  | false => exact (decide_eq_false (Nat.ne_of_beq_eq_false h)).symm
theorem slc_ref0 (h : SlTy t e z ag b) {i n k : Nat} {c : List AV} {e' : TypeId} {ex wr : Bool} (hs : s.h i = some (.cells c e' ex wr)) (hn : n * z ≤ c.length) (hk : k ≤ c.length / z) (kd : IntKind) : slc t (.ref i 0 n none e) none (some (.int kd (k : Int))) none s = some (.ref i 0 k none e) := by
  have hp := h.pos
  have h1 : bounds n (roomA none (c.length - 0) z) none (some (.int kd (k : Int))) none = some (0, k, c.length / z) := by
    unfold bounds optI asI roomA
    simp only [Option.isSome_none, Option.isNone_some, Bool.and_false, Bool.false_eq_true, if_false, Option.bind_some, Nat.sub_zero]
    rw [if_pos ⟨by omega, by omega, by omega, by omega⟩]
    simp only [Int.toNat_natCast, Int.toNat_zero]
  have h2 : slc t (.ref i 0 n none e) none (some (.int kd (k : Int))) none s = (if e = e ∧ 0 < z ∧ 0 ≤ c.length then (bounds n (roomA none (c.length - 0) z) none (some (.int kd (k : Int))) none).map fun r =>
      if r.1 ≠ 0 ∧ r.2.1 = r.1 then .sl false [] else .ref i (0 + r.1 * z) (r.2.1 - r.1) none e else none) := by
    simp only [slc, sliceA, h.u, h.l, Option.bind_some, hs]
    rfl
  rw [h2, h1, if_pos ⟨rfl, hp, Nat.zero_le _⟩]
  simp
theorem sto_c {id off : Nat} {v : AV} {c : List AV} {e : TypeId} {ex : Bool} {s : St} (h : s.h id = some (.cells c e ex true)) (ho : off < c.length) (hv : v.cells = [v]) (hone : v.one = true) : sto 1 (.ptr id off) v s = some (s.set id (some (.cells (c.set off v) e ex true))) := by
  show Ai.store 1 (.ptr id off) v s = _
  unfold Ai.store
  simp only [h]
  rw [if_pos ⟨by rw [hv]; rfl, by omega, by rw [hv]; simp [hone]⟩, hv]
  rfl
structure Enc {α : Type} (f : α → AV) (z : Nat) : Prop where
  len : ∀ a, (f a).cells.length = z
  ones : ∀ a, (f a).cells.all AV.one = true
theorem ix_map {α : Type} {f : α → AV} {z : Nat} (hf : Enc f z) (ex : Bool) {l : List α} {i : Nat} {a : α} (h : l[i]? = some a) (k : IntKind) : ixS z (.sl ex (l.map f)) (.int k (i : Int)) = some (.pel (f a).cells 0) := by
  obtain ⟨hi, rfl⟩ := List.getElem?_eq_some_iff.1 h
  simp [ixS, asI, idx, hi, hf.len]
theorem ix_ref {e : TypeId} {z i id off n : Nat} {c : Option Nat} (h : i < n) (k : IntKind) : ixS z (.ref id off n c e) (.int k (i : Int)) = some (.ptr id (off + i * z)) := by
  simp [ixS, asI, idx, h]
theorem drop_flat (h : ∀ v ∈ vs, v.cells.length = z) {i : Nat} {v : AV} (hi : vs[i]? = some v) : ((vs.flatMap AV.cells).drop (i * z)).take z = v.cells ∧ i * z + z ≤ (vs.flatMap AV.cells).length := by
  induction vs generalizing i with
  | nil => cases hi
  | cons a l ih =>
    have ha := h a (List.mem_cons_self ..)
    rw [List.flatMap_cons]
    cases i with
    | zero =>
      simp only [List.getElem?_cons_zero, Option.some.injEq] at hi
      subst hi
      rw [Nat.zero_mul, Nat.zero_add, List.drop_zero, List.take_left' ha, List.length_append]
      exact ⟨rfl, by omega⟩
    | succ i =>
      obtain ⟨h1, h2⟩ := ih (fun x hx => h x (List.mem_cons_of_mem _ hx)) (by simpa using hi)
      rw [List.drop_append, List.length_append, ha, Nat.succ_mul, List.drop_eq_nil_of_le (by omega), List.nil_append, Nat.add_sub_cancel]
      exact ⟨h1, by omega⟩
theorem callPuD {h : FuncId} {args : List AV} {l : List Nat} {v : AV} {K : AV → St → Prop} (hc : PureC Tryz.env h args v) (hcl : ∀ x ∈ args, x.closed = true) (hk : K v s) : CallPuD Tryz.env h args l s K := by
  have hcl2 : closedL args = true := by
    clear hc
    induction args with
    | nil => rfl
    | cons x l ih => simp only [closedL, hcl x (List.mem_cons_self ..), ih fun y hy => hcl y (List.mem_cons_of_mem _ hy), Bool.and_self]
  exact .mk args [] v (purL_closed 12 hcl2) hc rfl hk
theorem callPur {h : FuncId} {args args2 : List AV} {ids : List Nat} {v : AV} {K : AV → St → Prop} (hp : purL (pur Tryz.env.P s 12) args = some (args2, ids)) (hc : PureC Tryz.env h args2 v) (hk : K v (if ids.isEmpty || v.flat then s else s.drop ids)) : CallPu Tryz.env h args s K := .mk args2 ids v hp hc hk
theorem callWiF {h : FuncId} {args : List AV} {s : St} {K : AV → St → Prop} (hz : Tryz.env.fz h = false) (hc : ∃ r s', WideC Tryz.env h args s r s' ∧ K r s') : CallWi Tryz.env h args s K := by
  obtain ⟨r, s', h1, h2⟩ := hc
  exact .mk r s' h1 (by rw [hz]; exact h2)
theorem callWiZ {h : FuncId} {args : List AV} {s : St} {K : AV → St → Prop} (hz : Tryz.env.fz h = true) (hc : ∃ r s', WideC Tryz.env h args s r s' ∧ Bnd (pur Tryz.env.P s' 12 r) fun v => K v.1 (s'.drop v.2)) : CallWi Tryz.env h args s K := by
  obtain ⟨r, s', h1, h2⟩ := hc
  exact .mk r s' h1 (by rw [hz]; exact h2)
abbrev PureQ (v : AV) : AV → St → Prop := fun r s' => ∃ ids, pur Tryz.env.P s' 12 r = some (v, ids)
theorem pure_q {h : FuncId} {args : List AV} {v : AV} (hw : ∃ r s', WideC Tryz.env h args St.empty r s' ∧ PureQ v r s') : PureC Tryz.env h args v := pure_of hw
theorem pureQ_closed {v : AV} {s : St} (h : v.closed = true) : PureQ v v s := ⟨[], pur_closed 12 h⟩
theorem cells_map {α : Type} {f : α → AV} {z : Nat} (h1 : ∀ a, (f a).cells.length = z) (h2 : ∀ a, (f a).cells.all AV.one = true) (l : List α) : ∀ v ∈ l.map f, v.cells.length = z ∧ v.cells.all AV.one = true := fun v hv => by
  obtain ⟨a, _, rfl⟩ := List.mem_map.1 hv
  exact ⟨h1 a, h2 a⟩
theorem closedL_map' {α : Type} (f : α → AV) (l : List α) (h : ∀ x ∈ l, (f x).closed = true) : closedL (l.map f) = true := by
  induction l with
  | nil => rfl
  | cons x l ih => simp only [List.map_cons, closedL, h x (List.mem_cons_self ..), ih fun y hy => h y (List.mem_cons_of_mem _ hy), Bool.and_self]
theorem sl_closed {l : List AV} (h : closedL l = true) : (AV.sl false l).closed = true := by simp only [AV.closed, Bool.not_false, Bool.true_and, h]
theorem sl_closed_map {α : Type} (f : α → AV) (l : List α) (h : ∀ x ∈ l, (f x).closed = true) : (AV.sl false (l.map f)).closed = true := sl_closed (closedL_map' f l h)
theorem pur_sl {ex : Bool} {l : List AV} {k : Nat} (h : closedL l = true) : ∃ ids, pur Tryz.env.P s (k + 1) (.sl ex l) = some (.sl false l, ids) ∧ ids = [] := by
  cases ex with
  | false => exact ⟨[], pur_closed _ (sl_closed h), rfl⟩
  | true =>
    refine ⟨[], ?_, rfl⟩
    unfold pur
    rw [if_neg (by simp [AV.closed])]
    simp only [purL_closed k h, Option.map_some]
theorem Gw.not_closed (g : Gw e z 0 s x vs) : x.closed = false := by
  obtain ⟨_, ⟨rfl, _⟩ | ⟨_, _, rfl, _⟩⟩ := g <;> rfl
theorem gw_purk (h : SlTy t e z true b) (g : Gw e z 0 s x vs) (hc : ∀ v ∈ vs, v.closed = true) (ha : ∀ v ∈ vs, v = .agg v.cells) (k : Nat) : pur Tryz.env.P s (k + 1) x = some (.sl false vs, idOf x) := by
  obtain ⟨h1, ⟨rfl, rfl⟩ | ⟨i, hi, rfl, hs⟩⟩ := g
  · rfl
  · have h2 : lay Tryz.env.P e = some (z, true) := h.l
    have hp := purL_closed (s := s) k (flat_closed hc)
    have hfl := flat_len h1
    have hnc : (AV.ref i 0 vs.length none e).closed = false := rfl
    unfold pur
    rw [hnc, if_neg (by simp)]
    simp only [hs, h2, hfl, Nat.zero_add, Nat.le_refl, h.pos, and_self, if_true, List.drop_zero]
    rw [show (vs.flatMap AV.cells).take (vs.length * z) = vs.flatMap AV.cells from List.take_of_length_le (by rw [hfl]; exact Nat.le_refl _)]
    simp only [hp, Option.bind_some, Bool.true_or, if_true, chunk_back h1 ha, idOf]
theorem gw_purk1 (h : SlTy t e 1 false b) (g : Gw e 1 0 s x vs) (hc : ∀ v ∈ vs, v.closed = true) (ha : ∀ v ∈ vs, notAgg v = true) (k : Nat) : pur Tryz.env.P s (k + 1) x = some (.sl false vs, idOf x) := by
  obtain ⟨h1, ⟨rfl, rfl⟩ | ⟨i, hi, rfl, hs⟩⟩ := g
  · rfl
  · have h2 : lay Tryz.env.P e = some (1, false) := h.l
    have hp := purL_closed (s := s) k (flat_closed hc)
    have hfl := flat_len h1
    have hone : vs.flatMap AV.cells = vs := flat_one fun v hv => by
      have := ha v hv
      cases v <;> first | rfl | cases this
    have hall : vs.all notAgg = true := List.all_eq_true.2 ha
    rw [hone] at hp
    have hnc : (AV.ref i 0 vs.length none e).closed = false := rfl
    unfold pur
    rw [hnc, if_neg (by simp)]
    simp only [hs, h2, hfl, Nat.zero_add, Nat.mul_one, Nat.le_refl, Nat.lt_one_iff, and_self, if_true, List.drop_zero, hone]
    rw [show vs.take vs.length = vs from List.take_length]
    simp [hp, idOf]
    exact ha
section
variable {α : Type} {f : α → AV} {l : List α}
theorem app_map (h : SlTy t e z ag b) (he : Enc f z) (g : Gw e z 0 s x (l.map f)) (hf : (l.length + 1) * b ≤ 2 ^ 40) (hf2 : l.length + 1 ≤ 2 ^ 40) (a : α) (ex : Bool) (id : Nat) :
    bt .append #[t, t] [x, .sl ex [f a]] id s = some (.ref id 0 (l.length + 1) none e, (s.drop (idOf x)).set id (some (.cells (((l ++ [a]).map f).flatMap AV.cells) e false true))) := by
  have := app_one h g (he.len a) (he.ones a) (by rw [List.length_map]; exact fits_of hf hf2) ex id
  rw [List.length_map] at this
  rw [this, List.map_append]; rfl
theorem apps_map (h : SlTy t e z ag b) (he : Enc f z) (g : Gw e z 0 s x (l.map f)) {k : List α} (hk : k ≠ []) (hf : (l.length + k.length) * b ≤ 2 ^ 40) (hf2 : l.length + k.length ≤ 2 ^ 40) (ex : Bool) (id : Nat) :
    bt .append #[t, t] [x, .sl ex (k.map f)] id s = some (.ref id 0 (l.length + k.length) none e, (s.drop (idOf x)).set id (some (.cells (((l ++ k).map f).flatMap AV.cells) e false true))) := by
  have := app_many h g (cells_map he.len he.ones k) (by simpa using hk) (by rw [List.length_map, List.length_map]; exact fits_of hf hf2) ex id
  rw [List.length_map, List.length_map] at this
  rw [this, List.map_append]
theorem gw_map (he : Enc f z) {id k n : Nat} {s0 : St} (hk : k = l.length) : Gw e z 0 (Ai.adv (s0.set id (some (.cells ((l.map f).flatMap AV.cells) e false true))) n) (.ref id 0 k none e) (l.map f) := by
  refine Gw.here (cells_map he.len he.ones _) ?_
  rw [List.length_map]; exact hk
theorem gw_map1 (he : Enc f z) {a : α} {id n : Nat} {s0 : St} : Gw e z 0 (Ai.adv (s0.set id (some (.cells (((l ++ [a]).map f).flatMap AV.cells) e false true))) n) (.ref id 0 (l.length + 1) none e) ((l ++ [a]).map f) :=
  gw_map he (by simp)
theorem pur_map (h : SlTy t e z true b) (g : Gw e z 0 s x (l.map f)) (h1 : ∀ a ∈ l, (f a).closed = true) (h2 : ∀ a ∈ l, f a = .agg (f a).cells) (k : Nat) : ∃ ids, pur Tryz.env.P s (k + 1) x = some (.sl false (l.map f), ids) ∧ ids = idOf x :=
  ⟨_, gw_purk h g (fun v hv => by obtain ⟨a, ha, rfl⟩ := List.mem_map.1 hv; exact h1 a ha) (fun v hv => by obtain ⟨a, ha, rfl⟩ := List.mem_map.1 hv; exact h2 a ha) k, rfl⟩
theorem pur_map1 (h : SlTy t e 1 false b) (g : Gw e 1 0 s x (l.map f)) (h1 : ∀ a ∈ l, (f a).closed = true) (h2 : ∀ a ∈ l, notAgg (f a) = true) (k : Nat) : ∃ ids, pur Tryz.env.P s (k + 1) x = some (.sl false (l.map f), ids) ∧ ids = idOf x :=
  ⟨_, gw_purk1 h g (fun v hv => by obtain ⟨a, ha, rfl⟩ := List.mem_map.1 hv; exact h1 a ha) (fun v hv => by obtain ⟨a, ha, rfl⟩ := List.mem_map.1 hv; exact h2 a ha) k, rfl⟩
theorem pureQ_of {x v : AV} {ids : List Nat} (h : ∃ ids', pur Tryz.env.P s 12 x = some (v, ids') ∧ ids' = ids) : PureQ v x s := by
  obtain ⟨i, h1, _⟩ := h
  exact ⟨i, h1⟩
end
theorem mkS_eq (h : SlTy t e z ag b) {zv : AV} (hz : zero Tryz.ty e = some zv) (n : Nat) (h1 : n * b ≤ 2 ^ 40) (h2 : n ≤ 2 ^ 40) (k k' : IntKind) (id : Nat) (s : St) :
    mkS Tryz.ty t (.int k n) (.int k' n) id s = some (.ref id 0 n (some n) e, s.set id (some (.cells (List.replicate n zv.cells).flatten e true true))) := by
  have hl : zv.cells.length = z := by
    have := h.zr
    rw [hz] at this; simpa using this
  have hm : (n : Int) * ((b : Nat) : Int) ≤ (most : Int) ∧ (n : Int) ≤ (most : Int) := by
    have : (most : Nat) = 2 ^ 40 := rfl
    rw [this]
    refine ⟨?_, by omega⟩
    have : ((n * b : Nat) : Int) ≤ ((2 ^ 40 : Nat) : Int) := Int.ofNat_le.2 h1
    rw [Int.natCast_mul] at this
    exact this
  unfold mkS
  simp only [h.u, h.l, h.b, hz, asI]
  rw [if_pos ⟨by omega, trivial, hm.1, hm.2, hl, h.pos⟩, Int.toNat_natCast]
theorem flat_rep {v : AV} (n : Nat) : (List.replicate n [v]).flatten = List.replicate n v := by
  induction n with
  | zero => rfl
  | succ n ih => rw [List.replicate_succ, List.flatten_cons, ih, List.replicate_succ]; rfl
theorem pur_ref {α : Type} {f : α → AV} {l : List α} {c : Option Nat} {ex wr : Bool} {e' : TypeId} (h : SlTy t e 1 false b) (hs : s.h id = some (.cells (l.map f) e' ex wr)) (h1 : ∀ a ∈ l, (f a).closed = true) (h2 : ∀ a ∈ l, notAgg (f a) = true) (k : Nat) : pur Tryz.env.P s (k + 1) (.ref id 0 l.length c e) = some (.sl false (l.map f), [id]) := by
  have h3 : lay Tryz.env.P e = some (1, false) := h.l
  have hp : purL (pur Tryz.env.P s k) (l.map f) = some (l.map f, []) := purL_closed (s := s) k (closedL_map' f l h1)
  have hnc : (AV.ref id 0 l.length c e).closed = false := rfl
  have hall : (l.map f).all notAgg = true := List.all_eq_true.2 fun v hv => by obtain ⟨a, ha, rfl⟩ := List.mem_map.1 hv; exact h2 a ha
  have htk : ((l.map f).drop 0).take (l.length * 1) = l.map f := by rw [List.drop_zero, Nat.mul_one]; exact List.take_of_length_le (by simp)
  have e1 : pur Tryz.env.P s (k + 1) (.ref id 0 l.length c e) = if 0 + l.length * 1 ≤ (l.map f).length ∧ 0 < 1 then
            (purL (pur Tryz.env.P s k) (((l.map f).drop 0).take (l.length * 1))).bind fun r => if false || (Nat.beq 1 1 && r.1.all notAgg) then some (.sl false (if false then chunk 1 l.length r.1 else r.1), id :: r.2) else none else none := by
    conv => lhs; unfold pur
    rw [hnc, if_neg (by simp)]
    simp only [hs, h3]
  rw [e1, if_pos ⟨by simp, by decide⟩, htk, hp]
  simp
  exact h2
theorem many_pre : ∀ (ws c : List AV) (n : Nat), ws.length = n → n ≤ c.length → setMany c 0 ws = ws ++ c.drop n := by
  have key : ∀ (ws pre c : List AV), ws.length ≤ c.length → setMany (pre ++ c) pre.length ws = pre ++ ws ++ c.drop ws.length := by
    intro ws
    induction ws with
    | nil => intro pre c _; simp [setMany]
    | cons v l ih =>
      intro pre c h
      match c, h with
      | y :: c, h =>
        simp only [setMany]
        have e : (pre ++ y :: c).set pre.length v = (pre ++ [v]) ++ c := by simp
        have := ih (pre ++ [v]) c (by simpa using h)
        rw [e]
        simpa using this
  intro ws c n h1 h2
  have := key ws [] c (by omega)
  simpa [h1] using this
theorem copy_eq {α : Type} {f : α → AV} {l : List α} {c : List AV} {cp : Option Nat} {e' : TypeId} {ex ex2 : Bool} {n k : Nat} (h : SlTy t e 1 false b) (hf : Enc f 1) (hf1 : ∀ a, (f a).cells = [f a]) (hs : s.h id = some (.cells c e' ex2 true)) (hc : c.length = n) (hn : n ≤ l.length) :
    bt .copy #[t, t] [.ref id 0 n cp e, .sl ex (l.map f)] k s = some (.int .i64 n, s.set id (some (.cells ((l.take n).map f) e' ex2 true))) := by
  have h1 : und (bX Tryz.env).P t = some (.slice e) := h.u
  have h2 : lay (bX Tryz.env).P e = some (1, false) := h.l
  have hall : (l.map f).all (fun v => v.cells.length == 1) = true := List.all_eq_true.2 fun v hv => by obtain ⟨a, _, rfl⟩ := List.mem_map.1 hv; simp [hf.len]
  have hflat : (l.map f).flatMap AV.cells = l.map f := flat_one fun v hv => by obtain ⟨a, _, rfl⟩ := List.mem_map.1 hv; exact hf1 a
  have hones : ((l.map f).take n).all AV.one = true := by
    rw [List.all_eq_true]
    intro v hv
    obtain ⟨a, _, rfl⟩ := List.mem_map.1 (List.mem_of_mem_take hv)
    have := hf.ones a
    rw [hf1] at this
    simpa using this
  have hsrc : srcCells 1 (.sl ex (l.map f)) s = some (l.map f) := by simp only [srcCells, hall, if_true, hflat]
  have hmin : min ((l.map f).length / 1) n = n := by rw [List.length_map, Nat.div_one]; omega
  have hset : setMany c 0 ((l.map f).take n) = (l.take n).map f := by
    rw [many_pre _ c n (by rw [List.length_take, List.length_map]; omega) (by omega), List.drop_of_length_le (by omega), List.append_nil, List.map_take]
  have hcp : copyA 1 (.ref id 0 n cp e) (l.map f) s = some (.int .i64 n, s.set id (some (.cells ((l.take n).map f) e' ex2 true))) := by
    unfold copyA
    simp only [hs, hmin, Nat.mul_one, Nat.zero_add]
    rw [if_pos ⟨by omega, hones⟩, hset]
  simp only [bt, builtinA, List.getElem?_toArray, List.getElem?_cons_zero, Option.bind_some, h1, h2, Nat.one_ne_zero, if_false, hsrc, hcp]
theorem ix_ref0 {e : TypeId} {i id n : Nat} {c : Option Nat} (h : i < n) (k : IntKind) : ixS 1 (.ref id 0 n c e) (.int k (i : Int)) = some (.ptr id i) := by
  have := ix_ref (e := e) (z := 1) (id := id) (off := 0) (c := c) h k
  rw [this]; simp
theorem wrapN {k : Nat} (h : k < 2 ^ 63) : IntKind.i64.wrap (k : Int) = (k : Int) := IntWalk.i64_in _ (by omega)
end
theorem ft_beq : (false == true) = false := rfl
theorem tf_beq : (true == false) = false := rfl
theorem wx : type_of% (And.intro @and_true <| And.intro @true_and <| And.intro @shiftP_ptr <| And.intro @shiftP_pel <| And.intro @Bnd_some <| And.intro @IfP_bool <| And.intro @Gd_some <| And.intro @ld_ptr <| And.intro @ld_pel <| And.intro @adv_h <| And.intro @adv_nx <| And.intro @set_nx <| And.intro @part_one <| And.intro @un_not <| And.intro @wantV_bool <| And.intro @pickV_bool <| And.intro @extr_tup <| And.intro @bin_lss <| And.intro @bin_leq <| And.intro @bin_gtr <| And.intro @bin_geq <| And.intro @bin_eql <| And.intro @bin_neq <| And.intro @bin_seql <| And.intro @bin_sneq <| And.intro @bin_add <| And.intro @bin_sub <| And.intro @Bool.false_eq_true <| And.intro @Bool.not_true <| And.intro @Bool.not_false <| And.intro @Bnd_none <| And.intro @get_set <| And.intro @nx_drop <| And.intro @get_drop' <| And.intro @adv_set <| And.intro @adv_two <| And.intro @adv_drop <| And.intro @set_set <| And.intro @Nat.add_assoc <| And.intro @Nat.add_left_cancel_iff <| And.intro @Nat.left_eq_add <| And.intro @Nat.add_eq_left <| And.intro @Nat.add_zero <| And.intro @wantV_tup <| And.intro @resC_nil <| And.intro @resC_some <| And.intro @retP_some <| And.intro @map_some' <| And.intro @tupV_one <| And.intro @tupV_two <| And.intro @idOf_ref <| And.intro @idOf_nils <| And.intro @idOf_ptr <| And.intro @idOf_sl <| And.intro @idOf_pel <| And.intro @drop_nil <| And.intro @drop_cons <| And.intro @bin_mul <| And.intro @Bool.or_true <| And.intro @Bool.or_false <| And.intro @Bool.and_true <| And.intro @Bool.and_false <| And.intro @Bool.true_and <| And.intro @Bool.false_and <| And.intro @Bool.true_or <| And.intro @Bool.false_or <| And.intro ft_beq tf_beq) := And.intro @and_true <| And.intro @true_and <| And.intro @shiftP_ptr <| And.intro @shiftP_pel <| And.intro @Bnd_some <| And.intro @IfP_bool <| And.intro @Gd_some <| And.intro @ld_ptr <| And.intro @ld_pel <| And.intro @adv_h <| And.intro @adv_nx <| And.intro @set_nx <| And.intro @part_one <| And.intro @un_not <| And.intro @wantV_bool <| And.intro @pickV_bool <| And.intro @extr_tup <| And.intro @bin_lss <| And.intro @bin_leq <| And.intro @bin_gtr <| And.intro @bin_geq <| And.intro @bin_eql <| And.intro @bin_neq <| And.intro @bin_seql <| And.intro @bin_sneq <| And.intro @bin_add <| And.intro @bin_sub <| And.intro @Bool.false_eq_true <| And.intro @Bool.not_true <| And.intro @Bool.not_false <| And.intro @Bnd_none <| And.intro @get_set <| And.intro @nx_drop <| And.intro @get_drop' <| And.intro @adv_set <| And.intro @adv_two <| And.intro @adv_drop <| And.intro @set_set <| And.intro @Nat.add_assoc <| And.intro @Nat.add_left_cancel_iff <| And.intro @Nat.left_eq_add <| And.intro @Nat.add_eq_left <| And.intro @Nat.add_zero <| And.intro @wantV_tup <| And.intro @resC_nil <| And.intro @resC_some <| And.intro @retP_some <| And.intro @map_some' <| And.intro @tupV_one <| And.intro @tupV_two <| And.intro @idOf_ref <| And.intro @idOf_nils <| And.intro @idOf_ptr <| And.intro @idOf_sl <| And.intro @idOf_pel <| And.intro @drop_nil <| And.intro @drop_cons <| And.intro @bin_mul <| And.intro @Bool.or_true <| And.intro @Bool.or_false <| And.intro @Bool.and_true <| And.intro @Bool.and_false <| And.intro @Bool.true_and <| And.intro @Bool.false_and <| And.intro @Bool.true_or <| And.intro @Bool.false_or <| And.intro ft_beq tf_beq
end Go.Proofs.YtdehdahimkcakaaGreatDoor
end
section
set_option maxRecDepth 100000
namespace Go.Proofs.YtdehdahimkcakaaGreatDoor
open Go Ai
theorem nef4 (a b : Bool) : bn .neq 4 (.bool a) (.bool b) = some (.bool !(a == b)) := by kernel_rfl
theorem ln9t (x : List UInt8) (id : Nat) (s : St) : bt .len #[9] [.str x] id s = some (.int .i64 x.length, s) := by kernel_rfl
theorem tf22 : SlTy 22 211 1 false 4 := ⟨by kernel_rfl, by kernel_rfl, by kernel_rfl, by kernel_rfl, by decide⟩
theorem ln22s (ex : Bool) (l : List AV) (id : Nat) (s : St) : bt .len #[22] [.sl ex l] id s = some (.int .i64 l.length, s) := by kernel_rfl
theorem zf24 : zr 24 = some (.agg [.bool false, .nils]) := by kernel_rfl
theorem bf24 (l : List (Nat × AV)) : bld 24 l = (fillA (fun i => [(0, 1), (1, 1)][i]?) [.bool false, .nils] l).map .agg := by kernel_rfl
theorem tf25 : SlTy 25 109 2 true 16 := ⟨by kernel_rfl, by kernel_rfl, by kernel_rfl, by kernel_rfl, by decide⟩
theorem ln25s (ex : Bool) (l : List AV) (id : Nat) (s : St) : bt .len #[25] [.sl ex l] id s = some (.int .i64 l.length, s) := by kernel_rfl
theorem bf27 (l : List (Nat × AV)) : bld 27 l = (fillA (fun i => [(0, 1), (1, 1), (2, 2), (4, 1)][i]?) [.int .i64 0, .bool false, .bool false, .nils, .nils] l).map .agg := by kernel_rfl
theorem tf31 : SlTy 31 33 6 true 72 := ⟨by kernel_rfl, by kernel_rfl, by kernel_rfl, by kernel_rfl, by decide⟩
theorem ln31s (ex : Bool) (l : List AV) (id : Nat) (s : St) : bt .len #[31] [.sl ex l] id s = some (.int .i64 l.length, s) := by kernel_rfl
theorem ln31n (id : Nat) (s : St) : bt .len #[31] [.nils] id s = some (.int .i64 0, s) := by kernel_rfl
theorem ln31r (i o n : Nat) (c : Option Nat) (e : TypeId) (id : Nat) (s : St) : bt .len #[31] [.ref i o n c e] id s = some (.int .i64 n, s) := by kernel_rfl
theorem ln31g {x : AV} {l : List AV} {s : St} (g : Gw 33 6 0 s x l) (id : Nat) : bt .len #[31] [x] id s = some (.int .i64 l.length, s) := by
  obtain ⟨_, ⟨rfl, rfl⟩ | ⟨i, _, rfl, _⟩⟩ := g
  · exact ln31n id s
  · exact ln31r ..
theorem zf31 : zr 31 = some (.nils) := by kernel_rfl
theorem zf33 : zr 33 = some (.agg [.bool false, .int .i64 0, .str [], .int .i64 0, .int .i64 0, .nils]) := by kernel_rfl
theorem bf33 (l : List (Nat × AV)) : bld 33 l = (fillA (fun i => [(0, 1), (1, 3), (4, 1), (5, 1)][i]?) [.bool false, .int .i64 0, .str [], .int .i64 0, .int .i64 0, .nils] l).map .agg := by kernel_rfl
theorem tf72 : SlTy 72 3 1 false 8 := ⟨by kernel_rfl, by kernel_rfl, by kernel_rfl, by kernel_rfl, by decide⟩
theorem ln72s (ex : Bool) (l : List AV) (id : Nat) (s : St) : bt .len #[72] [.sl ex l] id s = some (.int .i64 l.length, s) := by kernel_rfl
theorem ln72n (id : Nat) (s : St) : bt .len #[72] [.nils] id s = some (.int .i64 0, s) := by kernel_rfl
theorem ln72r (i o n : Nat) (c : Option Nat) (e : TypeId) (id : Nat) (s : St) : bt .len #[72] [.ref i o n c e] id s = some (.int .i64 n, s) := by kernel_rfl
theorem ln72g {x : AV} {l : List AV} {s : St} (g : Gw 3 1 0 s x l) (id : Nat) : bt .len #[72] [x] id s = some (.int .i64 l.length, s) := by
  obtain ⟨_, ⟨rfl, rfl⟩ | ⟨i, _, rfl, _⟩⟩ := g
  · exact ln72n id s
  · exact ln72r ..
theorem zf109 : zr 109 = some (.agg [.int .i64 0, .int .i64 0]) := by kernel_rfl
theorem bf109 (l : List (Nat × AV)) : bld 109 l = (fillA (fun i => [(0, 1), (1, 1)][i]?) [.int .i64 0, .int .i64 0] l).map .agg := by kernel_rfl
theorem tf161 : SlTy 161 5 1 false 1 := ⟨by kernel_rfl, by kernel_rfl, by kernel_rfl, by kernel_rfl, by decide⟩
theorem tf173 : SlTy 173 4 1 false 1 := ⟨by kernel_rfl, by kernel_rfl, by kernel_rfl, by kernel_rfl, by decide⟩
theorem ln173s (ex : Bool) (l : List AV) (id : Nat) (s : St) : bt .len #[173] [.sl ex l] id s = some (.int .i64 l.length, s) := by kernel_rfl
theorem zf211 : zr 211 = some (.int .u32 0) := by kernel_rfl
theorem tf221 : SlTy 221 31 1 false 24 := ⟨by kernel_rfl, by kernel_rfl, by kernel_rfl, by kernel_rfl, by decide⟩
theorem ln221s (ex : Bool) (l : List AV) (id : Nat) (s : St) : bt .len #[221] [.sl ex l] id s = some (.int .i64 l.length, s) := by kernel_rfl
theorem zf223 : zr 223 = some (.agg [.int .u8 0, .int .u8 0, .int .u8 0, .int .u8 0, .int .u8 0, .int .u8 0, .int .u8 0, .int .u8 0, .int .u8 0]) := by kernel_rfl
theorem cf2_159 (k : IntKind) (n : Int) (s : St) : cv 2 159 (.int k n) s = some (.int .u64 (IntKind.wrap .u64 n)) := by kernel_rfl
theorem cf3_5 (k : IntKind) (n : Int) (s : St) : cv 3 5 (.int k n) s = some (.int .u8 (IntKind.wrap .u8 n)) := by kernel_rfl
theorem cf3_159 (k : IntKind) (n : Int) (s : St) : cv 3 159 (.int k n) s = some (.int .u64 (IntKind.wrap .u64 n)) := by kernel_rfl
theorem cf3_211 (k : IntKind) (n : Int) (s : St) : cv 3 211 (.int k n) s = some (.int .u32 (IntKind.wrap .u32 n)) := by kernel_rfl
theorem cf3_213 (k : IntKind) (n : Int) (s : St) : cv 3 213 (.int k n) s = some (.int .u64 (IntKind.wrap .u64 n)) := by kernel_rfl
theorem cf159_5 (k : IntKind) (n : Int) (s : St) : cv 159 5 (.int k n) s = some (.int .u8 (IntKind.wrap .u8 n)) := by kernel_rfl
theorem cf159_211 (k : IntKind) (n : Int) (s : St) : cv 159 211 (.int k n) s = some (.int .u32 (IntKind.wrap .u32 n)) := by kernel_rfl
theorem cf211_159 (k : IntKind) (n : Int) (s : St) : cv 211 159 (.int k n) s = some (.int .u64 (IntKind.wrap .u64 n)) := by kernel_rfl
end Go.Proofs.YtdehdahimkcakaaGreatDoor
end
section
set_option linter.unusedVariables false
set_option linter.unusedSimpArgs false
set_option maxRecDepth 100000
namespace Go.Proofs.YtdehdahimkcakaaGreatDoor
open Go Ai
section
variable {x y : List UInt8} {s : St} {i j n : Nat}
def byt (c : UInt8) : AV := .int .u8 c.toNat
theorem und9 : und Tryz.ty 9 = some .string := by kernel_rfl
theorem ixa_str (k : IntKind) {c : UInt8} (h : x[i]? = some c) : ixa 9 (.str x) (.int k (i : Int)) = some (.int .u8 c.toNat) := by
  obtain ⟨hi, rfl⟩ := List.getElem?_eq_some_iff.1 h
  simp [ixa, indexA, asI, und9, idx, hi]
theorem slc_lo (k : IntKind) (h : n ≤ x.length) : slc 9 (.str x) (some (.int k (n : Int))) none none s = some (.str (x.drop n)) := by
  simp [slc, sliceA, und9, bounds, optI, asI, h]
  exact List.take_of_length_le (by simp)
theorem slc_both (k k' : IntKind) (h : n ≤ j) (h' : j ≤ x.length) : slc 9 (.str x) (some (.int k (n : Int))) (some (.int k' (j : Int))) none s = some (.str ((x.drop n).take (j - n))) := by
  simp [slc, sliceA, und9, bounds, optI, asI, h, h']
theorem bin_sadd {t : TypeId} (h : x.length + y.length ≤ maxStr) : bin (T := Tryz.ty) Tryz.eqOk .add t (.str x) (.str y) = some (.str (x ++ y)) := by simp [bin, strBin, h]
theorem add_str {t : TypeId} (h : x.length + y.length ≤ 2 ^ 46) : bn .add t (.str x) (.str y) = some (.str (x ++ y)) := bin_sadd h
theorem und161 : und Tryz.ty 161 = some (.slice 5) := by kernel_rfl
theorem und5 : und Tryz.ty 5 = some (.int .u8) := by kernel_rfl
theorem encBy : Enc byt 1 := ⟨fun _ => rfl, fun _ => rfl⟩
theorem u8s_map (bs : List UInt8) : asU8s (bs.map byt) = some (bs.map fun c => (c.toNat : Int)) := by
  induction bs with
  | nil => rfl
  | cons c l ih =>
    simp only [List.map_cons, asU8s, ih]
    rfl
theorem u8s_back (bs : List UInt8) : (bs.map fun c => (c.toNat : Int)).map (fun n => UInt8.ofNat n.toNat) = bs := by
  induction bs with
  | nil => rfl
  | cons c l ih => simp only [List.map_cons, ih, Int.toNat_natCast, UInt8.ofNat_toNat]
theorem str_ref {pre bs post : List UInt8} {id off n : Nat} {cp : Option Nat} {e e' : TypeId} {ex wr : Bool} (hs : s.h id = some (.cells ((pre ++ bs ++ post).map byt) e' ex wr)) (ho : pre.length = off) (hn : bs.length = n) : cv 161 9 (.ref id off n cp e) s = some (.str bs) := by
  have h1 : ((((pre ++ bs ++ post).map byt).drop off).take n) = bs.map byt := by
    rw [← List.map_drop, ← List.map_take, List.append_assoc, ← ho, List.drop_left, ← hn, List.take_left]
  have h2 : off + n ≤ ((pre ++ bs ++ post).map byt).length := by simp; omega
  simp only [cv, convA, und161, und9, und5, hs]
  rw [if_pos h2, h1, u8s_map]
  simp only [Option.map_some, u8s_back]
theorem prim_f {f : FuncId} {g : List AV → St → Option (AV × St)} {args : List AV} {s' : St} {r : AV} (h : Tryz.env.prim f = some g) (hg : g args s = some (r, s')) : WideC Tryz.env f args s r s' := ⟨1, by rw [callN_step, h]; exact hg⟩
end
end Go.Proofs.YtdehdahimkcakaaGreatDoor
end
section
set_option linter.unusedVariables false
set_option linter.unusedSimpArgs false
set_option maxRecDepth 100000
set_option maxHeartbeats 4000000
namespace Go.Proofs.YtdehdahimkcakaaGreatDoor
open Go Ai
mutual
theorem sx_all {p : Sx → Prop} (h : ∀ l k x p' a items, (∀ s ∈ items, p s) → p (.mk l k x p' a items)) : (s : Sx) → p s
  | .mk l k x p' a items => h l k x p' a items (sxs_all h items)
theorem sxs_all {p : Sx → Prop} (h : ∀ l k x p' a items, (∀ s ∈ items, p s) → p (.mk l k x p' a items)) : (l : List Sx) → ∀ s ∈ l, p s
  | [] => fun _ h => nomatch h
  | s :: l => fun t ht => (List.mem_cons.1 ht).elim (fun e => e ▸ sx_all h s) (sxs_all h l t)
end
mutual
theorem sx_closed : (s : Sx) → s.av.closed = true
  | .mk l k x p a items => by simp only [Sx.av, AV.closed, closedL, sxs_closed items, Bool.not_false, Bool.and_self]
theorem sxs_closed : (l : List Sx) → closedL (Sx.avs l) = true
  | [] => rfl
  | s :: l => by simp only [Sx.avs, closedL, sx_closed s, sxs_closed l, Bool.and_self]
end
theorem sx_ones (s : Sx) : s.av.cells.all AV.one = true := by cases s; rfl
theorem sx_len (s : Sx) : s.av.cells.length = 6 := by cases s; rfl
theorem mk_cells (l k x p a items) : (Sx.mk l k x p a items).av.cells = [.bool l, .int .i64 k, .str x, .int .i64 p, .int .i64 a, .sl false (Sx.avs items)] := rfl
theorem sx_part (s : Sx) : Ai.part 6 true 0 s.av.cells = some s.av := by cases s; rfl
theorem oks_mem {l : List Sx} (h : Sx.oks l = true) : ∀ s ∈ l, s.ok = true := by
  induction l with
  | nil => intro s hs; cases hs
  | cons a l ih =>
    simp only [Sx.oks, Bool.and_eq_true] at h
    intro s hs
    rcases List.mem_cons.1 hs with rfl | hs
    · exact h.1
    · exact ih h.2 s hs
theorem ok_items {l k x p a items} (h : (Sx.mk l k x p a items).ok = true) : items.length ≤ maxLen ∧ ∀ s ∈ items, s.ok = true := by
  simp only [Sx.ok, Bool.and_eq_true, decide_eq_true_eq] at h
  exact ⟨h.1.2, oks_mem h.2⟩
theorem len31 (ex : Bool) (l : List AV) (id : Nat) (s : St) : bt .len #[31] [.sl ex l] id s = some (.int .i64 l.length, s) := by kernel_rfl
theorem avs_length (l : List Sx) : (Sx.avs l).length = l.length := by rw [Sx.avs_eq, List.length_map]
theorem ix_avs (ex : Bool) (l : List Sx) (i : Nat) (s : Sx) (h : l[i]? = some s) : ixS 6 (.sl ex (Sx.avs l)) (.int .i64 (i : Int)) = some (.pel s.av.cells 0) := by
  obtain ⟨hi, rfl⟩ := List.getElem?_eq_some_iff.1 h
  rw [Sx.avs_eq]
  simp [ixS, asI, idx, hi, sx_len]
theorem wrap_len (i n : Nat) (h : i < n) (hn : n ≤ maxLen) : IntKind.i64.wrap ((i : Int) + 1) = ((i + 1 : Nat) : Int) := by
  have : maxLen = 9223372036854775807 := rfl
  rw [IntWalk.i64_in _ (by omega)]; rfl
theorem get_drop {α : Type} (l : List α) (i : Nat) (y : α) (h : l[i]? = some y) : l.drop i = y :: l.drop (i + 1) := by
  obtain ⟨h', e⟩ := List.getElem?_eq_some_iff.1 h
  rw [← e]; exact List.drop_eq_getElem_cons h'
mutual
def Sx.size : Sx → Int
  | .mk _ _ _ _ _ items => Sx.sizes items 1
def Sx.sizes : List Sx → Int → Int
  | [], n => n
  | s :: l, n => cond (decide (n ≤ 5000)) (Sx.sizes l (IntKind.i64.wrap (n + s.size))) n
end
theorem l33 (s0 : Sx) (items : List Sx) (hlen : items.length ≤ maxLen) (hc : ∃ l k x p a, s0 = .mk l k x p a items) (ih : ∀ s ∈ items, PureC Tryz.env 33 [s.av] (.int .i64 s.size)) (b : Nat) (e : TypeId) (Q : AV → St → Prop) (r : Int) (hQ : ∀ s, Q (.int .i64 r) s) :
    ∀ (m i : Nat) (n : Int) (s : St), i + m = items.length → s.h b = some (.cells s0.av.cells e true true) → r = Sx.sizes (items.drop i) n → ∃ f, f33l1 Q f (.ptr b 0) (.int .i64 n) (.int .i64 i) s := by
  obtain ⟨l, k, x, p, a, rfl⟩ := hc
  intro m
  induction m with
  | zero =>
    intro i n s hi hs hr
    refine ⟨1, ?_⟩
    show f33l1s Q (f33l1 Q 0) _ _ _ s
    rw [List.drop_eq_nil_of_le (by omega)] at hr
    have hr : r = n := hr
    subst hr
    simp only [f33l1s, f33j1, hs, mk_cells, len31, avs_length, Int.ofNat_lt, show ¬ (i < items.length) by omega, decide_false, wz, wy, Nat.reduceAdd]
    exact hQ _
  | succ m ihm =>
    intro i n s hi hs hr
    obtain ⟨y, hy⟩ : ∃ y, items[i]? = some y := ⟨_, List.getElem?_eq_getElem (by omega)⟩
    rw [get_drop items i y hy] at hr
    have hix := fun ex => ix_avs ex items i y hy
    have hlt : i < items.length := by omega
    cases hn : decide (n ≤ 5000) with
    | false =>
      have hr : r = n := by rw [hr, Sx.sizes, hn]; rfl
      subst hr
      refine ⟨1, ?_⟩
      show f33l1s Q (f33l1 Q 0) _ _ _ s
      simp only [f33l1s, f33j1, hs, mk_cells, len31, avs_length, Int.ofNat_lt, hlt, decide_true, hn, wz, wy, Nat.reduceAdd]
      exact hQ _
    | true =>
      have hr : r = Sx.sizes (items.drop (i + 1)) (IntKind.i64.wrap (n + y.size)) := by rw [hr, Sx.sizes, hn]; rfl
      have hgo := fun s' h => ihm (i + 1) _ s' (by omega) h hr
      have hmem : y ∈ items := List.mem_of_getElem? hy
      obtain ⟨f, hf⟩ := hgo (adv (adv (adv s 9) 9) 3) hs
      refine ⟨f + 1, ?_⟩
      show f33l1s Q (f33l1 Q f) _ _ _ s
      simp only [f33l1s, f33j2, hs, mk_cells, len31, avs_length, Int.ofNat_lt, hlt, decide_true, hn, hix, sx_part, wz, wy, Nat.reduceAdd]
      refine callPu (ih y hmem) (by simp [sx_closed]) ?_
      simp only [wz, wy, Nat.reduceAdd]
      rw [wrap_len i _ hlt hlen]
      exact hf
theorem size_c : ∀ s : Sx, s.ok = true → PureC Tryz.env 33 [s.av] (.int .i64 s.size) := by
  refine sx_all fun l k x p a items ih ho => ?_
  obtain ⟨h1, h2⟩ := ok_items ho
  refine pure_closed rfl (f33_run _ _ ?_)
  refine ⟨sx_ones _, ?_⟩
  exact l33 (.mk l k x p a items) items h1 ⟨l, k, x, p, a, rfl⟩ (fun s hs => ih s hs (h2 s hs)) _ 33 _ _ (fun _ => rfl) items.length 0 1 _ (by omega) (by simp only [adv_h, set_h, beq_self', cond_true]) rfl
mutual
def Sx.dep : Sx → Int → Int
  | .mk l _ _ _ _ items, most => cond (!l || most == 0) 0 (IntKind.i64.wrap (Sx.deps items most 0 + 1))
def Sx.deps : List Sx → Int → Int → Int
  | [], _, n => n
  | s :: l, most, n => Sx.deps l most (cond (decide (s.dep (IntKind.i64.wrap (most - 1)) > n)) (s.dep (IntKind.i64.wrap (most - 1))) n)
end
def Sx.depth (s : Sx) : Int := s.dep 65
end Go.Proofs.YtdehdahimkcakaaGreatDoor
end
section
set_option linter.unusedVariables false
set_option linter.unusedSimpArgs false
set_option maxRecDepth 100000
set_option maxHeartbeats 4000000
namespace Go.Proofs.YtdehdahimkcakaaGreatDoor
open Go Ai
def u3A (n : Nat) : AV := .int .u32 (n : Int)
theorem encU : Enc u3A 1 := ⟨fun _ => rfl, fun _ => rfl⟩
def nsA (a : List Nat) : AV := .sl false (a.map u3A)
theorem us_closed (a : List Nat) : closedL (a.map u3A) = true := closedL_map' _ _ fun _ _ => rfl
theorem ns_closed (a : List Nat) : (nsA a).closed = true := sl_closed_map _ _ fun _ _ => rfl
def limbs (a : List Nat) : Prop := ∀ x ∈ a, x < 2 ^ 32
theorem p32 : (2 : Nat) ^ 32 = 4294967296 := rfl
theorem p64 : (2 : Nat) ^ 64 = 18446744073709551616 := rfl
theorem u3_0 (x : Nat) : (u3A x).cells[0]? = some (.int .u32 (x : Int)) := rfl
def trimN (a : List Nat) : Nat → Nat
  | 0 => 0
  | n + 1 => cond (a[n]? == some 0) (trimN a n) (n + 1)
def normM (a : List Nat) : List Nat := a.take (trimN a a.length)
theorem trimN_le (a : List Nat) : ∀ n, trimN a n ≤ n := by
  intro n
  induction n with
  | zero => exact Nat.le_refl 0
  | succ n ih => simp only [trimN]; cases (a[n]? == some 0) <;> simp only [cond_true, cond_false] <;> omega
theorem l110 (a : List Nat) (Q : AV → St → Prop) (ha : a.length ≤ 2 ^ 30) : ∀ (n : Nat) (s : St), n ≤ a.length → (∀ c, f110j1 Q (.int .i64 (trimN a n)) (nsA a) (adv s c)) → f110l1 Q (n + 1) (nsA a) (.int .i64 n) s := by
  intro n
  induction n with
  | zero =>
    intro s hn hj
    show f110l1s Q (f110l1 Q 0) _ _ s
    simp only [f110l1s, show decide (((0 : Nat) : Int) > 0) = false from rfl, wx, wy, Nat.reduceAdd, Nat.reduceEqDiff, reduceCtorEq]
    exact hj 10
  | succ n ih =>
    intro s hn hj
    show f110l1s Q (f110l1 Q (n + 1)) _ _ s
    obtain ⟨x, hx⟩ : ∃ x, a[n]? = some x := ⟨_, List.getElem?_eq_getElem (by omega)⟩
    have h1 : decide (((n + 1 : Nat) : Int) > 0) = true := by simp
    have h2 : IntKind.i64.wrap (((n + 1 : Nat) : Int) - 1) = (n : Int) := by rw [IntWalk.i64_in _ (by omega)]; try omega
    simp only [f110l1s, h1, h2, nsA, ix_map encU false hx, u3_0, wx, wy, Nat.reduceAdd, Nat.reduceEqDiff, reduceCtorEq]
    simp only [trimN, hx] at hj
    cases h0 : (x == 0) with
    | true =>
      have e : ((x : Int) == 0) = true := by simpa using h0
      have e2 : (some x == some 0) = true := by simpa using h0
      rw [e2] at hj
      simp only [e, h2, wx, wy, Nat.reduceAdd, Nat.reduceEqDiff, reduceCtorEq]
      exact ih _ (by omega) fun c => by rw [adv_two]; exact hj _
    | false =>
      have e : ((x : Int) == 0) = false := by simpa using h0
      have e2 : (some x == some 0) = false := by simpa using h0
      rw [e2] at hj
      simp only [e, wx, wy, Nat.reduceAdd, Nat.reduceEqDiff, reduceCtorEq]
      exact hj _
theorem j110 (a : List Nat) (ha : a.length ≤ 2 ^ 30) (k : Nat) (hk : k ≤ a.length) (s : St) : f110j1 (PureQ (nsA (a.take k))) (.int .i64 k) (nsA a) s := by
  have hz : zero Tryz.ty 211 = some (.int .u32 0) := zf211
  unfold f110j1
  simp only [mkS_eq tf22 hz k (by omega) (by omega), AV.cells, flat_rep, wx, wy, Nat.reduceAdd, Nat.reduceEqDiff, reduceCtorEq]
  have hcp := fun (id j n : Nat) (s : St) => copy_eq (id := id) (k := j) (s := Ai.adv (s.set id (some (.cells (List.replicate k (.int .u32 0)) 211 true true))) n) (cp := some k) (ex := false) (l := a) (f := u3A) tf22 encU (fun _ => rfl) (by rw [adv_h, st_same]) (List.length_replicate (n := k)) hk
  simp only [nsA, hcp, wx, wy, Nat.reduceAdd, Nat.reduceEqDiff, reduceCtorEq]
  have hl : (a.take k).length = k := by rw [List.length_take]; omega
  have := pur_ref (s := Ai.adv (s.set (s.nx + 1) (some (.cells ((a.take k).map u3A) 211 true true))) 8) (id := s.nx + 1) (c := some k) (k := 11) (l := a.take k) (f := u3A) tf22 (by rw [adv_h, st_same]) (fun _ _ => rfl) (fun _ _ => rfl)
  rw [hl] at this
  exact ⟨_, this⟩
theorem c110 (a : List Nat) (ha : a.length ≤ 2 ^ 30) : PureC Tryz.env 110 [nsA a] (nsA (normM a)) := by
  refine pure_q (f110_run _ _ ?_)
  unfold f110
  simp only [nsA, ln22s, List.length_map, wx, wy, Nat.reduceAdd, Nat.reduceEqDiff, reduceCtorEq]
  exact ⟨_, l110 a _ ha a.length _ (Nat.le_refl _) fun c => j110 a ha _ (trimN_le a _) _⟩
def val : List Nat → Nat
  | [] => 0
  | x :: a => x + 4294967296 * val a
def pw (n : Nat) : Nat := 4294967296 ^ n
theorem pw_succ (n : Nat) : pw (n + 1) = 4294967296 * pw n := by unfold pw; rw [Nat.pow_succ, Nat.mul_comm]
theorem pw_pos (n : Nat) : 0 < pw n := Nat.pow_pos (by decide)
theorem pw_zero : pw 0 = 1 := rfl
theorem val_append (a b : List Nat) : val (a ++ b) = val a + pw a.length * val b := by
  induction a with
  | nil => simp [val, pw_zero]
  | cons x a ih =>
    simp only [List.cons_append, val, ih, List.length_cons, pw_succ]
    rw [Nat.mul_add, Nat.mul_assoc, Nat.add_assoc]
theorem val_lt (a : List Nat) (h : limbs a) : val a < pw a.length := by
  induction a with
  | nil => simp [val, pw_zero]
  | cons x a ih =>
    have hx := h x (List.mem_cons_self ..)
    have h2 := ih fun y hy => h y (List.mem_cons_of_mem _ hy)
    simp only [val, List.length_cons, pw_succ]
    rw [p32] at hx
    generalize pw a.length = K at h2
    omega
theorem trim_spec (a : List Nat) : ∀ n, n ≤ a.length → val (a.take (trimN a n)) = val (a.take n) ∧ (trimN a n = 0 ∨ ∃ x, a[trimN a n - 1]? = some x ∧ x ≠ 0) := by
  intro n
  induction n with
  | zero => intro _; exact ⟨rfl, .inl rfl⟩
  | succ n ih =>
    intro hn
    simp only [trimN]
    obtain ⟨x, hx⟩ : ∃ x, a[n]? = some x := ⟨_, List.getElem?_eq_getElem (by omega)⟩
    cases h : (a[n]? == some 0) with
    | true =>
      simp only [cond_true]
      obtain ⟨h1, h2⟩ := ih (by omega)
      refine ⟨?_, h2⟩
      rw [h1, List.take_add_one, hx, val_append]
      have : x = 0 := by rw [hx] at h; simpa using h
      subst this
      simp [val]
    | false =>
      refine ⟨rfl, .inr ⟨x, by simpa using hx, fun h0 => ?_⟩⟩
      rw [hx, h0] at h; simp at h
theorem val_norm (a : List Nat) : val (normM a) = val a := by
  have := (trim_spec a a.length (Nat.le_refl _)).1
  rw [List.take_length] at this
  exact this
theorem norm_limbs {a : List Nat} (h : limbs a) : limbs (normM a) := fun x hx => h x (List.mem_of_mem_take hx)
theorem norm_len (a : List Nat) : (normM a).length ≤ a.length := by
  unfold normM; rw [List.length_take]; omega
theorem norm_zero {a : List Nat} (h : limbs a) : val (normM a) = 0 ↔ normM a = [] := by
  constructor
  · intro hv
    rcases (trim_spec a a.length (Nat.le_refl _)).2 with h0 | ⟨x, hx, h0⟩
    · unfold normM; rw [h0]; rfl
    · exfalso
      have hle := trimN_le a a.length
      have hpos : 0 < trimN a a.length := by
        rcases Nat.eq_zero_or_pos (trimN a a.length) with hz | hz
        · unfold normM at hv
          rw [hz] at hx
          have : trimN a a.length - 1 = 0 := by omega
          by_cases ha : a.length = 0
          · have : a = [] := List.length_eq_zero_iff.1 ha
            subst this; simp at hx
          · exfalso
            have h3 := (trim_spec a a.length (Nat.le_refl _)).1
            rw [hz, List.take_zero, List.take_length] at h3
            match a, hx, h3 with
            | y :: t, hx, h3 =>
              have : y = x := by simpa using hx
              have h4 : 0 = y + 4294967296 * val t := h3
              omega
        · exact hz
      have e : normM a = a.take (trimN a a.length - 1) ++ [x] := by
        unfold normM
        conv => lhs; rw [show trimN a a.length = (trimN a a.length - 1) + 1 by omega, List.take_add_one, hx]
        rfl
      rw [e, val_append] at hv
      simp only [val] at hv
      have : 0 < pw (a.take (trimN a a.length - 1)).length * (x + 4294967296 * 0) := Nat.mul_pos (pw_pos _) (by omega)
      omega
  · intro h0; rw [h0]; rfl
def smallM (n : Nat) : List Nat → List Nat × Nat
  | [] => ([], 0)
  | x :: t => (((smallM n t).2 * 4294967296 + x) / n :: (smallM n t).1, ((smallM n t).2 * 4294967296 + x) % n)
theorem small_len (n : Nat) (a : List Nat) : (smallM n a).1.length = a.length := by
  induction a with
  | nil => rfl
  | cons x t ih => simp [smallM, ih]
theorem small_lt (n : Nat) (h : 0 < n) (a : List Nat) : (smallM n a).2 < n := by
  cases a with
  | nil => exact h
  | cons x t => exact Nat.mod_lt _ h
theorem small_limbs (n : Nat) (h : 0 < n) (a : List Nat) (ha : limbs a) : limbs (smallM n a).1 := by
  induction a with
  | nil => intro x hx; cases hx
  | cons x t ih =>
    intro y hy
    simp only [smallM, List.mem_cons] at hy
    rcases hy with rfl | hy
    · have h1 := ha x (List.mem_cons_self ..)
      have h2 := small_lt n h t
      refine Nat.div_lt_of_lt_mul ?_
      have : ((smallM n t).2 + 1) * 4294967296 ≤ n * 4294967296 := Nat.mul_le_mul_right _ h2
      rw [Nat.succ_mul] at this
      rw [p32] at h1 ⊢
      omega
    · exact ih (fun z hz => ha z (List.mem_cons_of_mem _ hz)) y hy
theorem small_val (n : Nat) (h : 0 < n) (a : List Nat) : val (smallM n a).1 * n + (smallM n a).2 = val a := by
  induction a with
  | nil => simp [smallM, val]
  | cons x t ih =>
    simp only [smallM, val]
    have e := Nat.div_add_mod ((smallM n t).2 * 4294967296 + x) n
    rw [← ih]
    have : (((smallM n t).2 * 4294967296 + x) / n + 4294967296 * val (smallM n t).1) * n + ((smallM n t).2 * 4294967296 + x) % n
        = (n * (((smallM n t).2 * 4294967296 + x) / n) + ((smallM n t).2 * 4294967296 + x) % n) + 4294967296 * (val (smallM n t).1 * n) := by
      rw [Nat.add_mul, Nat.mul_comm n, Nat.mul_assoc]; omega
    rw [this, e]
    rw [Nat.mul_add]; omega
theorem or_add {r x : Nat} (hr : r < 2 ^ 32) (hx : x < 2 ^ 32) : bitsA .or .u64 (IntKind.u64.wrap ((r : Int) * 2 ^ 32)) (x : Int) = ((r * 4294967296 + x : Nat) : Int) := by
  have e1 : IntKind.u64.wrap ((r : Int) * 2 ^ 32) = ((r * 4294967296 : Nat) : Int) := by
    rw [IntWalk.u64_in _ (by rw [p32] at hr; omega)]
    simp
  have e2 : (BitVec.ofInt 64 ((r * 4294967296 : Nat) : Int)).toNat = r * 4294967296 := by
    rw [BitVec.ofInt_natCast, BitVec.toNat_ofNat, Nat.mod_eq_of_lt (by rw [p32] at hr; rw [p64]; omega)]
  have e3 : (BitVec.ofInt 64 (x : Int)).toNat = x := by
    rw [BitVec.ofInt_natCast, BitVec.toNat_ofNat, Nat.mod_eq_of_lt (by rw [p32] at hx; rw [p64]; omega)]
  rw [e1]
  show IntKind.u64.wrap (((BitVec.ofInt 64 _ ||| BitVec.ofInt 64 _ : BitVec 64).toNat : Nat) : Int) = _
  rw [BitVec.toNat_or, e2, e3]
  have h := Nat.shiftLeft_add_eq_or_of_lt (i := 32) hx r
  rw [Nat.shiftLeft_eq] at h
  rw [show (4294967296 : Nat) = 2 ^ 32 from rfl, ← h]
  rw [IntWalk.u64_in _ (by rw [p32] at hr hx ⊢; omega)]
theorem bin_or {T : Ty} {q : TypeId → Bool} {t : TypeId} {k : IntKind} {a b : Int} : bin T q .or t (.int k a) (.int k b) = some (.int k (bitsA .or k a b)) := by simp [bin, isShift, intBin]
theorem bin_shl {T : Ty} {q : TypeId → Bool} {t : TypeId} {k k' : IntKind} {a : Int} {n : Nat} (h : n ≤ k.bits) : bin T q .shl t (.int k a) (.int k' (n : Int)) = some (.int k (k.wrap (a * 2 ^ n))) := by
  have : ¬ ((n : Int) < 0) := by omega
  simp [bin, isShift, intBin, this, Nat.min_eq_left h]
theorem bin_shr {T : Ty} {q : TypeId → Bool} {t : TypeId} {k k' : IntKind} {a : Int} {n : Nat} (h : n ≤ k.bits) : bin T q .shr t (.int k a) (.int k' (n : Int)) = some (.int k (a.fdiv (2 ^ n))) := by
  have : ¬ ((n : Int) < 0) := by omega
  simp [bin, isShift, intBin, this, Nat.min_eq_left h]
theorem bin_quo {T : Ty} {q : TypeId → Bool} {t : TypeId} {k : IntKind} {a b : Nat} (h : b ≠ 0) : bin T q .quo t (.int k (a : Int)) (.int k (b : Int)) = some (.int k (k.wrap ((a / b : Nat) : Int))) := by
  have h1 : ¬ ((b : Int) = 0) := by omega
  have h2 : (a : Int).tdiv (b : Int) = ((a / b : Nat) : Int) := by rw [Int.tdiv_eq_ediv_of_nonneg (by omega)]; rfl
  simp [bin, isShift, intBin, h, h2]
theorem bin_rem {T : Ty} {q : TypeId → Bool} {t : TypeId} {k : IntKind} {a b : Nat} (h : b ≠ 0) : bin T q .rem t (.int k (a : Int)) (.int k (b : Int)) = some (.int k ((a % b : Nat) : Int)) := by
  have h1 : ¬ ((b : Int) = 0) := by omega
  have h2 : (a : Int).tmod (b : Int) = ((a % b : Nat) : Int) := by rw [Int.tmod_eq_emod_of_nonneg (by omega)]; rfl
  simp [bin, isShift, intBin, h, h2]
theorem set_mid {α : Type} {a : List α} {x v : α} {b : List α} : (a ++ x :: b).set a.length v = a ++ v :: b := by simp
theorem l111 (a : List Nat) (hl : limbs a) (ha : a.length ≤ 2 ^ 30) (n : Nat) (h0 : 0 < n) (hn : n ≤ 2 ^ 32) (Q : AV → St → Prop) (N c : Nat) (e' : TypeId)
    (hQ : ∀ s, s.h N = some (.cells ((smallM n a).1.map u3A) e' true true) → f111j1 Q (.ref N 0 a.length (some c) 211) (.int .u64 (smallM n a).2) s) :
    ∀ (i : Nat) (s : St), i ≤ a.length → s.h N = some (.cells ((List.replicate i 0 ++ (smallM n (a.drop i)).1).map u3A) e' true true) →
      f111l1 Q (i + 1) (nsA a) (.int .u64 n) (.ref N 0 a.length (some c) 211) (.int .u64 (smallM n (a.drop i)).2) (.int .i64 ((i : Int) - 1)) s := by
  intro i
  induction i with
  | zero =>
    intro s hi hs
    show f111l1s Q (f111l1 Q 0) _ _ _ _ _ s
    simp only [f111l1s, show decide (((0 : Nat) : Int) - 1 ≥ 0) = false from rfl, wx, wy, Nat.reduceAdd, Nat.reduceEqDiff, reduceCtorEq]
    refine hQ _ ?_
    simpa [adv_h] using hs
  | succ i ih =>
    intro s hi hs
    show f111l1s Q (f111l1 Q (i + 1)) _ _ _ _ _ s
    obtain ⟨x, hx⟩ : ∃ x, a[i]? = some x := ⟨_, List.getElem?_eq_getElem (by omega)⟩
    have hxl := hl x (List.mem_of_getElem? hx)
    have hrl : (smallM n (a.drop (i + 1))).2 < 2 ^ 32 := Nat.lt_of_lt_of_le (small_lt n h0 _) hn
    have h1 : decide (((i + 1 : Nat) : Int) - 1 ≥ 0) = true := by simp
    have h2 : ((i + 1 : Nat) : Int) - 1 = (i : Int) := by omega
    have h3 : IntKind.i64.wrap ((i : Int) - 1) = (i : Int) - 1 := IntWalk.i64_in _ (by omega)
    have e := get_drop a i x hx
    have hq : ((smallM n (a.drop (i + 1))).2 * 4294967296 + x) / n < 2 ^ 32 := by
      have := small_limbs n h0 (a.drop i) (fun y hy => hl y (List.mem_of_mem_drop hy))
      rw [e] at this
      exact this _ (List.mem_cons_self ..)
    have hor := or_add hrl hxl
    have hshl : ∀ (r : Int), bn .shl 159 (.int .u64 r) (.int .u64 32) = some (.int .u64 (IntKind.u64.wrap (r * 2 ^ 32))) := fun r => bin_shl (n := 32) (by decide)
    simp only [h2] at h1 ⊢
    simp only [f111l1s, h1, hshl, nsA, ix_map encU false hx, u3_0, cf211_159, wx, wy, Nat.reduceAdd, Nat.reduceEqDiff, reduceCtorEq]
    rw [show IntKind.u64.wrap (x : Int) = (x : Int) from IntWalk.u64_in _ (by rw [p32] at hxl; omega)]
    simp only [bin_or, hor, wx, wy, Nat.reduceAdd, Nat.reduceEqDiff, reduceCtorEq]
    have hne : n ≠ 0 := by omega
    generalize hyy : (smallM n (a.drop (i + 1))).2 * 4294967296 + x = y at *
    have hqq : bn .quo 159 (.int .u64 (y : Int)) (.int .u64 (n : Int)) = some (.int .u64 (IntKind.u64.wrap ((y / n : Nat) : Int))) := bin_quo hne
    have hrr : bn .rem 159 (.int .u64 (y : Int)) (.int .u64 (n : Int)) = some (.int .u64 ((y % n : Nat) : Int)) := bin_rem hne
    have es : smallM n (a.drop i) = (y / n :: (smallM n (a.drop (i + 1))).1, y % n) := by rw [e, smallM, hyy]
    generalize hD : y / n = D at *
    rw [p32] at hq
    rw [show IntKind.u64.wrap (D : Int) = (D : Int) from IntWalk.u64_in _ (by omega)] at hqq
    simp only [hqq, hrr, cf159_211, ix_ref0 (show i < a.length by omega), wx, wy, Nat.reduceAdd, Nat.reduceEqDiff, reduceCtorEq]
    rw [show IntKind.u32.wrap (D : Int) = (D : Int) from IntWalk.u32_in _ (by omega)]
    have hset : ((List.replicate (i + 1) 0 ++ (smallM n (a.drop (i + 1))).1).map u3A).set i (.int .u32 (D : Int)) = (List.replicate i 0 ++ (smallM n (a.drop i)).1).map u3A := by
      rw [es, List.replicate_succ']
      have := set_mid (a := (List.replicate i 0).map u3A) (x := u3A 0) (v := (.int .u32 (D : Int))) (b := (smallM n (a.drop (i + 1))).1.map u3A)
      rw [List.length_map, List.length_replicate] at this
      simp only [List.append_assoc, List.singleton_append, List.map_append, List.map_cons]
      exact this
    rw [sto_c (by rw [adv_h]; exact hs) (by simp [small_len]; omega) rfl rfl, hset]
    simp only [wx, wy, Nat.reduceAdd, Nat.reduceEqDiff, reduceCtorEq, f111j2, h3]
    have := ih (Ai.adv (s.set N (some (.cells ((List.replicate i 0 ++ (smallM n (a.drop i)).1).map u3A) e' true true))) 26) (by omega) (by rw [adv_h, st_same])
    rw [es] at this
    simp only [es]
    exact this
theorem c111 (a : List Nat) (hl : limbs a) (ha : a.length ≤ 2 ^ 30) (n : Nat) (h0 : 0 < n) (hn : n ≤ 2 ^ 32) : PureC Tryz.env 111 [nsA a, .int .u64 n] (.tup [nsA (normM (smallM n a).1), .int .u64 (smallM n a).2]) := by
  refine pure_q (f111_run _ _ _ ?_)
  have hz : zero Tryz.ty 211 = some (.int .u32 0) := zf211
  have hc0 : (AV.int .u32 0).cells = [.int .u32 0] := rfl
  unfold f111
  simp only [nsA, ln22s, List.length_map, mkS_eq tf22 hz a.length (by omega) (by omega), hc0, flat_rep, wx, wy, Nat.reduceAdd, Nat.reduceEqDiff, reduceCtorEq]
  rw [show IntKind.i64.wrap ((a.length : Int) - 1) = (a.length : Int) - 1 from IntWalk.i64_in _ (by omega)]
  refine ⟨a.length + 1, ?_⟩
  have := l111 a hl ha n h0 hn (PureQ (.tup [nsA (normM (smallM n a).1), .int .u64 (smallM n a).2])) (St.empty.nx + 4) a.length 211 (fun s hs => ?_) a.length (Ai.adv (St.empty.set (St.empty.nx + 4) (some (.cells (List.replicate a.length (.int .u32 0)) 211 true true))) 11) (Nat.le_refl _) ?_
  · simpa [smallM, nsA] using this
  · unfold f111j1
    have hp := pur_ref (s := Ai.adv s 5) (id := St.empty.nx + 4) (c := some a.length) (k := 11) (l := (smallM n a).1) (f := u3A) tf22 (by rw [adv_h]; exact hs) (fun _ _ => rfl) (fun _ _ => rfl)
    rw [small_len] at hp
    refine callPur (args2 := [nsA (smallM n a).1]) (ids := [St.empty.nx + 4]) (by simp only [purL, hp, nsA, List.append_nil]) (c110 _ (by rw [small_len]; exact ha)) ?_
    exact pureQ_closed (by simp only [AV.closed, closedL, ns_closed, Bool.and_self])
  · rw [adv_h, st_same, List.drop_length]
    simp [smallM, u3A]
def nineGo : Nat → Nat → List UInt8
  | 0, _ => []
  | k + 1, n => nineGo k (n / 10) ++ [UInt8.ofNat (48 + n % 10)]
theorem nine_len (k n : Nat) : (nineGo k n).length = k := by
  induction k generalizing n with
  | zero => rfl
  | succ k ih => simp [nineGo, ih]
theorem slc223 (id : Nat) (s : St) (c : List AV) (e' : TypeId) (ex wr : Bool) (hs : s.h id = some (.cells c e' ex wr)) (hc : c.length = 9) : slc 223 (.ptr id 0) none none none s = some (.ref id 0 9 (some 9) 5) := by
  have h1 : und Tryz.ty 223 = some (.array 9 5) := by kernel_rfl
  have h2 : lay Tryz.ty 5 = some (1, false) := by kernel_rfl
  simp [slc, sliceA, h1, h2, hs, hc, bounds, optI]
theorem l112 (Q : AV → St → Prop) (N : Nat) (e' : TypeId) (r : List UInt8) (hQ : ∀ s, Q (.str r) s) : ∀ (i n : Nat) (done : List UInt8) (s : St), n < 2 ^ 64 → done.length + i = 9 → r = nineGo i n ++ done →
    s.h N = some (.cells ((List.replicate i (0 : UInt8) ++ done).map byt) e' true true) → f112l1 Q (i + 1) (.int .u64 n) (.ptr N 0) (.int .i64 ((i : Int) - 1)) s := by
  intro i
  induction i with
  | zero =>
    intro n done s hn hd hr hs
    show f112l1s Q (f112l1 Q 0) _ _ _ s
    simp only [nineGo, List.nil_append] at hr
    subst hr
    simp only [List.replicate_zero, List.nil_append] at hs
    have h9 := slc223 N (Ai.adv s 5) _ _ _ _ (by rw [adv_h]; exact hs) (by rw [List.length_map]; omega)
    have hcv := str_ref (pre := []) (post := []) (off := 0) (n := 9) (cp := some 9) (e := 5) (s := Ai.adv s 5) (id := N) (bs := r) (by rw [adv_h, List.nil_append, List.append_nil]; exact hs) rfl (by omega)
    simp only [f112l1s, show decide (((0 : Nat) : Int) - 1 ≥ 0) = false from rfl, f112j1, wx, wy, Nat.reduceAdd, Nat.reduceEqDiff, reduceCtorEq, h9, hcv]
    exact hQ _
  | succ i ih =>
    intro n done s hn hd hr hs
    show f112l1s Q (f112l1 Q (i + 1)) _ _ _ s
    have h2 : ((i + 1 : Nat) : Int) - 1 = (i : Int) := by omega
    have h1 : decide ((i : Int) ≥ 0) = true := by simp
    have h3 : IntKind.i64.wrap ((i : Int) - 1) = (i : Int) - 1 := IntWalk.i64_in _ (by omega)
    have hrem : bn .rem 159 (.int .u64 (n : Int)) (.int .u64 10) = some (.int .u64 ((n % 10 : Nat) : Int)) := bin_rem (b := 10) (by decide)
    have hquo : bn .quo 159 (.int .u64 (n : Int)) (.int .u64 10) = some (.int .u64 (IntKind.u64.wrap ((n / 10 : Nat) : Int))) := bin_quo (b := 10) (by decide)
    rw [p64] at hn
    rw [IntWalk.u64_in _ (by omega)] at hquo
    have hix : ixA 9 1 (.ptr N 0) (.int .i64 (i : Int)) = some (.ptr N i) := by
      have h8 : i < 9 := by omega
      have h9 : (i : Int) < 9 := by omega
      simp [ixA, asI, idx, h8, h9, shiftP]
    have hw : IntKind.u8.wrap (IntKind.u64.wrap (48 + ((n % 10 : Nat) : Int))) = ((UInt8.ofNat (48 + n % 10)).toNat : Int) := by
      rw [IntWalk.u64_in _ (by omega), IntWalk.u8_in _ (by omega)]
      simp
      omega
    have hset : ((List.replicate (i + 1) (0 : UInt8) ++ done).map byt).set i (byt (UInt8.ofNat (48 + n % 10))) = (List.replicate i (0 : UInt8) ++ (UInt8.ofNat (48 + n % 10) :: done)).map byt := by
      have := set_mid (a := (List.replicate i (0 : UInt8)).map byt) (x := byt 0) (v := byt (UInt8.ofNat (48 + n % 10))) (b := done.map byt)
      rw [List.length_map, List.length_replicate] at this
      rw [List.replicate_succ']
      simp only [List.append_assoc, List.singleton_append, List.map_append, List.map_cons]
      exact this
    simp only [h2, f112l1s, h1, hrem, hquo, cf159_5, hw, hix, wx, wy, Nat.reduceAdd, Nat.reduceEqDiff, reduceCtorEq]
    rw [show AV.int .u8 ((UInt8.ofNat (48 + n % 10)).toNat : Int) = byt (UInt8.ofNat (48 + n % 10)) from rfl, sto_c (by rw [adv_h]; exact hs) (by simp; omega) rfl rfl, hset]
    simp only [wx, wy, Nat.reduceAdd, Nat.reduceEqDiff, reduceCtorEq, f112j2, h3]
    refine ih (n / 10) (UInt8.ofNat (48 + n % 10) :: done) _ (by rw [p64]; omega) (by simp; omega) (by rw [hr]; simp [nineGo]) (by rw [adv_h, st_same])
theorem c112 (n : Nat) (hn : n < 2 ^ 64) : PureC Tryz.env 112 [.int .u64 n] (.str (nineGo 9 n)) := by
  refine pure_q (f112_run _ _ ?_)
  unfold f112
  simp only [zf223, wx, wy, Nat.reduceAdd, Nat.reduceEqDiff, reduceCtorEq]
  refine ⟨10, l112 (PureQ (.str (nineGo 9 n))) (St.empty.nx + 1) 223 (nineGo 9 n) (fun s => pureQ_closed rfl) 9 n [] _ hn rfl (by simp) (by rw [adv_h, st_same]; rfl)⟩
def textGo : Nat → List Nat → List UInt8 → List UInt8
  | 0, _, s => s
  | f + 1, a, s => match a with
    | [] => s
    | x :: t => textGo f (normM (smallM 1000000000 (x :: t)).1) (nineGo 9 (smallM 1000000000 (x :: t)).2 ++ s)
def textM (a : List Nat) : List UInt8 := let t := (textGo (val a) (normM a) []).dropWhile (· == 48); if t = [] then [48] else t
theorem l159 (c : UInt8) (Q : AV → St → Prop) : ∀ (x : List UInt8) (s : St), x.length ≤ 2 ^ 60 → (∀ s, Q (.str (x.dropWhile (· == c))) s) → f159l1 Q (x.length + 1) (.str x) (.int .u8 c.toNat) s := by
  intro x
  induction x with
  | nil =>
    intro s _ hQ
    show f159l1s Q (f159l1 Q 0) _ _ s
    simp only [f159l1s, ln9t, List.length_nil, show decide (((0 : Nat) : Int) > 0) = false from rfl, f159j1, wx, wy, Nat.reduceAdd, Nat.reduceEqDiff, reduceCtorEq]
    exact hQ _
  | cons b x ih =>
    intro s hx hQ
    show f159l1s Q (f159l1 Q (x.length + 1)) _ _ s
    have h1 : decide ((((b :: x).length : Nat) : Int) > 0) = true := by simp
    have h2 : ixa 9 (.str (b :: x)) (.int .i64 0) = some (.int .u8 b.toNat) := ixa_str (i := 0) .i64 rfl
    have h3 : ∀ s, slc 9 (.str (b :: x)) (some (.int .i64 1)) none none s = some (.str x) := fun s => slc_lo (n := 1) .i64 (by simp)
    simp only [f159l1s, ln9t, h1, h2, h3, wx, wy, Nat.reduceAdd, Nat.reduceEqDiff, reduceCtorEq]
    have e : ((b.toNat : Int) == (c.toNat : Int)) = (b == c) := by
      rw [Bool.eq_iff_iff, beq_iff_eq, beq_iff_eq]
      constructor
      · intro h; exact UInt8.toNat_inj.1 (by omega)
      · intro h; rw [h]
    cases h : (b == c) with
    | true =>
      rw [h] at e
      simp only [e, wx, wy, Nat.reduceAdd, Nat.reduceEqDiff, reduceCtorEq]
      refine ih _ (by simp at hx; omega) fun s => ?_
      have := hQ s
      rw [List.dropWhile_cons, h, if_pos rfl] at this
      exact this
    | false =>
      rw [h] at e
      simp only [e, f159j1, wx, wy, Nat.reduceAdd, Nat.reduceEqDiff, reduceCtorEq]
      have := hQ (Ai.adv s 11)
      rw [List.dropWhile_cons, h] at this
      exact this
theorem c159 (x : List UInt8) (c : UInt8) (hx : x.length ≤ 2 ^ 60) : PureC Tryz.env 159 [.str x, .int .u8 c.toNat] (.str (x.dropWhile (· == c))) := by
  refine pure_q (f159_run _ _ _ ?_)
  unfold f159
  exact ⟨x.length + 1, l159 c _ x _ hx fun s => pureQ_closed rfl⟩
theorem c113 (x : List UInt8) (c : UInt8) (hx : x.length ≤ 2 ^ 60) (hc : c.toNat < 128) : PureC Tryz.env 113 [.str x, .str [c]] (.str (x.dropWhile (· == c))) := by
  refine pure_q (f113_run _ _ _ ?_)
  unfold f113
  have h1 : ixa 9 (.str [c]) (.int .i64 0) = some (.int .u8 c.toNat) := ixa_str (i := 0) .i64 rfl
  have h2 : decide ((c.toNat : Int) < 128) = true := by simp; omega
  cases h : (x == []) with
  | true =>
    have : x = [] := by simpa using h
    subst this
    simp only [h, wx, wy, Nat.reduceAdd, Nat.reduceEqDiff, reduceCtorEq]
    exact pureQ_closed rfl
  | false =>
    simp only [h, ln9t, List.length_cons, List.length_nil, show ((((0 + 1 : Nat) : Nat) : Int) == 1) = true from rfl, show (([c] : List UInt8) == []) = false from rfl, h1, h2, wx, wy, Nat.reduceAdd, Nat.reduceEqDiff, reduceCtorEq]
    refine callPu (c159 x c hx) (by simp [AV.closed]) ?_
    exact pureQ_closed rfl
theorem text_len : ∀ (f k : Nat) (a : List Nat) (s : List UInt8), limbs a → (val a = 0 → a = []) → val a < 1000000000 ^ k → (textGo f a s).length ≤ s.length + 9 * k := by
  intro f
  induction f with
  | zero => intro k a s _ _ _; exact Nat.le_add_right ..
  | succ f ih =>
    intro k a s hl h0 hv
    match a, hl, h0, hv with
    | [], _, _, _ => exact Nat.le_add_right ..
    | x :: t, hl, h0, hv =>
      simp only [textGo]
      generalize hb : x :: t = b at *
      cases k with
      | zero =>
        have : val b = 0 := by simpa using hv
        rw [h0 this] at hb; cases hb
      | succ k =>
        have hsl := small_limbs 1000000000 (by decide) b hl
        have hsv := small_val 1000000000 (by decide) b
        have hm := small_lt 1000000000 (by decide) b
        have hv' : val (normM (smallM 1000000000 b).1) < 1000000000 ^ k := by
          rw [val_norm]
          rw [Nat.pow_succ] at hv
          refine Nat.lt_of_mul_lt_mul_right (a := 1000000000) ?_
          exact Nat.lt_of_le_of_lt (by omega) hv
        have := ih k (normM (smallM 1000000000 b).1) (nineGo 9 (smallM 1000000000 b).2 ++ s) (norm_limbs hsl) (norm_zero hsl).1 hv'
        rw [List.length_append, nine_len] at this
        omega
theorem val_ten (a : List Nat) (h : limbs a) : val a < 1000000000 ^ (2 * a.length) := by
  refine Nat.lt_of_lt_of_le (val_lt a h) ?_
  unfold pw
  rw [Nat.pow_mul]
  exact Nat.pow_le_pow_left (by decide) _
theorem l59 (Q : AV → St → Prop) (w : List UInt8) (hQ : ∀ s, Q (.str (if w.dropWhile (· == 48) = [] then [48] else w.dropWhile (· == 48))) s) (hw : w.length ≤ 2 ^ 40) : ∀ (f k : Nat) (a : List Nat) (acc : List UInt8) (s : St), limbs a → a.length ≤ 2 ^ 30 → (val a = 0 → a = []) → val a ≤ f → val a < 1000000000 ^ k → k ≤ 2 ^ 33 → acc.length + 9 * k ≤ 2 ^ 40 → textGo f a acc = w →
    f59l1 Q (f + 1) (nsA a) (.str acc) s := by
  have hj : ∀ s, f59j1 Q (.str w) s := fun s => by
    unfold f59j1
    refine callPu (c113 w 48 (by omega) (by decide)) (by simp [AV.closed]) ?_
    have := hQ
    cases h : w.dropWhile (· == 48) with
    | nil => rw [h] at this; simp only [show (([] : List UInt8) == []) = true from rfl, wx, wy, Nat.reduceAdd, Nat.reduceEqDiff, reduceCtorEq]; exact this _
    | cons x t => rw [h] at this; simp only [show (x :: t == []) = false from rfl, wx, wy, Nat.reduceAdd, Nat.reduceEqDiff, reduceCtorEq]; exact this _
  intro f
  induction f with
  | zero =>
    intro k a acc s hl ha h0 hf hk hkk hacc hg
    have := h0 (by omega)
    subst this
    have : acc = w := hg
    subst this
    show f59l1s Q (f59l1 Q 0) _ _ s
    simp only [f59l1s, nsA, ln22s, List.map_nil, List.length_nil, show decide (((0 : Nat) : Int) > 0) = false from rfl, wx, wy, Nat.reduceAdd, Nat.reduceEqDiff, reduceCtorEq]
    exact hj _
  | succ f ih =>
    intro k a acc s hl ha h0 hf hk hkk hacc hg
    show f59l1s Q (f59l1 Q (f + 1)) _ _ s
    cases ha0 : a with
    | nil =>
      subst ha0
      have : acc = w := hg
      subst this
      simp only [f59l1s, nsA, ln22s, List.map_nil, List.length_nil, show decide (((0 : Nat) : Int) > 0) = false from rfl, wx, wy, Nat.reduceAdd, Nat.reduceEqDiff, reduceCtorEq]
      exact hj _
    | cons x t =>
      have hg' : textGo f (normM (smallM 1000000000 a).1) (nineGo 9 (smallM 1000000000 a).2 ++ acc) = w := by rw [ha0] at hg ⊢; exact hg
      have hpos : 0 < val a := by
        rcases Nat.eq_zero_or_pos (val a) with h | h
        · rw [h0 h] at ha0; cases ha0
        · exact h
      rw [← ha0]
      have h1 : decide (((a.length : Nat) : Int) > 0) = true := by rw [ha0]; simp
      cases k with
      | zero => exfalso; have : val a < 1 := by simpa using hk
                omega
      | succ k =>
        have hsl := small_limbs 1000000000 (by decide) a hl
        have hsv := small_val 1000000000 (by decide) a
        have hm := small_lt 1000000000 (by decide) a
        have hnl : (normM (smallM 1000000000 a).1).length ≤ a.length := by have := norm_len (smallM 1000000000 a).1; rw [small_len] at this; exact this
        have hv' : val (normM (smallM 1000000000 a).1) < 1000000000 ^ k := by
          rw [val_norm]
          rw [Nat.pow_succ] at hk
          refine Nat.lt_of_mul_lt_mul_right (a := 1000000000) ?_
          exact Nat.lt_of_le_of_lt (by omega) hk
        have hv2 : val (normM (smallM 1000000000 a).1) ≤ f := by rw [val_norm]; omega
        have h111 := c111 a hl ha 1000000000 (by decide) (by decide)
        have h112 := c112 (smallM 1000000000 a).2 (Nat.lt_trans hm (by decide))
        have hadd : bn .add 9 (.str (nineGo 9 (smallM 1000000000 a).2)) (.str acc) = some (.str (nineGo 9 (smallM 1000000000 a).2 ++ acc)) := add_str (by rw [nine_len]; omega)
        simp only [f59l1s, nsA, ln22s, List.length_map, h1, wx, wy, Nat.reduceAdd, Nat.reduceEqDiff, reduceCtorEq]
        refine callPu h111 (by simp [AV.closed, us_closed]) ?_
        simp only [wx, wy, Nat.reduceAdd, Nat.reduceEqDiff, reduceCtorEq]
        refine callPu h112 (by simp [AV.closed]) ?_
        simp only [hadd, wx, wy, Nat.reduceAdd, Nat.reduceEqDiff, reduceCtorEq]
        exact ih k _ _ _ (norm_limbs hsl) (by omega) (norm_zero hsl).1 hv2 hv' (by omega) (by rw [List.length_append, nine_len]; omega) hg'
theorem c59 (a : List Nat) (hl : limbs a) (ha : a.length ≤ 2 ^ 30) : PureC Tryz.env 59 [nsA a] (.str (textM a)) := by
  refine pure_q (f59_run _ _ ?_)
  unfold f59
  have hnl := norm_len a
  have hvt := val_ten (normM a) (norm_limbs hl)
  have hlen := text_len (val a) (2 * (normM a).length) (normM a) [] (norm_limbs hl) (norm_zero hl).1 hvt
  rw [List.length_nil] at hlen
  refine callPu (c110 a ha) (by simp [ns_closed]) ?_
  refine ⟨val a + 1, l59 _ (textGo (val a) (normM a) []) (fun s => pureQ_closed rfl) (by omega) (val a) (2 * (normM a).length) (normM a) [] _ (norm_limbs hl) (by omega) (norm_zero hl).1 (by rw [val_norm]; exact Nat.le_refl _) hvt (by omega) (by simp only [List.length_nil]; omega) rfl⟩
end Go.Proofs.YtdehdahimkcakaaGreatDoor
end
section
set_option linter.unusedVariables false
set_option linter.unusedSimpArgs false
set_option maxRecDepth 100000
set_option maxHeartbeats 4000000
namespace Go.Proofs.YtdehdahimkcakaaGreatDoor
open Go Ai
def digs : List UInt8 := [48, 49, 50, 51, 52, 53, 54, 55, 56, 57, 97, 98, 99, 100, 101, 102, 103, 104, 105, 106, 107, 108, 109, 110, 111, 112, 113, 114, 115, 116, 117, 118, 119, 120, 121, 122]
def dig (n : Nat) : UInt8 := digs.getD (n % 16) 48
def hexGo : Nat → Nat → List UInt8 → List UInt8
  | 0, n, acc => dig n :: acc
  | f + 1, n, acc => bif Nat.ble 16 n then hexGo f (n / 16) (dig n :: acc) else dig n :: acc
def hexM (n : Nat) : List UInt8 := hexGo 16 n []
theorem dig_get (n : Nat) : digs[n % 16]? = some (dig n) := by
  have : n % 16 < digs.length := Nat.lt_of_lt_of_le (Nat.mod_lt _ (by decide)) (by decide)
  unfold dig
  rw [List.getElem?_eq_getElem this, List.getD_eq_getElem?_getD, List.getElem?_eq_getElem this]
  rfl
theorem and15 (n : Nat) (h : n < 2 ^ 64) : bitsA .and .u64 (n : Int) 15 = ((n % 16 : Nat) : Int) := by
  have e2 : (BitVec.ofInt 64 (n : Int)).toNat = n := by
    rw [BitVec.ofInt_natCast, BitVec.toNat_ofNat, Nat.mod_eq_of_lt h]
  show IntKind.u64.wrap (((BitVec.ofInt 64 (n : Int) &&& BitVec.ofInt 64 15 : BitVec 64).toNat : Nat) : Int) = _
  rw [BitVec.toNat_and, e2]
  have : (BitVec.ofInt 64 15).toNat = 2 ^ 4 - 1 := by decide
  rw [this, Nat.and_two_pow_sub_one_eq_mod, IntWalk.u64_in _ (by omega)]
theorem bin_and {T : Ty} {q : TypeId → Bool} {t : TypeId} {k : IntKind} {a b : Int} : bin T q .and t (.int k a) (.int k b) = some (.int k (bitsA .and k a b)) := by simp [bin, isShift, intBin]
theorem ix65 (N i : Nat) (h : i < 65) : ixA 65 1 (.ptr N 0) (.int .i64 (i : Int)) = some (.ptr N i) := by
  have h9 : (i : Int) < 65 := by omega
  simp [ixA, asI, idx, h, h9, shiftP]
theorem slc311 (id i : Nat) (s : St) (c : List AV) (e' : TypeId) (ex wr : Bool) (hs : s.h id = some (.cells c e' ex wr)) (hc : c.length = 65) (hi : i < 65) : slc 311 (.ptr id 0) (some (.int .i64 (i : Int))) none none s = some (.ref id i (65 - i) (some (65 - i)) 5) := by
  have h1 : und Tryz.ty 311 = some (.array 65 5) := by kernel_rfl
  have h2 : lay Tryz.ty 5 = some (1, false) := by kernel_rfl
  have h9 : (i : Int) ≤ 65 := by omega
  have h8 : i ≤ 65 := by omega
  have h7 : ¬ 65 = i := by omega
  simp [slc, sliceA, h1, h2, hs, hc, bounds, optI, asI, h8, h9, h7]
theorem set65 (i : Nat) (acc : List UInt8) (c : UInt8) : ((List.replicate (i + 1) (0 : UInt8) ++ acc).map byt).set i (byt c) = (List.replicate i (0 : UInt8) ++ (c :: acc)).map byt := by
  have := set_mid (a := (List.replicate i (0 : UInt8)).map byt) (x := byt 0) (v := byt c) (b := acc.map byt)
  rw [List.length_map, List.length_replicate] at this
  rw [List.replicate_succ']
  simp only [List.append_assoc, List.singleton_append, List.map_append, List.map_cons]
  exact this
theorem ixd (n : Nat) : ixa 9 (.str [48, 49, 50, 51, 52, 53, 54, 55, 56, 57, 97, 98, 99, 100, 101, 102, 103, 104, 105, 106, 107, 108, 109, 110, 111, 112, 113, 114, 115, 116, 117, 118, 119, 120, 121, 122]) (.int .u64 ((n % 16 : Nat) : Int)) = some (byt (dig n)) := ixa_str (x := digs) .u64 (dig_get n)
theorem zf311 : zr 311 = some (.agg (List.replicate 65 (.int .u8 0))) := by kernel_rfl
theorem j266 (Q : AV → St → Prop) (N i n : Nat) (acc : List UInt8) (e' : TypeId) (s : St) (hn : n < 16) (hi : i + 1 + acc.length = 65) (hs : s.h N = some (.cells ((List.replicate (i + 1) (0 : UInt8) ++ acc).map byt) e' true true)) (hQ : ∀ s, Q (.tup [.nils, .str (dig n :: acc)]) s) :
    f266j5 Q (.int .i64 ((i + 1 : Nat) : Int)) (.int .u64 n) (.ptr N 0) (.bool false) (.bool false) (.sl false []) (.str []) .nils s := by
  have h3 : IntKind.i64.wrap (((i + 1 : Nat) : Int) - 1) = (i : Int) := by rw [IntWalk.i64_in _ (by omega)]; omega
  have hd := ixd n
  rw [Nat.mod_eq_of_lt hn] at hd
  have hsl := fun s h => slc311 N i s ((List.replicate i (0 : UInt8) ++ (dig n :: acc)).map byt) e' true true h (by simp; omega) (by omega)
  have hst := fun s h => str_ref (pre := List.replicate i 0) (post := []) (off := i) (n := 65 - i) (cp := some (65 - i)) (e := 5) (e' := e') (ex := true) (wr := true) (s := s) (id := N) (bs := dig n :: acc) h (by simp) (by simp; omega)
  unfold f266j5
  simp only [h3, hd, ix65 N i (by omega), sto_c (c := (List.replicate (i + 1) (0 : UInt8) ++ acc).map byt) (v := byt (dig n)) (e := e') (ex := true) (id := N) (off := i) (s := Ai.adv s 8) (by rw [adv_h]; exact hs) (by simp; omega) rfl rfl, set65, wx, wy, Nat.reduceAdd, Nat.reduceEqDiff, reduceCtorEq]
  unfold f266j3
  simp only [wx, wy, Nat.reduceAdd, Nat.reduceEqDiff, reduceCtorEq]
  unfold f266j4
  simp only [wx, wy, Nat.reduceAdd, Nat.reduceEqDiff, reduceCtorEq]
  rw [hsl _ (by simp only [adv_h, st_same])]
  simp only [wx, wy, Nat.reduceAdd, Nat.reduceEqDiff, reduceCtorEq]
  rw [hst _ (by rw [List.append_nil]; simp only [adv_h, st_same])]
  simp only [wx, wy, Nat.reduceAdd, Nat.reduceEqDiff, reduceCtorEq]
  exact hQ _
theorem l266 (Q : AV → St → Prop) (N : Nat) (e' : TypeId) (r : List UInt8) (hQ : ∀ s, Q (.tup [.nils, .str r]) s) : ∀ (f n i : Nat) (acc : List UInt8) (s : St), n < 2 ^ 63 → n < 16 ^ (f + 1) → f ≤ i → i + 1 + acc.length = 65 → hexGo f n acc = r →
    s.h N = some (.cells ((List.replicate (i + 1) (0 : UInt8) ++ acc).map byt) e' true true) →
    f266l1 Q (f + 1) (.sl false []) (.int .u64 n) (.bool false) (.bool false) .nils (.str []) (.ptr N 0) (.int .i64 ((i + 1 : Nat) : Int)) (.int .u64 4) (.int .u64 16) (.int .u64 15) s := by
  intro f
  induction f with
  | zero =>
    intro n i acc s hn hb hi hl hg hs
    have h16 : n < 16 := by simpa using hb
    have h1 : decide ((n : Int) ≥ 16) = false := by simp; omega
    show f266l1s Q (f266l1 Q 0) _ _ _ _ _ _ _ _ _ _ _ s
    simp only [f266l1s, h1, wx, wy, Nat.reduceAdd, Nat.reduceEqDiff, reduceCtorEq]
    have hg' : dig n :: acc = r := hg
    exact j266 Q N i n acc e' _ h16 hl (by rw [adv_h]; exact hs) fun s => by rw [hg']; exact hQ s
  | succ f ih =>
    intro n i acc s hn hb hi hl hg hs
    show f266l1s Q (f266l1 Q (f + 1)) _ _ _ _ _ _ _ _ _ _ _ s
    cases hc : Nat.ble 16 n with
    | false =>
      have h16 : n < 16 := by
        rcases Nat.lt_or_ge n 16 with h | h
        · exact h
        · rw [Nat.ble_eq_true_of_le h] at hc; cases hc
      have h1 : decide ((n : Int) ≥ 16) = false := by simp; omega
      simp only [f266l1s, h1, wx, wy, Nat.reduceAdd, Nat.reduceEqDiff, reduceCtorEq]
      simp only [hexGo, hc, cond_false] at hg
      exact j266 Q N i n acc e' _ h16 hl (by rw [adv_h]; exact hs) fun s => by rw [hg]; exact hQ s
    | true =>
      have h16 : 16 ≤ n := Nat.le_of_ble_eq_true hc
      have h1 : decide ((n : Int) ≥ 16) = true := by simp; omega
      simp only [hexGo, hc, cond_true] at hg
      obtain ⟨i, rfl⟩ : ∃ k, i = k + 1 := ⟨i - 1, by omega⟩
      have h3 : IntKind.i64.wrap (((i + 1 + 1 : Nat) : Int) - 1) = ((i + 1 : Nat) : Int) := by rw [IntWalk.i64_in _ (by omega)]; omega
      have hand : ∀ t, bn .and t (.int .u64 (n : Int)) (.int .u64 15) = some (.int .u64 ((n % 16 : Nat) : Int)) := fun t => by
        rw [← and15 n (Nat.lt_trans hn (by decide))]; exact bin_and
      have hshr : bn .shr 159 (.int .u64 (n : Int)) (.int .u64 4) = some (.int .u64 ((n : Int).fdiv (2 ^ 4))) := bin_shr (n := 4) (by decide)
      have hdv : (n : Int).fdiv (2 ^ 4) = ((n / 16 : Nat) : Int) := by
        rw [Int.fdiv_eq_ediv_of_nonneg _ (by decide)]; rfl
      rw [hdv] at hshr
      simp only [f266l1s, h1, h3, hand, ixd n, ix65 N (i + 1) (by omega), hshr, wx, wy, Nat.reduceAdd, Nat.reduceEqDiff, reduceCtorEq]
      rw [sto_c (c := (List.replicate (i + 1 + 1) (0 : UInt8) ++ acc).map byt) (v := byt (dig n)) (e := e') (ex := true) (id := N) (off := i + 1) (by rw [adv_h]; exact hs) (by simp; omega) rfl rfl, set65]
      simp only [wx, wy, Nat.reduceAdd, Nat.reduceEqDiff, reduceCtorEq]
      refine ih (n / 16) i (dig n :: acc) _ (by omega) ?_ (by omega) (by simp; omega) hg (by simp only [adv_h, st_same])
      rw [Nat.pow_succ] at hb
      generalize 16 ^ (f + 1) = K at *
      omega
theorem c266 (n : Nat) (hn : n < 2 ^ 63) : PureC Tryz.env 266 [.sl false [], .int .u64 n, .int .i64 16, .bool false, .bool false] (.tup [.sl false [], .str (hexM n)]) := by
  have k282 : PureC Tryz.env 282 [.int .i64 16] (.bool true) := pure_f (by kernel_rfl)
  have k283 : PureC Tryz.env 283 [.int .u64 16] (.int .i64 4) := pure_f (by kernel_rfl)
  refine pure_q (f266_run _ _ _ _ _ _ ?_)
  have d1 : decide ((16 : Int) < 2) = false := rfl
  have d2 : ((16 : Int) == 10) = false := rfl
  have d3 : decide ((16 : Int) > 36) = false := rfl
  unfold f266
  simp only [d1, d2, d3, wx, wy, Nat.reduceAdd, Nat.reduceEqDiff, reduceCtorEq]
  unfold f266j1
  simp only [zf311, wx, wy, Nat.reduceAdd, Nat.reduceEqDiff, reduceCtorEq]
  unfold f266j2
  refine callPu k282 (by simp [AV.closed]) ?_
  simp only [cf3_213, wx, wy, Nat.reduceAdd, Nat.reduceEqDiff, reduceCtorEq]
  rw [show IntKind.u64.wrap 16 = 16 from rfl]
  refine callPu k283 (by simp [AV.closed]) ?_
  simp only [cf3_213, cf3_159, show IntKind.u64.wrap 4 = 4 from rfl, show IntKind.u64.wrap 16 = 16 from rfl, show IntKind.u64.wrap (16 - 1) = 15 from rfl, wx, wy, Nat.reduceAdd, Nat.reduceEqDiff, reduceCtorEq]
  refine ⟨17, ?_⟩
  refine l266 (PureQ (.tup [.sl false [], .str (hexM n)])) _ 311 (hexM n) (fun s => ?_) 16 n 64 [] _ hn (Nat.lt_trans hn (by decide)) (by decide) rfl rfl ?_
  · exact pureQ_of ⟨[], rfl, rfl⟩
  · simp only [adv_h, st_same]; rfl
theorem c236 (n : Nat) (hn : n < 2 ^ 63) : PureC Tryz.env 236 [.int .i64 n, .int .i64 16] (.str (hexM n)) := by
  refine pure_q (f236_run _ _ _ ?_)
  have d2 : ((16 : Int) == 10) = false := rfl
  have d4 : decide ((n : Int) < 0) = false := by simp
  unfold f236
  simp only [d2, wx, wy, Nat.reduceAdd, Nat.reduceEqDiff, reduceCtorEq]
  unfold f236j1
  simp only [d4, cf2_159, wx, wy, Nat.reduceAdd, Nat.reduceEqDiff, reduceCtorEq]
  rw [show IntKind.u64.wrap (n : Int) = (n : Int) from IntWalk.u64_in _ (by omega)]
  refine callPur (args2 := [.sl false [], .int .u64 n, .int .i64 16, .bool false, .bool false]) (ids := []) rfl (c266 n hn) ?_
  simp only [wx, wy, Nat.reduceAdd, Nat.reduceEqDiff, reduceCtorEq]
  exact pureQ_closed rfl
theorem c207 (n : Nat) (hn : n < 2 ^ 63) : PureC Tryz.env 207 [.int .i64 n, .int .i64 16] (.str (hexM n)) := by
  refine pure_q (f207_run _ _ _ ?_)
  unfold f207
  refine callPu (c236 n hn) (by simp [AV.closed]) ?_
  exact pureQ_closed rfl
end Go.Proofs.YtdehdahimkcakaaGreatDoor
end
section
set_option linter.unusedVariables false
set_option linter.unusedSimpArgs false
set_option maxRecDepth 100000
set_option maxHeartbeats 4000000
namespace Go.Proofs.YtdehdahimkcakaaGreatDoor
open Go Ai
def byA (c : UInt8) : AV := .int .u8 c.toNat
theorem ty161 : SlTy 161 5 1 false 1 := ⟨by kernel_rfl, by kernel_rfl, by kernel_rfl, by kernel_rfl, by decide⟩
theorem eq160n : bn .eql 160 .nilp .nilp = some (.bool true) := by kernel_rfl
theorem eq160p (i : Nat) : bn .eql 160 (.ptr i 0) .nilp = some (.bool false) := by kernel_rfl
theorem ne160 (i : Nat) : bn .neq 160 (.ptr i 0) (.ptr i 0) = some (.bool false) := by
  have h1 : und Tryz.ty 160 = some (.pointer 163) := by kernel_rfl
  have h2 : lay Tryz.ty 163 = some (2, true) := by kernel_rfl
  simp [bn, bin, isShift, h1, eqRef, h2]
theorem cv1 {i : Nat} {s : St} {a x : AV} (hs : s.h i = some (.cells [a, x] 163 true true)) : cv 160 288 (.ptr i 0) s = some (.ptr i 0) := by
  have h1 : und Tryz.ty 160 = some (.pointer 163) := by kernel_rfl
  have h2 : und Tryz.ty 288 = some .unsafePointer := by kernel_rfl
  have h3 : lay Tryz.ty 163 = some (2, true) := by kernel_rfl
  simp [cv, convA, h1, h2, h3, hs]
theorem cv2 {i : Nat} {s : St} {a x : AV} (hs : s.h i = some (.cells [a, x] 163 true true)) : cv 288 160 (.ptr i 0) s = some (.ptr i 0) := by
  have h1 : und Tryz.ty 160 = some (.pointer 163) := by kernel_rfl
  have h2 : und Tryz.ty 288 = some .unsafePointer := by kernel_rfl
  have h3 : lay Tryz.ty 163 = some (2, true) := by kernel_rfl
  simp [cv, convA, h1, h2, h3, hs]
theorem same232 (i : Nat) (s : St) : WideC Tryz.env 232 [.ptr i 0] s (.ptr i 0) s := ⟨1, by kernel_rfl⟩
theorem sto_cell {id off : Nat} {v : AV} {c : List AV} {e : TypeId} {ex : Bool} {s : St} (h : s.h id = some (.cells c e ex true)) (ho : off < c.length) (hv : v.cells = [v]) (hone : v.one = true) : sto 1 (.ptr id off) v s = some (s.set id (some (.cells (c.set off v) e ex true))) := by
  show Ai.store 1 (.ptr id off) v s = _
  unfold Ai.store
  simp only [h]
  rw [if_pos ⟨by rw [hv]; rfl, by omega, by rw [hv]; simp [hone]⟩, hv]
  rfl
def Bd (lo : Nat) (s : St) (id : Nat) (bs : List UInt8) : Prop :=
  id < lo ∧ ∃ a x, (a = .nilp ∨ a = .ptr id 0) ∧ s.h id = some (.cells [a, x] 163 true true) ∧ Gw 5 1 lo s x (bs.map byA) ∧ (bs = [] → x = .nils)
theorem callWi0 {h : FuncId} {args : List AV} {s : St} {K : AV → St → Prop} (hz : Tryz.env.fz h = false) (hc : ∃ r s', WideC Tryz.env h args s r s' ∧ K r s') : CallWi Tryz.env h args s K := by
  obtain ⟨r, s', h1, h2⟩ := hc
  exact .mk r s' h1 (by rw [hz]; exact h2)
theorem fz202 : Tryz.env.fz 202 = false := by kernel_rfl
theorem fz232 : Tryz.env.fz 232 = false := by kernel_rfl
theorem fz157 : Tryz.env.fz 157 = false := by kernel_rfl
theorem fz156 : Tryz.env.fz 156 = false := by kernel_rfl
theorem fz108 : Tryz.env.fz 108 = false := by kernel_rfl
theorem Bd.adv {lo id n : Nat} {s : St} {bs : List UInt8} (h : Bd lo s id bs) : Bd lo (adv s n) id bs := by
  obtain ⟨h1, a, x, h2, h3, h4, h5⟩ := h
  exact ⟨h1, a, x, h2, h3, h4.adv, h5⟩
theorem app_str (x : AV) (bs : List UInt8) (id : Nat) (s : St) : bt .append #[161, 9] [x, .str bs] id s = appendA 5 1 1 x (bs.map byA) id s := by
  have h1 : und (bX Tryz.env).P 161 = some (.slice 5) := by kernel_rfl
  have h2 : lay (bX Tryz.env).P 5 = some (1, false) := by kernel_rfl
  have h3 : bytesOf (bX Tryz.env).P 5 = some 1 := by kernel_rfl
  have h5 : und (bX Tryz.env).P 9 = some .string := by kernel_rfl
  have h4 : (zero (bX Tryz.env).P 5).map (fun v => v.cells.length) = some 1 := by kernel_rfl
  cases hz : zero (bX Tryz.env).P 5 with
  | none => rw [hz] at h4; cases h4
  | some zv =>
    rw [hz] at h4
    simp only [Option.map_some, Option.some.injEq] at h4
    simp [builtinA, h1, h2, h3, h5, hz, h4, srcCells]
    rfl
theorem gw_str {lo id : Nat} {s : St} {x : AV} {vs : List AV} (g : Gw 5 1 lo s x vs) (fr : Fresh s) (bs : List UInt8) (hf : vs.length + bs.length ≤ 2 ^ 40) (hid : lo ≤ id) (hid2 : id < s.nx) :
    ∃ x' s', bt .append #[161, 9] [x, .str bs] id s = some (x', s') ∧ Gw 5 1 lo s' x' (vs ++ bs.map byA) ∧ Fresh s' ∧ s'.nx = s.nx ∧ (∀ j, j < lo → s'.h j = s.h j) ∧ x'.cells = [x'] ∧ x'.one = true ∧ (bs = [] → x' = x) := by
  rw [app_str]
  have hvb : ∀ v ∈ bs.map byA, v.cells.length = 1 ∧ v.cells.all AV.one = true := fun v hv => by
    obtain ⟨c, _, rfl⟩ := List.mem_map.1 hv; exact ⟨rfl, rfl⟩
  have hflat : (bs.map byA).flatMap AV.cells = bs.map byA := flat_one fun v hv => by obtain ⟨c, _, rfl⟩ := List.mem_map.1 hv; rfl
  have hones : (bs.map byA).all AV.one = true := List.all_eq_true.2 fun v hv => by obtain ⟨c, _, rfl⟩ := List.mem_map.1 hv; rfl
  cases bs with
  | nil =>
    obtain ⟨h1, ⟨rfl, rfl⟩ | ⟨i, hi, rfl, hs⟩⟩ := g
    · exact ⟨.nils, s, rfl, ⟨by simp, .inl ⟨rfl, rfl⟩⟩, fr, rfl, fun _ _ => rfl, rfl, rfl, fun _ => rfl⟩
    · exact ⟨_, s, rfl, ⟨by simpa using h1, .inr ⟨i, hi, by simp, by simpa using hs⟩⟩, fr, rfl, fun _ _ => rfl, rfl, rfl, fun _ => rfl⟩
  | cons c bs =>
    have hem : ((c :: bs).map byA).isEmpty = false := rfl
    have hfit : ∀ n, n ≤ 2 ^ 40 → fitsA n 1 = true := fun n hn => by
      have h1 : n * 1 ≤ Ai.most := by unfold Ai.most; omega
      have h2 : n ≤ Ai.most := by unfold Ai.most; omega
      simp only [fitsA, Nat.ble_eq_true_of_le h1, Nat.ble_eq_true_of_le h2, Bool.and_self]
    obtain ⟨h1, ⟨rfl, rfl⟩ | ⟨i, hi, rfl, hs⟩⟩ := g
    · refine ⟨.ref id 0 ((c :: bs).map byA).length none 5, s.set id (some (.cells ((c :: bs).map byA) 5 false true)), ?_, ⟨by simpa using hvb, .inr ⟨id, hid, by simp, ?_⟩⟩, fr.set hid2, rfl, ?_, rfl, rfl, fun h => by cases h⟩
      · unfold appendA
        simp only [hem, hones, Bool.not_true, Bool.false_eq_true, if_false]
        simp only [grown, Nat.div_one]
        rw [hfit _ (by simpa using hf), if_pos rfl]
        simp only [newSl, Nat.div_one]
      · rw [st_same, List.nil_append, hflat]
      · intro j hj; exact st_other (by omega)
    · have hfl := flat_len h1
      have hilt : i < s.nx := by
        by_cases hc : i < s.nx
        · exact hc
        · rw [fr i (by omega)] at hs; cases hs
      have hlen : (vs.flatMap AV.cells ++ (c :: bs).map byA).length / 1 = vs.length + ((c :: bs).map byA).length := by
        rw [List.length_append, hfl, Nat.mul_one, Nat.div_one]
      refine ⟨.ref id 0 (vs.length + ((c :: bs).map byA).length) none 5, (s.set i none).set id (some (.cells (vs.flatMap AV.cells ++ (c :: bs).map byA) 5 false true)), ?_, ⟨?_, .inr ⟨id, hid, by simp, ?_⟩⟩, (fr.set hilt).set hid2, rfl, ?_, rfl, rfl, fun h => by cases h⟩
      · unfold appendA
        simp only [hem, hones, Bool.not_true, Bool.false_eq_true, if_false, hs, Nat.zero_add, hfl, Nat.le_refl, and_self, if_true]
        rw [if_neg (by simp)]
        simp only [grown, hlen]
        rw [hfit _ (by simpa using hf), if_pos rfl]
        simp only [newSl, hlen]
      · intro w hw
        rcases List.mem_append.1 hw with hw | hw
        · exact h1 w hw
        · exact hvb w hw
      · rw [st_same, List.flatMap_append, hflat]
      · intro j hj
        rw [st_other (by omega), st_other (by omega)]
section
variable {lo id : Nat} {s : St} {bs : List UInt8} {K : AV → St → Prop}
def Kept (lo id : Nat) (s s' : St) : Prop := s.nx ≤ s'.nx ∧ Fresh s' ∧ ∀ j, j < lo → j ≠ id → s'.h j = s.h j
theorem bd_check (h : Bd lo s id bs) (fr : Fresh s) (hl : lo ≤ s.nx) (hk : ∀ s', Bd lo s' id bs → Kept lo id s s' → K (.tup []) s') : CallWi Tryz.env 202 [.ptr id 0] s K := by
  obtain ⟨h1, a, x, h2, h3, h4, hx⟩ := h
  refine callWi0 fz202 (f202_run _ _ ?_)
  refine ⟨rfl, ?_⟩
  rcases h2 with rfl | rfl
  · simp only [h3, eq160n, wz, wy, Nat.reduceAdd]
    rw [cv1 (a := .nilp) (x := x) (by simp only [adv_h]; exact h3)]
    simp only [Bnd_some]
    refine callWi0 fz232 ⟨_, _, same232 id _, ?_⟩
    rw [cv2 (a := .nilp) (x := x) (by simp only [adv_h]; exact h3)]
    simp only [wz, wy, Nat.reduceAdd]
    refine ⟨rfl, ?_⟩
    rw [sto_cell (c := [.nilp, x]) (by simp only [adv_h]; exact h3) (by simp) rfl rfl]
    simp only [Bnd_some]
    refine hk _ ⟨h1, .ptr id 0, x, .inr rfl, by rw [st_same]; rfl, ?_, hx⟩ ⟨by simp only [set_nx, adv_nx]; omega, fr.adv.set (by show id < s.nx + 13; omega), fun j hj hn => by rw [st_other hn]; rfl⟩
    exact h4.mono fun j hj _ => by rw [st_other (by omega)]; rfl
  · simp only [h3, eq160p, wz, wy, Nat.reduceAdd]
    refine ⟨rfl, ?_⟩
    simp only [h3, ne160, wz, wy, Nat.reduceAdd]
    exact hk _ ⟨h1, .ptr id 0, x, .inr rfl, h3, h4.adv, hx⟩ ⟨by simp only [adv_nx]; omega, fr.adv, fun j _ _ => rfl⟩
theorem wb {c : UInt8} (h : Bd lo s id bs) (fr : Fresh s) (hl : lo ≤ s.nx) (hlen : bs.length < 2 ^ 40) (hk : ∀ s', Bd lo s' id (bs ++ [c]) → Kept lo id s s' → K .nili s') : CallWi Tryz.env 157 [.ptr id 0, byA c] s K := by
  refine callWi0 fz157 (f157_run _ _ _ ?_)
  unfold f157
  refine bd_check h.adv fr.adv (by show lo ≤ s.nx + 3; omega) fun s1 b1 k1 => ?_
  obtain ⟨h1, a, x, h2, h3, h4, hx⟩ := b1
  obtain ⟨e1, f1, e2⟩ := k1
  have e1 : s.nx + 3 ≤ s1.nx := e1
  have hbs : bsl 161 1 [(0, byA c)] = some (.sl true [byA c]) := bsl_one ty161 (by decide) rfl rfl
  have hfit : fitsA ((bs.map byA).length + 1) 1 = true := by
    rw [List.length_map]
    have h1 : (bs.length + 1) * 1 ≤ Ai.most := by unfold Ai.most; omega
    have h2 : bs.length + 1 ≤ Ai.most := by unfold Ai.most; omega
    simp only [fitsA, Nat.ble_eq_true_of_le h1, Nat.ble_eq_true_of_le h2, Bool.and_self]
  obtain ⟨x', s', a1, a2, a3, a4, a5, a6, a7⟩ := gw_step (id := s1.nx + 7) (v := byA c) ty161 (h4.adv (n := 11)) f1.adv rfl rfl hfit (by omega) (by show s1.nx + 7 < s1.nx + 11; omega) true
  have a4 : s'.nx = s1.nx + 11 := a4
  have h3' : s'.h id = some (.cells [a, x] 163 true true) := by rw [a5 id h1]; exact h3
  refine ⟨rfl, ?_⟩
  simp only [h3, hbs, a1, wz, wy, Nat.reduceAdd]
  refine ⟨rfl, ?_⟩
  have hone : x'.cells = [x'] ∧ x'.one = true := by rw [a7]; exact ⟨rfl, rfl⟩
  rw [sto_cell (c := [a, x]) h3' (by simp) hone.1 hone.2]
  simp only [Bnd_some]
  refine hk _ ⟨h1, a, x', h2, by rw [adv_h, st_same]; rfl, ?_, fun h => by simp at h⟩ ⟨by simp only [set_nx, adv_nx]; omega, (a3.set (by omega)).adv, fun j hj hn => ?_⟩
  · rw [List.map_append]
    exact (a2.mono fun j hj _ => by rw [adv_h, st_other (by omega)])
  · rw [adv_h, st_other hn, a5 j hj]; exact e2 j hj hn
theorem len9 (x : List UInt8) (id : Nat) (s : St) : bt .len #[9] [.str x] id s = some (.int .i64 x.length, s) := by kernel_rfl
theorem ws {t : List UInt8} (h : Bd lo s id bs) (fr : Fresh s) (hl : lo ≤ s.nx) (hlen : bs.length + t.length ≤ 2 ^ 40) (hk : ∀ s', Bd lo s' id (bs ++ t) → Kept lo id s s' → K (.tup [.int .i64 t.length, .nili]) s') : CallWi Tryz.env 156 [.ptr id 0, .str t] s K := by
  refine callWi0 fz156 (f156_run _ _ _ ?_)
  unfold f156
  refine bd_check h.adv fr.adv (by show lo ≤ s.nx + 4; omega) fun s1 b1 k1 => ?_
  obtain ⟨h1, a, x, h2, h3, h4, hx⟩ := b1
  obtain ⟨e1, f1, e2⟩ := k1
  have e1 : s.nx + 4 ≤ s1.nx := e1
  obtain ⟨x', s', a1, a2, a3, a4, a5, a6, a7, a8⟩ := gw_str (id := s1.nx + 6) (h4.adv (n := 10)) f1.adv t (by rw [List.length_map]; omega) (by omega) (by show s1.nx + 6 < s1.nx + 10; omega)
  have a4 : s'.nx = s1.nx + 10 := a4
  have h3' : s'.h id = some (.cells [a, x] 163 true true) := by rw [a5 id h1]; exact h3
  refine ⟨rfl, ?_⟩
  simp only [h3, a1, wz, wy, Nat.reduceAdd]
  refine ⟨rfl, ?_⟩
  rw [sto_cell (c := [a, x]) h3' (by simp) a6 a7]
  simp only [Bnd_some, len9]
  refine hk _ ⟨h1, a, x', h2, by rw [adv_h, st_same]; rfl, ?_, fun h => ?_⟩ ⟨by simp only [set_nx, adv_nx]; omega, (a3.set (by omega)).adv, fun j hj hn => ?_⟩
  · rw [List.map_append]
    exact (a2.mono fun j hj _ => by rw [adv_h, st_other (by omega)])
  · obtain ⟨hb, ht⟩ := List.append_eq_nil_iff.1 h
    rw [a8 ht]; exact hx hb
  · rw [adv_h, st_other hn, a5 j hj]; exact e2 j hj hn
theorem u8s (bs : List UInt8) : asU8s (bs.map byA) = some (bs.map fun c => (c.toNat : Int)) := by
  induction bs with
  | nil => rfl
  | cons c l ih =>
    simp only [List.map_cons, asU8s, ih]
    rfl
theorem u8back (bs : List UInt8) : (bs.map fun c => (c.toNat : Int)).map (fun n => UInt8.ofNat n.toNat) = bs := by
  induction bs with
  | nil => rfl
  | cons c l ih => simp only [List.map_cons, ih, Int.toNat_natCast, UInt8.ofNat_toNat]
theorem bstr (h : Bd lo s id bs) (fr : Fresh s) (hlen : bs.length ≤ 2 ^ 40) (hk : ∀ s', K (.str bs) s') : CallWi Tryz.env 108 [.ptr id 0] s K := by
  obtain ⟨h1, a, x, h2, h3, h4, hx⟩ := h
  refine callWi0 fz108 (f108_run _ _ ?_)
  refine ⟨rfl, ?_⟩
  obtain ⟨g1, ⟨rfl, hb⟩ | ⟨i, hi, rfl, hs⟩⟩ := h4
  · have hb : bs = [] := by simpa using hb
    subst hb
    have e1 : ∀ k s, bt .unsafeSliceData #[161] [.nils] k s = some (.nilp, s) := fun k s => rfl
    have e2 : ∀ k s, bt .len #[161] [.nils] k s = some (.int .i64 0, s) := fun k s => by kernel_rfl
    have e3 : ∀ k s, bt .unsafeString #[220, 3] [.nilp, .int .i64 0] k s = some (.str [], s) := fun k s => by kernel_rfl
    simp only [h3, e1, wz, wy, Nat.reduceAdd]
    refine ⟨rfl, ?_⟩
    simp only [h3, e2, wz, wy, Nat.reduceAdd]
    refine ⟨fr _ (by omega), ?_⟩
    simp only [e3, wz, wy, Nat.reduceAdd]
    exact hk _
  · have hflat : (bs.map byA).flatMap AV.cells = bs.map byA := flat_one fun v hv => by obtain ⟨c, _, rfl⟩ := List.mem_map.1 hv; rfl
    rw [hflat] at hs
    rw [List.length_map] at h3
    rw [List.length_map] at hx
    have hpos : 0 < bs.length := by
      cases bs with
      | nil => have := hx rfl; cases this
      | cons c l => simp
    have hlt : i ≠ id := by omega
    have e1 : ∀ k (q : St), q.h i = some (.cells (bs.map byA) 5 false true) → bt .unsafeSliceData #[161] [.ref i 0 bs.length none 5] k q = some (.ptr i 0, q) := fun k q hq => by
      simp [builtinA, hq, hpos]
    have e2 : ∀ k (q : St), bt .len #[161] [.ref i 0 bs.length none 5] k q = some (.int .i64 (bs.length : Nat), q) := fun k q => by kernel_rfl
    have e3 : ∀ k (q : St), q.h i = some (.cells (bs.map byA) 5 false true) → ∃ q', bt .unsafeString #[220, 3] [.ptr i 0, .int .i64 (bs.length : Nat)] k q = some (.str bs, q') := fun k q hq => by
      have h1 : und (bX Tryz.env).P 220 = some (.pointer 5) := by kernel_rfl
      have h2 : lay (bX Tryz.env).P 5 = some (1, false) := by kernel_rfl
      have hm : (bs.length : Int) ≤ (most : Int) := by unfold most; omega
      have hr : ((bs.map fun c => (c.toNat : Int)).all fun n => decide (0 ≤ n) && decide (n < 256)) = true := List.all_eq_true.2 fun n hn => by
        obtain ⟨c, _, rfl⟩ := List.mem_map.1 hn
        have := c.toNat_lt
        simp; omega
      have htk : (bs.map byA).take bs.length = bs.map byA := List.take_of_length_le (by simp)
      refine ⟨q.set i (some (.cells (bs.map byA) 5 false false)), ?_⟩
      simp only [bt, builtinA, h1, hq, h2, Int.toNat_natCast, List.length_map, Nat.le_refl, hm, htk, u8s, Option.bind_some, hr, if_true, u8back, and_self, true_and, and_true]
      rw [if_pos (by omega)]
    simp only [h3, wz, wy, Nat.reduceAdd]
    rw [e1 _ _ (by rw [adv_h]; exact hs)]
    simp only [wz, wy, Nat.reduceAdd]
    refine ⟨rfl, ?_⟩
    simp only [h3, e2, wz, wy, Nat.reduceAdd]
    refine ⟨fr _ (by omega), ?_⟩
    obtain ⟨q', hq'⟩ := e3 (s.nx + 11) (Ai.adv s 13) hs
    rw [hq']
    simp only [wz, wy, Nat.reduceAdd]
    exact hk _
end
end Go.Proofs.YtdehdahimkcakaaGreatDoor
end
section
set_option linter.unusedVariables false
set_option linter.unusedSimpArgs false
set_option maxRecDepth 100000
set_option maxHeartbeats 4000000
namespace Go.Proofs.YtdehdahimkcakaaGreatDoor
open Go Ai
def rnA (r : Int × Int) : AV := .agg [.int .i64 r.1, .int .i64 r.2]
def inA (n : Int) : AV := .int .i64 n
def point (c : Int) : Bool := decide (c ≥ 0) && decide (c ≤ 196607)
theorem c181 (c : Int) : PureC Tryz.env 181 [.int .i64 c] (.bool (point c)) := by
  refine pure_closed rfl (f181_run _ _ ?_)
  unfold f181 point
  cases h : decide (c ≥ 0) with
  | false => simp only [h, wz, wy, Nat.reduceAdd]; rfl
  | true =>
    simp only [h, wz, wy, Nat.reduceAdd]; rfl
def bad (r : Int × Int) : Bool := !(point r.1) || decide (r.2 < 1)
def listGo (most : Int) : List (Int × Int) → List Int → Option (List Int)
  | [], out => cond (decide (most < 0)) none (some out)
  | r :: s, out => cond (decide (r.2 > IntKind.i64.wrap (most - out.length))) none (listGo most s (out ++ List.replicate r.2.toNat r.1))
def listM (s : List (Int × Int)) (most : Int) : List Int × Int := cond (s.any bad) ([], 1) (match listGo most s [] with | some l => (l, 0) | none => ([], 2))
def tupS (l : List Int) (e : Int) : AV := .tup [.sl false (l.map inA), .int .i64 e]
theorem len25 (ex : Bool) (l : List AV) (id : Nat) (s : St) : bt .len #[25] [.sl ex l] id s = some (.int .i64 l.length, s) := by kernel_rfl
theorem ix_rn (ex : Bool) (l : List (Int × Int)) (i : Nat) (d : Int × Int) (h : l[i]? = some d) : ixS 2 (.sl ex (l.map rnA)) (.int .i64 (i : Int)) = some (.pel (rnA d).cells 0) := by
  obtain ⟨hi, rfl⟩ := List.getElem?_eq_some_iff.1 h
  simp [ixS, asI, idx, hi, rnA, AV.cells]
theorem rn_part (d : Int × Int) : Ai.part 2 true 0 (rnA d).cells = some (rnA d) := rfl
theorem rn0 (d : Int × Int) : (rnA d).cells[0]? = some (AV.int .i64 d.1) := rfl
theorem rn1 (d : Int × Int) : (rnA d).cells[1]? = some (AV.int .i64 d.2) := rfl
theorem zr109 : ∃ v, zr 109 = some v ∧ v.cells.length = 2 := by
  have h : (zr 109).map (fun v => v.cells.length) = some 2 := by kernel_rfl
  obtain ⟨v, h1, h2⟩ := Option.map_eq_some_iff.1 h
  exact ⟨v, h1, h2⟩
theorem ty72 : SlTy 72 3 1 false 8 := ⟨by kernel_rfl, by kernel_rfl, by kernel_rfl, by kernel_rfl, by decide⟩
abbrev PQ (v : AV) : AV → St → Prop := fun r s' => ∃ ids, pur Tryz.env.P s' 12 r = some (v, ids)
theorem pq_nils (e : Int) (s : St) : PQ (tupS [] e) (.tup [.nils, .int .i64 e]) s := ⟨[], rfl⟩
theorem in_pur {x : AV} {s : St} {l : List Int} (g : Gw 3 1 0 s x (l.map inA)) (e : Int) : PQ (tupS l e) (.tup [x, .int .i64 e]) s := by
  obtain ⟨ids, h⟩ := gw_pur1 ty72 g (fun v hv => by obtain ⟨n, _, rfl⟩ := List.mem_map.1 hv; rfl) (fun v hv => by obtain ⟨n, _, rfl⟩ := List.mem_map.1 hv; rfl) 10
  have hx : x.closed = false := by obtain ⟨_, ⟨rfl, _⟩ | ⟨_, _, rfl, _⟩⟩ := g <;> rfl
  exact ⟨ids, pur_tup2 hx h rfl⟩
theorem len72z (id : Nat) (s : St) : bt .len #[72] [.nils] id s = some (.int .i64 (0 : Nat), s) := by kernel_rfl
theorem len72 {x : AV} {s : St} {l : List Int} (g : Gw 3 1 0 s x (l.map inA)) (id : Nat) : bt .len #[72] [x] id s = some (.int .i64 l.length, s) := by
  obtain ⟨_, ⟨rfl, h⟩ | ⟨i, _, rfl, _⟩⟩ := g
  · have : l = [] := by simpa using h
    subst this; exact len72z id s
  · have h : bt .len #[72] [.ref i 0 (l.map inA).length none 3] id s = some (.int .i64 ((l.map inA).length : Nat), s) := by kernel_rfl
    rw [h, List.length_map]
theorem l166b (Q : AV → St → Prop) (ih1 : AV → AV → AV → AV → AV → St → Prop) (most : Int) (c n : Int) (N : Nat) (t27 t28 t29 : AV) (out : List Int) (hn : n ≤ 1000) (hout : out.length ≤ 1000) (hge : 0 ≤ n)
    (hk : ∀ x s, Fresh s → Gw 3 1 0 s x ((out ++ List.replicate n.toNat c).map inA) → f166j3 Q ih1 t29 (.int .i64 most) x t27 t28 s) :
    ∀ (m k : Nat) (x : AV) (s : St), (k : Int) + m = n → Fresh s → s.h N = some (.cells (rnA (c, n)).cells 109 true true) → N < s.nx → Gw 3 1 0 s x ((out ++ List.replicate k c).map inA) → (∀ i n' cp, x = .ref i 0 n' cp 3 → i ≠ N) →
      ∃ g, f166l2 Q ih1 g (.int .i64 most) x (.ptr N 0) t27 t28 t29 (.int .i64 n) (.int .i64 k) s := by
  intro m
  induction m with
  | zero =>
    intro k x s hkm fr hN hNx g hne
    refine ⟨1, ?_⟩
    show f166l2s Q ih1 (f166l2 Q ih1 0) _ _ _ _ _ _ _ _ s
    have hlt : ¬ ((k : Int) < n) := by omega
    have hkn : n.toNat = k := by omega
    rw [hkn] at hk
    simp only [f166l2s, hlt, decide_false, wz, wy, Nat.reduceAdd]
    exact hk x _ fr.adv g.adv
  | succ m ihm =>
    intro k x s hkm fr hN hNx g hne
    have hlt : (k : Int) < n := by omega
    have hbs : bsl 72 1 [(0, .int .i64 c)] = some (.sl true [inA c]) := bsl_one ty72 (by decide) rfl rfl
    have hfit : fitsA (((out ++ List.replicate k c).map inA).length + 1) 8 = true := by
      simp only [List.length_map, List.length_append, List.length_replicate]
      have h1 : (out.length + k + 1) * 8 ≤ Ai.most := by unfold Ai.most; omega
      have h2 : out.length + k + 1 ≤ Ai.most := by unfold Ai.most; omega
      simp only [fitsA, Nat.ble_eq_true_of_le h1, Nat.ble_eq_true_of_le h2, Bool.and_self]
    obtain ⟨x', s', e1, e2, e3, e4, _, e5, e6⟩ := gw_step (id := s.nx + 5) (v := inA c) ty72 (g.adv (n := 7)) fr.adv rfl rfl hfit (Nat.zero_le _) (by show s.nx + 5 < s.nx + 7; omega) true
    have e4 : s'.nx = s.nx + 7 := e4
    have hN' : s'.h N = some (.cells (rnA (c, n)).cells 109 true true) := by
      rw [e5 N (by omega) (fun n' cp hx => hne N n' cp hx rfl)]; exact hN
    have hadd : (out ++ List.replicate k c).map inA ++ [inA c] = (out ++ List.replicate (k + 1) c).map inA := by
      rw [List.replicate_succ']; simp
    rw [hadd] at e2
    obtain ⟨w, hw⟩ := ihm (k + 1) x' (adv s' 2) (by omega) e3.adv hN' (by show N < s'.nx + 2; omega) e2.adv (fun i n' cp hx => by rw [e6] at hx; cases hx; omega)
    refine ⟨w + 1, ?_⟩
    show f166l2s Q ih1 (f166l2 Q ih1 w) _ _ _ _ _ _ _ _ s
    simp only [f166l2s, f166j4, hlt, decide_true, hN, rn0, hbs, e1, wz, wy, Nat.reduceAdd]
    rw [IntWalk.i64_in _ (by omega)]
    exact hw
theorem l166a (ex : Bool) (l : List (Int × Int)) (hlen : l.length ≤ maxLen) (hv : ∀ r ∈ l, bad r = false) (mo : Int) (h0 : 0 ≤ mo) (h1 : mo ≤ 1000) (Q : AV → St → Prop) (res : List Int × Int)
    (hQ1 : ∀ s, res = ([], 2) → Q (.tup [.nils, .int .i64 2]) s) (hQ2 : ∀ x s out, Gw 3 1 0 s x (List.map inA out) → res = (out, 0) → Q (.tup [x, .int .i64 0]) s) :
    ∀ (m i : Nat) (out : List Int) (x : AV) (s : St), i + m = l.length → Fresh s → Gw 3 1 0 s x (out.map inA) → (out.length : Int) ≤ mo → res = (match listGo mo (l.drop i) out with | some l => (l, 0) | none => ([], 2)) →
      f166l1 Q (m + 1) (.int .i64 mo) x (.sl ex (l.map rnA)) (.int .i64 l.length) (.int .i64 i) s := by
  intro m
  induction m with
  | zero =>
    intro i out x s hi fr g ho hr
    show f166l1s Q (f166l1 Q 0) _ _ _ _ _ s
    have hn : ¬ (mo < 0) := by omega
    rw [List.drop_eq_nil_of_le (by omega)] at hr
    simp only [listGo, hn, decide_false, cond_false] at hr
    simp only [f166l1s, f166j2, Int.ofNat_lt, show ¬ (i < l.length) by omega, hn, decide_false, wz, wy, Nat.reduceAdd]
    exact hQ2 x _ out g.adv.adv hr
  | succ m ihm =>
    intro i out x s hi fr g ho hr
    obtain ⟨r, hrr⟩ : ∃ r, l[i]? = some r := ⟨_, List.getElem?_eq_getElem (by omega)⟩
    rw [get_drop l i r hrr, listGo] at hr
    have hix := ix_rn ex l i r hrr
    have hlt : i < l.length := by omega
    have hbad := hv r (List.mem_of_getElem? hrr)
    simp only [bad, Bool.or_eq_false_iff, decide_eq_false_iff_not] at hbad
    obtain ⟨Z, hZ, hZl⟩ := zr109
    have hst : ∀ (q : St) (N : Nat), sto 2 (.ptr N 0) (rnA r) (q.set N (some (.cells Z.cells 109 true true))) = some ((q.set N (some (.cells Z.cells 109 true true))).set N (some (.cells (rnA r).cells 109 true true))) := fun q N =>
      sto_all (by rw [st_same]) hZl rfl rfl
    have hw : IntKind.i64.wrap (mo - out.length) = mo - out.length := IntWalk.i64_in _ (by omega)
    have hN : s.h (s.nx + 3) = none := fr _ (by omega)
    have fB : Fresh (((adv s 5).set (s.nx + 3) (some (.cells Z.cells 109 true true))).set (s.nx + 3) (some (.cells (rnA r).cells 109 true true))) :=
      (fr.adv.set (by show s.nx + 3 < s.nx + 5; omega)).set (by show s.nx + 3 < s.nx + 5; omega)
    have gB : Gw 3 1 0 (((adv s 5).set (s.nx + 3) (some (.cells Z.cells 109 true true))).set (s.nx + 3) (some (.cells (rnA r).cells 109 true true))) x (out.map inA) :=
      g.mono fun j _ hj => by
        have hne : j ≠ s.nx + 3 := fun he => hj (by rw [he]; exact hN)
        rw [st_other hne, st_other hne]; rfl
    have hl72 := fun k => len72 (gB.adv (n := 7)) k
    rw [hw] at hr
    show f166l1s Q (f166l1 Q (m + 1)) _ _ _ _ _ s
    cases hgt : decide (r.2 > mo - out.length) with
    | true =>
      rw [hgt] at hr
      simp only [f166l1s, Int.ofNat_lt, hlt, decide_true, hix, rn_part, hZ, hst, rn1, hl72, hw, hgt, wz, wy, Nat.reduceAdd]
      exact hQ1 _ hr
    | false =>
      rw [hgt] at hr
      have hle : ¬ (r.2 > mo - out.length) := of_decide_eq_false hgt
      simp only [f166l1s, Int.ofNat_lt, hlt, decide_true, hix, rn_part, hZ, hst, rn1, hl72, hw, hgt, wz, wy, Nat.reduceAdd]
      refine l166b Q (f166l1 Q (m + 1)) mo r.1 r.2 (s.nx + 3) _ _ _ out (by omega) (by omega) (by omega) (fun x' s' fr' g' => ?_) r.2.toNat 0 x _ (by omega) fB.adv.adv (by simp only [adv_h, st_same]) (by show s.nx + 3 < s.nx + 5 + 7 + 3; omega) (by simpa using gB.adv.adv) (fun j n' cp hx => ?_)
      · unfold f166j3
        simp only [wz, wy, Nat.reduceAdd]
        rw [wrap_len i _ hlt hlen]
        exact ihm (i + 1) _ x' _ (by omega) fr'.adv g'.adv (by simp only [List.length_append, List.length_replicate]; omega) hr
      · obtain ⟨_, ⟨rfl, _⟩ | ⟨k, _, rfl, hk⟩⟩ := g
        · cases hx
        · cases hx
          intro he
          rw [he, hN] at hk; cases hk
theorem l166c (ex : Bool) (l : List (Int × Int)) (hlen : l.length ≤ maxLen) (mo : Int) (Q : AV → St → Prop)
    (hQ1 : ∀ s, l.any bad = true → Q (.tup [.nils, .int .i64 1]) s) (hQ2 : ∀ s, Fresh s → l.any bad = false → f166j1 Q (.sl ex (l.map rnA)) (.int .i64 mo) s) :
    ∀ (m i : Nat) (s : St), i + m = l.length → Fresh s → l.any bad = (l.drop i).any bad →
      f166l3 Q (m + 1) (.sl ex (l.map rnA)) (.int .i64 mo) (.sl ex (l.map rnA)) (.int .i64 l.length) (.int .i64 i) s := by
  intro m
  induction m with
  | zero =>
    intro i s hi fr hr
    show f166l3s Q (f166l3 Q 0) _ _ _ _ _ s
    rw [List.drop_eq_nil_of_le (by omega)] at hr
    have hr : l.any bad = false := hr
    simp only [f166l3s, Int.ofNat_lt, show ¬ (i < l.length) by omega, decide_false, wz, wy, Nat.reduceAdd]
    exact hQ2 _ fr.adv hr
  | succ m ihm =>
    intro i s hi fr hr
    obtain ⟨r, hrr⟩ : ∃ r, l[i]? = some r := ⟨_, List.getElem?_eq_getElem (by omega)⟩
    rw [get_drop l i r hrr, List.any_cons] at hr
    have hix := ix_rn ex l i r hrr
    have hlt : i < l.length := by omega
    obtain ⟨Z, hZ, hZl⟩ := zr109
    have hst : ∀ (q : St) (N : Nat), sto 2 (.ptr N 0) (rnA r) (q.set N (some (.cells Z.cells 109 true true))) = some ((q.set N (some (.cells Z.cells 109 true true))).set N (some (.cells (rnA r).cells 109 true true))) := fun q N =>
      sto_all (by rw [st_same]) hZl rfl rfl
    have fB : Fresh (((adv s 5).set (s.nx + 3) (some (.cells Z.cells 109 true true))).set (s.nx + 3) (some (.cells (rnA r).cells 109 true true))) :=
      (fr.adv.set (by show s.nx + 3 < s.nx + 5; omega)).set (by show s.nx + 3 < s.nx + 5; omega)
    show f166l3s Q (f166l3 Q (m + 1)) _ _ _ _ _ s
    cases hp : point r.1 with
    | false =>
      have hb : bad r = true := by simp [bad, hp]
      rw [hb] at hr
      simp only [f166l3s, Int.ofNat_lt, hlt, decide_true, hix, rn_part, hZ, hst, rn0, wz, wy, Nat.reduceAdd]
      refine callPu (c181 r.1) (by simp [AV.closed]) ?_
      simp only [hp, wz, wy, Nat.reduceAdd]
      exact hQ1 _ hr
    | true =>
      cases hn : decide (r.2 < 1) with
      | true =>
        have hb : bad r = true := by simp only [bad, hp, hn, Bool.or_true]
        rw [hb] at hr
        simp only [f166l3s, Int.ofNat_lt, hlt, decide_true, hix, rn_part, hZ, hst, rn0, wz, wy, Nat.reduceAdd]
        refine callPu (c181 r.1) (by simp [AV.closed]) ?_
        simp only [hp, rn1, hn, wz, wy, Nat.reduceAdd]
        exact hQ1 _ hr
      | false =>
        have hb : bad r = false := by simp only [bad, hp, hn, Bool.not_true, Bool.or_self]
        rw [hb, Bool.false_or] at hr
        simp only [f166l3s, Int.ofNat_lt, hlt, decide_true, hix, rn_part, hZ, hst, rn0, wz, wy, Nat.reduceAdd]
        refine callPu (c181 r.1) (by simp [AV.closed]) ?_
        simp only [hp, rn1, hn, f166j5, wz, wy, Nat.reduceAdd]
        rw [wrap_len i _ hlt hlen]
        exact ihm (i + 1) _ (by omega) fB.adv.adv hr
theorem c166 (ex : Bool) (l : List (Int × Int)) (hlen : l.length ≤ maxLen) (mo : Int) (h0 : 0 ≤ mo) (h1 : mo ≤ 1000) : PureC Tryz.env 166 [.sl ex (l.map rnA), .int .i64 mo] (tupS (listM l mo).1 (listM l mo).2) := by
  refine pure_of (f166_run _ _ _ (Q := fun r s' => ∃ ids, pur Tryz.env.P s' 12 r = some (tupS (listM l mo).1 (listM l mo).2, ids)) ?_)
  unfold f166
  simp only [len25, List.length_map, Bnd_some]
  refine ⟨l.length + 1, ?_⟩
  refine l166c ex l hlen mo _ (fun s h => ?_) (fun s fr h => ?_) l.length 0 _ (by omega) fresh_empty.adv rfl
  · have : listM l mo = ([], 1) := by simp only [listM, h, cond_true]
    rw [this]; exact pq_nils 1 s
  · have hv : ∀ r ∈ l, bad r = false := fun r hr => by
      have := List.any_eq_false.1 h r hr
      simpa using this
    unfold f166j1
    simp only [len25, List.length_map, Bnd_some]
    refine ⟨l.length + 1, ?_⟩
    have hm : listM l mo = (match listGo mo l [] with | some l => (l, 0) | none => ([], 2)) := by simp only [listM, h, cond_false]
    refine l166a ex l hlen hv mo h0 h1 _ (listM l mo) (fun s h => ?_) (fun x s out g h => ?_) l.length 0 [] .nils _ (by omega) fr.adv gw_nil (by simpa using h0) hm
    · rw [h]; exact pq_nils 2 s
    · rw [h]; exact in_pur g 0
end Go.Proofs.YtdehdahimkcakaaGreatDoor
end
section
set_option linter.unusedVariables false
set_option linter.unusedSimpArgs false
set_option maxRecDepth 100000
set_option maxHeartbeats 4000000
namespace Go.Proofs.YtdehdahimkcakaaGreatDoor
open Go Ai
def asc (c : Int) : Bool := decide (c ≥ 32) && (decide (c ≤ 126) && (c != 92))
theorem asc_point {c : Int} (h : asc c = true) : point c = true := by
  simp only [asc, Bool.and_eq_true, decide_eq_true_eq] at h
  simp only [point, Bool.and_eq_true, decide_eq_true_eq]; omega
theorem zr163 : zr 163 = some (.agg [.nilp, .nils]) := by kernel_rfl
theorem cv35 (c : Int) (s : St) : cv 3 5 (.int .i64 c) s = some (.int .u8 (IntKind.u8.wrap c)) := by
  have h1 : und Tryz.ty 3 = some (.int .i64) := by kernel_rfl
  have h2 : und Tryz.ty 5 = some (.int .u8) := by kernel_rfl
  simp [cv, convA, h1, h2]
theorem ix_in (ex : Bool) (l : List Int) (i : Nat) (c : Int) (h : l[i]? = some c) : ixS 1 (.sl ex (l.map inA)) (.int .i64 (i : Int)) = some (.pel [.int .i64 c] 0) := by
  obtain ⟨hi, rfl⟩ := List.getElem?_eq_some_iff.1 h
  simp [ixS, asI, idx, hi, inA, AV.cells]
theorem len72s (ex : Bool) (l : List AV) (id : Nat) (s : St) : bt .len #[72] [.sl ex l] id s = some (.int .i64 l.length, s) := by kernel_rfl
def ascB (c : Int) : UInt8 := UInt8.ofNat c.toNat
theorem ascB_by {c : Int} (h : asc c = true) : AV.int .u8 (IntKind.u8.wrap c) = byA (ascB c) := by
  simp only [asc, Bool.and_eq_true, decide_eq_true_eq] at h
  rw [IntWalk.u8_in _ (by omega)]
  simp only [byA, ascB]
  congr 1
  simp
  omega
theorem l167 (ex : Bool) (l : List Int) (hl : l.length ≤ 1000) (ha : ∀ c ∈ l, asc c = true) (Q : AV → St → Prop) (lo id : Nat) (hQ : ∀ s, Q (.tup [.str (l.map ascB), .int .i64 0]) s) :
    ∀ (m i : Nat) (s : St), i + m = l.length → Fresh s → lo ≤ s.nx → Bd lo s id ((l.take i).map ascB) → f167l1 Q (m + 1) (.ptr id 0) (.sl ex (l.map inA)) (.int .i64 l.length) (.int .i64 i) s := by
  intro m
  induction m with
  | zero =>
    intro i s hi fr hlo hb
    show f167l1s Q (f167l1 Q 0) _ _ _ _ s
    rw [List.take_of_length_le (by omega)] at hb
    simp only [f167l1s, f167j1, Int.ofNat_lt, show ¬ (i < l.length) by omega, decide_false, wz, wy, Nat.reduceAdd]
    exact bstr hb.adv.adv fr.adv.adv (by rw [List.length_map]; omega) fun s' => hQ s'
  | succ m ihm =>
    intro i s hi fr hlo hb
    obtain ⟨c, hc⟩ : ∃ c, l[i]? = some c := ⟨_, List.getElem?_eq_getElem (by omega)⟩
    have hix := ix_in ex l i c hc
    have hlt : i < l.length := by omega
    have hac := ha c (List.mem_of_getElem? hc)
    have hpt := asc_point hac
    have hby := ascB_by hac
    have hac' := hac
    simp only [asc, Bool.and_eq_true] at hac'
    obtain ⟨a1, a2, a3⟩ := hac'
    show f167l1s Q (f167l1 Q (m + 1)) _ _ _ _ s
    simp only [f167l1s, Int.ofNat_lt, hlt, decide_true, hix, wz, wy, Nat.reduceAdd]
    refine callPu (c181 c) (by simp [AV.closed]) ?_
    simp only [hpt, a1, a2, a3, cv35, hby, wz, wy, Nat.reduceAdd]
    refine wb hb.adv.adv.adv (fr.adv.adv.adv) (by simp only [adv_nx]; omega) (by rw [List.length_map, List.length_take]; omega) fun s' hb' hk => ?_
    obtain ⟨k1, k2, k3⟩ := hk
    simp only [adv_nx] at k1
    unfold f167j2
    simp only [wz, wy, Nat.reduceAdd]
    rw [wrap_len i _ hlt (by have : maxLen = 9223372036854775807 := rfl; omega)]
    refine ihm (i + 1) _ (by omega) k2.adv (by simp only [adv_nx]; omega) ?_
    have e : (l.take (i + 1)).map ascB = (l.take i).map ascB ++ [ascB c] := by
      rw [List.take_add_one, hc]; simp
    rw [e]; exact hb'.adv
theorem c167 (ex : Bool) (l : List Int) (hl : l.length ≤ 1000) (ha : ∀ c ∈ l, asc c = true) : PureC Tryz.env 167 [.sl ex (l.map inA)] (.tup [.str (l.map ascB), .int .i64 0]) := by
  refine pure_closed rfl (f167_run _ _ ?_)
  unfold f167
  simp only [zr163, len72s, List.length_map, Bnd_some]
  refine ⟨l.length + 1, ?_⟩
  refine l167 ex l hl ha _ 3 2 (fun _ => rfl) l.length 0 _ (by omega) ((fresh_empty.adv.set (by decide)).adv) (by decide) ?_
  exact ⟨by decide, .nilp, .nils, .inl rfl, by rw [adv_h]; exact st_same, gw_nil, fun _ => rfl⟩
end Go.Proofs.YtdehdahimkcakaaGreatDoor
end
section
set_option linter.unusedVariables false
set_option linter.unusedSimpArgs false
set_option maxRecDepth 100000
set_option maxHeartbeats 4000000
namespace Go.Proofs.YtdehdahimkcakaaGreatDoor
open Go Ai
structure Dc : Type where
  nm : List UInt8
  so : Int
  mac : Bool
  ps : List (List UInt8 × Int)
  body : Sx
def pmA (p : List UInt8 × Int) : AV := .agg [.str p.1, .int .i64 p.2]
def Dc.av (d : Dc) : AV := .agg (.str d.nm :: .int .i64 d.so :: .bool d.mac :: .sl false (d.ps.map pmA) :: d.body.av.cells)
def Dc.ok (d : Dc) : Bool := decide (d.nm.length ≤ maxLen) && isInt d.so && decide (d.ps.length ≤ maxLen) && d.body.ok
theorem closedL_map {α : Type} (f : α → AV) (l : List α) (h : ∀ x, (f x).closed = true) : closedL (l.map f) = true := by
  induction l with
  | nil => rfl
  | cons x l ih => simp only [List.map_cons, closedL, h, ih, Bool.and_self]
end Go.Proofs.YtdehdahimkcakaaGreatDoor
end
section
set_option linter.unusedVariables false
set_option linter.unusedSimpArgs false
set_option maxRecDepth 100000
set_option maxHeartbeats 4000000
namespace Go.Proofs.YtdehdahimkcakaaGreatDoor
open Go Ai
def zeroSx0 : Sx := .mk false 0 [] 0 0 []
def atA (k : Int) (x : List UInt8) : AV := .agg [.bool false, .int .i64 k, .str x, .int .i64 0, .int .i64 0, .nils]
def atS (k : Int) (x : List UInt8) : Sx := .mk false k x 0 0 []
def zeroB : AV := .agg [.bool false, .int .i64 0, .str [], .int .i64 0, .int .i64 0, .nils]
theorem zr33 : zr 33 = some zeroB := by kernel_rfl
theorem bld30 (k : Int) (x : List UInt8) : bld 30 [(0, .int .i64 k), (1, .str x)] = some (.agg [.int .i64 k, .str x, .int .i64 0]) := by kernel_rfl
theorem bld33a (k : Int) (x : List UInt8) : bld 33 [(1, .agg [.int .i64 k, .str x, .int .i64 0])] = some (atA k x) := by kernel_rfl
theorem at_pur (k : Int) (x : List UInt8) (n : Nat) (s : St) : pur Tryz.env.P s (n + 2) (atA k x) = some ((atS k x).av, []) := rfl
theorem ld_back {id : Nat} {s : St} (k : Int) (x : List UInt8) : ld 6 true (.ptr id 0) (s.set id (some (.cells (atA k x).cells 33 true true))) = some (atA k x) := by
  rw [ld_ptr, st_same]; rfl
theorem sto_at {id : Nat} {s : St} {v : AV} (h : s.h id = some (.cells zeroB.cells 33 true true)) (k : Int) (x : List UInt8) (hv : v = atA k x ∨ v = (atS k x).av) : sto 6 (.ptr id 0) v s = some (s.set id (some (.cells v.cells 33 true true))) := by
  rcases hv with rfl | rfl <;> exact sto_all h rfl rfl rfl
theorem c58 (k : Int) (x : List UInt8) : PureC Tryz.env 58 [.int .i64 k, .str x] (atS k x).av := by
  refine pure_of (f58_run _ _ _ (Q := fun r s' => ∃ ids, pur Tryz.env.P s' 12 r = some ((atS k x).av, ids)) ?_)
  unfold f58
  simp only [zr33, bld30, bld33a, Bnd_some]
  rw [sto_at (by rw [adv_h, st_same]) k x (.inl rfl)]
  simp only [Bnd_some, ld_back]
  exact ⟨[], at_pur k x 10 _⟩
theorem c56 (x : List UInt8) : PureC Tryz.env 56 [.str x] (atS 3 x).av := by
  refine pure_closed rfl (f56_run _ _ ?_)
  unfold f56
  simp only [zr33, Bnd_some]
  refine callPu (c58 3 x) (by simp [AV.closed]) ?_
  rw [sto_at (by rw [adv_h, st_same]) 3 x (.inr rfl)]
  simp only [Bnd_some]
  rw [ld_ptr, st_same]
  rfl
theorem bld33z : bld 33 [] = some zeroB := by kernel_rfl
theorem bn34n (a b : Int) : bn .neq 34 (.int .i64 a) (.int .i64 b) = some (.bool (a != b)) := bin_neq
theorem c115 (ex : Bool) (l : List (Int × Int)) (hcl : (AV.sl ex (l.map rnA)).closed = true) (hlen : l.length ≤ maxLen) (out : List Int) (hm : listM l 1000 = (out, 0)) (hl : out.length ≤ 1000) (ha : ∀ c ∈ out, asc c = true) :
    PureC Tryz.env 115 [.sl ex (l.map rnA)] (.tup [(atS 6 (out.map ascB)).av, .int .i64 0]) := by
  refine pure_closed rfl (f115_run _ _ ?_)
  unfold f115
  simp only [zr33, Bnd_some]
  have h1 := c166 ex l hlen 1000 (by omega) (by omega)
  rw [hm] at h1
  have hcl2 : (AV.sl false (out.map inA)).closed = true := by
    simp only [AV.closed, Bool.not_false, Bool.true_and]
    exact closedL_map _ _ fun _ => rfl
  refine callPu h1 (by simp only [List.mem_cons, List.mem_nil_iff, or_false, forall_eq_or_imp, forall_eq]; exact ⟨hcl, rfl⟩) ?_
  simp only [tupS, bn34n, wz, wy, Nat.reduceAdd, show ((0 : Int) != 0) = false from rfl]
  refine callPu (c167 false out hl ha) (by simp only [List.mem_cons, List.mem_nil_iff, or_false, forall_eq]; exact hcl2) ?_
  simp only [wz, wy, Nat.reduceAdd]
  refine callPu (c58 6 (out.map ascB)) (by simp [AV.closed]) ?_
  rw [sto_at (by simp only [adv_h, st_same]) 6 (out.map ascB) (.inr rfl)]
  simp only [Bnd_some]
  rw [st_same]
  rfl
end Go.Proofs.YtdehdahimkcakaaGreatDoor
end
section
set_option linter.unusedVariables false
set_option linter.unusedSimpArgs false
set_option maxRecDepth 100000
set_option maxHeartbeats 4000000
namespace Go.Proofs.YtdehdahimkcakaaGreatDoor
open Go Ai
theorem encSx : Enc Sx.av 6 := ⟨sx_len, sx_ones⟩
theorem many_in : ∀ (ws pre c : List AV), ws.length ≤ c.length → setMany (pre ++ c) pre.length ws = pre ++ ws ++ c.drop ws.length := by
  intro ws
  induction ws with
  | nil => intro pre c _; simp [setMany]
  | cons v l ih =>
    intro pre c h
    match c, h with
    | y :: c, h =>
      simp only [setMany]
      have e : (pre ++ y :: c).set pre.length v = (pre ++ [v]) ++ c := by simp
      have := ih (pre ++ [v]) c (by simpa using h)
      rw [e]
      simpa using this
section
variable {t e : TypeId} {z b : Nat} {ag : Bool} {s : St}
theorem app_in (h : SlTy t e z ag b) {vs ws junk : List AV} {i : Nat} (hv : ∀ v ∈ vs, v.cells.length = z ∧ v.cells.all AV.one = true) (hw : ∀ v ∈ ws, v.cells.length = z ∧ v.cells.all AV.one = true) (hs : s.h i = some (.cells (vs.flatMap AV.cells ++ junk) e false true)) (hj : ws.length * z ≤ junk.length) (ex : Bool) (id : Nat) :
    ∃ s', bt .append #[t, t] [.ref i 0 vs.length none e, .sl ex ws] id s = some (.ref i 0 (vs.length + ws.length) none e, s') ∧ s'.nx = s.nx ∧ s'.h i = some (.cells ((vs ++ ws).flatMap AV.cells ++ junk.drop (ws.length * z)) e false true) ∧ ∀ j, j ≠ i → s'.h j = s.h j := by
  rw [app_any h]
  have hall : ws.all (fun v => v.cells.length == z) = true := List.all_eq_true.2 fun v hv => by simp [(hw v hv).1]
  have hsrc : srcCells z (.sl ex ws) s = some (ws.flatMap AV.cells) := by simp [srcCells, hall]
  rw [hsrc, Option.bind_some]
  have hwl := flat_len hw
  have hfl := flat_len hv
  by_cases hne : ws = []
  · subst hne
    exact ⟨s, rfl, rfl, by simpa using hs, fun _ _ => rfl⟩
  · have hpos : 0 < ws.length := List.length_pos_iff.2 hne
    have hmul : 0 < ws.length * z := Nat.mul_pos hpos h.pos
    have hem : (ws.flatMap AV.cells).isEmpty = false := by
      cases hc : ws.flatMap AV.cells with
      | nil => rw [hc] at hwl; simp at hwl; omega
      | cons a b => rfl
    have hones : (ws.flatMap AV.cells).all AV.one = true := by
      rw [List.all_eq_true]
      intro y hy
      obtain ⟨v, hv, hy⟩ := List.mem_flatMap.1 hy
      exact List.all_eq_true.1 (hw v hv).2 y hy
    have hdiv : (ws.flatMap AV.cells).length / z = ws.length := by rw [hwl]; exact Nat.mul_div_cancel _ h.pos
    refine ⟨s.set i (some (.cells ((vs ++ ws).flatMap AV.cells ++ junk.drop (ws.length * z)) e false true)), ?_, rfl, st_same, fun j hj => st_other hj⟩
    unfold appendA
    simp only [hem, hones, Bool.not_true, Bool.false_eq_true, if_false, hs, Nat.zero_add]
    rw [if_pos ⟨by rw [List.length_append, hfl]; omega, trivial⟩, if_pos (by rw [List.length_append, hfl, hwl]; omega)]
    rw [hdiv]
    have := many_in (ws.flatMap AV.cells) (vs.flatMap AV.cells) junk (by rw [hwl]; exact hj)
    rw [hfl] at this
    rw [this, hwl, List.flatMap_append]
end
theorem c158 {s : St} {K : AV → St → Prop} (n : Nat) (hn : n ≤ 2 ^ 24) (fr : Fresh s) (hk : ∀ s' x, EF [] s s' → (n = 0 ∧ x = .nils ∨ ∃ i junk, x = .ref i 0 0 none 33 ∧ s.nx ≤ i ∧ i < s'.nx ∧ junk.length = n * 6 ∧ s'.h i = some (.cells junk 33 false true)) → K x s') : CallWi Tryz.env 158 [.nils, .int .i64 n] s K := by
  refine callWiF (by kernel_rfl) (f158_run _ _ _ ?_)
  have h24 : (2 : Nat) ^ 24 = 16777216 := rfl
  have hc : ∀ id (s : St), bt .cap #[31] [.nils] id s = some (.int .i64 0, s) := fun id s => by kernel_rfl
  have hsl : ∀ s : St, slc 31 .nils none (some (.int .i64 0)) none s = some .nils := fun s => by kernel_rfl
  have hneg : decide ((n : Int) < 0) = false := by simp
  unfold f158
  simp only [hneg, wx, wy, Nat.reduceAdd, Nat.reduceEqDiff, reduceCtorEq, f158j1, f158j2, hc, ln31n, show IntKind.i64.wrap (0 - 0) = 0 from rfl]
  rw [show (n : Int) - 0 = (n : Int) by omega, wrapN (k := n) (by omega)]
  by_cases h0 : n = 0
  · subst h0
    simp only [show decide (((0 : Nat) : Int) > 0) = false from rfl, wx, wy, Nat.reduceAdd, Nat.reduceEqDiff, reduceCtorEq]
    exact hk _ _ ((EF.refl [] fr).adv) (.inl ⟨rfl, rfl⟩)
  · have hpos : decide ((n : Int) > 0) = true := by simp; omega
    simp only [hpos, wx, wy, Nat.reduceAdd, Nat.reduceEqDiff, reduceCtorEq, hsl]
    have happ : ∀ id (s : St), bt .append #[31, 3] [.nils, .int .i64 n] id s = some (.ref id 0 n none 33, s.set id (some (.cells (List.replicate n zeroB.cells).flatten 33 false true))) := fun id s => by
      have h1 : und (bX Tryz.env).P 31 = some (.slice 33) := tf31.u
      have h2 : lay (bX Tryz.env).P 33 = some (6, true) := tf31.l
      have h3 : bytesOf (bX Tryz.env).P 33 = some 72 := tf31.b
      have h4 : und (bX Tryz.env).P 3 = some (.int .i64) := by kernel_rfl
      have h5 : zero (bX Tryz.env).P 33 = some zeroB := zr33
      have hz : zeroB.cells.length = 6 := rfl
      have hl : (List.replicate n zeroB.cells).flatten.length = n * 6 := by simp [List.length_flatten, hz]
      have hone : (List.replicate n zeroB.cells).flatten.all AV.one = true := by
        rw [List.all_eq_true]
        intro y hy
        obtain ⟨l, hl, hy⟩ := List.mem_flatten.1 hy
        obtain ⟨_, rfl⟩ := List.mem_replicate.1 hl
        exact List.all_eq_true.1 (show zeroB.cells.all AV.one = true from rfl) y hy
      have hem : (List.replicate n zeroB.cells).flatten.isEmpty = false := by
        cases hc : (List.replicate n zeroB.cells).flatten with
        | nil => rw [hc] at hl; simp at hl; omega
        | cons a b => rfl
      have hm : (n : Int) * ((72 : Nat) : Int) ≤ (most : Int) ∧ (n : Int) ≤ (most : Int) := by unfold most; omega
      simp only [bt, builtinA, List.getElem?_toArray, List.getElem?_cons_zero, List.getElem?_cons_succ, Option.bind_some, h1, h4, h2, h3, h5]
      rw [if_pos ⟨by omega, by omega, hm.1, hm.2, hz⟩, Int.toNat_natCast]
      unfold appendA
      simp only [hem, hone, Bool.not_true, Bool.false_eq_true, if_false, grown, hl]
      rw [show n * 6 / 6 = n by omega, fits_of (by omega) (by omega), if_pos rfl]
      simp only [newSl, hl]
      rw [show n * 6 / 6 = n by omega]
    simp only [happ, wx, wy, Nat.reduceAdd, Nat.reduceEqDiff, reduceCtorEq]
    have hlen : (List.replicate n zeroB.cells).flatten.length = n * 6 := by simp [List.length_flatten, show zeroB.cells.length = 6 from rfl]
    have hsl2 : ∀ (i k : Nat) (q : St), slc 31 (.ref i 0 n none 33) none (some (.int .i64 0)) none (Ai.adv (q.set i (some (.cells (List.replicate n zeroB.cells).flatten 33 false true))) k) = some (.ref i 0 0 none 33) := fun i k q =>
      slc_ref0 tf31 (k := 0) (by rw [adv_h, st_same]) (by rw [hlen]; omega) (by omega) .i64
    simp only [hsl2, wx, wy, Nat.reduceAdd, Nat.reduceEqDiff, reduceCtorEq]
    refine hk _ _ ⟨by simp only [adv_nx, set_nx]; omega, fun j hj _ => by simp only [adv_h]; rw [st_other (by omega)], fresh_set fr _ (by omega)⟩ (.inr ⟨_, _, rfl, by omega, by simp only [adv_nx, set_nx]; omega, hlen, by rw [adv_h, st_same]⟩)
def lsA (l : List Sx) : AV := .sl false (l.map Sx.av)
def tot : List (List Sx) → Nat
  | [] => 0
  | l :: ls => l.length + tot ls
theorem tot_flat (ls : List (List Sx)) : ls.flatten.length = tot ls := by
  induction ls with
  | nil => rfl
  | cons l ls ih => simp [tot, ih]
theorem tot_append (a b : List (List Sx)) : tot (a ++ b) = tot a + tot b := by
  induction a with
  | nil => simp [tot]
  | cons l ls ih => simp only [List.cons_append, tot, ih]; omega
theorem encLs : Enc lsA 1 := ⟨fun _ => rfl, fun _ => rfl⟩
theorem l109a (ls : List (List Sx)) (hls : ls.length ≤ 2 ^ 24) (Q : AV → St → Prop) (s0 : St) (hQ : ∀ x s, (∃ i, x = .ref i 0 ls.flatten.length none 33 ∧ s.h i = some (.cells ((ls.flatten.map Sx.av).flatMap AV.cells) 33 false true)) → Q x s) :
    ∀ (m i b : Nat) (junk : List AV) (s : St), i + m = ls.length → junk.length = tot (ls.drop i) * 6 → s.h b = some (.cells (((ls.take i).flatten.map Sx.av).flatMap AV.cells ++ junk) 33 false true) →
      f109l1 Q (m + 1) (.ref b 0 (ls.take i).flatten.length none 33) (.sl false (ls.map lsA)) (.int .i64 ls.length) (.int .i64 i) s := by
  intro m
  induction m with
  | zero =>
    intro i b junk s hi hj hs
    show f109l1s Q (f109l1 Q 0) _ _ _ _ s
    have hii : i = ls.length := by omega
    subst hii
    simp only [List.drop_length, tot, Nat.zero_mul, List.length_eq_zero_iff] at hj
    subst hj
    simp only [f109l1s, f109j2, Int.lt_irrefl, decide_false, wx, wy, Nat.reduceAdd, Nat.reduceEqDiff, reduceCtorEq]
    refine hQ _ _ ⟨b, by rw [List.take_length], ?_⟩
    rw [adv_h, hs, List.take_length, List.append_nil]
  | succ m ih =>
    intro i b junk s hi hj hs
    show f109l1s Q (f109l1 Q (m + 1)) _ _ _ _ s
    obtain ⟨l, hl⟩ : ∃ l, ls[i]? = some l := ⟨_, List.getElem?_eq_getElem (by omega)⟩
    have hlt : i < ls.length := by omega
    have h24 : (2 : Nat) ^ 24 = 16777216 := rfl
    rw [get_drop ls i l hl, tot] at hj
    simp only [f109l1s, Int.ofNat_lt, hlt, decide_true, ix_map encLs false hl, wx, wy, Nat.reduceAdd, Nat.reduceEqDiff, reduceCtorEq]
    have h0 : (lsA l).cells[0]? = some (lsA l) := rfl
    simp only [h0, wx, wy, Nat.reduceAdd, Nat.reduceEqDiff, reduceCtorEq]
    obtain ⟨s', h1, h2, h3, h4⟩ := app_in tf31 (s := Ai.adv s 8) (vs := (ls.take i).flatten.map Sx.av) (ws := l.map Sx.av) (junk := junk) (i := b) (cells_map encSx.len encSx.ones _) (cells_map encSx.len encSx.ones _) hs (by rw [List.length_map]; omega) false (s.nx + 6)
    rw [List.length_map, List.length_map] at h1
    rw [show lsA l = .sl false (l.map Sx.av) from rfl, h1]
    simp only [f109j3, wx, wy, Nat.reduceAdd, Nat.reduceEqDiff, reduceCtorEq]
    rw [wrap_len i _ hlt (by have : maxLen = 9223372036854775807 := rfl; omega)]
    have e : (ls.take (i + 1)).flatten = (ls.take i).flatten ++ l := by rw [List.take_add_one, hl]; simp
    have e2 : (ls.take i).flatten.length + l.length = (ls.take (i + 1)).flatten.length := by rw [e, List.length_append]
    rw [e2]
    refine ih (i + 1) b (junk.drop (l.length * 6)) _ (by omega) (by rw [List.length_drop]; omega) ?_
    rw [adv_h, h3, List.length_map, e, List.map_append]
theorem l109b (ls : List (List Sx)) (hls : ls.length ≤ 2 ^ 24) (ht : tot ls ≤ 2 ^ 24) (Q : AV → St → Prop) (hQ : ∀ s, Fresh s → f109j1 Q (.int .i64 (tot ls)) (.sl false (ls.map lsA)) s) :
    ∀ (m i : Nat) (s : St), i + m = ls.length → Fresh s → f109l2 Q (m + 1) (.sl false (ls.map lsA)) (.int .i64 (tot (ls.take i))) (.sl false (ls.map lsA)) (.int .i64 ls.length) (.int .i64 i) s := by
  intro m
  have h24 : (2 : Nat) ^ 24 = 16777216 := rfl
  induction m with
  | zero =>
    intro i s hi fr
    show f109l2s Q (f109l2 Q 0) _ _ _ _ _ s
    have hii : i = ls.length := by omega
    subst hii
    rw [List.take_length]
    simp only [f109l2s, Int.lt_irrefl, decide_false, wx, wy, Nat.reduceAdd, Nat.reduceEqDiff, reduceCtorEq]
    exact hQ _ fr.adv
  | succ m ih =>
    intro i s hi fr
    show f109l2s Q (f109l2 Q (m + 1)) _ _ _ _ _ s
    obtain ⟨l, hl⟩ : ∃ l, ls[i]? = some l := ⟨_, List.getElem?_eq_getElem (by omega)⟩
    have hlt : i < ls.length := by omega
    have e : ls.take (i + 1) = ls.take i ++ [l] := by rw [List.take_add_one, hl]; rfl
    have et : tot (ls.take (i + 1)) = tot (ls.take i) + l.length := by rw [e, tot_append]; simp [tot]
    have ele : tot (ls.take (i + 1)) ≤ tot ls := by
      have := tot_append (ls.take (i + 1)) (ls.drop (i + 1))
      rw [List.take_append_drop] at this; omega
    have h0 : (lsA l).cells[0]? = some (lsA l) := rfl
    simp only [f109l2s, Int.ofNat_lt, hlt, decide_true, ix_map encLs false hl, wx, wy, Nat.reduceAdd, Nat.reduceEqDiff, reduceCtorEq, h0]
    simp only [show lsA l = .sl false (l.map Sx.av) from rfl, ln31s, List.length_map, wx, wy, Nat.reduceAdd, Nat.reduceEqDiff, reduceCtorEq]
    have hw : IntKind.i64.wrap ((tot (ls.take i) : Int) + (l.length : Int)) = ((tot (ls.take (i + 1)) : Nat) : Int) := by rw [IntWalk.i64_in _ (by omega)]; omega
    have hn : decide (((tot (ls.take (i + 1)) : Nat) : Int) < 0) = false := by simp
    simp only [hw, hn, f109j4, wx, wy, Nat.reduceAdd, Nat.reduceEqDiff, reduceCtorEq]
    rw [wrap_len i _ hlt (by have : maxLen = 9223372036854775807 := rfl; omega)]
    exact ih (i + 1) _ (by omega) fr.adv
theorem l109n (ls : List (List Sx)) (hls : ls.length ≤ 2 ^ 24) (he : ∀ l ∈ ls, l = []) (Q : AV → St → Prop) (hQ : ∀ s, Q .nils s) : ∀ (m i : Nat) (s : St), i + m = ls.length → f109l1 Q (m + 1) .nils (.sl false (ls.map lsA)) (.int .i64 ls.length) (.int .i64 i) s := by
  intro m
  induction m with
  | zero =>
    intro i s hi
    show f109l1s Q (f109l1 Q 0) _ _ _ _ s
    have hii : i = ls.length := by omega
    subst hii
    simp only [f109l1s, f109j2, Int.lt_irrefl, decide_false, wx, wy, Nat.reduceAdd, Nat.reduceEqDiff, reduceCtorEq]
    exact hQ _
  | succ m ih =>
    intro i s hi
    show f109l1s Q (f109l1 Q (m + 1)) _ _ _ _ s
    obtain ⟨l, hl⟩ : ∃ l, ls[i]? = some l := ⟨_, List.getElem?_eq_getElem (by omega)⟩
    have hlt : i < ls.length := by omega
    have h24 : (2 : Nat) ^ 24 = 16777216 := rfl
    have := he l (List.mem_of_getElem? hl)
    subst this
    have h0 : (lsA []).cells[0]? = some (.sl false []) := rfl
    have happ := fun id q => app_nothing (id := id) (s := q) tf31 (gw_nil (lo := 0)) false
    simp only [f109l1s, Int.ofNat_lt, hlt, decide_true, ix_map encLs false hl, wx, wy, Nat.reduceAdd, Nat.reduceEqDiff, reduceCtorEq, h0, happ, f109j3]
    rw [wrap_len i _ hlt (by have : maxLen = 9223372036854775807 := rfl; omega)]
    exact ih (i + 1) _ (by omega)
theorem c109 (ls : List (List Sx)) (hls : ls.length ≤ 2 ^ 24) (ht : tot ls ≤ 2 ^ 24) : PureC Tryz.env 109 [.sl false (ls.map lsA)] (lsA ls.flatten) := by
  refine pure_q (f109_run _ _ ?_)
  unfold f109
  simp only [ln221s, List.length_map, wx, wy, Nat.reduceAdd, Nat.reduceEqDiff, reduceCtorEq]
  refine ⟨ls.length + 1, l109b ls hls ht _ (fun s fr => ?_) ls.length 0 _ (by omega) fresh_empty.adv⟩
  unfold f109j1
  have hpur : ∀ i (s : St), s.h i = some (.cells ((ls.flatten.map Sx.av).flatMap AV.cells) 33 false true) → PureQ (lsA ls.flatten) (.ref i 0 ls.flatten.length none 33) s := fun i s hs => by
    have g : Gw 33 6 0 s (.ref i 0 ls.flatten.length none 33) (ls.flatten.map Sx.av) := ⟨cells_map encSx.len encSx.ones _, .inr ⟨i, Nat.zero_le _, by rw [List.length_map], hs⟩⟩
    exact pureQ_of (pur_map tf31 g (fun a _ => sx_closed a) (fun a _ => by cases a; rfl) 11)
  refine c158 (tot ls) ht fr.adv fun s' x hE hx => ?_
  simp only [ln221s, List.length_map, wx, wy, Nat.reduceAdd, Nat.reduceEqDiff, reduceCtorEq]
  rcases hx with ⟨h0, rfl⟩ | ⟨i, junk, rfl, h1, h2, h3, h4⟩
  · have hf : ls.flatten = [] := List.length_eq_zero_iff.1 (by rw [tot_flat, h0])
    refine ⟨ls.length + 1, l109n ls hls (fun l hl => by simpa using List.flatten_eq_nil_iff.1 hf l hl) _ (fun s => ?_) ls.length 0 _ (by omega)⟩
    rw [hf]; exact ⟨[], rfl⟩
  · refine ⟨ls.length + 1, ?_⟩
    have := l109a ls hls (PureQ (lsA ls.flatten)) s' (fun x s ⟨i, hx, hs⟩ => by subst hx; exact hpur i s hs) ls.length 0 i junk (Ai.adv s' 3) (by omega) (by simpa using h3) (by simpa [adv_h] using h4)
    simpa using this
def lstS (nm : List UInt8) (l : List Sx) : Sx := .mk true 0 [] 0 0 (atS 3 nm :: l)
theorem pur_two {s : St} {x : AV} {sym : Sx} {l : List Sx} {ids : List Nat} (h : pur Tryz.env.P s 11 x = some (lsA l, ids)) : purL (pur Tryz.env.P s 12) [.sl true [.sl true [sym.av], x]] = some ([.sl false [lsA [sym], lsA l]], ids) := by
  have hp : pur Tryz.env.P s 11 (.sl true [sym.av]) = some (lsA [sym], []) := by
    obtain ⟨ids, h1, h2⟩ := pur_sl (s := s) (ex := true) (k := 10) (l := [sym.av]) (by simp only [closedL, sx_closed sym, Bool.and_self])
    subst h2; exact h1
  have h12 : pur Tryz.env.P s 12 (.sl true [.sl true [sym.av], x]) = some (.sl false [lsA [sym], lsA l], ids) := by
    have e : pur Tryz.env.P s 12 (.sl true [.sl true [sym.av], x]) = (purL (pur Tryz.env.P s 11) [.sl true [sym.av], x]).map fun r => (.sl false r.1, r.2) := by
      conv => lhs; unfold pur
      rw [if_neg (by simp [AV.closed])]
    rw [e]
    simp only [purL, hp, h, List.append_nil, List.nil_append, Option.map_some]
  simp only [purL, h12, List.append_nil]
theorem c57 {s : St} {K : AV → St → Prop} {x : AV} {nm : List UInt8} {l : List Sx} {M : List Nat} (hl : l.length ≤ 2 ^ 20) (fr : Fresh s) (hp : ∀ s', EF [] s s' → ∃ ids, pur Tryz.env.P s' 11 x = some (lsA l, ids) ∧ ∀ i ∈ ids, i ∈ M ∧ i < s.nx) (hone : x.cells = [x]) (hx : x.one = true)
    (hk : ∀ s', EF M s s' → K (lstS nm l).av s') : CallWi Tryz.env 57 [.str nm, x] s K := by
  refine callWiF (by kernel_rfl) (f57_run _ _ _ ?_)
  unfold f57
  have b31 : ∀ v : Sx, bsl 31 1 [(0, v.av)] = some (.sl true [v.av]) := fun v => bsl_one tf31 (by decide) (sx_len v) (sx_ones v)
  have b221 : ∀ v : AV, bsl 221 2 [(0, .sl true [v]), (1, x)] = some (.sl true [.sl true [v], x]) := fun v => by
    have h1 : zero Tryz.ty 31 = some .nils := zf31
    have c0 : AV.nils.cells = [.nils] := rfl
    have c1 : (AV.sl true [v]).cells = [.sl true [v]] := rfl
    have c2 : (AV.sl true [v]).one = true := rfl
    simp [buildSl, tf221.u, tf221.l, h1, setParts, hone, hx, c0, c1, c2]
  simp only [zf33, wx, wy, Nat.reduceAdd, Nat.reduceEqDiff, reduceCtorEq]
  refine callPu (c56 nm) (by simp [AV.closed]) ?_
  simp only [b31, b221, wx, wy, Nat.reduceAdd, Nat.reduceEqDiff, reduceCtorEq]
  have hE : ∀ n, EF [] s (Ai.adv (s.set s.nx (some (.cells (AV.agg [.bool false, .int .i64 0, .str [], .int .i64 0, .int .i64 0, .nils]).cells 33 true true))) (1 + n)) := fun n =>
    ⟨by simp only [adv_nx, set_nx]; omega, fun j hj _ => by simp only [adv_h]; rw [st_other (by omega)], fresh_set fr _ (by omega)⟩
  obtain ⟨ids, h1, h2⟩ := hp _ (hE 8)
  have hc := c109 [[atS 3 nm], l] (by simp) (by simp [tot]; omega)
  rw [show [[atS 3 nm], l].flatten = atS 3 nm :: l by simp] at hc
  refine callPur (pur_two (sym := atS 3 nm) h1) hc ?_
  generalize hq : (if (ids.isEmpty || (lsA (atS 3 nm :: l)).flat) = true then _ else _) = q
  obtain ⟨q1, q2, q3⟩ : q.nx = s.nx + 9 ∧ q.h s.nx = some (.cells zeroB.cells 33 true true) ∧ EF M s q := by
    subst hq
    have hd := (hE 8).sub (M' := M) (fun i hi => by cases hi)
    split
    · exact ⟨rfl, by simp only [adv_h]; rw [st_same]; rfl, hd⟩
    · refine ⟨by rw [nx_drop]; rfl, ?_, hd.drop fun i hi => .inr (h2 i hi).1⟩
      rw [get_drop', if_neg (fun hi => by have := (h2 _ hi).2; omega)]
      simp only [adv_h]; rw [st_same]; rfl
  have b33 : bld 33 [(0, .bool true), (3, lsA (atS 3 nm :: l))] = some (lstS nm l).av := by
    rw [bf33]
    simp only [lstS, Sx.av, Sx.avs_eq, lsA]
    rfl
  simp only [b33, wx, wy, Nat.reduceAdd, Nat.reduceEqDiff, reduceCtorEq]
  rw [sto_all (z := 6) q2 rfl (sx_len _) (sx_ones _)]
  simp only [wx, wy, Nat.reduceAdd, Nat.reduceEqDiff, reduceCtorEq, ld_ptr, if_true, sx_part]
  exact hk _ (q3.set (by omega) (.inl (Nat.le_refl _)))
end Go.Proofs.YtdehdahimkcakaaGreatDoor
end
section
set_option linter.unusedVariables false
set_option linter.unusedSimpArgs false
set_option maxRecDepth 100000
set_option maxHeartbeats 4000000
namespace Go.Proofs.YtdehdahimkcakaaGreatDoor
open Go Ai
def hexN (c : Nat) : Int := if 48 ≤ c ∧ c ≤ 57 then (c : Int) - 48 else if 97 ≤ c ∧ c ≤ 102 then (c : Int) - 87 else if 65 ≤ c ∧ c ≤ 70 then (c : Int) - 55 else -1
theorem t246 : (List.range 256).map (fun c : Nat => pureF 246 [.int .u8 (c : Int)]) = (List.range 256).map fun c : Nat => some (.int .i64 (hexN c)) := by kernel_rfl
theorem encRn : Enc rnA 2 := ⟨fun _ => rfl, fun _ => rfl⟩
end Go.Proofs.YtdehdahimkcakaaGreatDoor
end
section
set_option linter.unusedVariables false
set_option linter.unusedSimpArgs false
set_option maxRecDepth 100000
set_option maxHeartbeats 4000000
namespace Go.Proofs.YtdehdahimkcakaaGreatDoor
open Go Ai
def greedy : List (Int × Int) → Int → Nat
  | [], _ => 0
  | r :: l, n => cond (decide (IntKind.i64.wrap (n + r.2) ≤ 1000)) (greedy l (IntKind.i64.wrap (n + r.2)) + 1) 0
theorem greedy_le : ∀ (l : List (Int × Int)) (n : Int), greedy l n ≤ l.length := by
  intro l
  induction l with
  | nil => intro n; simp [greedy]
  | cons r l ih =>
    intro n
    simp only [greedy]
    have := ih (IntKind.i64.wrap (n + r.2))
    cases decide (IntKind.i64.wrap (n + r.2) ≤ 1000) <;> simp only [cond_true, cond_false, List.length_cons] <;> omega
theorem l61b (ex : Bool) (l : List (Int × Int)) (hl : l.length ≤ 2 ^ 40) (Q : AV → St → Prop) (ih1 : AV → AV → AV → St → Prop) (t2 t4 : AV) (s0 : St) :
    ∀ (m k : Nat) (n : Int) (c : Nat), k + m = l.length → (∀ c', f61j3 Q ih1 (.int .i64 ((k + greedy (l.drop k) n : Nat) : Int)) t4 (.sl ex (l.map rnA)) t2 (adv s0 c')) →
      f61l2 Q ih1 (m + 1) (.sl ex (l.map rnA)) t2 t4 (.int .i64 n) (.int .i64 k) (adv s0 c) := by
  intro m
  have h40 : (2 : Nat) ^ 40 = 1099511627776 := rfl
  induction m with
  | zero =>
    intro k n c hk hf
    show f61l2s Q ih1 (f61l2 Q ih1 0) _ _ _ _ _ _
    rw [List.drop_eq_nil_of_le (by omega)] at hf
    simp only [f61l2s, ln25s, List.length_map, Int.ofNat_lt, show ¬ (k < l.length) by omega, decide_false, wx, wy, Nat.reduceAdd, Nat.reduceEqDiff, reduceCtorEq]
    exact hf _
  | succ m ih =>
    intro k n c hk hf
    show f61l2s Q ih1 (f61l2 Q ih1 (m + 1)) _ _ _ _ _ _
    obtain ⟨r, hr⟩ : ∃ r, l[k]? = some r := ⟨_, List.getElem?_eq_getElem (by omega)⟩
    have hlt : k < l.length := by omega
    rw [get_drop l k r hr, greedy] at hf
    have h1 : (rnA r).cells[1]? = some (.int .i64 r.2) := rfl
    simp only [f61l2s, ln25s, List.length_map, Int.ofNat_lt, hlt, decide_true, ix_map encRn ex hr, h1, wx, wy, Nat.reduceAdd, Nat.reduceEqDiff, reduceCtorEq]
    cases h : decide (IntKind.i64.wrap (n + r.2) ≤ 1000) with
    | true =>
      rw [h] at hf
      simp only [h, ix_map encRn ex hr, h1, wx, wy, Nat.reduceAdd, Nat.reduceEqDiff, reduceCtorEq]
      rw [wrap_len k _ hlt (by have : maxLen = 9223372036854775807 := rfl; omega)]
      refine ih (k + 1) _ _ (by omega) fun c' => ?_
      have := hf c'
      simp only [cond_true] at this
      rw [show k + 1 + greedy (l.drop (k + 1)) (IntKind.i64.wrap (n + r.2)) = k + (greedy (l.drop (k + 1)) (IntKind.i64.wrap (n + r.2)) + 1) by omega]
      exact this
    | false =>
      rw [h] at hf
      simp only [h, wx, wy, Nat.reduceAdd, Nat.reduceEqDiff, reduceCtorEq]
      exact hf _
def txtGo (LT : List (Int × Int) → Sx) (LG : Int × Int → Sx) : Nat → List (Int × Int) → List Sx
  | 0, _ => []
  | n + 1, l => match l with
    | [] => []
    | r :: t => cond (greedy (r :: t) 0 == 0) (LG r :: txtGo LT LG n t) (LT ((r :: t).take (greedy (r :: t) 0)) :: txtGo LT LG n ((r :: t).drop (greedy (r :: t) 0)))
section
variable (LT : List (Int × Int) → Sx) (LG : Int × Int → Sx) (Q : AV → St → Prop)
theorem l61a (ok : Int × Int → Bool) (hL : ∀ (l : List (Int × Int)), (∀ r ∈ l, ok r = true) → greedy l 0 ≠ 0 → PureC Tryz.env 115 [.sl false ((l.take (greedy l 0)).map rnA)] (.tup [(LT (l.take (greedy l 0))).av, .int .i64 0]))
    (hG : ∀ r, ok r = true → ¬ (IntKind.i64.wrap (0 + r.2) ≤ 1000) → PureC Tryz.env 114 [rnA r] (LG r).av) (t2 : AV) (N : Nat) (hN : N ≤ 2 ^ 24) (ps : List Sx) (B : Blk) (n2 : Nat) (ht2 : t2 = .ptr n2 0)
    (hQ : ∀ x s, Fresh s → Gw 33 6 0 s x (ps.map Sx.av) → s.h n2 = some B → (∀ j ∈ idOf x, j ≠ n2) → n2 < s.nx → f61j1 Q x t2 s) :
    ∀ (m : Nat) (ex : Bool) (l : List (Int × Int)) (x : AV) (p : List Sx) (s : St), l.length ≤ m → p.length + l.length ≤ N → (∀ r ∈ l, ok r = true) → Fresh s → Gw 33 6 0 s x (p.map Sx.av) → s.h n2 = some B → (∀ j ∈ idOf x, j ≠ n2) → n2 < s.nx → ps = p ++ txtGo LT LG m l →
      f61l1 Q (m + 1) (.sl ex (l.map rnA)) t2 x s := by
  intro m
  have h24 : (2 : Nat) ^ 24 = 16777216 := rfl
  induction m with
  | zero =>
    intro ex l x p s hm hpl hok fr g h2 hd hn2 hps
    show f61l1s Q (f61l1 Q 0) _ _ _ _
    have : l = [] := List.length_eq_zero_iff.1 (by omega)
    subst this
    simp only [txtGo, List.append_nil] at hps
    subst hps
    simp only [f61l1s, ln25s, List.map_nil, List.length_nil, show decide (((0 : Nat) : Int) > 0) = false from rfl, wx, wy, Nat.reduceAdd, Nat.reduceEqDiff, reduceCtorEq]
    exact hQ _ _ fr.adv g.adv (by simpa [adv_h] using h2) hd (by simp only [adv_nx]; omega)
  | succ m ih =>
    intro ex l x p s hm hpl hok fr g h2 hd hn2 hps
    show f61l1s Q (f61l1 Q (m + 1)) _ _ _ _
    cases l with
    | nil =>
      simp only [txtGo, List.append_nil] at hps
      subst hps
      simp only [f61l1s, ln25s, List.map_nil, List.length_nil, show decide (((0 : Nat) : Int) > 0) = false from rfl, wx, wy, Nat.reduceAdd, Nat.reduceEqDiff, reduceCtorEq]
      exact hQ _ _ fr.adv g.adv (by simpa [adv_h] using h2) hd (by simp only [adv_nx]; omega)
    | cons r t =>
      have hpos : decide ((((r :: t).map rnA).length : Int) > 0) = true := by simp
      simp only [f61l1s, ln25s, hpos, wx, wy, Nat.reduceAdd, Nat.reduceEqDiff, reduceCtorEq]
      refine ⟨(r :: t).length + 1, l61b ex (r :: t) (by omega) Q _ t2 x s (r :: t).length 0 0 _ (by omega) fun c' => ?_⟩
      rw [Nat.zero_add, List.drop_zero]
      simp only [List.length_cons] at hm hpl
      have b31 : ∀ v : Sx, bsl 31 1 [(0, v.av)] = some (.sl true [v.av]) := fun v => bsl_one tf31 (by decide) (sx_len v) (sx_ones v)
      have hle := greedy_le (r :: t) 0
      unfold f61j3
      by_cases h0 : greedy (r :: t) 0 = 0
      · have hnw : ¬ (IntKind.i64.wrap (0 + r.2) ≤ 1000) := fun hc => by
          simp only [greedy, decide_eq_true hc, cond_true] at h0; omega
        have hix : ixS 2 (.sl ex ((r :: t).map rnA)) (.int .i64 0) = some (.pel (rnA r).cells 0) := ix_map encRn ex (l := r :: t) (i := 0) rfl .i64
        have hs1 : ∀ s, slc 25 (.sl ex ((r :: t).map rnA)) (some (.int .i64 1)) none none s = some (.sl ex (t.map rnA)) := fun s => slc_drop tf25 encRn.len ex (r :: t) (k := 1) (by simp) .i64
        simp only [h0, wx, wy, Nat.reduceAdd, Nat.reduceEqDiff, reduceCtorEq, show (((0 : Nat) : Int) == 0) = true from rfl, hix, rn_part]
        refine callPuD (hG r (hok r (List.mem_cons_self ..)) hnw) (by simp [rnA, AV.closed, closedL]) ?_
        simp only [b31, wx, wy, Nat.reduceAdd, Nat.reduceEqDiff, reduceCtorEq]
        refine ⟨fr _ (by omega), ?_⟩
        rw [app_map tf31 encSx g.adv (by omega) (by omega)]
        simp only [hs1, wx, wy, Nat.reduceAdd, Nat.reduceEqDiff, reduceCtorEq]
        refine ⟨by simp only [clear, List.all_cons, List.all_nil, Mark.apart, okLo, disj_nil, bit_of, Nat.reduceShiftRight, Nat.reduceMod, Bool.not_true, Bool.not_false, Option.isNone_none, Option.isNone_some, decide_true, decide_false, Nat.reduceEqDiff, Nat.zero_ne_one, wx, wy, Nat.reduceAdd, Nat.reduceEqDiff, reduceCtorEq], ?_⟩
        simp only [txtGo, h0, beq_self_eq_true, cond_true] at hps
        refine ih ex t _ (p ++ [LG r]) _ (by omega) (by simp; omega) (fun r hr => hok r (List.mem_cons_of_mem _ hr)) (fresh_app fr _ _ (by omega)) (gw_map1 encSx) ?_ ?_ ?_ (by rw [hps]; simp)
        · rw [adv_h, st_other (by omega), get_drop', if_neg (fun hh => hd _ hh rfl)]; exact h2
        · intro j hj; simp only [idOf, List.mem_cons, List.mem_nil_iff, or_false] at hj; omega
        · simp only [adv_nx, set_nx, nx_drop]; omega
      · generalize hk : greedy (r :: t) 0 = k at *
        have hne : ((k : Int) == 0) = false := by simp; omega
        have hs1 : ∀ s, slc 25 (.sl ex ((r :: t).map rnA)) none (some (.int .i64 k)) none s = some (.sl (ex && k == (r :: t).length) (((r :: t).take k).map rnA)) := fun s => slc_take tf25 encRn.len ex (r :: t) hle .i64
        have hs2 : ∀ s, slc 25 (.sl ex ((r :: t).map rnA)) (some (.int .i64 k)) none none s = some (.sl ex (((r :: t).drop k).map rnA)) := fun s => slc_drop tf25 encRn.len ex (r :: t) hle .i64
        simp only [hne, wx, wy, Nat.reduceAdd, Nat.reduceEqDiff, reduceCtorEq, hs1]
        have hcall := hL (r :: t) hok (by rw [hk]; exact h0)
        rw [hk] at hcall
        refine callPur (args2 := [.sl false (((r :: t).take k).map rnA)]) (ids := []) ?_ hcall ?_
        · obtain ⟨ids, e1, e2⟩ := pur_sl (s := Ai.adv s (c' + 12)) (ex := (ex && k == (r :: t).length)) (k := 11) (closedL_map' rnA ((r :: t).take k) fun _ _ => rfl)
          subst e2
          simp only [purL, e1, List.append_nil]
        · simp only [List.isEmpty_nil, Bool.true_or, if_true, zf33, wx, wy, Nat.reduceAdd, Nat.reduceEqDiff, reduceCtorEq]
          have hst' : ∀ (v : Sx) (q : St) (i n : Nat), sto 6 (.ptr i 0) v.av (Ai.adv (q.set i (some (.cells (AV.agg [.bool false, .int .i64 0, .str [], .int .i64 0, .int .i64 0, .nils]).cells 33 true true))) n) = some (Ai.adv (q.set i (some (.cells v.av.cells 33 true true))) n) := fun v q i n => by
            rw [sto_all (z := 6) (by rw [adv_h, st_same]) rfl (sx_len v) (sx_ones v), adv_set, set_set]
          simp only [hst', wx, wy, Nat.reduceAdd, Nat.reduceEqDiff, reduceCtorEq, ld_ptr, sx_part, b31]
          have e33 : s.h (s.nx + (c' + 9)) = none := fr _ (by omega)
          have gg : Gw 33 6 0 (Ai.adv (s.set (s.nx + (c' + 9)) (some (.cells (LT ((r :: t).take k)).av.cells 33 true true))) (c' + 21)) x (p.map Sx.av) := by
            refine g.keep fun j hj => ?_
            have := g.id_lt fr j hj
            rw [adv_h, st_other (by omega)]
          refine ⟨fr _ (by omega), ?_⟩
          rw [app_map tf31 encSx gg (by omega) (by omega)]
          simp only [wx, wy, Nat.reduceAdd, Nat.reduceEqDiff, reduceCtorEq]
          refine ⟨by simp only [clear, List.all_cons, List.all_nil, Mark.apart, okLo, disj_nil, bit_of, Nat.reduceShiftRight, Nat.reduceMod, Bool.not_true, Bool.not_false, Option.isNone_none, Option.isNone_some, decide_true, decide_false, Nat.reduceEqDiff, Nat.zero_ne_one, wx, wy, Nat.reduceAdd, Nat.reduceEqDiff, reduceCtorEq], ?_⟩
          simp only [hs2, wx, wy, Nat.reduceAdd, Nat.reduceEqDiff, reduceCtorEq]
          have hf : (k == 0) = false := by simpa using h0
          simp only [txtGo, hk, hf, cond_false] at hps
          refine ih ex _ _ (p ++ [LT ((r :: t).take k)]) _ (by simp; omega) (by simp; omega) (fun r hr => hok r (List.mem_of_mem_drop hr)) ?_ (gw_map1 encSx) ?_ ?_ ?_ (by rw [hps]; simp)
          · rw [← adv_set]
            refine Fresh.set ?_ (by simp only [adv_nx, nx_drop, set_nx]; omega)
            rw [← adv_drop]
            exact fresh_drop (fresh_set fr _ (by omega)) _
          · rw [adv_h, st_other (by omega), get_drop', if_neg (fun hh => hd _ hh rfl), st_other (by omega)]; exact h2
          · intro j hj; simp only [idOf, List.mem_cons, List.mem_nil_iff, or_false] at hj; omega
          · simp only [adv_nx, set_nx, nx_drop]; omega
end
mutual
def Sx.siz : Sx → Int
  | .mk _ _ _ _ _ items => Sx.sizs items 1
def Sx.sizs : List Sx → Int → Int
  | [], n => n
  | s :: l, n => Sx.sizs l (IntKind.i64.wrap (n + s.siz))
end
theorem sto_sx (v : Sx) (q : St) (i n : Nat) : sto 6 (.ptr i 0) v.av (Ai.adv (q.set i (some (.cells (AV.agg [.bool false, .int .i64 0, .str [], .int .i64 0, .int .i64 0, .nils]).cells 33 true true))) n) = some (Ai.adv (q.set i (some (.cells v.av.cells 33 true true))) n) := by
  rw [sto_all (z := 6) (by rw [adv_h, st_same]) rfl (sx_len v) (sx_ones v), adv_set, set_set]
theorem sto_sx0 (v : Sx) (q : St) (i : Nat) : sto 6 (.ptr i 0) v.av (q.set i (some (.cells (AV.agg [.bool false, .int .i64 0, .str [], .int .i64 0, .int .i64 0, .nils]).cells 33 true true))) = some (q.set i (some (.cells v.av.cells 33 true true))) := by
  rw [sto_all (z := 6) st_same rfl (sx_len v) (sx_ones v), set_set]
theorem l116 (items : List Sx) (hlen : items.length ≤ maxLen) (ih0 : ∀ s ∈ items, PureC Tryz.env 116 [s.av] (.int .i64 s.siz)) (Q : AV → St → Prop) (r : Int) (hQ : ∀ s, Q (.int .i64 r) s) :
    ∀ (m i : Nat) (n : Int) (s : St), i + m = items.length → r = Sx.sizs (items.drop i) n → f116l1 Q (m + 1) (.int .i64 n) (.sl false (Sx.avs items)) (.int .i64 items.length) (.int .i64 i) s := by
  intro m
  induction m with
  | zero =>
    intro i n s hi hr
    show f116l1s Q (f116l1 Q 0) _ _ _ _ s
    rw [List.drop_eq_nil_of_le (by omega)] at hr
    have hr : r = n := hr
    subst hr
    simp only [f116l1s, f116j1, Int.ofNat_lt, show ¬ (i < items.length) by omega, decide_false, wx, wy, Nat.reduceAdd, Nat.reduceEqDiff, reduceCtorEq]
    exact hQ _
  | succ m ih =>
    intro i n s hi hr
    show f116l1s Q (f116l1 Q (m + 1)) _ _ _ _ s
    obtain ⟨y, hy⟩ : ∃ y, items[i]? = some y := ⟨_, List.getElem?_eq_getElem (by omega)⟩
    have hlt : i < items.length := by omega
    rw [get_drop items i y hy, Sx.sizs] at hr
    simp only [f116l1s, Int.ofNat_lt, hlt, decide_true, ix_avs false items i y hy, sx_part, zf33, sto_sx, wx, wy, Nat.reduceAdd, Nat.reduceEqDiff, reduceCtorEq, if_true]
    refine callPu (ih0 y (List.mem_of_getElem? hy)) (by simp [sx_closed]) ?_
    simp only [f116j2, wx, wy, Nat.reduceAdd, Nat.reduceEqDiff, reduceCtorEq]
    rw [wrap_len i _ hlt hlen]
    exact ih (i + 1) _ _ (by omega) hr
theorem c116 : ∀ (x : Sx), x.ok = true → PureC Tryz.env 116 [x.av] (.int .i64 x.siz) := by
  refine fun x => sx_all (p := fun x => x.ok = true → PureC Tryz.env 116 [x.av] (.int .i64 x.siz)) (fun l k x p a items ih hok => ?_) x
  obtain ⟨h1, h2⟩ := ok_items hok
  refine pure_closed rfl (f116_run _ _ ?_)
  unfold f116
  refine ⟨sx_ones _, ?_⟩
  simp only [mk_cells, ln31s, avs_length, wx, wy, Nat.reduceAdd, Nat.reduceEqDiff, reduceCtorEq]
  exact ⟨items.length + 1, l116 items h1 (fun s hs => ih s hs (h2 s hs)) _ _ (fun _ => rfl) items.length 0 1 _ (by omega) rfl⟩
def stpp : List UInt8 := [115, 116, 114, 46, 43, 43]
def txtM (ps : List Sx) : Sx × Int := cond (ps.length == 0) (atS 6 [], 0) (cond (decide ((ps.length : Int) > 200)) (zeroSx0, 2) (match ps with
  | [p] => (p, 0)
  | _ => cond (decide ((lstS stpp ps).siz > 2000)) (zeroSx0, 2) (lstS stpp ps, 0)))
theorem lst_ok {nm : List UInt8} {l : List Sx} (h1 : nm.length ≤ maxLen) (h2 : l.length + 1 ≤ maxLen) (h : ∀ x ∈ l, x.ok = true) : (lstS nm l).ok = true := by
  have hl : Sx.oks l = true := by
    clear h2
    induction l with
    | nil => rfl
    | cons a l ih => simp only [Sx.oks, h a (List.mem_cons_self ..), ih fun x hx => h x (List.mem_cons_of_mem _ hx), Bool.and_self]
  have h0 : isInt 0 = true := by decide
  have h3 : isInt 3 = true := by decide
  simp [lstS, atS, Sx.ok, Sx.oks, hl, h0, h3, h1, h2]
theorem j61 (ps : List Sx) (hok : ∀ p ∈ ps, p.ok = true) (hps : ps.length ≤ 2 ^ 20) (n2 : Nat) (x : AV) (s : St) (fr : Fresh s) (g : Gw 33 6 0 s x (ps.map Sx.av)) (h2 : s.h n2 = some (.cells zeroB.cells 33 true true)) (hd : ∀ j ∈ idOf x, j ≠ n2) (hn2 : n2 < s.nx) :
    f61j1 (PureQ (.tup [(txtM ps).1.av, .int .i64 (txtM ps).2])) x (.ptr n2 0) s := by
  have h20 : (2 : Nat) ^ 20 = 1048576 := rfl
  have hl31 := fun n k => ln31g (g.adv (n := n)) k
  simp only [List.length_map] at hl31
  have hfin : ∀ (v : Sx) (e : Int) (q : St) (n : Nat), PureQ (.tup [v.av, .int .i64 e]) (.tup [v.av, .int .i64 e]) q := fun v e q n => pureQ_closed (by simp only [AV.closed, closedL, sx_closed v, Bool.and_self])
  have hzb : bld 33 [] = some zeroB := by rw [bf33]; rfl
  have hzq : ∀ q, PureQ (.tup [zeroSx0.av, .int .i64 2]) (.tup [zeroB, .int .i64 2]) q := fun q => ⟨[], rfl⟩
  have hstz : ∀ n, sto 6 (.ptr n2 0) zeroB (Ai.adv s n) = some (Ai.adv (s.set n2 (some (.cells zeroB.cells 33 true true))) n) := fun n => sto_all (z := 6) (by rw [adv_h]; exact h2) rfl rfl rfl
  have hsto : ∀ (v : Sx) n, sto 6 (.ptr n2 0) v.av (Ai.adv s n) = some (Ai.adv (s.set n2 (some (.cells v.av.cells 33 true true))) n) := fun v n => sto_all (z := 6) (by rw [adv_h]; exact h2) rfl (sx_len v) (sx_ones v)
  have hpz : Ai.part 6 true 0 zeroB.cells = some zeroB := rfl
  unfold f61j1
  simp only [hl31, wx, wy, Nat.reduceAdd, Nat.reduceEqDiff, reduceCtorEq]
  cases h0 : (ps.length == 0) with
  | true =>
    have e : txtM ps = (atS 6 [], 0) := by simp only [txtM, h0, cond_true]
    have h0' : (((ps.length : Nat) : Int) == 0) = true := by simpa using h0
    simp only [h0', wx, wy, Nat.reduceAdd, Nat.reduceEqDiff, reduceCtorEq]
    refine callPu (c58 6 []) (by simp [AV.closed]) ?_
    simp only [hsto, wx, wy, Nat.reduceAdd, Nat.reduceEqDiff, reduceCtorEq, if_true, sx_part, e]
    exact hfin _ _ _ 0
  | false =>
    have h0' : (((ps.length : Nat) : Int) == 0) = false := by simpa using h0
    simp only [h0', wx, wy, Nat.reduceAdd, Nat.reduceEqDiff, reduceCtorEq]
    cases h1 : decide ((ps.length : Int) > 200) with
    | true =>
      have h1' := h1
      have e : txtM ps = (zeroSx0, 2) := by simp only [txtM, h0, h1, cond_true, cond_false]
      simp only [h1', hzb, hstz, hpz, e, if_true, wx, wy, Nat.reduceAdd, Nat.reduceEqDiff, reduceCtorEq]
      exact hzq _
    | false =>
      have h1' := h1
      simp only [h1', wx, wy, Nat.reduceAdd, Nat.reduceEqDiff, reduceCtorEq]
      match ps, h0, h1, g, hl31, hok, hps with
      | [p], h0, h1, g, hl31, hok, hps =>
        have e : txtM [p] = (p, 0) := rfl
        obtain ⟨_, ⟨_, hbad⟩ | ⟨b, _, rfl, hb⟩⟩ := id g
        · simp at hbad
        · have hix : ixS 6 (.ref b 0 ([p].map Sx.av).length none 33) (.int .i64 0) = some (.ptr b 0) := rfl
          have hpt : Ai.part 6 true 0 (([p].map Sx.av).flatMap AV.cells) = some p.av := by
            simp only [List.map_cons, List.map_nil, List.flatMap_cons, List.flatMap_nil, List.append_nil, sx_part]
          simp only [show ((([p] : List Sx).length : Int) == 1) = true from rfl, hix, hb, hpt, hsto, e, sx_part, if_true, wx, wy, Nat.reduceAdd, Nat.reduceEqDiff, reduceCtorEq]
          exact hfin _ _ _ 0
      | p :: q :: ps, h0, h1, g, hl31, hok, hps =>
        have hne : ((((p :: q :: ps).length : Nat) : Int) == 1) = false := by simp; omega
        simp only [hne, f61j2, wx, wy, Nat.reduceAdd, Nat.reduceEqDiff, reduceCtorEq]
        refine c57 (l := p :: q :: ps) (M := idOf x) (by omega) fr.adv (fun s' hE => ?_) g.one.1 g.one.2 fun s' hE => ?_
        · have g' : Gw 33 6 0 s' x ((p :: q :: ps).map Sx.av) := (g.adv).ext fr.adv hE (fun _ _ h => by cases h)
          obtain ⟨ids, h3, h4⟩ := pur_map tf31 g' (fun a _ => sx_closed a) (fun a _ => by cases a; rfl) 10
          subst h4
          exact ⟨_, h3, fun i hi => ⟨hi, by have := g.id_lt fr i hi; simp only [adv_nx]; omega⟩⟩
        · have h2' : s'.h n2 = some (.cells zeroB.cells 33 true true) := by
            rw [hE.h n2 (by simp only [adv_nx]; omega) (fun hh => hd _ hh rfl)]; exact h2
          have hnx := hE.nx
          simp only [adv_nx] at hnx
          have hls : (lstS stpp (p :: q :: ps)).ok = true := lst_ok (by decide) (by have : maxLen = 9223372036854775807 := rfl; simp only [List.length_cons] at hps ⊢; omega) hok
          have ne1 : ∀ k, k < 16 → ((n2 = s.nx + k) = False) := fun k _ => by simp; omega
          have hpp : stpp = [115, 116, 114, 46, 43, 43] := rfl
          simp only [hpp] at hls
          have e : txtM (p :: q :: ps) = cond (decide ((lstS stpp (p :: q :: ps)).siz > 2000)) (zeroSx0, 2) (lstS stpp (p :: q :: ps), 0) := by simp only [txtM, h0, h1, cond_false]
          have hst2 : ∀ (v : AV) (N n k : Nat) (B : Blk), v.cells.length = 6 → v.cells.all AV.one = true → N ≠ n2 → sto 6 (.ptr n2 0) v (Ai.adv (s'.set N (some B)) n) = some (Ai.adv ((s'.set N (some B)).set n2 (some (.cells v.cells 33 true true))) n) := fun v N n k B e1 e2 hN =>
            sto_all (z := 6) (by rw [adv_h, st_other (fun h => hN h.symm)]; exact h2') rfl e1 e2
          simp only [zf33, sto_sx0, sx_part, if_true, wx, wy, Nat.reduceAdd, Nat.reduceEqDiff, reduceCtorEq]
          refine callPu (c116 _ hls) (by simp [sx_closed]) ?_
          rw [e]
          cases h4 : decide ((lstS stpp (p :: q :: ps)).siz > 2000) with
          | true =>
            simp only [← hpp, h4, hzb, wx, wy, Nat.reduceAdd, Nat.reduceEqDiff, reduceCtorEq]
            rw [hst2 _ _ _ 0 _ rfl rfl (by omega)]
            simp only [hpz, wx, wy, Nat.reduceAdd, Nat.reduceEqDiff, reduceCtorEq]
            exact hzq _
          | false =>
            simp only [← hpp, h4, sx_part, if_true, wx, wy, Nat.reduceAdd, Nat.reduceEqDiff, reduceCtorEq]
            rw [hst2 _ _ _ 0 _ (sx_len _) (sx_ones _) (by omega)]
            simp only [sx_part, wx, wy, Nat.reduceAdd, Nat.reduceEqDiff, reduceCtorEq]
            exact hfin _ _ _ 0
theorem c61 (LT : List (Int × Int) → Sx) (LG : Int × Int → Sx) (ok : Int × Int → Bool) (hL : ∀ (l : List (Int × Int)), (∀ r ∈ l, ok r = true) → greedy l 0 ≠ 0 → PureC Tryz.env 115 [.sl false ((l.take (greedy l 0)).map rnA)] (.tup [(LT (l.take (greedy l 0))).av, .int .i64 0]))
    (hG : ∀ r, ok r = true → ¬ (IntKind.i64.wrap (0 + r.2) ≤ 1000) → PureC Tryz.env 114 [rnA r] (LG r).av) (l : List (Int × Int)) (hok : ∀ p ∈ txtGo LT LG l.length l, p.ok = true) (hl : ∀ r ∈ l, ok r = true) (hlen : l.length ≤ 2 ^ 20) :
    PureC Tryz.env 61 [.sl false (l.map rnA)] (.tup [(txtM (txtGo LT LG l.length l)).1.av, .int .i64 (txtM (txtGo LT LG l.length l)).2]) := by
  refine pure_q (f61_run _ _ ?_)
  have h20 : (2 : Nat) ^ 20 = 1048576 := rfl
  have h24 : (2 : Nat) ^ 24 = 16777216 := rfl
  have hgo : ∀ n (l : List (Int × Int)), (txtGo LT LG n l).length ≤ n := by
    intro n
    induction n with
    | zero => intro l; simp [txtGo]
    | succ n ih =>
      intro l
      cases l with
      | nil => simp [txtGo]
      | cons r t =>
        simp only [txtGo]
        cases (greedy (r :: t) 0 == 0)
        · simp only [cond_false, List.length_cons]; have := ih ((r :: t).drop (greedy (r :: t) 0)); omega
        · simp only [cond_true, List.length_cons]; have := ih t; omega
  unfold f61
  simp only [zf33, wx, wy, Nat.reduceAdd, Nat.reduceEqDiff, reduceCtorEq]
  refine ⟨l.length + 1, l61a LT LG _ ok hL hG _ (2 ^ 24) (by omega) (txtGo LT LG l.length l) (.cells zeroB.cells 33 true true) St.empty.nx rfl (fun x s fr g h2 hd hn2 => j61 _ hok (by have := hgo l.length l; omega) _ x s fr g h2 hd hn2) l.length false l .nils [] _ (by omega) (by simp; omega) hl ?_ gw_nil ?_ (fun j hj => by cases hj) (by decide) rfl⟩
  · exact fresh_set fresh_empty _ (by omega)
  · rw [adv_h, st_same]; rfl
def expand (a : List (Int × Int)) : List Int := a.flatMap fun r => List.replicate r.2.toNat r.1
def runOk (r : Int × Int) : Bool := point r.1 && decide (1 ≤ r.2) && decide (r.2 ≤ 2 ^ 40)
def sumR : List (Int × Int) → Int
  | [] => 0
  | r :: l => r.2 + sumR l
theorem sumR_pos : ∀ (l : List (Int × Int)), (∀ r ∈ l, runOk r = true) → 0 ≤ sumR l := by
  intro l
  induction l with
  | nil => intro _; exact Int.le_refl 0
  | cons r l ih =>
    intro h
    have h1 := h r (List.mem_cons_self ..)
    simp only [runOk, Bool.and_eq_true, decide_eq_true_eq] at h1
    have := ih fun x hx => h x (List.mem_cons_of_mem _ hx)
    simp only [sumR]; omega
theorem greedy_sum : ∀ (l : List (Int × Int)) (n : Int), (∀ r ∈ l, runOk r = true) → 0 ≤ n → n ≤ 1000 → n + sumR (l.take (greedy l n)) ≤ 1000 := by
  intro l
  induction l with
  | nil => intro n _ _ h; simpa [greedy, sumR] using h
  | cons r l ih =>
    intro n h h0 h1
    have hr := h r (List.mem_cons_self ..)
    simp only [runOk, Bool.and_eq_true, decide_eq_true_eq] at hr
    have hw : IntKind.i64.wrap (n + r.2) = n + r.2 := IntWalk.i64_in _ (by omega)
    simp only [greedy, hw]
    cases hd : decide (n + r.2 ≤ 1000) with
    | true =>
      have := ih (n + r.2) (fun x hx => h x (List.mem_cons_of_mem _ hx)) (by omega) (of_decide_eq_true hd)
      simp only [cond_true, List.take_succ_cons, sumR]; omega
    | false => simp only [cond_false, List.take_zero, sumR]; omega
theorem listGo_exp : ∀ (a : List (Int × Int)) (out : List Int), (∀ r ∈ a, runOk r = true) → (out.length : Int) + sumR a ≤ 1000 → listGo 1000 a out = some (out ++ expand a) := by
  intro a
  induction a with
  | nil => intro out _ _; simp [listGo, expand]
  | cons r a ih =>
    intro out h hs
    have hr := h r (List.mem_cons_self ..)
    simp only [runOk, Bool.and_eq_true, decide_eq_true_eq] at hr
    have hp := sumR_pos a fun x hx => h x (List.mem_cons_of_mem _ hx)
    simp only [sumR] at hs
    have hw : IntKind.i64.wrap (1000 - (out.length : Int)) = 1000 - out.length := IntWalk.i64_in _ (by omega)
    have hd : decide (r.2 > 1000 - (out.length : Int)) = false := by simp; omega
    simp only [listGo, hw, hd, cond_false]
    rw [ih _ (fun x hx => h x (List.mem_cons_of_mem _ hx)) (by simp; omega)]
    simp [expand]
theorem expand_len (a : List (Int × Int)) (h : ∀ r ∈ a, runOk r = true) : ((expand a).length : Int) = sumR a := by
  induction a with
  | nil => rfl
  | cons r a ih =>
    have hr := h r (List.mem_cons_self ..)
    simp only [runOk, Bool.and_eq_true, decide_eq_true_eq] at hr
    have := ih fun x hx => h x (List.mem_cons_of_mem _ hx)
    simp only [expand, List.flatMap_cons, List.length_append, List.length_replicate, sumR] at this ⊢
    omega
theorem chunk_list (l : List (Int × Int)) (h : ∀ r ∈ l, runOk r = true) : listM (l.take (greedy l 0)) 1000 = (expand (l.take (greedy l 0)), 0) ∧ (expand (l.take (greedy l 0))).length ≤ 1000 := by
  have ht : ∀ r ∈ l.take (greedy l 0), runOk r = true := fun r hr => h r (List.mem_of_mem_take hr)
  have hs := greedy_sum l 0 h (by omega) (by omega)
  have hb : (l.take (greedy l 0)).any bad = false := by
    rw [List.any_eq_false]
    intro r hr
    have := ht r hr
    simp only [runOk, Bool.and_eq_true, decide_eq_true_eq] at this
    simp [bad, this.1.1]; omega
  have he := expand_len _ ht
  refine ⟨?_, by omega⟩
  simp only [listM, hb, cond_false]
  rw [listGo_exp _ [] ht (by simp; omega)]
  rfl
end Go.Proofs.YtdehdahimkcakaaGreatDoor
end
