/- What a law's row gives: its lists, its arguments, the world of its witness. -/
import Derived.Test.YtdehdahimkcakaaGreatDoorWhole
import Derived.Test.YtdehdahimkcakaaGreatDoorLaw
import Derived.Test.YtdehdahimkcakaaGreatDoorCards
import Derived.Test.YtdehdahimkcakaaGreatDoorTie
import Derived.WalkKit
import Derived.ProofKit
import Derived.OpenShut
import Derived.LaidMore
import Derived.Lay
import Derived.SevenTiedAt
import Derived.Deep.DeepHandedRow
import Derived.Lib.LaidTab
set_option linter.unusedVariables false
set_option linter.unusedSimpArgs false
set_option maxRecDepth 100000
namespace Go.Proofs.YtdehdahimkcakaaGreatDoor
open Go Ai

theorem own : ownKnob Tryz.prog.godebug = none := by kernel_rfl
/-- Plain types. -/
def plainTys : List Nat := [3, 4, 5, 9, 30, 31, 32, 33, 34, 49, 65, 67, 79, 93, 119, 151, 159, 190, 192, 193, 298, 300, 301, 310, 317, 318]
theorem plain_all : (plainTys.all fun t => shapeOk Tryz.ty plainTys t) = true := by kernel_rfl
theorem plain_ok : ∀ t ∈ plainTys, shapeOk Tryz.env.P plainTys t = true := fun t ht => List.all_eq_true.1 plain_all t ht
/-- The laid tables are the interpreter's. -/
theorem glob_of {laid : List (String × DataW Unit)} (hp : (laid.all fun x => x.2.handleName?.isNone) = true) {W : World} (h : laidMetH Tryz.prog laid W)
    (hg : ∀ g cs, Tryz.glob g = some cs → ∃ nd ∈ laid, Tryz.prog.globalNamed nd.1 = some g ∧ (∃ t ∈ plainTys, (Tryz.prog.globals[g]?).map (·.type) = some t) ∧ cs = (dAV nd.2).cells) : GlobOk Tryz.env.P Tryz.env.glob W.cell? := by
  rw [MakeChecks.laidMetH_plain _ _ _ hp] at h
  exact glob_ok env_ok.ty plain_ok h hg

/-! ### Arguments -/
section
variable {H : Type}
theorem cells_closed {v : AV} (h : v.closed = true) : closedL v.cells = true := by
  cases v <;> first | exact h | (simp only [AV.cells, closedL, h, Bool.and_self]; done) | (simp only [AV.cells, closedL, Bool.and_true]; exact h)
theorem closedL_append {a b : List AV} (ha : closedL a = true) (hb : closedL b = true) : closedL (a ++ b) = true := by
  induction a with
  | nil => exact hb
  | cons x a ih =>
    simp only [List.cons_append, closedL, Bool.and_eq_true] at ha ⊢
    exact ⟨ha.1, ih ha.2⟩
mutual
theorem data_closed : (d : DataW H) → (dAV d).closed = true
  | .lit (.bool _) => rfl
  | .lit (.int _ _) => rfl
  | .lit (.string _) => rfl
  | .nil => rfl
  | .slice l _ => by simp only [dAV, AV.closed, Bool.not_false, Bool.true_and]; exact datas_closed l
  | .agg l => by simp only [dAV, AV.closed]; exact datac_closed l
  | .lit (.float _ _) => by simp only [dAV, AV.closed]
  | .lit .nil => by simp only [dAV, AV.closed]
  | .ptr _ => by simp only [dAV, AV.closed]
  | .iface _ _ => by simp only [dAV, AV.closed]
  | .map _ => by simp only [dAV, AV.closed]
  | .held _ => by simp only [dAV, AV.closed]
theorem datas_closed : (l : List (DataW H)) → closedL (dAVs l) = true
  | [] => rfl
  | d :: l => by simp only [dAVs, closedL, data_closed d, datas_closed l, Bool.and_self]
theorem datac_closed : (l : List (DataW H)) → closedL (dAVc l) = true
  | [] => rfl
  | d :: l => by simp only [dAVc]; exact closedL_append (cells_closed (data_closed d)) (datac_closed l)
end

def fieldTys (T : Ty) (t : TypeId) : Option (List TypeId) := match und T t with
  | some (.struct fs) => some (fs.toList.map (·.type))
  | _ => none
def intTy (T : Ty) (t : TypeId) : Option IntKind := match und T t with
  | some (.int k) => some k
  | _ => none
def elemTy (T : Ty) (t : TypeId) : Option TypeId := match und T t with
  | some (.slice e) => some e
  | _ => none
def oneTy (T : Ty) (t : TypeId) : Nat := match und T t with
  | some .bool => 1
  | some .string => 2
  | _ => 0
variable {T : Ty} {n : Nat} {t : TypeId} {d : DataW H}
theorem Ai.TyD.struct {ts : List TypeId} (h : fieldTys T t = some ts) (hd : TyD T n t d) : ∃ m l, n = m + 1 ∧ d = .agg l ∧ l.length = ts.length ∧ ∀ (i : Nat) t x, ts[i]? = some t → l[i]? = some x → TyD T m t x := by
  cases n with
  | zero => exact hd.elim
  | succ m =>
    unfold fieldTys at h
    unfold TyD at hd
    split at h
    · rename_i fs hu
      rw [hu] at hd
      obtain ⟨l, rfl, h1, h2⟩ := hd
      cases h
      refine ⟨m, l, rfl, rfl, by simp [h1], fun i t x ht hx => ?_⟩
      obtain ⟨hi, rfl⟩ := List.getElem?_eq_some_iff.1 hx
      have := h2 i hi (by omega)
      have e : fs[i].type = t := by
        rw [List.getElem?_map, Option.map_eq_some_iff] at ht
        obtain ⟨f, hf, rfl⟩ := ht
        rw [Array.getElem?_toList, Array.getElem?_eq_getElem (by omega)] at hf
        cases hf; rfl
      rw [← e]; exact this
    · cases h
theorem Ai.TyD.int {k : IntKind} (h : intTy T t = some k) (hd : TyD T n t d) : ∃ m, d = .lit (.int k m) ∧ (Lit.int k m).wf = true := by
  cases n with
  | zero => exact hd.elim
  | succ m =>
    unfold intTy at h
    unfold TyD at hd
    split at h
    · rename_i k' hu
      rw [hu] at hd; cases h; exact hd
    · cases h
theorem Ai.TyD.bool (h : oneTy T t = 1) (hd : TyD T n t d) : ∃ b, d = .lit (.bool b) := by
  cases n with
  | zero => exact hd.elim
  | succ m =>
    unfold oneTy at h
    unfold TyD at hd
    split at h
    · rename_i hu
      rw [hu] at hd; exact hd
    · cases h
    · cases h
theorem Ai.TyD.str (h : oneTy T t = 2) (hd : TyD T n t d) : ∃ s, d = .lit (.string s) ∧ s.length ≤ maxLen := by
  cases n with
  | zero => exact hd.elim
  | succ m =>
    unfold oneTy at h
    unfold TyD at hd
    split at h
    · cases h
    · rename_i hu
      rw [hu] at hd; exact hd
    · cases h
/-- A list, of what its elements are. -/
theorem Ai.TyD.list {e : TypeId} (h : elemTy T t = some e) (hd : TyD T n t d) : ∃ (m : Nat) (l : List (DataW H)), n = m + 1 ∧ dAV d = .sl false (dAVs l) ∧ l.length ≤ maxLen ∧ ∀ x ∈ l, TyD T m e x := by
  cases n with
  | zero => exact hd.elim
  | succ m =>
    unfold elemTy at h
    unfold TyD at hd
    split at h
    · rename_i hu
      rw [hu] at hd; cases h
      rcases hd with rfl | ⟨l, r, rfl, h1, h2⟩
      · exact ⟨m, [], rfl, rfl, by simp, fun _ h => by cases h⟩
      · exact ⟨m, l, rfl, rfl, h1, h2⟩
    · cases h

/-- A number that an int may be. -/
def isInt (n : Int) : Bool := (Lit.int .i64 n).wf
/-- An s-expression. -/
inductive Sx : Type where
  | mk (l : Bool) (k : Int) (x : List UInt8) (p a : Int) (items : List Sx)
mutual
def Sx.av : Sx → AV
  | .mk l k x p a items => .agg [.bool l, .int .i64 k, .str x, .int .i64 p, .int .i64 a, .sl false (Sx.avs items)]
def Sx.avs : List Sx → List AV
  | [] => []
  | s :: l => s.av :: Sx.avs l
end
theorem Sx.avs_eq (l : List Sx) : Sx.avs l = l.map Sx.av := by induction l with | nil => rfl | cons s l ih => simp [Sx.avs, ih]
mutual
def Sx.ok : Sx → Bool
  | .mk _ k x p a items => isInt k && decide (x.length ≤ maxLen) && isInt p && isInt a && decide (items.length ≤ maxLen) && Sx.oks items
def Sx.oks : List Sx → Bool
  | [] => true
  | s :: l => s.ok && Sx.oks l
end
theorem fields33 : fieldTys Tryz.ty 33 = some [4, 30, 3, 31] := by kernel_rfl
theorem fields30 : fieldTys Tryz.ty 30 = some [3, 9, 3] := by kernel_rfl
theorem sx_of : ∀ (n : Nat) (d : DataW H), TyD Tryz.ty n 33 d → ∃ s : Sx, dAV d = s.av ∧ s.ok = true := by
  intro n
  induction n using Nat.strongRecOn with
  | ind n ih =>
  intro d hd
  obtain ⟨m, l, rfl, rfl, hl, hf⟩ := hd.struct fields33
  match l, hl with
  | [d0, d1, d2, d3], _ =>
  obtain ⟨b, rfl⟩ := (hf 0 4 d0 rfl rfl).bool (by kernel_rfl)
  obtain ⟨m1, l1, rfl, rfl, hl1, hf1⟩ := (hf 1 30 d1 rfl rfl).struct fields30
  obtain ⟨a, rfl, ha⟩ := (hf 2 3 d2 rfl rfl).int (k := .i64) (by kernel_rfl)
  obtain ⟨m2, its, hm, hv, hlen, hel⟩ := (hf 3 31 d3 rfl rfl).list (e := 33) (by kernel_rfl)
  match l1, hl1 with
  | [e0, e1, e2], _ =>
  obtain ⟨k, rfl, hk⟩ := (hf1 0 3 e0 rfl rfl).int (k := .i64) (by kernel_rfl)
  obtain ⟨x, rfl, hx⟩ := (hf1 1 9 e1 rfl rfl).str (by kernel_rfl)
  obtain ⟨p, rfl, hp⟩ := (hf1 2 3 e2 rfl rfl).int (k := .i64) (by kernel_rfl)
  have : ∀ l : List (DataW H), (∀ x ∈ l, TyD Tryz.ty m2 33 x) → ∃ is : List Sx, dAVs l = Sx.avs is ∧ is.length = l.length ∧ Sx.oks is = true := by
    intro l
    induction l with
    | nil => intro _; exact ⟨[], rfl, rfl, rfl⟩
    | cons y l ihl =>
      intro hy
      obtain ⟨s, hs, ho⟩ := ih m2 (by omega) y (hy y (List.mem_cons_self ..))
      obtain ⟨is, h1, h2, h3⟩ := ihl fun x hx => hy x (List.mem_cons_of_mem _ hx)
      exact ⟨s :: is, by simp only [dAVs, Sx.avs, hs, h1], by simp [h2], by simp only [Sx.oks, ho, h3, Bool.and_self]⟩
  obtain ⟨is, h1, h2, h3⟩ := this its hel
  refine ⟨.mk b k x p a is, ?_, ?_⟩
  · simp only [dAV, dAVc, AV.cells, hv, List.cons_append, List.nil_append, List.append_nil, Sx.av, h1]
  · simp only [Sx.ok, isInt, hk, hx, hp, ha, h2, hlen, h3, decide_true, Bool.and_self]
end
end Go.Proofs.YtdehdahimkcakaaGreatDoor
