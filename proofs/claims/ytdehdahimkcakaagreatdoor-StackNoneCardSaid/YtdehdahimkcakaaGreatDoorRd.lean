/- Declarations and calls: what arguments of their types are. -/
import Derived.Test.YtdehdahimkcakaaGreatDoorCl
set_option linter.unusedVariables false
set_option linter.unusedSimpArgs false
set_option maxRecDepth 100000
namespace Go.Proofs.YtdehdahimkcakaaGreatDoor
open Go Ai

section
variable {H : Type}
theorem fields67 : fieldTys Tryz.ty 67 = some [9, 3, 4, 65, 33] := by kernel_rfl
theorem fields93 : fieldTys Tryz.ty 93 = some [3, 3, 67, 33] := by kernel_rfl
theorem fields151 : fieldTys Tryz.ty 151 = some [9, 3] := by kernel_rfl
theorem pm_of (n : Nat) (d : DataW H) (h : TyD Tryz.ty n 151 d) : ∃ p : List UInt8 × Int, dAV d = pmA p := by
  obtain ⟨m, l, rfl, rfl, hl, hf⟩ := h.struct fields151
  match l, hl with
  | [d0, d1], _ =>
  obtain ⟨x, rfl, _⟩ := (hf 0 9 d0 rfl rfl).str (by kernel_rfl)
  obtain ⟨a, rfl, _⟩ := (hf 1 3 d1 rfl rfl).int (k := .i64) (by kernel_rfl)
  exact ⟨(x, a), rfl⟩
theorem list_of {α : Type} {f : α → AV} {p : DataW H → Prop} (h : ∀ d, p d → ∃ a, dAV d = f a) (l : List (DataW H)) (hl : ∀ d ∈ l, p d) : ∃ bs : List α, dAVs l = bs.map f ∧ bs.length = l.length := by
  induction l with
  | nil => exact ⟨[], rfl, rfl⟩
  | cons d l ih =>
    obtain ⟨a, ha⟩ := h d (hl d (List.mem_cons_self ..))
    obtain ⟨bs, h1, h2⟩ := ih fun x hx => hl x (List.mem_cons_of_mem _ hx)
    exact ⟨a :: bs, by simp only [dAVs, ha, h1, List.map_cons], by simp [h2]⟩
theorem list_of2 {α : Type} {f : α → AV} {p : DataW H → Prop} {ok : α → Bool} (h : ∀ d, p d → ∃ a, dAV d = f a ∧ ok a = true) (l : List (DataW H)) (hl : ∀ d ∈ l, p d) : ∃ bs : List α, dAVs l = bs.map f ∧ bs.length = l.length ∧ ∀ a ∈ bs, ok a = true := by
  induction l with
  | nil => exact ⟨[], rfl, rfl, fun _ h => by cases h⟩
  | cons d l ih =>
    obtain ⟨a, ha, ho⟩ := h d (hl d (List.mem_cons_self ..))
    obtain ⟨bs, h1, h2, h3⟩ := ih fun x hx => hl x (List.mem_cons_of_mem _ hx)
    exact ⟨a :: bs, by simp only [dAVs, ha, h1, List.map_cons], by simp [h2], fun x hx => (List.mem_cons.1 hx).elim (fun e => e ▸ ho) (h3 x)⟩
theorem dc_of (n : Nat) (d : DataW H) (h : TyD Tryz.ty n 67 d) : ∃ c : Dc, dAV d = c.av ∧ c.ok = true := by
  obtain ⟨m, l, rfl, rfl, hl, hf⟩ := h.struct fields67
  match l, hl with
  | [d0, d1, d2, d3, d4], _ =>
  obtain ⟨x, rfl, hx⟩ := (hf 0 9 d0 rfl rfl).str (by kernel_rfl)
  obtain ⟨a, rfl, ha⟩ := (hf 1 3 d1 rfl rfl).int (k := .i64) (by kernel_rfl)
  obtain ⟨b, rfl⟩ := (hf 2 4 d2 rfl rfl).bool (by kernel_rfl)
  obtain ⟨m2, its, hm, hv, hlen, hel⟩ := (hf 3 65 d3 rfl rfl).list (e := 151) (by kernel_rfl)
  obtain ⟨s, hs, ho⟩ := sx_of m d4 (hf 4 33 d4 rfl rfl)
  obtain ⟨ps, h1, h2⟩ := list_of (f := pmA) (fun d h => pm_of m2 d h) its hel
  refine ⟨⟨x, a, b, ps, s⟩, ?_, ?_⟩
  · simp only [dAV, dAVc, AV.cells, hv, h1, hs, List.cons_append, List.nil_append, List.append_nil]
    rfl
  · simp only [Dc.ok, isInt, hx, ha, h2, hlen, ho, decide_true, Bool.and_self]
theorem cl_of (n : Nat) (d : DataW H) (h : TyD Tryz.ty n 93 d) : ∃ c : Cl, dAV d = c.av ∧ c.ok = true := by
  obtain ⟨m, l, rfl, rfl, hl, hf⟩ := h.struct fields93
  match l, hl with
  | [d0, d1, d2, d3], _ =>
  obtain ⟨k, rfl, hk⟩ := (hf 0 3 d0 rfl rfl).int (k := .i64) (by kernel_rfl)
  obtain ⟨a, rfl, ha⟩ := (hf 1 3 d1 rfl rfl).int (k := .i64) (by kernel_rfl)
  obtain ⟨c, hc, hco⟩ := dc_of m d2 (hf 2 67 d2 rfl rfl)
  obtain ⟨s, hs, ho⟩ := sx_of m d3 (hf 3 33 d3 rfl rfl)
  refine ⟨⟨k, a, c, s⟩, ?_, ?_⟩
  · simp only [dAV, dAVc, hc, hs, List.append_nil]
    rfl
  · simp only [Cl.ok, isInt, hk, ha, hco, ho, Bool.and_self]
end
end Go.Proofs.YtdehdahimkcakaaGreatDoor
