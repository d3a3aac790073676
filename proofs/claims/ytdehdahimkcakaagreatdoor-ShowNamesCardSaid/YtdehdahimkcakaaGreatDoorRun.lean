/- What the kernel runs. -/
import Derived.Test.YtdehdahimkcakaaGreatDoorTab
import Derived.Test.YtdehdahimkcakaaGreatDoorFast
import Derived.Test.YtdehdahimkcakaaGreatDoorWalk2
namespace Go.Proofs.YtdehdahimkcakaaGreatDoor
open Go Ai
theorem pure_run {n : Nat} {f : FuncId} {args : List AV} {v : AV} (hv : v.closed = true) (h : ((callF Tryz.env n f args St.empty).map Prod.fst) = some v) : PureC Tryz.env f args v := by
  cases hc : callF Tryz.env n f args St.empty with
  | none => rw [hc] at h; cases h
  | some r =>
    rw [hc] at h
    simp only [Option.map_some, Option.some.injEq] at h
    obtain ⟨r, s'⟩ := r
    simp only at h; subst h
    refine ⟨n, r, s', [], callF_leads _ _ _ _ _ _ hc, ?_⟩
    unfold pur
    rw [if_pos hv]
noncomputable def pureF (f : FuncId) (args : List AV) : Option AV := (callF Tryz.env 1000 f args St.empty).bind fun r => (pur Tryz.env.P r.2 12 r.1).map Prod.fst
theorem pure_f {f : FuncId} {args : List AV} {v : AV} (h : pureF f args = some v) : PureC Tryz.env f args v := by
  unfold pureF at h
  cases hc : callF Tryz.env 1000 f args St.empty with
  | none => rw [hc] at h; cases h
  | some r =>
    rw [hc] at h
    obtain ⟨r, s'⟩ := r
    simp only [Option.bind_some, Option.map_eq_some_iff] at h
    obtain ⟨⟨w, ids⟩, h1, rfl⟩ := h
    exact ⟨1000, r, s', ids, callF_leads _ _ _ _ _ _ hc, h1⟩
theorem pure_table {f : FuncId} {a : Nat → AV} {v : Nat → AV} {n : Nat} (h : (List.range n).map (fun c => pureF f [a c]) = (List.range n).map fun c => some (v c)) {c : Nat} (hc : c < n) : PureC Tryz.env f [a c] (v c) := by
  refine pure_f ?_
  have h1 := congrArg (fun l => l[c]?) h
  simpa [hc] using h1
end Go.Proofs.YtdehdahimkcakaaGreatDoor
