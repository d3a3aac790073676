/- The examples of the packages gudgeonlaw10 and gudgeonlaw23 hold: run by the kernel. -/
import Derived.Test.YtdehdahimkcakaaGreatDoorTab
import Derived.Test.YtdehdahimkcakaaGreatDoorFast
import Derived.Test.YtdehdahimkcakaaGreatDoorWalk2
namespace Go.Proofs.YtdehdahimkcakaaGreatDoor
open Go Ai
set_option maxRecDepth 100000
theorem run25 : ((callF Tryz.env 1000 25 [] St.empty).map Prod.fst) = some (.bool true) := by kernel_rfl
theorem run42 : ((callF Tryz.env 1000 42 [] St.empty).map Prod.fst) = some (.bool true) := by kernel_rfl
theorem pure_run {n : Nat} {f : FuncId} {args : List AV} {v : AV} (hv : v.closed = true) (h : ((callF Tryz.env n f args St.empty).map Prod.fst) = some v) : PureC Tryz.env f args v := by
  cases hc : callF Tryz.env n f args St.empty with
  | none => rw [hc] at h; cases h
  | some r =>
    rw [hc] at h
    simp only [Option.map_some, Option.some.injEq] at h
    obtain ⟨r, s'⟩ := r
    simp only at h; subst h
    refine ⟨n, r, s', [], callF_leads _ _ _ _ _ _ hc, ?_⟩
    unfold pur
    rw [if_pos hv]
theorem awake10 : PureC Tryz.env 25 [] (.bool true) := pure_run rfl run25
theorem awake23 : PureC Tryz.env 42 [] (.bool true) := pure_run rfl run42
end Go.Proofs.YtdehdahimkcakaaGreatDoor
