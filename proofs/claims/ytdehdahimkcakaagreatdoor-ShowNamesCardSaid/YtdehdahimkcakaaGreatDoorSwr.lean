/- The examples of the package gudgeonlaw12: what the kernel runs. -/
import Derived.Test.YtdehdahimkcakaaGreatDoorLt
set_option linter.unusedVariables false
set_option linter.unusedSimpArgs false
set_option maxRecDepth 100000
set_option maxHeartbeats 4000000
namespace Go.Proofs.YtdehdahimkcakaaGreatDoor
open Go Ai

theorem z54 : pureF 54 [.int .i64 (-5)] = some (.agg [.bool true, .sl false [.int .u32 5]]) := by kernel_rfl
def valA (so : Int) (b neg : Bool) (n : List AV) (l : List AV) : AV := .agg [.int .i64 so, .bool b, .bool neg, .sl false n, .sl false l]
def minus5 : AV := .agg [.bool true, .int .i64 0, .str [], .int .i64 0, .int .i64 0, .sl false [.agg [.bool false, .int .i64 3, .str [45], .int .i64 0, .int .i64 0, .sl false []], .agg [.bool false, .int .i64 4, .str [53], .int .i64 0, .int .i64 0, .sl false []]]]
theorem r16a : pureF 16 [valA 2 false true [.int .u32 5] []] = some (.tup [minus5, .int .i64 0]) := by kernel_rfl
theorem r55 : pureF 55 [minus5] = some (.tup [.str [40, 45, 32, 53, 41], .int .i64 0]) := by kernel_rfl
theorem r60 : pureF 60 [.sl false [rnA (97, 1000), rnA (98, 1)]] = some (.bool true) := by kernel_rfl
theorem r22 : pureF 22 [.int .i64 22] = some (.str [115, 116, 114, 46, 43, 43]) := by kernel_rfl
noncomputable def chk : Option AV → Bool
  | some (.tup [.agg cs, .int .i64 0]) => closedL cs && (cs.length == 6) && cs.all AV.one && (match pureF 21 [.agg cs] with
    | some (.int .i64 13) => true
    | _ => false)
  | _ => false
theorem rchk : chk (pureF 16 [valA 3 false false [] [rnA (97, 1001)]]) = true := by kernel_rfl
theorem r16c : ∃ cs, PureC Tryz.env 16 [valA 3 false false [] [rnA (97, 1001)]] (.tup [.agg cs, .int .i64 0]) ∧ closedL cs = true ∧ cs.length = 6 ∧ cs.all AV.one = true ∧ PureC Tryz.env 21 [.agg cs] (.int .i64 13) := by
  have h := rchk
  unfold chk at h
  split at h
  · rename_i cs hr
    simp only [Bool.and_eq_true, beq_iff_eq] at h
    obtain ⟨⟨⟨h1, h2⟩, h3⟩, h4⟩ := h
    refine ⟨cs, pure_f hr, h1, h2, h3, ?_⟩
    split at h4
    · rename_i hr2; exact pure_f hr2
    · cases h4
  · cases h
end Go.Proofs.YtdehdahimkcakaaGreatDoor
