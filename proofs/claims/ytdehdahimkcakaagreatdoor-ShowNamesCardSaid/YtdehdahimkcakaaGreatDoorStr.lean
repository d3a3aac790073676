/- Strings in walks. -/
import Derived.Test.YtdehdahimkcakaaGreatDoorTf
set_option linter.unusedVariables false
set_option linter.unusedSimpArgs false
set_option maxRecDepth 100000
namespace Go.Proofs.YtdehdahimkcakaaGreatDoor
open Go Ai

section
variable {x y : List UInt8} {s : St} {i j n : Nat}
def byt (c : UInt8) : AV := .int .u8 c.toNat
theorem und9 : und Tryz.ty 9 = some .string := by kernel_rfl
theorem ixa_str (k : IntKind) {c : UInt8} (h : x[i]? = some c) : ixa 9 (.str x) (.int k (i : Int)) = some (.int .u8 c.toNat) := by
  obtain ⟨hi, rfl⟩ := List.getElem?_eq_some_iff.1 h
  simp [ixa, indexA, asI, und9, idx, hi]
theorem slc_hi (k : IntKind) (h : n ≤ x.length) : slc 9 (.str x) none (some (.int k (n : Int))) none s = some (.str (x.take n)) := by
  simp [slc, sliceA, und9, bounds, optI, asI, h]
theorem slc_lo (k : IntKind) (h : n ≤ x.length) : slc 9 (.str x) (some (.int k (n : Int))) none none s = some (.str (x.drop n)) := by
  simp [slc, sliceA, und9, bounds, optI, asI, h]
  exact List.take_of_length_le (by simp)
theorem slc_both (k k' : IntKind) (h : n ≤ j) (h' : j ≤ x.length) : slc 9 (.str x) (some (.int k (n : Int))) (some (.int k' (j : Int))) none s = some (.str ((x.drop n).take (j - n))) := by
  simp [slc, sliceA, und9, bounds, optI, asI, h, h']
theorem bin_sadd {t : TypeId} (h : x.length + y.length ≤ maxStr) : bin (T := Tryz.ty) Tryz.eqOk .add t (.str x) (.str y) = some (.str (x ++ y)) := by simp [bin, strBin, h]
theorem add_str {t : TypeId} (h : x.length + y.length ≤ 2 ^ 46) : bn .add t (.str x) (.str y) = some (.str (x ++ y)) := bin_sadd h
theorem prim_f {f : FuncId} {g : List AV → St → Option (AV × St)} {args : List AV} {s' : St} {r : AV} (h : Tryz.env.prim f = some g) (hg : g args s = some (r, s')) : WideC Tryz.env f args s r s' := ⟨1, by rw [callN_step, h]; exact hg⟩
end
end Go.Proofs.YtdehdahimkcakaaGreatDoor
