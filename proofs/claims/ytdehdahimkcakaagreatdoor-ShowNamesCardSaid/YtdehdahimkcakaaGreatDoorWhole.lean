/- PRINTED BY wip/tools/envok.py: the seat's tables and own functions are sound. -/
import Derived.Test.YtdehdahimkcakaaGreatDoorClone
import Derived.Test.YtdehdahimkcakaaGreatDoorEnv
set_option linter.unusedVariables false
set_option maxRecDepth 100000
namespace Go.Proofs.YtdehdahimkcakaaGreatDoor
open Go Ai
theorem noEq (P : Program) (T : Ty) (q : TypeId → Bool) (h : ∀ t, q t = false) : EqOk P T q := fun t ht => by rw [h t] at ht; cases ht
theorem eq0 : ∀ t, Tryz.eqOk t = false := by
  intro t
  show Nat.beq ((0 >>> t) % 2) 1 = false
  simp only [Nat.zero_shiftRight]
  rfl
theorem prim232 : PrimOk Tryz.prog Tryz.ty Tryz.glob 232 sameA := same_prim (by kernel_rfl : Tryz.prog.funcs[232]? = some Tryz.f232) (by kernel_rfl) (by kernel_rfl) (by kernel_rfl) (by kernel_rfl)
theorem prim271 : PrimOk Tryz.prog Tryz.ty Tryz.glob 271 countA := count_prim (by kernel_rfl : Tryz.prog.funcs[271]? = some Tryz.f271) (by kernel_rfl) (by kernel_rfl) (by kernel_rfl) (by kernel_rfl)
theorem prim285 : PrimOk Tryz.prog Tryz.ty Tryz.glob 285 indexByteA := indexByte_prim (by kernel_rfl : Tryz.prog.funcs[285]? = some Tryz.f285) (by kernel_rfl) (by kernel_rfl) (by kernel_rfl) (by kernel_rfl)
theorem prim286 : PrimOk Tryz.prog Tryz.ty Tryz.glob 286 (noZeroA 5) := noZero_prim (t := 161) (by kernel_rfl : Tryz.prog.funcs[286]? = some Tryz.f286) (by kernel_rfl) (by kernel_rfl) (by kernel_rfl) (by kernel_rfl) (by kernel_rfl) (by kernel_rfl) (by kernel_rfl : lay Tryz.ty 5 = some (1, false))
theorem env0_prim (f : FuncId) (g : List AV → St → Option (AV × St)) (h : Tryz.env0.prim f = some g) : PrimOk Tryz.prog Tryz.ty Tryz.glob f g := by
  have h : Tryz.prim0 Tryz.ty f = some g := h
  unfold Tryz.prim0 at h
  generalize hb : bitOf _ f = b at h
  cases b with
  | false => cases h
  | true =>
    simp only [cond_true] at h
    unfold Tryz.primT at h
    split at h
    · exact absurd hb (by decide)
    · exact absurd hb (by decide)
    · exact absurd hb (by decide)
    · exact absurd hb (by decide)
    · exact absurd hb (by decide)
    · exact absurd hb (by decide)
    · cases h; exact prim232
    · cases h; exact prim271
    · cases h; exact prim285
    · cases h; exact prim286
    · cases h
theorem env0_ok : EnvOk Tryz.prog Tryz.env0 where
  mixed := by kernel_rfl
  ty := env_ty
  eq := noEq _ _ _ eq0
  fns := fun f fn h => ⟨env_fns f fn h, env_names f fn h⟩
  prim := env0_prim
theorem prim146 : PrimOk Tryz.prog Tryz.ty Tryz.glob 146 (cloneA Tryz.ty 67) := clone_prim (t := 49) (z := 10) (ag := true) (b := ((bytesOf Tryz.ty 67).getD 0)) (zv := ((zero Tryz.ty 67).getD .undef)) env0_ok (fun x s Q h => g146_run x s (by unfold g146; exact h)) (by kernel_rfl) (by kernel_rfl) (by kernel_rfl) (by kernel_rfl) (by decide) (by kernel_rfl)
theorem prim147 : PrimOk Tryz.prog Tryz.ty Tryz.glob 147 (cloneA Tryz.ty 151) := clone_prim (t := 65) (z := 2) (ag := true) (b := ((bytesOf Tryz.ty 151).getD 0)) (zv := ((zero Tryz.ty 151).getD .undef)) env0_ok (fun x s Q h => g147_run x s (by unfold g147; exact h)) (by kernel_rfl) (by kernel_rfl) (by kernel_rfl) (by kernel_rfl) (by decide) (by kernel_rfl)
theorem prim148 : PrimOk Tryz.prog Tryz.ty Tryz.glob 148 (cloneA Tryz.ty 33) := clone_prim (t := 31) (z := 6) (ag := true) (b := ((bytesOf Tryz.ty 33).getD 0)) (zv := ((zero Tryz.ty 33).getD .undef)) env0_ok (fun x s Q h => g148_run x s (by unfold g148; exact h)) (by kernel_rfl) (by kernel_rfl) (by kernel_rfl) (by kernel_rfl) (by decide) (by kernel_rfl)
theorem prim152 : PrimOk Tryz.prog Tryz.ty Tryz.glob 152 (cloneA Tryz.ty 3) := clone_prim (t := 72) (z := 1) (ag := false) (b := ((bytesOf Tryz.ty 3).getD 0)) (zv := ((zero Tryz.ty 3).getD .undef)) env0_ok (fun x s Q h => g152_run x s (by unfold g152; exact h)) (by kernel_rfl) (by kernel_rfl) (by kernel_rfl) (by kernel_rfl) (by decide) (by kernel_rfl)
theorem prim153 : PrimOk Tryz.prog Tryz.ty Tryz.glob 153 (cloneA Tryz.ty 211) := clone_prim (t := 22) (z := 1) (ag := false) (b := ((bytesOf Tryz.ty 211).getD 0)) (zv := ((zero Tryz.ty 211).getD .undef)) env0_ok (fun x s Q h => g153_run x s (by unfold g153; exact h)) (by kernel_rfl) (by kernel_rfl) (by kernel_rfl) (by kernel_rfl) (by decide) (by kernel_rfl)
theorem prim154 : PrimOk Tryz.prog Tryz.ty Tryz.glob 154 (cloneA Tryz.ty 109) := clone_prim (t := 25) (z := 2) (ag := true) (b := ((bytesOf Tryz.ty 109).getD 0)) (zv := ((zero Tryz.ty 109).getD .undef)) env0_ok (fun x s Q h => g154_run x s (by unfold g154; exact h)) (by kernel_rfl) (by kernel_rfl) (by kernel_rfl) (by kernel_rfl) (by decide) (by kernel_rfl)
theorem env_prim (f : FuncId) (g : List AV → St → Option (AV × St)) (h : Tryz.env.prim f = some g) : PrimOk Tryz.prog Tryz.ty Tryz.glob f g := by
  have h : Tryz.prim Tryz.ty f = some g := h
  unfold Tryz.prim at h
  generalize hb : bitOf _ f = b at h
  cases b with
  | false => cases h
  | true =>
    simp only [cond_true] at h
    unfold Tryz.primT at h
    split at h
    · cases h; exact prim146
    · cases h; exact prim147
    · cases h; exact prim148
    · cases h; exact prim152
    · cases h; exact prim153
    · cases h; exact prim154
    · cases h; exact prim232
    · cases h; exact prim271
    · cases h; exact prim285
    · cases h; exact prim286
    · cases h
theorem env_ok : EnvOk Tryz.prog Tryz.env where
  mixed := by kernel_rfl
  ty := env_ty
  eq := noEq _ _ _ eq0
  fns := fun f fn h => ⟨env_fns f fn h, env_names f fn h⟩
  prim := env_prim
end Go.Proofs.YtdehdahimkcakaaGreatDoor
