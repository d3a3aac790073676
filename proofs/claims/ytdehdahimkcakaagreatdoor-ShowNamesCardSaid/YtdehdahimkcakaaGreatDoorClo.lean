/- PRINTED BY wip/tools/lift.py out of the translation: functions as statements, and that they are so. -/
import Derived.Test.YtdehdahimkcakaaGreatDoorWords
set_option linter.unusedVariables false
set_option maxRecDepth 1000000
namespace Go.Proofs.YtdehdahimkcakaaGreatDoor
open Go Ai
/-! 146 slices.Clone[[]gudgeon/api.Decl,gudgeon/api.Decl] -/
noncomputable abbrev g146B : Code := bodyOf Tryz.f146
noncomputable abbrev g146R (Q : AV → St → Prop) : Kt := fun g s => RetP (result Tryz.ty Tryz.f146 g s) fun v => Q v s
noncomputable abbrev g146C : Code → Kt → (Nat → Kt) → Kt → Kt := codeP Tryz.env0 146 (Tryz.env0.kp 146)
noncomputable def g146 (Q : AV → St → Prop) (t0 : AV) (s : St) : Prop :=
  Bnd (bn .eql 49 t0 .nils) fun t4 =>
  IfP t4
  (Q .nils (adv s 4))
  (Bnd (bsl 49 0 []) fun t5 =>
  Bnd (bt .append #[49, 49] [t5, t0] (s.nx + 5) (adv s 7)) fun r7 =>
  Q r7.1 r7.2)
theorem g146_run (t0 : AV) (s : St) {Q : AV → St → Prop} (h : g146 Q t0 s) : ∃ r s', WideC Tryz.env0 146 [t0] s r s' ∧ Q r s' :=
  wide_of (h := 146) (fn := Tryz.f146) (c := sub g146B []) (by kernel_rfl) (by kernel_rfl) (by kernel_rfl) (by kernel_rfl) (of_decide_eq_true (by kernel_rfl))
    (Eq.mp (Eq.trans (by kernel_rfl) (congrFun (congrFun (show g146C (sub g146B []) (g146R Q) (fun _ _ _ => False) (g146R Q) = _ from rfl).symm (gt (frame Tryz.f146 [t0]))) s)) h)
/-! 147 slices.Clone[[]gudgeon/api.Param,gudgeon/api.Param] -/
noncomputable abbrev g147B : Code := bodyOf Tryz.f147
noncomputable abbrev g147R (Q : AV → St → Prop) : Kt := fun g s => RetP (result Tryz.ty Tryz.f147 g s) fun v => Q v s
noncomputable abbrev g147C : Code → Kt → (Nat → Kt) → Kt → Kt := codeP Tryz.env0 147 (Tryz.env0.kp 147)
noncomputable def g147 (Q : AV → St → Prop) (t0 : AV) (s : St) : Prop :=
  Bnd (bn .eql 65 t0 .nils) fun t4 =>
  IfP t4
  (Q .nils (adv s 4))
  (Bnd (bsl 65 0 []) fun t5 =>
  Bnd (bt .append #[65, 65] [t5, t0] (s.nx + 5) (adv s 7)) fun r7 =>
  Q r7.1 r7.2)
theorem g147_run (t0 : AV) (s : St) {Q : AV → St → Prop} (h : g147 Q t0 s) : ∃ r s', WideC Tryz.env0 147 [t0] s r s' ∧ Q r s' :=
  wide_of (h := 147) (fn := Tryz.f147) (c := sub g147B []) (by kernel_rfl) (by kernel_rfl) (by kernel_rfl) (by kernel_rfl) (of_decide_eq_true (by kernel_rfl))
    (Eq.mp (Eq.trans (by kernel_rfl) (congrFun (congrFun (show g147C (sub g147B []) (g147R Q) (fun _ _ _ => False) (g147R Q) = _ from rfl).symm (gt (frame Tryz.f147 [t0]))) s)) h)
/-! 148 slices.Clone[[]gudgeon/api.Sexp,gudgeon/api.Sexp] -/
noncomputable abbrev g148B : Code := bodyOf Tryz.f148
noncomputable abbrev g148R (Q : AV → St → Prop) : Kt := fun g s => RetP (result Tryz.ty Tryz.f148 g s) fun v => Q v s
noncomputable abbrev g148C : Code → Kt → (Nat → Kt) → Kt → Kt := codeP Tryz.env0 148 (Tryz.env0.kp 148)
noncomputable def g148 (Q : AV → St → Prop) (t0 : AV) (s : St) : Prop :=
  Bnd (bn .eql 31 t0 .nils) fun t4 =>
  IfP t4
  (Q .nils (adv s 4))
  (Bnd (bsl 31 0 []) fun t5 =>
  Bnd (bt .append #[31, 31] [t5, t0] (s.nx + 5) (adv s 7)) fun r7 =>
  Q r7.1 r7.2)
theorem g148_run (t0 : AV) (s : St) {Q : AV → St → Prop} (h : g148 Q t0 s) : ∃ r s', WideC Tryz.env0 148 [t0] s r s' ∧ Q r s' :=
  wide_of (h := 148) (fn := Tryz.f148) (c := sub g148B []) (by kernel_rfl) (by kernel_rfl) (by kernel_rfl) (by kernel_rfl) (of_decide_eq_true (by kernel_rfl))
    (Eq.mp (Eq.trans (by kernel_rfl) (congrFun (congrFun (show g148C (sub g148B []) (g148R Q) (fun _ _ _ => False) (g148R Q) = _ from rfl).symm (gt (frame Tryz.f148 [t0]))) s)) h)
/-! 152 slices.Clone[[]int,int] -/
noncomputable abbrev g152B : Code := bodyOf Tryz.f152
noncomputable abbrev g152R (Q : AV → St → Prop) : Kt := fun g s => RetP (result Tryz.ty Tryz.f152 g s) fun v => Q v s
noncomputable abbrev g152C : Code → Kt → (Nat → Kt) → Kt → Kt := codeP Tryz.env0 152 (Tryz.env0.kp 152)
noncomputable def g152 (Q : AV → St → Prop) (t0 : AV) (s : St) : Prop :=
  Bnd (bn .eql 72 t0 .nils) fun t4 =>
  IfP t4
  (Q .nils (adv s 4))
  (Bnd (bsl 72 0 []) fun t5 =>
  Bnd (bt .append #[72, 72] [t5, t0] (s.nx + 5) (adv s 7)) fun r7 =>
  Q r7.1 r7.2)
theorem g152_run (t0 : AV) (s : St) {Q : AV → St → Prop} (h : g152 Q t0 s) : ∃ r s', WideC Tryz.env0 152 [t0] s r s' ∧ Q r s' :=
  wide_of (h := 152) (fn := Tryz.f152) (c := sub g152B []) (by kernel_rfl) (by kernel_rfl) (by kernel_rfl) (by kernel_rfl) (of_decide_eq_true (by kernel_rfl))
    (Eq.mp (Eq.trans (by kernel_rfl) (congrFun (congrFun (show g152C (sub g152B []) (g152R Q) (fun _ _ _ => False) (g152R Q) = _ from rfl).symm (gt (frame Tryz.f152 [t0]))) s)) h)
/-! 153 slices.Clone[[]uint32,uint32] -/
noncomputable abbrev g153B : Code := bodyOf Tryz.f153
noncomputable abbrev g153R (Q : AV → St → Prop) : Kt := fun g s => RetP (result Tryz.ty Tryz.f153 g s) fun v => Q v s
noncomputable abbrev g153C : Code → Kt → (Nat → Kt) → Kt → Kt := codeP Tryz.env0 153 (Tryz.env0.kp 153)
noncomputable def g153 (Q : AV → St → Prop) (t0 : AV) (s : St) : Prop :=
  Bnd (bn .eql 22 t0 .nils) fun t4 =>
  IfP t4
  (Q .nils (adv s 4))
  (Bnd (bsl 22 0 []) fun t5 =>
  Bnd (bt .append #[22, 22] [t5, t0] (s.nx + 5) (adv s 7)) fun r7 =>
  Q r7.1 r7.2)
theorem g153_run (t0 : AV) (s : St) {Q : AV → St → Prop} (h : g153 Q t0 s) : ∃ r s', WideC Tryz.env0 153 [t0] s r s' ∧ Q r s' :=
  wide_of (h := 153) (fn := Tryz.f153) (c := sub g153B []) (by kernel_rfl) (by kernel_rfl) (by kernel_rfl) (by kernel_rfl) (of_decide_eq_true (by kernel_rfl))
    (Eq.mp (Eq.trans (by kernel_rfl) (congrFun (congrFun (show g153C (sub g153B []) (g153R Q) (fun _ _ _ => False) (g153R Q) = _ from rfl).symm (gt (frame Tryz.f153 [t0]))) s)) h)
/-! 154 slices.Clone[[]gudgeon/api.Run,gudgeon/api.Run] -/
noncomputable abbrev g154B : Code := bodyOf Tryz.f154
noncomputable abbrev g154R (Q : AV → St → Prop) : Kt := fun g s => RetP (result Tryz.ty Tryz.f154 g s) fun v => Q v s
noncomputable abbrev g154C : Code → Kt → (Nat → Kt) → Kt → Kt := codeP Tryz.env0 154 (Tryz.env0.kp 154)
noncomputable def g154 (Q : AV → St → Prop) (t0 : AV) (s : St) : Prop :=
  Bnd (bn .eql 25 t0 .nils) fun t4 =>
  IfP t4
  (Q .nils (adv s 4))
  (Bnd (bsl 25 0 []) fun t5 =>
  Bnd (bt .append #[25, 25] [t5, t0] (s.nx + 5) (adv s 7)) fun r7 =>
  Q r7.1 r7.2)
theorem g154_run (t0 : AV) (s : St) {Q : AV → St → Prop} (h : g154 Q t0 s) : ∃ r s', WideC Tryz.env0 154 [t0] s r s' ∧ Q r s' :=
  wide_of (h := 154) (fn := Tryz.f154) (c := sub g154B []) (by kernel_rfl) (by kernel_rfl) (by kernel_rfl) (by kernel_rfl) (of_decide_eq_true (by kernel_rfl))
    (Eq.mp (Eq.trans (by kernel_rfl) (congrFun (congrFun (show g154C (sub g154B []) (g154R Q) (fun _ _ _ => False) (g154R Q) = _ from rfl).symm (gt (frame Tryz.f154 [t0]))) s)) h)
end Go.Proofs.YtdehdahimkcakaaGreatDoor
