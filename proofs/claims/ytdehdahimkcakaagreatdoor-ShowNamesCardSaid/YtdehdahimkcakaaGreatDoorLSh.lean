/- PRINTED BY wip/tools/lift.py out of the translation: functions as statements, and that they are so. -/
import Derived.Test.YtdehdahimkcakaaGreatDoorWords
set_option linter.unusedVariables false
set_option maxRecDepth 1000000
namespace Go.Proofs.YtdehdahimkcakaaGreatDoor
open Go Ai
/-! 115 gudgeon/show.literal -/
noncomputable abbrev f115B : Code := bodyOf Tryz.f115
noncomputable abbrev f115R (Q : AV → St → Prop) : Kt := fun g s => RetP (result Tryz.ty Tryz.f115 g s) fun v => Q v s
noncomputable abbrev f115C : Code → Kt → (Nat → Kt) → Kt → Kt := codeP Tryz.env 115 (Tryz.env.kp 115)
noncomputable def f115 (Q : AV → St → Prop) (t0 : AV) (s : St) : Prop :=
  Bnd (zr 33) fun z2 =>
  CallPu Tryz.env 166 [t0, (.int .i64 1000)] (adv ((adv s 2).set s.nx (some (.cells z2.cells 33 true true))) 7) fun t10 s1 =>
  Bnd (extr t10 0) fun t11 =>
  Bnd (extr t10 1) fun t12 =>
  Bnd (bn .neq 34 t12 (.int .i64 0)) fun t14 =>
  IfP t14
  (Bnd (bld 33 []) fun t15 =>
  Bnd (sto 6 (.ptr s.nx 0) t15 (adv s1 5)) fun s2 =>
  RetP ((resC [ld 6 true (.ptr s.nx 0) s2, some (.int .i64 2)]).map tupV) fun v => Q v s2)
  (CallPu Tryz.env 167 [t11] (adv s1 9) fun t18 s3 =>
  Bnd (extr t18 0) fun t19 =>
  Bnd (extr t18 1) fun t20 =>
  CallPu Tryz.env 58 [(.int .i64 6), t19] (adv s3 4) fun t22 s4 =>
  Bnd (sto 6 (.ptr s.nx 0) t22 s4) fun s5 =>
  RetP ((resC [ld 6 true (.ptr s.nx 0) s5, some (.int .i64 0)]).map tupV) fun v => Q v s5)
theorem f115_run (t0 : AV) (s : St) {Q : AV → St → Prop} (h : f115 Q t0 s) : ∃ r s', WideC Tryz.env 115 [t0] s r s' ∧ Q r s' :=
  wide_of (h := 115) (fn := Tryz.f115) (c := sub f115B []) (by kernel_rfl) (by kernel_rfl) (by kernel_rfl) (by kernel_rfl) (of_decide_eq_true (by kernel_rfl))
    (Eq.mp (Eq.trans (by kernel_rfl) (congrFun (congrFun (show f115C (sub f115B []) (f115R Q) (fun _ _ _ => False) (f115R Q) = _ from rfl).symm (gt (frame Tryz.f115 [t0]))) s)) h)
/-! 58 gudgeon/show.atom -/
noncomputable abbrev f58B : Code := bodyOf Tryz.f58
noncomputable abbrev f58R (Q : AV → St → Prop) : Kt := fun g s => RetP (result Tryz.ty Tryz.f58 g s) fun v => Q v s
noncomputable abbrev f58C : Code → Kt → (Nat → Kt) → Kt → Kt := codeP Tryz.env 58 (Tryz.env.kp 58)
noncomputable def f58 (Q : AV → St → Prop) (t0 t1 : AV) (s : St) : Prop :=
  Bnd (zr 33) fun z4 =>
  Bnd (bld 30 [(0, t0), (1, t1)]) fun t7 =>
  Bnd (bld 33 [(1, t7)]) fun t8 =>
  Bnd (sto 6 (.ptr s.nx 0) t8 (adv ((adv s 1).set s.nx (some (.cells z4.cells 33 true true))) 5)) fun s1 =>
  RetP ((resC [ld 6 true (.ptr s.nx 0) s1]).map tupV) fun v => Q v s1
theorem f58_run (t0 t1 : AV) (s : St) {Q : AV → St → Prop} (h : f58 Q t0 t1 s) : ∃ r s', WideC Tryz.env 58 [t0, t1] s r s' ∧ Q r s' :=
  wide_of (h := 58) (fn := Tryz.f58) (c := sub f58B []) (by kernel_rfl) (by kernel_rfl) (by kernel_rfl) (by kernel_rfl) (of_decide_eq_true (by kernel_rfl))
    (Eq.mp (Eq.trans (by kernel_rfl) (congrFun (congrFun (show f58C (sub f58B []) (f58R Q) (fun _ _ _ => False) (f58R Q) = _ from rfl).symm (gt (frame Tryz.f58 [t0, t1]))) s)) h)
/-! 56 gudgeon/show.symbol -/
noncomputable abbrev f56B : Code := bodyOf Tryz.f56
noncomputable abbrev f56R (Q : AV → St → Prop) : Kt := fun g s => RetP (result Tryz.ty Tryz.f56 g s) fun v => Q v s
noncomputable abbrev f56C : Code → Kt → (Nat → Kt) → Kt → Kt := codeP Tryz.env 56 (Tryz.env.kp 56)
noncomputable def f56 (Q : AV → St → Prop) (t0 : AV) (s : St) : Prop :=
  Bnd (zr 33) fun z2 =>
  CallPu Tryz.env 58 [(.int .i64 3), t0] (adv ((adv s 1).set s.nx (some (.cells z2.cells 33 true true))) 3) fun t4 s1 =>
  Bnd (sto 6 (.ptr s.nx 0) t4 s1) fun s2 =>
  RetP ((resC [ld 6 true (.ptr s.nx 0) s2]).map tupV) fun v => Q v s2
theorem f56_run (t0 : AV) (s : St) {Q : AV → St → Prop} (h : f56 Q t0 s) : ∃ r s', WideC Tryz.env 56 [t0] s r s' ∧ Q r s' :=
  wide_of (h := 56) (fn := Tryz.f56) (c := sub f56B []) (by kernel_rfl) (by kernel_rfl) (by kernel_rfl) (by kernel_rfl) (of_decide_eq_true (by kernel_rfl))
    (Eq.mp (Eq.trans (by kernel_rfl) (congrFun (congrFun (show f56C (sub f56B []) (f56R Q) (fun _ _ _ => False) (f56R Q) = _ from rfl).symm (gt (frame Tryz.f56 [t0]))) s)) h)
end Go.Proofs.YtdehdahimkcakaaGreatDoor
