/- PRINTED BY wip/tools/lift.py out of the translation: functions as statements, and that they are so. -/
import Derived.Test.YtdehdahimkcakaaGreatDoorWords
set_option linter.unusedVariables false
set_option maxRecDepth 1000000
namespace Go.Proofs.YtdehdahimkcakaaGreatDoor
open Go Ai
/-! 166 gudgeon/lit.List -/
noncomputable abbrev f166B : Code := bodyOf Tryz.f166
noncomputable abbrev f166R (Q : AV → St → Prop) : Kt := fun g s => RetP (result Tryz.ty Tryz.f166 g s) fun v => Q v s
noncomputable abbrev f166C : Code → Kt → (Nat → Kt) → Kt → Kt := codeP Tryz.env 166 (Tryz.env.kp 166)
noncomputable def f166j2 (Q : AV → St → Prop) (t1 t8 : AV) (s : St) : Prop :=
  Bnd (bn .lss 3 t1 (.int .i64 0)) fun t52 =>
  IfP t52
  (Q (.tup [.nils, (.int .i64 2)]) (adv s 4))
  (Q (.tup [t8, (.int .i64 0)]) (adv s 5))
noncomputable def f166j3 (Q : AV → St → Prop) (ih1 : AV → AV → AV → AV → AV → St → Prop) (t29 t1 t8 t27 t28 : AV) (s : St) : Prop :=
  Bnd (bn .add 3 t29 (.int .i64 1)) fun t50 =>
  ih1 t1 t8 t27 t28 t50 (adv s 2)
noncomputable def f166j4 (Q : AV → St → Prop) (ih1 : AV → AV → AV → AV → AV → St → Prop) (ih2 : AV → AV → AV → AV → AV → AV → AV → AV → St → Prop) (t42 t1 t8 t10 t27 t28 t29 t41 : AV) (s : St) : Prop :=
  Bnd (bn .add 3 t42 (.int .i64 1)) fun t49 =>
  ih2 t1 t8 t10 t27 t28 t29 t41 t49 (adv s 2)
noncomputable def f166l2s (Q : AV → St → Prop) (ih1 : AV → AV → AV → AV → AV → St → Prop) (ih2 : AV → AV → AV → AV → AV → AV → AV → AV → St → Prop) (t1 t8 t10 t27 t28 t29 t41 t42 : AV) (s : St) : Prop :=
  Bnd (bn .lss 3 t42 t41) fun t43 =>
  IfP t43
  (Bnd (shiftP 0 t10) fun t45 =>
  Bnd (ld 1 false t45 (adv s 7)) fun t46 =>
  Bnd (bsl 72 1 [(0, t46)]) fun t47 =>
  Bnd (bt .append #[72, 72] [t8, t47] (s.nx + 5) (adv s 7)) fun r48 =>
  f166j4 Q ih1 ih2 t42 t1 r48.1 t10 t27 t28 t29 t41 r48.2)
  (f166j3 Q ih1 t29 t1 t8 t27 t28 (adv s 1))
noncomputable def f166l2 (Q : AV → St → Prop) (ih1 : AV → AV → AV → AV → AV → St → Prop) (n : Nat) : AV → AV → AV → AV → AV → AV → AV → AV → St → Prop := Nat.rec (motive := fun _ => AV → AV → AV → AV → AV → AV → AV → AV → St → Prop) (fun _ _ _ _ _ _ _ _ _ => False) (fun _ ih => f166l2s Q ih1 ih) n
noncomputable def f166l1s (Q : AV → St → Prop) (ih1 : AV → AV → AV → AV → AV → St → Prop) (t1 t8 t27 t28 t29 : AV) (s : St) : Prop :=
  Bnd (bn .lss 3 t29 t28) fun t30 =>
  IfP t30
  (Bnd (ixS 2 t27 t29) fun t31 =>
  Bnd (ld 2 true t31 (adv s 5)) fun t32 =>
  Bnd (zr 109) fun z10 =>
  Bnd (sto 2 (.ptr (s.nx + 3) 0) t32 ((adv s 5).set (s.nx + 3) (some (.cells z10.cells 109 true true)))) fun s1 =>
  Bnd (shiftP 1 (.ptr (s.nx + 3) 0)) fun t33 =>
  Bnd (ld 1 false t33 (adv s1 7)) fun t34 =>
  Bnd (bt .len #[72] [t8] (s1.nx + 4) (adv s1 7)) fun r37 =>
  Bnd (bn .sub 3 t1 r37.1) fun t38 =>
  Bnd (bn .gtr 3 t34 t38) fun t39 =>
  IfP t39
  (Q (.tup [.nils, (.int .i64 2)]) (adv r37.2 2))
  (Bnd (shiftP 1 (.ptr (s.nx + 3) 0)) fun t40 =>
  Bnd (ld 1 false t40 (adv r37.2 3)) fun t41 =>
  ∃ n, f166l2 Q ih1 n t1 t8 (.ptr (s.nx + 3) 0) t27 t28 t29 t41 (.int .i64 0) (adv r37.2 3)))
  (f166j2 Q t1 t8 (adv s 1))
noncomputable def f166l1 (Q : AV → St → Prop) (n : Nat) : AV → AV → AV → AV → AV → St → Prop := Nat.rec (motive := fun _ => AV → AV → AV → AV → AV → St → Prop) (fun _ _ _ _ _ _ => False) (fun _ ih => f166l1s Q ih) n
noncomputable def f166j1 (Q : AV → St → Prop) (t0 t1 : AV) (s : St) : Prop :=
  Bnd (bt .len #[25] [t0] (s.nx + 2) (adv s 4)) fun r28 =>
  ∃ n, f166l1 Q n t1 .nils t0 r28.1 (.int .i64 0) r28.2
noncomputable def f166j5 (Q : AV → St → Prop) (ih3 : AV → AV → AV → AV → AV → St → Prop) (t13 t0 t1 t11 t12 : AV) (s : St) : Prop :=
  Bnd (bn .add 3 t13 (.int .i64 1)) fun t26 =>
  ih3 t0 t1 t11 t12 t26 (adv s 2)
noncomputable def f166l3s (Q : AV → St → Prop) (ih3 : AV → AV → AV → AV → AV → St → Prop) (t0 t1 t11 t12 t13 : AV) (s : St) : Prop :=
  Bnd (bn .lss 3 t13 t12) fun t14 =>
  IfP t14
  (Bnd (ixS 2 t11 t13) fun t15 =>
  Bnd (ld 2 true t15 (adv s 5)) fun t16 =>
  Bnd (zr 109) fun z7 =>
  Bnd (sto 2 (.ptr (s.nx + 3) 0) t16 ((adv s 5).set (s.nx + 3) (some (.cells z7.cells 109 true true)))) fun s1 =>
  Bnd (shiftP 0 (.ptr (s.nx + 3) 0)) fun t17 =>
  Bnd (ld 1 false t17 (adv s1 9)) fun t18 =>
  CallPu Tryz.env 181 [t18] (adv s1 9) fun t19 s2 =>
  Bnd (un .not t19) fun t20 =>
  Gd (wantV t20 false) s2 (fun k => Bnd (shiftP 1 (.ptr (s.nx + 3) 0)) fun v => k v s2) fun t22 s3 =>
  Gd (wantV t20 false) s3 (fun k => Bnd (ld 1 false t22 s3) fun v => k v s3) fun t23 s4 =>
  Gd (wantV t20 false) s4 (fun k => Bnd (bn .lss 3 t23 (.int .i64 1)) fun v => k v s4) fun t24 s5 =>
  Bnd (pickV t20 (.bool true) t24) fun t25 =>
  IfP t25
  (Q (.tup [.nils, (.int .i64 1)]) (adv s5 2))
  (f166j5 Q ih3 t13 t0 t1 t11 t12 s5))
  (f166j1 Q t0 t1 (adv s 1))
noncomputable def f166l3 (Q : AV → St → Prop) (n : Nat) : AV → AV → AV → AV → AV → St → Prop := Nat.rec (motive := fun _ => AV → AV → AV → AV → AV → St → Prop) (fun _ _ _ _ _ _ => False) (fun _ ih => f166l3s Q ih) n
theorem f166j2_eq (Q : AV → St → Prop) : f166C (sub f166B [true, true, true, true]) (f166R Q) (fun _ _ _ => False) (f166R Q) = (fun g s => f166j2 Q (g 1) (g 8) s) :=
  Eq.trans rfl (by kernel_rfl)
theorem f166j3_eq (Q : AV → St → Prop) (n1 : Nat) : f166C (sub f166B [true, true, true, false, true, false, false, true, true, true]) (fun g s => (fun (n : Nat) (g : Gf) (s : St) => f166l1 Q n (g 1) (g 8) (g 27) (g 28) (g 29) s) n1 (fun k => cond (bitOf (Tryz.env.kp 166) k) (g k) .undef) s) (fun i => cond (Nat.beq i 2) (fun g s => f166j2 Q (g 1) (g 8) s) ((fun _ _ _ => False) i)) (f166R Q) = (fun g s => f166j3 Q (f166l1 Q n1) (g 29) (g 1) (g 8) (g 27) (g 28) s) :=
  Eq.trans rfl (by kernel_rfl)
theorem f166j4_eq (Q : AV → St → Prop) (n1 : Nat) (n2 : Nat) : f166C (sub f166B [true, true, true, false, true, false, false, true, true, false, false, true, true, true, false, false, true, true, true]) (fun g s => (fun (n : Nat) (g : Gf) (s : St) => f166l2 Q (f166l1 Q n1) n (g 1) (g 8) (g 10) (g 27) (g 28) (g 29) (g 41) (g 42) s) n2 (fun k => cond (bitOf (Tryz.env.kp 166) k) (g k) .undef) s) (fun i => cond (Nat.beq i 4) (fun g s => f166j3 Q (f166l1 Q n1) (g 29) (g 1) (g 8) (g 27) (g 28) s) ((fun i => cond (Nat.beq i 3) (fun g s => f166j3 Q (f166l1 Q n1) (g 29) (g 1) (g 8) (g 27) (g 28) s) ((fun i => cond (Nat.beq i 2) (fun g s => f166j2 Q (g 1) (g 8) s) ((fun _ _ _ => False) i)) i)) i)) (f166R Q) = (fun g s => f166j4 Q (f166l1 Q n1) (f166l2 Q (f166l1 Q n1) n2) (g 42) (g 1) (g 8) (g 10) (g 27) (g 28) (g 29) (g 41) s) :=
  Eq.trans rfl (by kernel_rfl)
theorem f166l2_eq (Q : AV → St → Prop) (n1 : Nat) (kN : Kt) : f166C (sub f166B [true, true, true, false, true, false, false, true, true, false, false, true, true, true, false]) kN (fun i => cond (Nat.beq i 4) (fun g s => f166j3 Q (f166l1 Q n1) (g 29) (g 1) (g 8) (g 27) (g 28) s) ((fun i => cond (Nat.beq i 3) (fun g s => f166j3 Q (f166l1 Q n1) (g 29) (g 1) (g 8) (g 27) (g 28) s) ((fun i => cond (Nat.beq i 2) (fun g s => f166j2 Q (g 1) (g 8) s) ((fun _ _ _ => False) i)) i)) i)) (f166R Q) = fun g s => ∃ n, (fun (n : Nat) (g : Gf) (s : St) => f166l2 Q (f166l1 Q n1) n (g 1) (g 8) (g 10) (g 27) (g 28) (g 29) (g 41) (g 42) s) n g s :=
  loop_eq (L := fun (n : Nat) (g : Gf) (s : St) => f166l2 Q (f166l1 Q n1) n (g 1) (g 8) (g 10) (g 27) (g 28) (g 29) (g 41) (g 42) s) (by kernel_rfl : (sub f166B [true, true, true, false, true, false, false, true, true, false, false, true, true, true, false]) = .loop (sub f166B [true, true, true, false, true, false, false, true, true, false, false, true, true, true, false, false])) (by kernel_rfl) (fun n2 => Eq.trans (seq_eq (by kernel_rfl : (sub f166B [true, true, true, false, true, false, false, true, true, false, false, true, true, true, false, false]) = .seq (sub f166B [true, true, true, false, true, false, false, true, true, false, false, true, true, true, false, false, false]) (sub f166B [true, true, true, false, true, false, false, true, true, false, false, true, true, true, false, false, true])) (seq_eq (by kernel_rfl : (sub f166B [true, true, true, false, true, false, false, true, true, false, false, true, true, true, false, false, true]) = .seq (sub f166B [true, true, true, false, true, false, false, true, true, false, false, true, true, true, false, false, true, false]) (sub f166B [true, true, true, false, true, false, false, true, true, false, false, true, true, true, false, false, true, true])) (seq_eq (by kernel_rfl : (sub f166B [true, true, true, false, true, false, false, true, true, false, false, true, true, true, false, false, true, true]) = .seq (sub f166B [true, true, true, false, true, false, false, true, true, false, false, true, true, true, false, false, true, true, false]) (sub f166B [true, true, true, false, true, false, false, true, true, false, false, true, true, true, false, false, true, true, true])) (f166j4_eq Q n1 n2) (block_eq (by kernel_rfl : (sub f166B [true, true, true, false, true, false, false, true, true, false, false, true, true, true, false, false, true, true, false]) = .block 5 (sub f166B [true, true, true, false, true, false, false, true, true, false, false, true, true, true, false, false, true, true, false, false])) rfl)) rfl) rfl) (by kernel_rfl))
theorem f166l1_eq (Q : AV → St → Prop) (kN : Kt) : f166C (sub f166B [true, true, true, false, true, false]) kN (fun i => cond (Nat.beq i 2) (fun g s => f166j2 Q (g 1) (g 8) s) ((fun _ _ _ => False) i)) (f166R Q) = fun g s => ∃ n, (fun (n : Nat) (g : Gf) (s : St) => f166l1 Q n (g 1) (g 8) (g 27) (g 28) (g 29) s) n g s :=
  loop_eq (L := fun (n : Nat) (g : Gf) (s : St) => f166l1 Q n (g 1) (g 8) (g 27) (g 28) (g 29) s) (by kernel_rfl : (sub f166B [true, true, true, false, true, false]) = .loop (sub f166B [true, true, true, false, true, false, false])) (by kernel_rfl) (fun n1 => Eq.trans (seq_eq (by kernel_rfl : (sub f166B [true, true, true, false, true, false, false]) = .seq (sub f166B [true, true, true, false, true, false, false, false]) (sub f166B [true, true, true, false, true, false, false, true])) (seq_eq (by kernel_rfl : (sub f166B [true, true, true, false, true, false, false, true]) = .seq (sub f166B [true, true, true, false, true, false, false, true, false]) (sub f166B [true, true, true, false, true, false, false, true, true])) (seq_eq (by kernel_rfl : (sub f166B [true, true, true, false, true, false, false, true, true]) = .seq (sub f166B [true, true, true, false, true, false, false, true, true, false]) (sub f166B [true, true, true, false, true, false, false, true, true, true])) (f166j3_eq Q n1) (block_eq (by kernel_rfl : (sub f166B [true, true, true, false, true, false, false, true, true, false]) = .block 3 (sub f166B [true, true, true, false, true, false, false, true, true, false, false])) (seq_eq (by kernel_rfl : (sub f166B [true, true, true, false, true, false, false, true, true, false, false]) = .seq (sub f166B [true, true, true, false, true, false, false, true, true, false, false, false]) (sub f166B [true, true, true, false, true, false, false, true, true, false, false, true])) (seq_eq (by kernel_rfl : (sub f166B [true, true, true, false, true, false, false, true, true, false, false, true]) = .seq (sub f166B [true, true, true, false, true, false, false, true, true, false, false, true, false]) (sub f166B [true, true, true, false, true, false, false, true, true, false, false, true, true])) (seq_eq (by kernel_rfl : (sub f166B [true, true, true, false, true, false, false, true, true, false, false, true, true]) = .seq (sub f166B [true, true, true, false, true, false, false, true, true, false, false, true, true, false]) (sub f166B [true, true, true, false, true, false, false, true, true, false, false, true, true, true])) (block_eq (by kernel_rfl : (sub f166B [true, true, true, false, true, false, false, true, true, false, false, true, true, true]) = .block 4 (sub f166B [true, true, true, false, true, false, false, true, true, false, false, true, true, true, false])) (f166l2_eq Q n1 _)) rfl) rfl) rfl))) rfl) rfl) (by kernel_rfl))
theorem f166j1_eq (Q : AV → St → Prop) : f166C (sub f166B [true, true]) (f166R Q) (fun _ _ _ => False) (f166R Q) = (fun g s => f166j1 Q (g 0) (g 1) s) :=
  Eq.trans (seq_eq (by kernel_rfl : (sub f166B [true, true]) = .seq (sub f166B [true, true, false]) (sub f166B [true, true, true])) (seq_eq (by kernel_rfl : (sub f166B [true, true, true]) = .seq (sub f166B [true, true, true, false]) (sub f166B [true, true, true, true])) (f166j2_eq Q) (seq_eq (by kernel_rfl : (sub f166B [true, true, true, false]) = .seq (sub f166B [true, true, true, false, false]) (sub f166B [true, true, true, false, true])) (block_eq (by kernel_rfl : (sub f166B [true, true, true, false, true]) = .block 2 (sub f166B [true, true, true, false, true, false])) (f166l1_eq Q _)) rfl)) rfl) (by kernel_rfl)
theorem f166j5_eq (Q : AV → St → Prop) (n3 : Nat) : f166C (sub f166B [true, false, true, false, false, true, true, true]) (fun g s => (fun (n : Nat) (g : Gf) (s : St) => f166l3 Q n (g 0) (g 1) (g 11) (g 12) (g 13) s) n3 (fun k => cond (bitOf (Tryz.env.kp 166) k) (g k) .undef) s) (fun i => cond (Nat.beq i 0) (fun g s => f166j1 Q (g 0) (g 1) s) ((fun _ _ _ => False) i)) (f166R Q) = (fun g s => f166j5 Q (f166l3 Q n3) (g 13) (g 0) (g 1) (g 11) (g 12) s) :=
  Eq.trans rfl (by kernel_rfl)
theorem f166l3_eq (Q : AV → St → Prop) (kN : Kt) : f166C (sub f166B [true, false, true, false]) kN (fun i => cond (Nat.beq i 0) (fun g s => f166j1 Q (g 0) (g 1) s) ((fun _ _ _ => False) i)) (f166R Q) = fun g s => ∃ n, (fun (n : Nat) (g : Gf) (s : St) => f166l3 Q n (g 0) (g 1) (g 11) (g 12) (g 13) s) n g s :=
  loop_eq (L := fun (n : Nat) (g : Gf) (s : St) => f166l3 Q n (g 0) (g 1) (g 11) (g 12) (g 13) s) (by kernel_rfl : (sub f166B [true, false, true, false]) = .loop (sub f166B [true, false, true, false, false])) (by kernel_rfl) (fun n3 => Eq.trans (seq_eq (by kernel_rfl : (sub f166B [true, false, true, false, false]) = .seq (sub f166B [true, false, true, false, false, false]) (sub f166B [true, false, true, false, false, true])) (seq_eq (by kernel_rfl : (sub f166B [true, false, true, false, false, true]) = .seq (sub f166B [true, false, true, false, false, true, false]) (sub f166B [true, false, true, false, false, true, true])) (seq_eq (by kernel_rfl : (sub f166B [true, false, true, false, false, true, true]) = .seq (sub f166B [true, false, true, false, false, true, true, false]) (sub f166B [true, false, true, false, false, true, true, true])) (f166j5_eq Q n3) (block_eq (by kernel_rfl : (sub f166B [true, false, true, false, false, true, true, false]) = .block 1 (sub f166B [true, false, true, false, false, true, true, false, false])) rfl)) rfl) rfl) (by kernel_rfl))
noncomputable def f166 (Q : AV → St → Prop) (t0 t1 : AV) (s : St) : Prop :=
  Bnd (bt .len #[25] [t0] (s.nx + 3) (adv s 5)) fun r12 =>
  ∃ n, f166l3 Q n t0 t1 t0 r12.1 (.int .i64 0) r12.2
theorem f166_run (t0 t1 : AV) (s : St) {Q : AV → St → Prop} (h : f166 Q t0 t1 s) : ∃ r s', WideC Tryz.env 166 [t0, t1] s r s' ∧ Q r s' :=
  wide_of (h := 166) (fn := Tryz.f166) (c := sub f166B []) (by kernel_rfl) (by kernel_rfl) (by kernel_rfl) (by kernel_rfl) (of_decide_eq_true (by kernel_rfl))
    (Eq.mp (Eq.trans (by kernel_rfl) (congrFun (congrFun (show f166C (sub f166B []) (f166R Q) (fun _ _ _ => False) (f166R Q) = _ from (seq_eq (by kernel_rfl : (sub f166B []) = .seq (sub f166B [false]) (sub f166B [true])) (seq_eq (by kernel_rfl : (sub f166B [true]) = .seq (sub f166B [true, false]) (sub f166B [true, true])) (f166j1_eq Q) (seq_eq (by kernel_rfl : (sub f166B [true, false]) = .seq (sub f166B [true, false, false]) (sub f166B [true, false, true])) (block_eq (by kernel_rfl : (sub f166B [true, false, true]) = .block 0 (sub f166B [true, false, true, false])) (f166l3_eq Q _)) rfl)) rfl)).symm (gt (frame Tryz.f166 [t0, t1]))) s)) h)
/-! 181 gudgeon/lit.point -/
noncomputable abbrev f181B : Code := bodyOf Tryz.f181
noncomputable abbrev f181R (Q : AV → St → Prop) : Kt := fun g s => RetP (result Tryz.ty Tryz.f181 g s) fun v => Q v s
noncomputable abbrev f181C : Code → Kt → (Nat → Kt) → Kt → Kt := codeP Tryz.env 181 (Tryz.env.kp 181)
noncomputable def f181 (Q : AV → St → Prop) (t0 : AV) (s : St) : Prop :=
  Bnd (bn .geq 3 t0 (.int .i64 0)) fun t4 =>
  Gd (wantV t4 true) (adv s 8) (fun k => k t0 (adv s 8)) fun t6 s1 =>
  Gd (wantV t4 true) s1 (fun k => Bnd (bn .leq 3 t6 (.int .i64 196607)) fun v => k v s1) fun t7 s2 =>
  Bnd (pickV t4 t7 (.bool false)) fun t8 =>
  Q t8 s2
theorem f181_run (t0 : AV) (s : St) {Q : AV → St → Prop} (h : f181 Q t0 s) : ∃ r s', WideC Tryz.env 181 [t0] s r s' ∧ Q r s' :=
  wide_of (h := 181) (fn := Tryz.f181) (c := sub f181B []) (by kernel_rfl) (by kernel_rfl) (by kernel_rfl) (by kernel_rfl) (of_decide_eq_true (by kernel_rfl))
    (Eq.mp (Eq.trans (by kernel_rfl) (congrFun (congrFun (show f181C (sub f181B []) (f181R Q) (fun _ _ _ => False) (f181R Q) = _ from rfl).symm (gt (frame Tryz.f181 [t0]))) s)) h)
end Go.Proofs.YtdehdahimkcakaaGreatDoor
