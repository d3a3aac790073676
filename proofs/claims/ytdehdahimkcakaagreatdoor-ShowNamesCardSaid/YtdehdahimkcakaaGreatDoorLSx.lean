/- PRINTED BY wip/tools/lift.py out of the translation: functions as statements, and that they are so. -/
import Derived.Test.YtdehdahimkcakaaGreatDoorWords
set_option linter.unusedVariables false
set_option maxRecDepth 1000000
namespace Go.Proofs.YtdehdahimkcakaaGreatDoor
open Go Ai
/-! 33 gudgeon/gudgeonref06.Size -/
noncomputable abbrev f33B : Code := bodyOf Tryz.f33
noncomputable abbrev f33R (Q : AV → St → Prop) : Kt := fun g s => RetP (result Tryz.ty Tryz.f33 g s) fun v => Q v s
noncomputable abbrev f33C : Code → Kt → (Nat → Kt) → Kt → Kt := codeP Tryz.env 33 (Tryz.env.kp 33)
noncomputable def f33j1 (Q : AV → St → Prop) (t3 : AV) (s : St) : Prop :=
  Q t3 (adv s 2)
noncomputable def f33j2 (Q : AV → St → Prop) (ih1 : AV → AV → AV → St → Prop) (t4 t1 t3 : AV) (s : St) : Prop :=
  Bnd (bn .add 3 t4 (.int .i64 1)) fun t15 =>
  ih1 t1 t3 t15 (adv s 3)
noncomputable def f33l1s (Q : AV → St → Prop) (ih1 : AV → AV → AV → St → Prop) (t1 t3 t4 : AV) (s : St) : Prop :=
  Bnd (shiftP 5 t1) fun t6 =>
  Bnd (ld 1 false t6 (adv s 9)) fun t7 =>
  Bnd (bt .len #[31] [t7] (s.nx + 3) (adv s 9)) fun r8 =>
  Bnd (bn .lss 3 t4 r8.1) fun t9 =>
  Gd (wantV t9 true) r8.2 (fun k => k t3 r8.2) fun t11 s1 =>
  Gd (wantV t9 true) s1 (fun k => Bnd (bn .leq 3 t11 (.int .i64 5000)) fun v => k v s1) fun t12 s2 =>
  Bnd (pickV t9 t12 (.bool false)) fun t13 =>
  IfP t13
  (Bnd (shiftP 5 t1) fun t17 =>
  Bnd (ld 1 false t17 (adv s2 9)) fun t18 =>
  Bnd (ixS 6 t18 t4) fun t20 =>
  Bnd (ld 6 true t20 (adv s2 9)) fun t21 =>
  CallPu Tryz.env 33 [t21] (adv s2 9) fun t22 s3 =>
  Bnd (bn .add 3 t3 t22) fun t23 =>
  f33j2 Q ih1 t4 t1 t23 s3)
  (f33j1 Q t3 s2)
noncomputable def f33l1 (Q : AV → St → Prop) (n : Nat) : AV → AV → AV → St → Prop := Nat.rec (motive := fun _ => AV → AV → AV → St → Prop) (fun _ _ _ _ => False) (fun _ ih => f33l1s Q ih) n
theorem f33j1_eq (Q : AV → St → Prop) : f33C (sub f33B [true, true, true]) (f33R Q) (fun _ _ _ => False) (f33R Q) = (fun g s => f33j1 Q (g 3) s) :=
  Eq.trans rfl (by kernel_rfl)
theorem f33j2_eq (Q : AV → St → Prop) (n1 : Nat) : f33C (sub f33B [true, true, false, true, false, false, true, true]) (fun g s => (fun (n : Nat) (g : Gf) (s : St) => f33l1 Q n (g 1) (g 3) (g 4) s) n1 (fun k => cond (bitOf (Tryz.env.kp 33) k) (g k) .undef) s) (fun i => cond (Nat.beq i 0) (fun g s => f33j1 Q (g 3) s) ((fun _ _ _ => False) i)) (f33R Q) = (fun g s => f33j2 Q (f33l1 Q n1) (g 4) (g 1) (g 3) s) :=
  Eq.trans rfl (by kernel_rfl)
theorem f33l1_eq (Q : AV → St → Prop) (kN : Kt) : f33C (sub f33B [true, true, false, true, false]) kN (fun i => cond (Nat.beq i 0) (fun g s => f33j1 Q (g 3) s) ((fun _ _ _ => False) i)) (f33R Q) = fun g s => ∃ n, (fun (n : Nat) (g : Gf) (s : St) => f33l1 Q n (g 1) (g 3) (g 4) s) n g s :=
  loop_eq (L := fun (n : Nat) (g : Gf) (s : St) => f33l1 Q n (g 1) (g 3) (g 4) s) (by kernel_rfl : (sub f33B [true, true, false, true, false]) = .loop (sub f33B [true, true, false, true, false, false])) (by kernel_rfl) (fun n1 => Eq.trans (seq_eq (by kernel_rfl : (sub f33B [true, true, false, true, false, false]) = .seq (sub f33B [true, true, false, true, false, false, false]) (sub f33B [true, true, false, true, false, false, true])) (seq_eq (by kernel_rfl : (sub f33B [true, true, false, true, false, false, true]) = .seq (sub f33B [true, true, false, true, false, false, true, false]) (sub f33B [true, true, false, true, false, false, true, true])) (f33j2_eq Q n1) (block_eq (by kernel_rfl : (sub f33B [true, true, false, true, false, false, true, false]) = .block 1 (sub f33B [true, true, false, true, false, false, true, false, false])) rfl)) rfl) (by kernel_rfl))
noncomputable def f33 (Q : AV → St → Prop) (t0 : AV) (s : St) : Prop :=
  (t0.cells.all AV.one = true ∧
  ∃ n, f33l1 Q n (.ptr s.nx 0) (.int .i64 1) (.int .i64 0) (adv ((adv s 2).set s.nx (some (.cells t0.cells 33 true true))) 2))
theorem f33_run (t0 : AV) (s : St) {Q : AV → St → Prop} (h : f33 Q t0 s) : ∃ r s', WideC Tryz.env 33 [t0] s r s' ∧ Q r s' :=
  wide_of (h := 33) (fn := Tryz.f33) (c := sub f33B []) (by kernel_rfl) (by kernel_rfl) (by kernel_rfl) (by kernel_rfl) (of_decide_eq_true (by kernel_rfl))
    (Eq.mp (Eq.trans (by kernel_rfl) (congrFun (congrFun (show f33C (sub f33B []) (f33R Q) (fun _ _ _ => False) (f33R Q) = _ from (seq_eq (by kernel_rfl : (sub f33B []) = .seq (sub f33B [false]) (sub f33B [true])) (seq_eq (by kernel_rfl : (sub f33B [true]) = .seq (sub f33B [true, false]) (sub f33B [true, true])) (seq_eq (by kernel_rfl : (sub f33B [true, true]) = .seq (sub f33B [true, true, false]) (sub f33B [true, true, true])) (f33j1_eq Q) (seq_eq (by kernel_rfl : (sub f33B [true, true, false]) = .seq (sub f33B [true, true, false, false]) (sub f33B [true, true, false, true])) (block_eq (by kernel_rfl : (sub f33B [true, true, false, true]) = .block 0 (sub f33B [true, true, false, true, false])) (f33l1_eq Q _)) rfl)) rfl) rfl)).symm (gt (frame Tryz.f33 [t0]))) s)) h)
/-! 74 gudgeon/gudgeonref06.Depth -/
noncomputable abbrev f74B : Code := bodyOf Tryz.f74
noncomputable abbrev f74R (Q : AV → St → Prop) : Kt := fun g s => RetP (result Tryz.ty Tryz.f74 g s) fun v => Q v s
noncomputable abbrev f74C : Code → Kt → (Nat → Kt) → Kt → Kt := codeP Tryz.env 74 (Tryz.env.kp 74)
noncomputable def f74 (Q : AV → St → Prop) (t0 : AV) (s : St) : Prop :=
  (t0.cells.all AV.one = true ∧
  Bnd (ld 6 true (.ptr s.nx 0) (adv ((adv s 2).set s.nx (some (.cells t0.cells 33 true true))) 3)) fun t3 =>
  CallPu Tryz.env 125 [t3, (.int .i64 65)] (adv ((adv s 2).set s.nx (some (.cells t0.cells 33 true true))) 3) fun t4 s1 =>
  Q t4 s1)
theorem f74_run (t0 : AV) (s : St) {Q : AV → St → Prop} (h : f74 Q t0 s) : ∃ r s', WideC Tryz.env 74 [t0] s r s' ∧ Q r s' :=
  wide_of (h := 74) (fn := Tryz.f74) (c := sub f74B []) (by kernel_rfl) (by kernel_rfl) (by kernel_rfl) (by kernel_rfl) (of_decide_eq_true (by kernel_rfl))
    (Eq.mp (Eq.trans (by kernel_rfl) (congrFun (congrFun (show f74C (sub f74B []) (f74R Q) (fun _ _ _ => False) (f74R Q) = _ from rfl).symm (gt (frame Tryz.f74 [t0]))) s)) h)
/-! 125 gudgeon/gudgeonref06.depth -/
noncomputable abbrev f125B : Code := bodyOf Tryz.f125
noncomputable abbrev f125R (Q : AV → St → Prop) : Kt := fun g s => RetP (result Tryz.ty Tryz.f125 g s) fun v => Q v s
noncomputable abbrev f125C : Code → Kt → (Nat → Kt) → Kt → Kt := codeP Tryz.env 125 (Tryz.env.kp 125)
noncomputable def f125j1 (Q : AV → St → Prop) (t5 : AV) (s : St) : Prop :=
  Bnd (bn .add 3 t5 (.int .i64 1)) fun t35 =>
  Q t35 (adv s 3)
noncomputable def f125j2 (Q : AV → St → Prop) (ih1 : AV → AV → AV → AV → St → Prop) (t6 t1 t2 t5 : AV) (s : St) : Prop :=
  Bnd (bn .add 3 t6 (.int .i64 1)) fun t21 =>
  ih1 t1 t2 t5 t21 (adv s 3)
noncomputable def f125l1s (Q : AV → St → Prop) (ih1 : AV → AV → AV → AV → St → Prop) (t1 t2 t5 t6 : AV) (s : St) : Prop :=
  Bnd (shiftP 5 t2) fun t16 =>
  Bnd (ld 1 false t16 (adv s 5)) fun t17 =>
  Bnd (bt .len #[31] [t17] (s.nx + 3) (adv s 5)) fun r18 =>
  Bnd (bn .lss 3 t6 r18.1) fun t19 =>
  IfP t19
  (Bnd (shiftP 5 t2) fun t22 =>
  Bnd (ld 1 false t22 (adv r18.2 9)) fun t23 =>
  Bnd (ixS 6 t23 t6) fun t25 =>
  Bnd (ld 6 true t25 (adv r18.2 9)) fun t26 =>
  Bnd (bn .sub 3 t1 (.int .i64 1)) fun t28 =>
  CallPu Tryz.env 125 [t26, t28] (adv r18.2 9) fun t29 s1 =>
  Bnd (bn .gtr 3 t29 t5) fun t32 =>
  IfP t32
  (f125j2 Q ih1 t6 t1 t2 t29 (adv s1 5))
  (f125j2 Q ih1 t6 t1 t2 t5 (adv s1 3)))
  (f125j1 Q t5 r18.2)
noncomputable def f125l1 (Q : AV → St → Prop) (n : Nat) : AV → AV → AV → AV → St → Prop := Nat.rec (motive := fun _ => AV → AV → AV → AV → St → Prop) (fun _ _ _ _ _ => False) (fun _ ih => f125l1s Q ih) n
theorem f125j1_eq (Q : AV → St → Prop) : f125C (sub f125B [true, true, true, true]) (f125R Q) (fun _ _ _ => False) (f125R Q) = (fun g s => f125j1 Q (g 5) s) :=
  Eq.trans rfl (by kernel_rfl)
theorem f125j2_eq (Q : AV → St → Prop) (n1 : Nat) : f125C (sub f125B [true, true, true, false, true, false, false, true, true]) (fun g s => (fun (n : Nat) (g : Gf) (s : St) => f125l1 Q n (g 1) (g 2) (g 5) (g 6) s) n1 (fun k => cond (bitOf (Tryz.env.kp 125) k) (g k) .undef) s) (fun i => cond (Nat.beq i 0) (fun g s => f125j1 Q (g 5) s) ((fun _ _ _ => False) i)) (f125R Q) = (fun g s => f125j2 Q (f125l1 Q n1) (g 6) (g 1) (g 2) (g 5) s) :=
  Eq.trans rfl (by kernel_rfl)
theorem f125l1_eq (Q : AV → St → Prop) (kN : Kt) : f125C (sub f125B [true, true, true, false, true, false]) kN (fun i => cond (Nat.beq i 0) (fun g s => f125j1 Q (g 5) s) ((fun _ _ _ => False) i)) (f125R Q) = fun g s => ∃ n, (fun (n : Nat) (g : Gf) (s : St) => f125l1 Q n (g 1) (g 2) (g 5) (g 6) s) n g s :=
  loop_eq (L := fun (n : Nat) (g : Gf) (s : St) => f125l1 Q n (g 1) (g 2) (g 5) (g 6) s) (by kernel_rfl : (sub f125B [true, true, true, false, true, false]) = .loop (sub f125B [true, true, true, false, true, false, false])) (by kernel_rfl) (fun n1 => Eq.trans (seq_eq (by kernel_rfl : (sub f125B [true, true, true, false, true, false, false]) = .seq (sub f125B [true, true, true, false, true, false, false, false]) (sub f125B [true, true, true, false, true, false, false, true])) (seq_eq (by kernel_rfl : (sub f125B [true, true, true, false, true, false, false, true]) = .seq (sub f125B [true, true, true, false, true, false, false, true, false]) (sub f125B [true, true, true, false, true, false, false, true, true])) (f125j2_eq Q n1) (block_eq (by kernel_rfl : (sub f125B [true, true, true, false, true, false, false, true, false]) = .block 1 (sub f125B [true, true, true, false, true, false, false, true, false, false])) rfl)) rfl) (by kernel_rfl))
noncomputable def f125 (Q : AV → St → Prop) (t0 t1 : AV) (s : St) : Prop :=
  (t0.cells.all AV.one = true ∧
  Bnd (shiftP 0 (.ptr s.nx 0)) fun t8 =>
  Bnd (ld 1 false t8 (adv ((adv s 2).set s.nx (some (.cells t0.cells 33 true true))) 7)) fun t9 =>
  Bnd (un .not t9) fun t10 =>
  Gd (wantV t10 false) (adv ((adv s 2).set s.nx (some (.cells t0.cells 33 true true))) 7) (fun k => k t1 (adv ((adv s 2).set s.nx (some (.cells t0.cells 33 true true))) 7)) fun t12 s1 =>
  Gd (wantV t10 false) s1 (fun k => Bnd (bn .eql 3 t12 (.int .i64 0)) fun v => k v s1) fun t13 s2 =>
  Bnd (pickV t10 (.bool true) t13) fun t14 =>
  IfP t14
  (Q (.int .i64 0) (adv s2 1))
  (∃ n, f125l1 Q n t1 (.ptr s.nx 0) (.int .i64 0) (.int .i64 0) (adv s2 2)))
theorem f125_run (t0 t1 : AV) (s : St) {Q : AV → St → Prop} (h : f125 Q t0 t1 s) : ∃ r s', WideC Tryz.env 125 [t0, t1] s r s' ∧ Q r s' :=
  wide_of (h := 125) (fn := Tryz.f125) (c := sub f125B []) (by kernel_rfl) (by kernel_rfl) (by kernel_rfl) (by kernel_rfl) (of_decide_eq_true (by kernel_rfl))
    (Eq.mp (Eq.trans (by kernel_rfl) (congrFun (congrFun (show f125C (sub f125B []) (f125R Q) (fun _ _ _ => False) (f125R Q) = _ from (seq_eq (by kernel_rfl : (sub f125B []) = .seq (sub f125B [false]) (sub f125B [true])) (seq_eq (by kernel_rfl : (sub f125B [true]) = .seq (sub f125B [true, false]) (sub f125B [true, true])) (seq_eq (by kernel_rfl : (sub f125B [true, true]) = .seq (sub f125B [true, true, false]) (sub f125B [true, true, true])) (seq_eq (by kernel_rfl : (sub f125B [true, true, true]) = .seq (sub f125B [true, true, true, false]) (sub f125B [true, true, true, true])) (f125j1_eq Q) (seq_eq (by kernel_rfl : (sub f125B [true, true, true, false]) = .seq (sub f125B [true, true, true, false, false]) (sub f125B [true, true, true, false, true])) (block_eq (by kernel_rfl : (sub f125B [true, true, true, false, true]) = .block 0 (sub f125B [true, true, true, false, true, false])) (f125l1_eq Q _)) rfl)) rfl) rfl) rfl)).symm (gt (frame Tryz.f125 [t0, t1]))) s)) h)
/-! 29 gudgeon/gudgeonlaw10.few -/
noncomputable abbrev f29B : Code := bodyOf Tryz.f29
noncomputable abbrev f29R (Q : AV → St → Prop) : Kt := fun g s => RetP (result Tryz.ty Tryz.f29 g s) fun v => Q v s
noncomputable abbrev f29C : Code → Kt → (Nat → Kt) → Kt → Kt := codeP Tryz.env 29 (Tryz.env.kp 29)
noncomputable def f29j1 (Q : AV → St → Prop) (s : St) : Prop :=
  Q (.bool true) (adv s 1)
noncomputable def f29j2 (Q : AV → St → Prop) (ih1 : AV → AV → AV → AV → St → Prop) (t7 t0 t5 t6 : AV) (s : St) : Prop :=
  Bnd (bn .add 3 t7 (.int .i64 1)) fun t26 =>
  ih1 t0 t5 t6 t26 (adv s 3)
noncomputable def f29j3 (Q : AV → St → Prop) (ih1 : AV → AV → AV → AV → St → Prop) (t0 t7 t5 t6 : AV) (s : St) : Prop :=
  Bnd (ixS 10 t0 t7) fun t44 =>
  Bnd (shiftP 3 t44) fun t45 =>
  Bnd (ld 1 false t45 (adv s 24)) fun t46 =>
  Bnd (bt .len #[65] [t46] (s.nx + 5) (adv s 24)) fun r47 =>
  Bnd (bn .gtr 3 r47.1 (.int .i64 3)) fun t48 =>
  Gd (wantV t48 false) r47.2 (fun k => k t0 r47.2) fun t50 s1 =>
  Gd (wantV t48 false) s1 (fun k => k t7 s1) fun t51 s2 =>
  Gd (wantV t48 false) s2 (fun k => Bnd (ixS 10 t50 t51) fun v => k v s2) fun t52 s3 =>
  Gd (wantV t48 false) s3 (fun k => Bnd (shiftP 4 t52) fun v => k v s3) fun t53 s4 =>
  Gd (wantV t48 false) s4 (fun k => Bnd (ld 6 true t53 s4) fun v => k v s4) fun t54 s5 =>
  Gd (wantV t48 false) s5 (fun k => CallPu Tryz.env 74 [t54] s5 k) fun t55 s6 =>
  Gd (wantV t48 false) s6 (fun k => Bnd (bn .gtr 3 t55 (.int .i64 64)) fun v => k v s6) fun t56 s7 =>
  Bnd (pickV t48 (.bool true) t56) fun t57 =>
  Gd (wantV t57 false) s7 (fun k => k t5 s7) fun t59 s8 =>
  Gd (wantV t57 false) s8 (fun k => Bnd (bn .gtr 3 t59 (.int .i64 600)) fun v => k v s8) fun t60 s9 =>
  Bnd (pickV t57 (.bool true) t60) fun t61 =>
  Gd (wantV t61 false) s9 (fun k => k t6 s9) fun t63 s10 =>
  Gd (wantV t61 false) s10 (fun k => Bnd (bn .gtr 3 t63 (.int .i64 8)) fun v => k v s10) fun t64 s11 =>
  Bnd (pickV t61 (.bool true) t64) fun t65 =>
  IfP t65
  (Q (.bool false) (adv s11 1))
  (f29j2 Q ih1 t7 t0 t5 t6 s11)
noncomputable def f29l1s (Q : AV → St → Prop) (ih1 : AV → AV → AV → AV → St → Prop) (t0 t5 t6 t7 : AV) (s : St) : Prop :=
  Bnd (bt .len #[49] [t0] (s.nx + 2) (adv s 4)) fun r23 =>
  Bnd (bn .lss 3 t7 r23.1) fun t24 =>
  IfP t24
  (Bnd (ixS 10 t0 t7) fun t30 =>
  Bnd (shiftP 4 t30) fun t31 =>
  Bnd (ld 6 true t31 (adv r23.2 9)) fun t32 =>
  CallPu Tryz.env 33 [t32] (adv r23.2 9) fun t33 s1 =>
  Bnd (bn .add 3 t5 t33) fun t34 =>
  Bnd (ixS 10 t0 t7) fun t37 =>
  Bnd (shiftP 2 t37) fun t38 =>
  Bnd (ld 1 false t38 (adv s1 5)) fun t39 =>
  IfP t39
  (Bnd (bn .add 3 t6 (.int .i64 1)) fun t41 =>
  f29j3 Q ih1 t0 t7 t34 t41 (adv s1 8))
  (f29j3 Q ih1 t0 t7 t34 t6 (adv s1 5)))
  (f29j1 Q r23.2)
noncomputable def f29l1 (Q : AV → St → Prop) (n : Nat) : AV → AV → AV → AV → St → Prop := Nat.rec (motive := fun _ => AV → AV → AV → AV → St → Prop) (fun _ _ _ _ _ => False) (fun _ ih => f29l1s Q ih) n
theorem f29j1_eq (Q : AV → St → Prop) : f29C (sub f29B [true, true, true, true, true]) (f29R Q) (fun _ _ _ => False) (f29R Q) = (fun g s => f29j1 Q s) :=
  Eq.trans rfl (by kernel_rfl)
theorem f29j2_eq (Q : AV → St → Prop) (n1 : Nat) : f29C (sub f29B [true, true, true, true, false, true, false, false, true, true]) (fun g s => (fun (n : Nat) (g : Gf) (s : St) => f29l1 Q n (g 0) (g 5) (g 6) (g 7) s) n1 (fun k => cond (bitOf (Tryz.env.kp 29) k) (g k) .undef) s) (fun i => cond (Nat.beq i 0) (fun g s => f29j1 Q s) ((fun _ _ _ => False) i)) (f29R Q) = (fun g s => f29j2 Q (f29l1 Q n1) (g 7) (g 0) (g 5) (g 6) s) :=
  Eq.trans rfl (by kernel_rfl)
theorem f29j3_eq (Q : AV → St → Prop) (n1 : Nat) : f29C (sub f29B [true, true, true, true, false, true, false, false, true, false, false, true, true]) (fun g s => f29j2 Q (f29l1 Q n1) (g 7) (g 0) (g 5) (g 6) s) (fun i => cond (Nat.beq i 1) (fun g s => f29j2 Q (f29l1 Q n1) (g 7) (g 0) (g 5) (g 6) s) ((fun i => cond (Nat.beq i 0) (fun g s => f29j1 Q s) ((fun _ _ _ => False) i)) i)) (f29R Q) = (fun g s => f29j3 Q (f29l1 Q n1) (g 0) (g 7) (g 5) (g 6) s) :=
  Eq.trans rfl (by kernel_rfl)
theorem f29l1_eq (Q : AV → St → Prop) (kN : Kt) : f29C (sub f29B [true, true, true, true, false, true, false]) kN (fun i => cond (Nat.beq i 0) (fun g s => f29j1 Q s) ((fun _ _ _ => False) i)) (f29R Q) = fun g s => ∃ n, (fun (n : Nat) (g : Gf) (s : St) => f29l1 Q n (g 0) (g 5) (g 6) (g 7) s) n g s :=
  loop_eq (L := fun (n : Nat) (g : Gf) (s : St) => f29l1 Q n (g 0) (g 5) (g 6) (g 7) s) (by kernel_rfl : (sub f29B [true, true, true, true, false, true, false]) = .loop (sub f29B [true, true, true, true, false, true, false, false])) (by kernel_rfl) (fun n1 => Eq.trans (seq_eq (by kernel_rfl : (sub f29B [true, true, true, true, false, true, false, false]) = .seq (sub f29B [true, true, true, true, false, true, false, false, false]) (sub f29B [true, true, true, true, false, true, false, false, true])) (seq_eq (by kernel_rfl : (sub f29B [true, true, true, true, false, true, false, false, true]) = .seq (sub f29B [true, true, true, true, false, true, false, false, true, false]) (sub f29B [true, true, true, true, false, true, false, false, true, true])) (f29j2_eq Q n1) (block_eq (by kernel_rfl : (sub f29B [true, true, true, true, false, true, false, false, true, false]) = .block 1 (sub f29B [true, true, true, true, false, true, false, false, true, false, false])) (seq_eq (by kernel_rfl : (sub f29B [true, true, true, true, false, true, false, false, true, false, false]) = .seq (sub f29B [true, true, true, true, false, true, false, false, true, false, false, false]) (sub f29B [true, true, true, true, false, true, false, false, true, false, false, true])) (seq_eq (by kernel_rfl : (sub f29B [true, true, true, true, false, true, false, false, true, false, false, true]) = .seq (sub f29B [true, true, true, true, false, true, false, false, true, false, false, true, false]) (sub f29B [true, true, true, true, false, true, false, false, true, false, false, true, true])) (f29j3_eq Q n1) rfl) rfl))) rfl) (by kernel_rfl))
noncomputable def f29 (Q : AV → St → Prop) (t0 t1 : AV) (s : St) : Prop :=
  (t1.cells.all AV.one = true ∧
  Bnd (bt .len #[49] [t0] (((adv s 2).set s.nx (some (.cells t1.cells 33 true true))).nx + 1) (adv ((adv s 2).set s.nx (some (.cells t1.cells 33 true true))) 13)) fun r9 =>
  Bnd (bn .gtr 3 r9.1 (.int .i64 60)) fun t10 =>
  Gd (wantV t10 false) r9.2 (fun k => Bnd (ld 6 true (.ptr s.nx 0) r9.2) fun v => k v r9.2) fun t12 s1 =>
  Gd (wantV t10 false) s1 (fun k => CallPu Tryz.env 33 [t12] s1 k) fun t13 s2 =>
  Gd (wantV t10 false) s2 (fun k => Bnd (bn .gtr 3 t13 (.int .i64 600)) fun v => k v s2) fun t14 s3 =>
  Bnd (pickV t10 (.bool true) t14) fun t15 =>
  Gd (wantV t15 false) s3 (fun k => Bnd (ld 6 true (.ptr s.nx 0) s3) fun v => k v s3) fun t17 s4 =>
  Gd (wantV t15 false) s4 (fun k => CallPu Tryz.env 74 [t17] s4 k) fun t18 s5 =>
  Gd (wantV t15 false) s5 (fun k => Bnd (bn .gtr 3 t18 (.int .i64 64)) fun v => k v s5) fun t19 s6 =>
  Bnd (pickV t15 (.bool true) t19) fun t20 =>
  IfP t20
  (Q (.bool false) (adv s6 1))
  (∃ n, f29l1 Q n t0 (.int .i64 0) (.int .i64 0) (.int .i64 0) (adv s6 3)))
theorem f29_run (t0 t1 : AV) (s : St) {Q : AV → St → Prop} (h : f29 Q t0 t1 s) : ∃ r s', WideC Tryz.env 29 [t0, t1] s r s' ∧ Q r s' :=
  wide_of (h := 29) (fn := Tryz.f29) (c := sub f29B []) (by kernel_rfl) (by kernel_rfl) (by kernel_rfl) (by kernel_rfl) (of_decide_eq_true (by kernel_rfl))
    (Eq.mp (Eq.trans (by kernel_rfl) (congrFun (congrFun (show f29C (sub f29B []) (f29R Q) (fun _ _ _ => False) (f29R Q) = _ from (seq_eq (by kernel_rfl : (sub f29B []) = .seq (sub f29B [false]) (sub f29B [true])) (seq_eq (by kernel_rfl : (sub f29B [true]) = .seq (sub f29B [true, false]) (sub f29B [true, true])) (seq_eq (by kernel_rfl : (sub f29B [true, true]) = .seq (sub f29B [true, true, false]) (sub f29B [true, true, true])) (seq_eq (by kernel_rfl : (sub f29B [true, true, true]) = .seq (sub f29B [true, true, true, false]) (sub f29B [true, true, true, true])) (seq_eq (by kernel_rfl : (sub f29B [true, true, true, true]) = .seq (sub f29B [true, true, true, true, false]) (sub f29B [true, true, true, true, true])) (f29j1_eq Q) (seq_eq (by kernel_rfl : (sub f29B [true, true, true, true, false]) = .seq (sub f29B [true, true, true, true, false, false]) (sub f29B [true, true, true, true, false, true])) (block_eq (by kernel_rfl : (sub f29B [true, true, true, true, false, true]) = .block 0 (sub f29B [true, true, true, true, false, true, false])) (f29l1_eq Q _)) rfl)) rfl) rfl) rfl) rfl)).symm (gt (frame Tryz.f29 [t0, t1]))) s)) h)
/-! 93 gudgeon/gudgeonlaw10.Great -/
noncomputable abbrev f93B : Code := bodyOf Tryz.f93
noncomputable abbrev f93R (Q : AV → St → Prop) : Kt := fun g s => RetP (result Tryz.ty Tryz.f93 g s) fun v => Q v s
noncomputable abbrev f93C : Code → Kt → (Nat → Kt) → Kt → Kt := codeP Tryz.env 93 (Tryz.env.kp 93)
noncomputable def f93 (Q : AV → St → Prop) (t0 t1 : AV) (s : St) : Prop :=
  (t1.cells.all AV.one = true ∧
  Bnd (ld 6 true (.ptr s.nx 0) (adv ((adv s 2).set s.nx (some (.cells t1.cells 33 true true))) 4)) fun t7 =>
  CallPu Tryz.env 29 [t0, t7] (adv ((adv s 2).set s.nx (some (.cells t1.cells 33 true true))) 4) fun t8 s1 =>
  IfP t8
  (Q (.int .i64 0) (adv s1 2))
  (Q (.int .i64 1) (adv s1 2)))
theorem f93_run (t0 t1 : AV) (s : St) {Q : AV → St → Prop} (h : f93 Q t0 t1 s) : ∃ r s', WideC Tryz.env 93 [t0, t1] s r s' ∧ Q r s' :=
  wide_of (h := 93) (fn := Tryz.f93) (c := sub f93B []) (by kernel_rfl) (by kernel_rfl) (by kernel_rfl) (by kernel_rfl) (of_decide_eq_true (by kernel_rfl))
    (Eq.mp (Eq.trans (by kernel_rfl) (congrFun (congrFun (show f93C (sub f93B []) (f93R Q) (fun _ _ _ => False) (f93R Q) = _ from rfl).symm (gt (frame Tryz.f93 [t0, t1]))) s)) h)
end Go.Proofs.YtdehdahimkcakaaGreatDoor
