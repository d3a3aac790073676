/- PRINTED BY wip/tools/lift.py out of the translation: functions as statements, and that they are so. -/
import Derived.Test.YtdehdahimkcakaaGreatDoorWords
set_option linter.unusedVariables false
namespace Go.Proofs.YtdehdahimkcakaaGreatDoor
open Go Ai
/-! 14 gudgeon/gudgeonlaw23.StackNone -/
noncomputable abbrev f14B : Code := bodyOf Tryz.f14
noncomputable abbrev f14R (Q : AV → St → Prop) : Kt := fun g s => RetP (result Tryz.ty Tryz.f14 g s) fun v => Q v s
noncomputable abbrev f14C : Code → Kt → (Nat → Kt) → Kt → Kt := codeP Tryz.env 14 (Tryz.env.kp 14)
noncomputable def f14 (Q : AV → St → Prop) (t0 : AV) (s : St) : Prop :=
  (t0.cells.all AV.one = true ∧
  CallPu Tryz.env 42 [] (adv ((adv s 2).set s.nx (some (.cells t0.cells 93 true true))) 2) fun t8 s1 =>
  Bnd (ld 18 true (.ptr s.nx 0) (adv s1 4)) fun t9 =>
  Bnd (bsl 79 1 [(0, t9)]) fun t10 =>
  CallPu Tryz.env 43 [t10] (adv s1 4) fun t11 s2 =>
  Bnd (un .not t8) fun t13 =>
  Gd (wantV t13 false) (adv s2 6) (fun k => k t11 (adv s2 6)) fun t15 s3 =>
  Gd (wantV t13 false) s3 (fun k => Bnd (un .not t15) fun v => k v s3) fun t16 s4 =>
  Bnd (pickV t13 (.bool true) t16) fun t17 =>
  IfP t17
  (Q t8 (adv s4 2))
  (Bnd (bld 58 []) fun t21 =>
  (t21.cells.all AV.one = true ∧
  CallWi Tryz.env 52 [.nilp, (.ptr (s4.nx + 3) 0)] ((adv s4 10).set (s4.nx + 3) (some (.cells t21.cells 58 true true))) fun t23 s5 =>
  Bnd (extr t23 0) fun t24 =>
  Bnd (extr t23 1) fun t25 =>
  Bnd (ld 18 true (.ptr s.nx 0) (adv s5 31)) fun t27 =>
  CallWi Tryz.env 47 [.nilp, t27] (adv s5 31) fun t28 s6 =>
  Bnd (bn .eql 34 t28 (.int .i64 1)) fun t29 =>
  Gd (wantV t29 true) s6 (fun k => k .nilp s6) fun t31 s7 =>
  Gd (wantV t29 true) s7 (fun k => CallWi Tryz.env 44 [t31] s7 k) fun t32 s8 =>
  Gd (wantV t29 true) s8 (fun k => Bnd (bt .len #[49] [t32] (s5.nx + 7) s8) fun r => k r.1 r.2) fun t33 s9 =>
  Gd (wantV t29 true) s9 (fun k => Bnd (bn .eql 3 t33 (.int .i64 0)) fun v => k v s9) fun t34 s10 =>
  Bnd (pickV t29 t34 (.bool false)) fun t35 =>
  Gd (wantV t35 true) s10 (fun k => k .nilp s10) fun t37 s11 =>
  Gd (wantV t35 true) s11 (fun k => CallWi Tryz.env 45 [t37] s11 k) fun t38 s12 =>
  Gd (wantV t35 true) s12 (fun k => Bnd (bt .len #[31] [t38] (s5.nx + 13) s12) fun r => k r.1 r.2) fun t39 s13 =>
  Gd (wantV t35 true) s13 (fun k => Bnd (bn .eql 3 t39 (.int .i64 0)) fun v => k v s13) fun t40 s14 =>
  Bnd (pickV t35 t40 (.bool false)) fun t41 =>
  Gd (wantV t41 true) s14 (fun k => k .nilp s14) fun t43 s15 =>
  Gd (wantV t41 true) s15 (fun k => CallWi Tryz.env 46 [t43] s15 k) fun t44 s16 =>
  Gd (wantV t41 true) s16 (fun k => Bnd (bn .eql 3 t44 (.int .i64 0)) fun v => k v s16) fun t45 s17 =>
  Bnd (pickV t41 t45 (.bool false)) fun t46 =>
  Gd (wantV t46 true) s17 (fun k => k t24 s17) fun t48 s18 =>
  Gd (wantV t46 true) s18 (fun k => Bnd (bt .len #[72] [t48] (s5.nx + 23) s18) fun r => k r.1 r.2) fun t49 s19 =>
  Gd (wantV t46 true) s19 (fun k => Bnd (bn .eql 3 t49 (.int .i64 0)) fun v => k v s19) fun t50 s20 =>
  Bnd (pickV t46 t50 (.bool false)) fun t51 =>
  Gd (wantV t51 true) s20 (fun k => k t25 s20) fun t53 s21 =>
  Gd (wantV t51 true) s21 (fun k => Bnd (bn .eql 34 t53 (.int .i64 0)) fun v => k v s21) fun t54 s22 =>
  Bnd (pickV t51 t54 (.bool false)) fun t55 =>
  Q t55 s22)))
theorem f14_run (t0 : AV) (s : St) {Q : AV → St → Prop} (h : f14 Q t0 s) : ∃ r s', WideC Tryz.env 14 [t0] s r s' ∧ Q r s' :=
  wide_of (h := 14) (fn := Tryz.f14) (c := sub f14B []) (by kernel_rfl) (by kernel_rfl) (by kernel_rfl) (by kernel_rfl) (of_decide_eq_true (by kernel_rfl))
    (Eq.mp (Eq.trans (by kernel_rfl) (congrFun (congrFun (show f14C (sub f14B []) (f14R Q) (fun _ _ _ => False) (f14R Q) = _ from rfl).symm (gt (frame Tryz.f14 [t0]))) s)) h)
/-! 47 gudgeon/gudgeonlaw23.does -/
noncomputable abbrev f47B : Code := bodyOf Tryz.f47
noncomputable abbrev f47R (Q : AV → St → Prop) : Kt := fun g s => RetP (result Tryz.ty Tryz.f47 g s) fun v => Q v s
noncomputable abbrev f47C : Code → Kt → (Nat → Kt) → Kt → Kt := codeP Tryz.env 47 (Tryz.env.kp 47)
noncomputable def f47j1 (Q : AV → St → Prop) (t0 t3 : AV) (s : St) : Prop :=
  Bnd (shiftP 1 t3) fun t36 =>
  Bnd (ld 1 false t36 (adv s 5)) fun t37 =>
  CallWi Tryz.env 51 [t0, t37] (adv s 5) fun t38 s1 =>
  Q t38 s1
theorem f47j1_eq (Q : AV → St → Prop) : f47C (sub f47B [true, true]) (f47R Q) (fun _ _ _ => False) (f47R Q) = (fun g s => f47j1 Q (g 0) (g 3) s) :=
  Eq.trans rfl (by kernel_rfl)
noncomputable def f47 (Q : AV → St → Prop) (t0 t1 : AV) (s : St) : Prop :=
  (t1.cells.all AV.one = true ∧
  Bnd (shiftP 0 (.ptr s.nx 0)) fun t5 =>
  Bnd (ld 1 false t5 (adv ((adv s 2).set s.nx (some (.cells t1.cells 93 true true))) 2)) fun t6 =>
  Bnd (bn .eql 3 t6 (.int .i64 0)) fun t8 =>
  IfP t8
  (Bnd (shiftP 2 (.ptr s.nx 0)) fun t10 =>
  Bnd (shiftP 0 t10) fun t11 =>
  Bnd (ld 1 false t11 (adv ((adv s 2).set s.nx (some (.cells t1.cells 93 true true))) 13)) fun t12 =>
  Bnd (shiftP 2 (.ptr s.nx 0)) fun t13 =>
  Bnd (shiftP 1 t13) fun t14 =>
  Bnd (ld 1 false t14 (adv ((adv s 2).set s.nx (some (.cells t1.cells 93 true true))) 13)) fun t15 =>
  CallWi Tryz.env 91 [t0, t12, t15] (adv ((adv s 2).set s.nx (some (.cells t1.cells 93 true true))) 13) fun t16 s1 =>
  Q t16 s1)
  (Bnd (bn .eql 3 t6 (.int .i64 1)) fun t18 =>
  IfP t18
  (Bnd (shiftP 2 (.ptr s.nx 0)) fun t20 =>
  Bnd (ld 10 true t20 (adv ((adv s 2).set s.nx (some (.cells t1.cells 93 true true))) 11)) fun t21 =>
  CallWi Tryz.env 99 [t0, t21] (adv ((adv s 2).set s.nx (some (.cells t1.cells 93 true true))) 11) fun t22 s2 =>
  Q t22 s2)
  (Bnd (bn .eql 3 t6 (.int .i64 2)) fun t24 =>
  IfP t24
  (Bnd (shiftP 12 (.ptr s.nx 0)) fun t26 =>
  Bnd (ld 6 true t26 (adv ((adv s 2).set s.nx (some (.cells t1.cells 93 true true))) 13)) fun t27 =>
  CallWi Tryz.env 92 [t0, t27] (adv ((adv s 2).set s.nx (some (.cells t1.cells 93 true true))) 13) fun t28 s3 =>
  Q t28 s3)
  (Bnd (bn .eql 3 t6 (.int .i64 3)) fun t30 =>
  IfP t30
  (Bnd (shiftP 1 (.ptr s.nx 0)) fun t32 =>
  Bnd (ld 1 false t32 (adv ((adv s 2).set s.nx (some (.cells t1.cells 93 true true))) 15)) fun t33 =>
  CallWi Tryz.env 50 [t0, t33] (adv ((adv s 2).set s.nx (some (.cells t1.cells 93 true true))) 15) fun t34 s4 =>
  Q t34 s4)
  (f47j1 Q t0 (.ptr s.nx 0) (adv ((adv s 2).set s.nx (some (.cells t1.cells 93 true true))) 10))))))
theorem f47_run (t0 t1 : AV) (s : St) {Q : AV → St → Prop} (h : f47 Q t0 t1 s) : ∃ r s', WideC Tryz.env 47 [t0, t1] s r s' ∧ Q r s' :=
  wide_of (h := 47) (fn := Tryz.f47) (c := sub f47B []) (by kernel_rfl) (by kernel_rfl) (by kernel_rfl) (by kernel_rfl) (of_decide_eq_true (by kernel_rfl))
    (Eq.mp (Eq.trans (by kernel_rfl) (congrFun (congrFun (show f47C (sub f47B []) (f47R Q) (fun _ _ _ => False) (f47R Q) = _ from (seq_eq (by kernel_rfl : (sub f47B []) = .seq (sub f47B [false]) (sub f47B [true])) (seq_eq (by kernel_rfl : (sub f47B [true]) = .seq (sub f47B [true, false]) (sub f47B [true, true])) (f47j1_eq Q) (seq_eq (by kernel_rfl : (sub f47B [true, false]) = .seq (sub f47B [true, false, false]) (sub f47B [true, false, true])) (block_eq (by kernel_rfl : (sub f47B [true, false, true]) = .block 0 (sub f47B [true, false, true, false])) rfl) rfl)) rfl)).symm (gt (frame Tryz.f47 [t0, t1]))) s)) h)
/-! 44 (*gudgeon/stack.Stack).Decls -/
noncomputable abbrev f44B : Code := bodyOf Tryz.f44
noncomputable abbrev f44R (Q : AV → St → Prop) : Kt := fun g s => RetP (result Tryz.ty Tryz.f44 g s) fun v => Q v s
noncomputable abbrev f44C : Code → Kt → (Nat → Kt) → Kt → Kt := codeP Tryz.env 44 (Tryz.env.kp 44)
noncomputable def f44j1 (Q : AV → St → Prop) (t3 : AV) (s : St) : Prop :=
  Q t3 (adv s 2)
noncomputable def f44j2 (Q : AV → St → Prop) (ih1 : AV → AV → AV → St → Prop) (t13 t3 t12 : AV) (s : St) : Prop :=
  Bnd (bn .add 3 t13 (.int .i64 1)) fun t24 =>
  ih1 t3 t12 t24 (adv s 2)
noncomputable def f44l1s (Q : AV → St → Prop) (ih1 : AV → AV → AV → St → Prop) (t3 t12 t13 : AV) (s : St) : Prop :=
  Bnd (bn .lss 3 t13 t12) fun t14 =>
  IfP t14
  (Bnd (ixS 10 t3 t13) fun t20 =>
  Bnd (ld 10 true t20 (adv s 12)) fun t21 =>
  CallPu Tryz.env 95 [t21] (adv s 12) fun t22 s1 =>
  Bnd (ixS 10 t3 t13) fun t23 =>
  Bnd (sto 10 t23 t22 s1) fun s2 =>
  f44j2 Q ih1 t13 t3 t12 s2)
  (f44j1 Q t3 (adv s 1))
noncomputable def f44l1 (Q : AV → St → Prop) (n : Nat) : AV → AV → AV → St → Prop := Nat.rec (motive := fun _ => AV → AV → AV → St → Prop) (fun _ _ _ _ => False) (fun _ ih => f44l1s Q ih) n
theorem f44j1_eq (Q : AV → St → Prop) : f44C (sub f44B [true, true, true, true]) (f44R Q) (fun _ _ _ => False) (f44R Q) = (fun g s => f44j1 Q (g 3) s) :=
  Eq.trans rfl (by kernel_rfl)
theorem f44j2_eq (Q : AV → St → Prop) (n1 : Nat) : f44C (sub f44B [true, true, true, false, true, false, false, true, true, true]) (fun g s => (fun (n : Nat) (g : Gf) (s : St) => f44l1 Q n (g 3) (g 12) (g 13) s) n1 (fun k => cond (bitOf (Tryz.env.kp 44) k) (g k) .undef) s) (fun i => cond (Nat.beq i 0) (fun g s => f44j1 Q (g 3) s) ((fun _ _ _ => False) i)) (f44R Q) = (fun g s => f44j2 Q (f44l1 Q n1) (g 13) (g 3) (g 12) s) :=
  Eq.trans rfl (by kernel_rfl)
theorem f44l1_eq (Q : AV → St → Prop) (kN : Kt) : f44C (sub f44B [true, true, true, false, true, false]) kN (fun i => cond (Nat.beq i 0) (fun g s => f44j1 Q (g 3) s) ((fun _ _ _ => False) i)) (f44R Q) = fun g s => ∃ n, (fun (n : Nat) (g : Gf) (s : St) => f44l1 Q n (g 3) (g 12) (g 13) s) n g s :=
  loop_eq (L := fun (n : Nat) (g : Gf) (s : St) => f44l1 Q n (g 3) (g 12) (g 13) s) (by kernel_rfl : (sub f44B [true, true, true, false, true, false]) = .loop (sub f44B [true, true, true, false, true, false, false])) (by kernel_rfl) (fun n1 => Eq.trans (seq_eq (by kernel_rfl : (sub f44B [true, true, true, false, true, false, false]) = .seq (sub f44B [true, true, true, false, true, false, false, false]) (sub f44B [true, true, true, false, true, false, false, true])) (seq_eq (by kernel_rfl : (sub f44B [true, true, true, false, true, false, false, true]) = .seq (sub f44B [true, true, true, false, true, false, false, true, false]) (sub f44B [true, true, true, false, true, false, false, true, true])) (seq_eq (by kernel_rfl : (sub f44B [true, true, true, false, true, false, false, true, true]) = .seq (sub f44B [true, true, true, false, true, false, false, true, true, false]) (sub f44B [true, true, true, false, true, false, false, true, true, true])) (f44j2_eq Q n1) (block_eq (by kernel_rfl : (sub f44B [true, true, true, false, true, false, false, true, true, false]) = .block 1 (sub f44B [true, true, true, false, true, false, false, true, true, false, false])) rfl)) rfl) rfl) (by kernel_rfl))
noncomputable def f44 (Q : AV → St → Prop) (t0 : AV) (s : St) : Prop :=
  Bnd (bn .eql 81 t0 .nilp) fun t6 =>
  IfP t6
  (Q .nils (adv s 4))
  ((nilOk t0 = true ∧
  Bnd (shiftP 0 t0) fun t9 =>
  CallWi Tryz.env 94 [t9] (adv s 8) fun t10 s1 =>
  Bnd (bt .len #[49] [t10] (s1.nx + 1) (adv s1 3)) fun r12 =>
  ∃ n, f44l1 Q n t10 r12.1 (.int .i64 0) r12.2))
theorem f44_run (t0 : AV) (s : St) {Q : AV → St → Prop} (h : f44 Q t0 s) : ∃ r s', WideC Tryz.env 44 [t0] s r s' ∧ Q r s' :=
  wide_of (h := 44) (fn := Tryz.f44) (c := sub f44B []) (by kernel_rfl) (by kernel_rfl) (by kernel_rfl) (by kernel_rfl) (of_decide_eq_true (by kernel_rfl))
    (Eq.mp (Eq.trans (by kernel_rfl) (congrFun (congrFun (show f44C (sub f44B []) (f44R Q) (fun _ _ _ => False) (f44R Q) = _ from (seq_eq (by kernel_rfl : (sub f44B []) = .seq (sub f44B [false]) (sub f44B [true])) (seq_eq (by kernel_rfl : (sub f44B [true]) = .seq (sub f44B [true, false]) (sub f44B [true, true])) (seq_eq (by kernel_rfl : (sub f44B [true, true]) = .seq (sub f44B [true, true, false]) (sub f44B [true, true, true])) (seq_eq (by kernel_rfl : (sub f44B [true, true, true]) = .seq (sub f44B [true, true, true, false]) (sub f44B [true, true, true, true])) (f44j1_eq Q) (seq_eq (by kernel_rfl : (sub f44B [true, true, true, false]) = .seq (sub f44B [true, true, true, false, false]) (sub f44B [true, true, true, false, true])) (block_eq (by kernel_rfl : (sub f44B [true, true, true, false, true]) = .block 0 (sub f44B [true, true, true, false, true, false])) (f44l1_eq Q _)) rfl)) rfl) rfl) rfl)).symm (gt (frame Tryz.f44 [t0]))) s)) h)
/-! 45 (*gudgeon/stack.Stack).Asserts -/
noncomputable abbrev f45B : Code := bodyOf Tryz.f45
noncomputable abbrev f45R (Q : AV → St → Prop) : Kt := fun g s => RetP (result Tryz.ty Tryz.f45 g s) fun v => Q v s
noncomputable abbrev f45C : Code → Kt → (Nat → Kt) → Kt → Kt := codeP Tryz.env 45 (Tryz.env.kp 45)
noncomputable def f45j1 (Q : AV → St → Prop) (t3 : AV) (s : St) : Prop :=
  Q t3 (adv s 2)
noncomputable def f45j2 (Q : AV → St → Prop) (ih1 : AV → AV → AV → St → Prop) (t13 t3 t12 : AV) (s : St) : Prop :=
  Bnd (bn .add 3 t13 (.int .i64 1)) fun t24 =>
  ih1 t3 t12 t24 (adv s 2)
noncomputable def f45l1s (Q : AV → St → Prop) (ih1 : AV → AV → AV → St → Prop) (t3 t12 t13 : AV) (s : St) : Prop :=
  Bnd (bn .lss 3 t13 t12) fun t14 =>
  IfP t14
  (Bnd (ixS 6 t3 t13) fun t20 =>
  Bnd (ld 6 true t20 (adv s 12)) fun t21 =>
  CallPu Tryz.env 97 [t21] (adv s 12) fun t22 s1 =>
  Bnd (ixS 6 t3 t13) fun t23 =>
  Bnd (sto 6 t23 t22 s1) fun s2 =>
  f45j2 Q ih1 t13 t3 t12 s2)
  (f45j1 Q t3 (adv s 1))
noncomputable def f45l1 (Q : AV → St → Prop) (n : Nat) : AV → AV → AV → St → Prop := Nat.rec (motive := fun _ => AV → AV → AV → St → Prop) (fun _ _ _ _ => False) (fun _ ih => f45l1s Q ih) n
theorem f45j1_eq (Q : AV → St → Prop) : f45C (sub f45B [true, true, true, true]) (f45R Q) (fun _ _ _ => False) (f45R Q) = (fun g s => f45j1 Q (g 3) s) :=
  Eq.trans rfl (by kernel_rfl)
theorem f45j2_eq (Q : AV → St → Prop) (n1 : Nat) : f45C (sub f45B [true, true, true, false, true, false, false, true, true, true]) (fun g s => (fun (n : Nat) (g : Gf) (s : St) => f45l1 Q n (g 3) (g 12) (g 13) s) n1 (fun k => cond (bitOf (Tryz.env.kp 45) k) (g k) .undef) s) (fun i => cond (Nat.beq i 0) (fun g s => f45j1 Q (g 3) s) ((fun _ _ _ => False) i)) (f45R Q) = (fun g s => f45j2 Q (f45l1 Q n1) (g 13) (g 3) (g 12) s) :=
  Eq.trans rfl (by kernel_rfl)
theorem f45l1_eq (Q : AV → St → Prop) (kN : Kt) : f45C (sub f45B [true, true, true, false, true, false]) kN (fun i => cond (Nat.beq i 0) (fun g s => f45j1 Q (g 3) s) ((fun _ _ _ => False) i)) (f45R Q) = fun g s => ∃ n, (fun (n : Nat) (g : Gf) (s : St) => f45l1 Q n (g 3) (g 12) (g 13) s) n g s :=
  loop_eq (L := fun (n : Nat) (g : Gf) (s : St) => f45l1 Q n (g 3) (g 12) (g 13) s) (by kernel_rfl : (sub f45B [true, true, true, false, true, false]) = .loop (sub f45B [true, true, true, false, true, false, false])) (by kernel_rfl) (fun n1 => Eq.trans (seq_eq (by kernel_rfl : (sub f45B [true, true, true, false, true, false, false]) = .seq (sub f45B [true, true, true, false, true, false, false, false]) (sub f45B [true, true, true, false, true, false, false, true])) (seq_eq (by kernel_rfl : (sub f45B [true, true, true, false, true, false, false, true]) = .seq (sub f45B [true, true, true, false, true, false, false, true, false]) (sub f45B [true, true, true, false, true, false, false, true, true])) (seq_eq (by kernel_rfl : (sub f45B [true, true, true, false, true, false, false, true, true]) = .seq (sub f45B [true, true, true, false, true, false, false, true, true, false]) (sub f45B [true, true, true, false, true, false, false, true, true, true])) (f45j2_eq Q n1) (block_eq (by kernel_rfl : (sub f45B [true, true, true, false, true, false, false, true, true, false]) = .block 1 (sub f45B [true, true, true, false, true, false, false, true, true, false, false])) rfl)) rfl) rfl) (by kernel_rfl))
noncomputable def f45 (Q : AV → St → Prop) (t0 : AV) (s : St) : Prop :=
  Bnd (bn .eql 81 t0 .nilp) fun t6 =>
  IfP t6
  (Q .nils (adv s 4))
  ((nilOk t0 = true ∧
  Bnd (shiftP 2 t0) fun t9 =>
  CallWi Tryz.env 96 [t9] (adv s 8) fun t10 s1 =>
  Bnd (bt .len #[31] [t10] (s1.nx + 1) (adv s1 3)) fun r12 =>
  ∃ n, f45l1 Q n t10 r12.1 (.int .i64 0) r12.2))
theorem f45_run (t0 : AV) (s : St) {Q : AV → St → Prop} (h : f45 Q t0 s) : ∃ r s', WideC Tryz.env 45 [t0] s r s' ∧ Q r s' :=
  wide_of (h := 45) (fn := Tryz.f45) (c := sub f45B []) (by kernel_rfl) (by kernel_rfl) (by kernel_rfl) (by kernel_rfl) (of_decide_eq_true (by kernel_rfl))
    (Eq.mp (Eq.trans (by kernel_rfl) (congrFun (congrFun (show f45C (sub f45B []) (f45R Q) (fun _ _ _ => False) (f45R Q) = _ from (seq_eq (by kernel_rfl : (sub f45B []) = .seq (sub f45B [false]) (sub f45B [true])) (seq_eq (by kernel_rfl : (sub f45B [true]) = .seq (sub f45B [true, false]) (sub f45B [true, true])) (seq_eq (by kernel_rfl : (sub f45B [true, true]) = .seq (sub f45B [true, true, false]) (sub f45B [true, true, true])) (seq_eq (by kernel_rfl : (sub f45B [true, true, true]) = .seq (sub f45B [true, true, true, false]) (sub f45B [true, true, true, true])) (f45j1_eq Q) (seq_eq (by kernel_rfl : (sub f45B [true, true, true, false]) = .seq (sub f45B [true, true, true, false, false]) (sub f45B [true, true, true, false, true])) (block_eq (by kernel_rfl : (sub f45B [true, true, true, false, true]) = .block 0 (sub f45B [true, true, true, false, true, false])) (f45l1_eq Q _)) rfl)) rfl) rfl) rfl)).symm (gt (frame Tryz.f45 [t0]))) s)) h)
/-! 46 (*gudgeon/stack.Stack).Levels -/
noncomputable abbrev f46B : Code := bodyOf Tryz.f46
noncomputable abbrev f46R (Q : AV → St → Prop) : Kt := fun g s => RetP (result Tryz.ty Tryz.f46 g s) fun v => Q v s
noncomputable abbrev f46C : Code → Kt → (Nat → Kt) → Kt → Kt := codeP Tryz.env 46 (Tryz.env.kp 46)
noncomputable def f46 (Q : AV → St → Prop) (t0 : AV) (s : St) : Prop :=
  Bnd (bn .eql 81 t0 .nilp) fun t4 =>
  IfP t4
  (Q (.int .i64 0) (adv s 4))
  ((nilOk t0 = true ∧
  Bnd (shiftP 0 t0) fun t7 =>
  CallWi Tryz.env 98 [t7] (adv s 8) fun t8 s1 =>
  Q t8 s1))
theorem f46_run (t0 : AV) (s : St) {Q : AV → St → Prop} (h : f46 Q t0 s) : ∃ r s', WideC Tryz.env 46 [t0] s r s' ∧ Q r s' :=
  wide_of (h := 46) (fn := Tryz.f46) (c := sub f46B []) (by kernel_rfl) (by kernel_rfl) (by kernel_rfl) (by kernel_rfl) (of_decide_eq_true (by kernel_rfl))
    (Eq.mp (Eq.trans (by kernel_rfl) (congrFun (congrFun (show f46C (sub f46B []) (f46R Q) (fun _ _ _ => False) (f46R Q) = _ from rfl).symm (gt (frame Tryz.f46 [t0]))) s)) h)
/-! 52 (*gudgeon/stack.Stack).Terms -/
noncomputable abbrev f52B : Code := bodyOf Tryz.f52
noncomputable abbrev f52R (Q : AV → St → Prop) : Kt := fun g s => RetP (result Tryz.ty Tryz.f52 g s) fun v => Q v s
noncomputable abbrev f52C : Code → Kt → (Nat → Kt) → Kt → Kt := codeP Tryz.env 52 (Tryz.env.kp 52)
noncomputable def f52j1 (Q : AV → St → Prop) (t6 : AV) (s : St) : Prop :=
  Q (.tup [t6, (.int .i64 0)]) (adv s 3)
noncomputable def f52j2 (Q : AV → St → Prop) (ih1 : AV → AV → AV → AV → AV → AV → St → Prop) (t17 t1 t6 t7 t15 t16 : AV) (s : St) : Prop :=
  Bnd (bn .add 3 t17 (.int .i64 1)) fun t35 =>
  ih1 t1 t6 t7 t15 t16 t35 (adv s 2)
noncomputable def f52l1s (Q : AV → St → Prop) (ih1 : AV → AV → AV → AV → AV → AV → St → Prop) (t1 t6 t7 t15 t16 t17 : AV) (s : St) : Prop :=
  Bnd (bn .lss 3 t17 t16) fun t18 =>
  IfP t18
  (Bnd (ixS 6 t15 t17) fun t19 =>
  Bnd (ld 6 true t19 (adv s 5)) fun t20 =>
  Bnd (zr 33) fun z9 =>
  Bnd (sto 6 (.ptr (s.nx + 3) 0) t20 ((adv s 5).set (s.nx + 3) (some (.cells z9.cells 33 true true)))) fun s1 =>
  Bnd (ld 6 true (.ptr (s.nx + 3) 0) (adv s1 9)) fun t24 =>
  CallWi Tryz.env 30 [t1, t7, t24] (adv s1 9) fun t25 s2 =>
  Bnd (extr t25 0) fun t26 =>
  Bnd (extr t25 1) fun t27 =>
  Bnd (bn .neq 34 t27 (.int .i64 0)) fun t29 =>
  IfP t29
  (Q (.tup [.nils, t27]) (adv s2 5))
  (Bnd (bsl 72 1 [(0, t26)]) fun t33 =>
  Bnd (bt .append #[72, 72] [t6, t33] (s2.nx + 5) (adv s2 7)) fun r34 =>
  f52j2 Q ih1 t17 t1 r34.1 t7 t15 t16 r34.2))
  (f52j1 Q t6 (adv s 1))
noncomputable def f52l1 (Q : AV → St → Prop) (n : Nat) : AV → AV → AV → AV → AV → AV → St → Prop := Nat.rec (motive := fun _ => AV → AV → AV → AV → AV → AV → St → Prop) (fun _ _ _ _ _ _ _ => False) (fun _ ih => f52l1s Q ih) n
theorem f52j1_eq (Q : AV → St → Prop) : f52C (sub f52B [true, true, true, true]) (f52R Q) (fun _ _ _ => False) (f52R Q) = (fun g s => f52j1 Q (g 6) s) :=
  Eq.trans rfl (by kernel_rfl)
theorem f52j2_eq (Q : AV → St → Prop) (n1 : Nat) : f52C (sub f52B [true, true, true, false, true, false, false, true, true, true]) (fun g s => (fun (n : Nat) (g : Gf) (s : St) => f52l1 Q n (g 1) (g 6) (g 7) (g 15) (g 16) (g 17) s) n1 (fun k => cond (bitOf (Tryz.env.kp 52) k) (g k) .undef) s) (fun i => cond (Nat.beq i 0) (fun g s => f52j1 Q (g 6) s) ((fun _ _ _ => False) i)) (f52R Q) = (fun g s => f52j2 Q (f52l1 Q n1) (g 17) (g 1) (g 6) (g 7) (g 15) (g 16) s) :=
  Eq.trans rfl (by kernel_rfl)
theorem f52l1_eq (Q : AV → St → Prop) (kN : Kt) : f52C (sub f52B [true, true, true, false, true, false]) kN (fun i => cond (Nat.beq i 0) (fun g s => f52j1 Q (g 6) s) ((fun _ _ _ => False) i)) (f52R Q) = fun g s => ∃ n, (fun (n : Nat) (g : Gf) (s : St) => f52l1 Q n (g 1) (g 6) (g 7) (g 15) (g 16) (g 17) s) n g s :=
  loop_eq (L := fun (n : Nat) (g : Gf) (s : St) => f52l1 Q n (g 1) (g 6) (g 7) (g 15) (g 16) (g 17) s) (by kernel_rfl : (sub f52B [true, true, true, false, true, false]) = .loop (sub f52B [true, true, true, false, true, false, false])) (by kernel_rfl) (fun n1 => Eq.trans (seq_eq (by kernel_rfl : (sub f52B [true, true, true, false, true, false, false]) = .seq (sub f52B [true, true, true, false, true, false, false, false]) (sub f52B [true, true, true, false, true, false, false, true])) (seq_eq (by kernel_rfl : (sub f52B [true, true, true, false, true, false, false, true]) = .seq (sub f52B [true, true, true, false, true, false, false, true, false]) (sub f52B [true, true, true, false, true, false, false, true, true])) (seq_eq (by kernel_rfl : (sub f52B [true, true, true, false, true, false, false, true, true]) = .seq (sub f52B [true, true, true, false, true, false, false, true, true, false]) (sub f52B [true, true, true, false, true, false, false, true, true, true])) (f52j2_eq Q n1) (block_eq (by kernel_rfl : (sub f52B [true, true, true, false, true, false, false, true, true, false]) = .block 1 (sub f52B [true, true, true, false, true, false, false, true, true, false, false])) rfl)) rfl) rfl) (by kernel_rfl))
noncomputable def f52 (Q : AV → St → Prop) (t0 t1 : AV) (s : St) : Prop :=
  CallWi Tryz.env 44 [t0] (adv s 6) fun t13 s1 =>
  CallWi Tryz.env 45 [t0] (adv s1 4) fun t15 s2 =>
  Bnd (bt .len #[31] [t15] (s1.nx + 2) s2) fun r16 =>
  ∃ n, f52l1 Q n t1 .nils t13 t15 r16.1 (.int .i64 0) r16.2
theorem f52_run (t0 t1 : AV) (s : St) {Q : AV → St → Prop} (h : f52 Q t0 t1 s) : ∃ r s', WideC Tryz.env 52 [t0, t1] s r s' ∧ Q r s' :=
  wide_of (h := 52) (fn := Tryz.f52) (c := sub f52B []) (by kernel_rfl) (by kernel_rfl) (by kernel_rfl) (by kernel_rfl) (of_decide_eq_true (by kernel_rfl))
    (Eq.mp (Eq.trans (by kernel_rfl) (congrFun (congrFun (show f52C (sub f52B []) (f52R Q) (fun _ _ _ => False) (f52R Q) = _ from (seq_eq (by kernel_rfl : (sub f52B []) = .seq (sub f52B [false]) (sub f52B [true])) (seq_eq (by kernel_rfl : (sub f52B [true]) = .seq (sub f52B [true, false]) (sub f52B [true, true])) (seq_eq (by kernel_rfl : (sub f52B [true, true]) = .seq (sub f52B [true, true, false]) (sub f52B [true, true, true])) (seq_eq (by kernel_rfl : (sub f52B [true, true, true]) = .seq (sub f52B [true, true, true, false]) (sub f52B [true, true, true, true])) (f52j1_eq Q) (seq_eq (by kernel_rfl : (sub f52B [true, true, true, false]) = .seq (sub f52B [true, true, true, false, false]) (sub f52B [true, true, true, false, true])) (block_eq (by kernel_rfl : (sub f52B [true, true, true, false, true]) = .block 0 (sub f52B [true, true, true, false, true, false])) (f52l1_eq Q _)) rfl)) rfl) rfl) rfl)).symm (gt (frame Tryz.f52 [t0, t1]))) s)) h)
/-! 91 (*gudgeon/stack.Stack).Declare -/
noncomputable abbrev f91B : Code := bodyOf Tryz.f91
noncomputable abbrev f91R (Q : AV → St → Prop) : Kt := fun g s => RetP (result Tryz.ty Tryz.f91 g s) fun v => Q v s
noncomputable abbrev f91C : Code → Kt → (Nat → Kt) → Kt → Kt := codeP Tryz.env 91 (Tryz.env.kp 91)
noncomputable def f91 (Q : AV → St → Prop) (t0 t1 t2 : AV) (s : St) : Prop :=
  Bnd (bn .eql 81 t0 .nilp) fun t9 =>
  Gd (wantV t9 false) (adv s 16) (fun k => k t2 (adv s 16)) fun t11 s1 =>
  Gd (wantV t9 false) s1 (fun k => Bnd (bn .lss 3 t11 (.int .i64 1)) fun v => k v s1) fun t12 s2 =>
  Bnd (pickV t9 (.bool true) t12) fun t13 =>
  Gd (wantV t13 false) s2 (fun k => k t2 s2) fun t15 s3 =>
  Gd (wantV t13 false) s3 (fun k => Bnd (bn .gtr 3 t15 (.int .i64 3)) fun v => k v s3) fun t16 s4 =>
  Bnd (pickV t13 (.bool true) t16) fun t17 =>
  Gd (wantV t17 false) s4 (fun k => k t1 s4) fun t19 s5 =>
  Gd (wantV t17 false) s5 (fun k => Bnd (bt .len #[9] [t19] (s.nx + 13) s5) fun r => k r.1 r.2) fun t20 s6 =>
  Gd (wantV t17 false) s6 (fun k => Bnd (bn .gtr 3 t20 (.int .i64 16384)) fun v => k v s6) fun t21 s7 =>
  Bnd (pickV t17 (.bool true) t21) fun t22 =>
  IfP t22
  (Q (.int .i64 1) (adv s7 1))
  (CallWi Tryz.env 143 [t0, t1] (adv s7 4) fun t25 s8 =>
  Bnd (bn .neq 34 t25 (.int .i64 0)) fun t27 =>
  IfP t27
  (Q t25 (adv s8 4))
  (Bnd (bld 67 [(0, t1), (1, t2)]) fun t32 =>
  CallWi Tryz.env 144 [t0, t32] (adv s8 8) fun t33 s9 =>
  Q t33 s9))
theorem f91_run (t0 t1 t2 : AV) (s : St) {Q : AV → St → Prop} (h : f91 Q t0 t1 t2 s) : ∃ r s', WideC Tryz.env 91 [t0, t1, t2] s r s' ∧ Q r s' :=
  wide_of (h := 91) (fn := Tryz.f91) (c := sub f91B []) (by kernel_rfl) (by kernel_rfl) (by kernel_rfl) (by kernel_rfl) (of_decide_eq_true (by kernel_rfl))
    (Eq.mp (Eq.trans (by kernel_rfl) (congrFun (congrFun (show f91C (sub f91B []) (f91R Q) (fun _ _ _ => False) (f91R Q) = _ from rfl).symm (gt (frame Tryz.f91 [t0, t1, t2]))) s)) h)
/-! 99 (*gudgeon/stack.Stack).Define -/
noncomputable abbrev f99B : Code := bodyOf Tryz.f99
noncomputable abbrev f99R (Q : AV → St → Prop) : Kt := fun g s => RetP (result Tryz.ty Tryz.f99 g s) fun v => Q v s
noncomputable abbrev f99C : Code → Kt → (Nat → Kt) → Kt → Kt := codeP Tryz.env 99 (Tryz.env.kp 99)
noncomputable def f99 (Q : AV → St → Prop) (t0 t1 : AV) (s : St) : Prop :=
  (t1.cells.all AV.one = true ∧
  Bnd (bn .eql 81 t0 .nilp) fun t8 =>
  IfP t8
  (Q (.int .i64 1) (adv ((adv s 2).set s.nx (some (.cells t1.cells 67 true true))) 3))
  (Bnd (shiftP 0 (.ptr s.nx 0)) fun t10 =>
  Bnd (ld 1 false t10 (adv ((adv s 2).set s.nx (some (.cells t1.cells 67 true true))) 7)) fun t11 =>
  CallWi Tryz.env 143 [t0, t11] (adv ((adv s 2).set s.nx (some (.cells t1.cells 67 true true))) 7) fun t12 s1 =>
  Bnd (bn .neq 34 t12 (.int .i64 0)) fun t14 =>
  IfP t14
  (Q t12 (adv s1 4))
  (CallWiD Tryz.env 44 [t0] (rch (adv s1 7) [(.fn 44 [] []), t0]) (adv s1 7) fun t17 s2 =>
  (clear 0 ⟨2, false, idOf (.ptr s.nx 0), none⟩ [⟨1, true, rch (adv s1 7) [(.fn 44 [] []), t0], some (adv s1 7).nx⟩, ⟨0, false, [], none⟩] = true ∧ Bnd (ld 10 true (.ptr s.nx 0) s2) fun t18 =>
  CallPuD Tryz.env 149 [t17, t18] (rch s2 [(.fn 149 [] []), t17, t18]) s2 fun t19 s3 =>
  Bnd (bn .neq 34 t19 (.int .i64 0)) fun t21 =>
  IfP t21
  (Q t19 (adv s3 4))
  (Bnd (ld 10 true (.ptr s.nx 0) (adv s3 6)) fun t24 =>
  CallWi Tryz.env 144 [t0, t24] (adv s3 6) fun t25 s4 =>
  Q t25 s4)))))
theorem f99_run (t0 t1 : AV) (s : St) {Q : AV → St → Prop} (h : f99 Q t0 t1 s) : ∃ r s', WideC Tryz.env 99 [t0, t1] s r s' ∧ Q r s' :=
  wide_of (h := 99) (fn := Tryz.f99) (c := sub f99B []) (by kernel_rfl) (by kernel_rfl) (by kernel_rfl) (by kernel_rfl) (of_decide_eq_true (by kernel_rfl))
    (Eq.mp (Eq.trans (by kernel_rfl) (congrFun (congrFun (show f99C (sub f99B []) (f99R Q) (fun _ _ _ => False) (f99R Q) = _ from rfl).symm (gt (frame Tryz.f99 [t0, t1]))) s)) h)
/-! 92 (*gudgeon/stack.Stack).Assert -/
noncomputable abbrev f92B : Code := bodyOf Tryz.f92
noncomputable abbrev f92R (Q : AV → St → Prop) : Kt := fun g s => RetP (result Tryz.ty Tryz.f92 g s) fun v => Q v s
noncomputable abbrev f92C : Code → Kt → (Nat → Kt) → Kt → Kt := codeP Tryz.env 92 (Tryz.env.kp 92)
noncomputable def f92 (Q : AV → St → Prop) (t0 t1 : AV) (s : St) : Prop :=
  (t1.cells.all AV.one = true ∧
  Bnd (bn .eql 81 t0 .nilp) fun t11 =>
  IfP t11
  (Q (.int .i64 1) (adv ((adv s 2).set s.nx (some (.cells t1.cells 33 true true))) 3))
  (Bnd (bld 58 []) fun t12 =>
  (t12.cells.all AV.one = true ∧
  CallWiD Tryz.env 44 [t0] (rch (adv ((adv ((adv s 2).set s.nx (some (.cells t1.cells 33 true true))) 5).set (((adv s 2).set s.nx (some (.cells t1.cells 33 true true))).nx + 3) (some (.cells t12.cells 58 true true))) 10) [(.fn 44 [] []), t0]) (adv ((adv ((adv s 2).set s.nx (some (.cells t1.cells 33 true true))) 5).set (((adv s 2).set s.nx (some (.cells t1.cells 33 true true))).nx + 3) (some (.cells t12.cells 58 true true))) 10) fun t17 s1 =>
  (clear 0 ⟨3, false, idOf (.ptr s.nx 0), none⟩ [⟨2, true, rch (adv ((adv ((adv s 2).set s.nx (some (.cells t1.cells 33 true true))) 5).set (((adv s 2).set s.nx (some (.cells t1.cells 33 true true))).nx + 3) (some (.cells t12.cells 58 true true))) 10) [(.fn 44 [] []), t0], some (adv ((adv ((adv s 2).set s.nx (some (.cells t1.cells 33 true true))) 5).set (((adv s 2).set s.nx (some (.cells t1.cells 33 true true))).nx + 3) (some (.cells t12.cells 58 true true))) 10).nx⟩, ⟨1, false, [], none⟩, ⟨0, false, [], none⟩] = true ∧ Bnd (ld 6 true (.ptr s.nx 0) s1) fun t18 =>
  CallWiD Tryz.env 30 [(.ptr (((adv s 2).set s.nx (some (.cells t1.cells 33 true true))).nx + 3) 0), t17, t18] (rch s1 [(.fn 30 [] []), (.ptr (((adv s 2).set s.nx (some (.cells t1.cells 33 true true))).nx + 3) 0), t17, t18]) s1 fun t19 s2 =>
  Bnd (extr t19 0) fun t20 =>
  Bnd (extr t19 1) fun t21 =>
  Bnd (bn .neq 34 t21 (.int .i64 0)) fun t23 =>
  IfP t23
  (Q t21 (adv s2 4))
  (CallWi Tryz.env 53 [(.ptr (((adv s 2).set s.nx (some (.cells t1.cells 33 true true))).nx + 3) 0), t20] (adv s2 11) fun t28 s3 =>
  Bnd (extr t28 0) fun t29 =>
  Bnd (extr t28 1) fun t30 =>
  Bnd (zr 101) fun z8 =>
  Bnd (sto 7 (.ptr (s2.nx + 8) 0) t29 (s3.set (s2.nx + 8) (some (.cells z8.cells 101 true true)))) fun s4 =>
  Bnd (shiftP 1 (.ptr (s2.nx + 8) 0)) fun t31 =>
  Bnd (ld 1 false t31 (adv s4 3)) fun t32 =>
  Bnd (bn .neq 3 t32 (.int .i64 1)) fun t33 =>
  IfP t33
  (Q (.int .i64 90) (adv s4 4))
  ((nilOk t0 = true ∧
  Bnd (shiftP 2 t0) fun t36 =>
  CallWi Tryz.env 96 [t36] (adv s4 9) fun t37 s5 =>
  Bnd (bt .len #[31] [t37] (s4.nx + 7) s5) fun r38 =>
  Bnd (bn .eql 3 r38.1 (.int .i64 500)) fun t39 =>
  IfP t39
  (Q (.int .i64 2) (adv r38.2 1))
  ((nilOk t0 = true ∧
  Bnd (shiftP 2 t0) fun t42 =>
  Bnd (ld 6 true (.ptr s.nx 0) (adv r38.2 6)) fun t43 =>
  CallPuD Tryz.env 97 [t43] (rch (adv r38.2 6) [(.fn 97 [] []), t43]) (adv r38.2 6) fun t44 s6 =>
  CallWiD Tryz.env 145 [t42, t44] (rch s6 [(.fn 145 [] []), t42, t44]) s6 fun t45 s7 =>
  Q (.int .i64 0) (adv s7 1))))))))))
theorem f92_run (t0 t1 : AV) (s : St) {Q : AV → St → Prop} (h : f92 Q t0 t1 s) : ∃ r s', WideC Tryz.env 92 [t0, t1] s r s' ∧ Q r s' :=
  wide_of (h := 92) (fn := Tryz.f92) (c := sub f92B []) (by kernel_rfl) (by kernel_rfl) (by kernel_rfl) (by kernel_rfl) (of_decide_eq_true (by kernel_rfl))
    (Eq.mp (Eq.trans (by kernel_rfl) (congrFun (congrFun (show f92C (sub f92B []) (f92R Q) (fun _ _ _ => False) (f92R Q) = _ from rfl).symm (gt (frame Tryz.f92 [t0, t1]))) s)) h)
/-! 50 (*gudgeon/stack.Stack).Push -/
noncomputable abbrev f50B : Code := bodyOf Tryz.f50
noncomputable abbrev f50R (Q : AV → St → Prop) : Kt := fun g s => RetP (result Tryz.ty Tryz.f50 g s) fun v => Q v s
noncomputable abbrev f50C : Code → Kt → (Nat → Kt) → Kt → Kt := codeP Tryz.env 50 (Tryz.env.kp 50)
noncomputable def f50j2 (Q : AV → St → Prop) (s : St) : Prop :=
  Q (.int .i64 0) (adv s 1)
noncomputable def f50j3 (Q : AV → St → Prop) (ih1 : AV → AV → AV → St → Prop) (t17 t0 t16 : AV) (s : St) : Prop :=
  Bnd (bn .add 3 t17 (.int .i64 1)) fun t27 =>
  ih1 t0 t16 t27 (adv s 2)
noncomputable def f50l1s (Q : AV → St → Prop) (ih1 : AV → AV → AV → St → Prop) (t0 t16 t17 : AV) (s : St) : Prop :=
  Bnd (bn .lss 3 t17 t16) fun t18 =>
  IfP t18
  ((nilOk t0 = true ∧
  Bnd (shiftP 0 t0) fun t21 =>
  CallWi Tryz.env 100 [t21] (adv s 5) fun t22 s1 =>
  (nilOk t0 = true ∧
  Bnd (shiftP 2 t0) fun t25 =>
  CallWi Tryz.env 101 [t25] (adv s1 4) fun t26 s2 =>
  f50j3 Q ih1 t17 t0 t16 s2)))
  (f50j2 Q (adv s 1))
noncomputable def f50l1 (Q : AV → St → Prop) (n : Nat) : AV → AV → AV → St → Prop := Nat.rec (motive := fun _ => AV → AV → AV → St → Prop) (fun _ _ _ _ => False) (fun _ ih => f50l1s Q ih) n
noncomputable def f50j1 (Q : AV → St → Prop) (t1 t0 : AV) (s : St) : Prop :=
  ∃ n, f50l1 Q n t0 t1 (.int .i64 0) (adv s 2)
noncomputable def f50j4 (Q : AV → St → Prop) (t5 t1 t0 : AV) (s : St) : Prop :=
  IfP t5
  (Q (.int .i64 1) (adv s 1))
  (CallWi Tryz.env 46 [t0] (adv s 6) fun t13 s1 =>
  Bnd (bn .sub 3 (.int .i64 100) t13) fun t14 =>
  Bnd (bn .gtr 3 t1 t14) fun t15 =>
  IfP t15
  (Q (.int .i64 2) (adv s1 1))
  (f50j1 Q t1 t0 s1))
theorem f50j2_eq (Q : AV → St → Prop) : f50C (sub f50B [true, true, true]) (f50R Q) (fun _ _ _ => False) (f50R Q) = (fun g s => f50j2 Q s) :=
  Eq.trans rfl (by kernel_rfl)
theorem f50j3_eq (Q : AV → St → Prop) (n1 : Nat) : f50C (sub f50B [true, true, false, true, false, false, true, true, true]) (fun g s => (fun (n : Nat) (g : Gf) (s : St) => f50l1 Q n (g 0) (g 16) (g 17) s) n1 (fun k => cond (bitOf (Tryz.env.kp 50) k) (g k) .undef) s) (fun i => cond (Nat.beq i 1) (fun g s => f50j2 Q s) ((fun _ _ _ => False) i)) (f50R Q) = (fun g s => f50j3 Q (f50l1 Q n1) (g 17) (g 0) (g 16) s) :=
  Eq.trans rfl (by kernel_rfl)
theorem f50l1_eq (Q : AV → St → Prop) (kN : Kt) : f50C (sub f50B [true, true, false, true, false]) kN (fun i => cond (Nat.beq i 1) (fun g s => f50j2 Q s) ((fun _ _ _ => False) i)) (f50R Q) = fun g s => ∃ n, (fun (n : Nat) (g : Gf) (s : St) => f50l1 Q n (g 0) (g 16) (g 17) s) n g s :=
  loop_eq (L := fun (n : Nat) (g : Gf) (s : St) => f50l1 Q n (g 0) (g 16) (g 17) s) (by kernel_rfl : (sub f50B [true, true, false, true, false]) = .loop (sub f50B [true, true, false, true, false, false])) (by kernel_rfl) (fun n1 => Eq.trans (seq_eq (by kernel_rfl : (sub f50B [true, true, false, true, false, false]) = .seq (sub f50B [true, true, false, true, false, false, false]) (sub f50B [true, true, false, true, false, false, true])) (seq_eq (by kernel_rfl : (sub f50B [true, true, false, true, false, false, true]) = .seq (sub f50B [true, true, false, true, false, false, true, false]) (sub f50B [true, true, false, true, false, false, true, true])) (seq_eq (by kernel_rfl : (sub f50B [true, true, false, true, false, false, true, true]) = .seq (sub f50B [true, true, false, true, false, false, true, true, false]) (sub f50B [true, true, false, true, false, false, true, true, true])) (f50j3_eq Q n1) (block_eq (by kernel_rfl : (sub f50B [true, true, false, true, false, false, true, true, false]) = .block 2 (sub f50B [true, true, false, true, false, false, true, true, false, false])) rfl)) rfl) rfl) (by kernel_rfl))
theorem f50j1_eq (Q : AV → St → Prop) : f50C (sub f50B [true, true]) (f50R Q) (fun _ _ _ => False) (f50R Q) = (fun g s => f50j1 Q (g 1) (g 0) s) :=
  Eq.trans (seq_eq (by kernel_rfl : (sub f50B [true, true]) = .seq (sub f50B [true, true, false]) (sub f50B [true, true, true])) (f50j2_eq Q) (seq_eq (by kernel_rfl : (sub f50B [true, true, false]) = .seq (sub f50B [true, true, false, false]) (sub f50B [true, true, false, true])) (block_eq (by kernel_rfl : (sub f50B [true, true, false, true]) = .block 1 (sub f50B [true, true, false, true, false])) (f50l1_eq Q _)) rfl)) (by kernel_rfl)
theorem f50j4_eq (Q : AV → St → Prop) : f50C (sub f50B [true, false, false, true]) (fun g s => f50j1 Q (g 1) (g 0) s) (fun i => cond (Nat.beq i 0) (fun g s => f50j1 Q (g 1) (g 0) s) ((fun _ _ _ => False) i)) (f50R Q) = (fun g s => f50j4 Q (g 5) (g 1) (g 0) s) :=
  Eq.trans rfl (by kernel_rfl)
noncomputable def f50 (Q : AV → St → Prop) (t0 t1 : AV) (s : St) : Prop :=
  Bnd (bn .eql 81 t0 .nilp) fun t7 =>
  IfP t7
  (f50j4 Q t7 t1 t0 (adv s 4))
  (Bnd (bn .lss 3 t1 (.int .i64 0)) fun t9 =>
  f50j4 Q t9 t1 t0 (adv s 7))
theorem f50_run (t0 t1 : AV) (s : St) {Q : AV → St → Prop} (h : f50 Q t0 t1 s) : ∃ r s', WideC Tryz.env 50 [t0, t1] s r s' ∧ Q r s' :=
  wide_of (h := 50) (fn := Tryz.f50) (c := sub f50B []) (by kernel_rfl) (by kernel_rfl) (by kernel_rfl) (by kernel_rfl) (of_decide_eq_true (by kernel_rfl))
    (Eq.mp (Eq.trans (by kernel_rfl) (congrFun (congrFun (show f50C (sub f50B []) (f50R Q) (fun _ _ _ => False) (f50R Q) = _ from (seq_eq (by kernel_rfl : (sub f50B []) = .seq (sub f50B [false]) (sub f50B [true])) (seq_eq (by kernel_rfl : (sub f50B [true]) = .seq (sub f50B [true, false]) (sub f50B [true, true])) (f50j1_eq Q) (block_eq (by kernel_rfl : (sub f50B [true, false]) = .block 0 (sub f50B [true, false, false])) (seq_eq (by kernel_rfl : (sub f50B [true, false, false]) = .seq (sub f50B [true, false, false, false]) (sub f50B [true, false, false, true])) (f50j4_eq Q) rfl))) rfl)).symm (gt (frame Tryz.f50 [t0, t1]))) s)) h)
/-! 51 (*gudgeon/stack.Stack).Pop -/
noncomputable abbrev f51B : Code := bodyOf Tryz.f51
noncomputable abbrev f51R (Q : AV → St → Prop) : Kt := fun g s => RetP (result Tryz.ty Tryz.f51 g s) fun v => Q v s
noncomputable abbrev f51C : Code → Kt → (Nat → Kt) → Kt → Kt := codeP Tryz.env 51 (Tryz.env.kp 51)
noncomputable def f51j2 (Q : AV → St → Prop) (s : St) : Prop :=
  Q (.int .i64 0) (adv s 1)
noncomputable def f51j3 (Q : AV → St → Prop) (ih1 : AV → AV → AV → St → Prop) (t18 t0 t17 : AV) (s : St) : Prop :=
  Bnd (bn .add 3 t18 (.int .i64 1)) fun t44 =>
  ih1 t0 t17 t44 (adv s 2)
noncomputable def f51j4 (Q : AV → St → Prop) (ih1 : AV → AV → AV → St → Prop) (t0 t18 t17 : AV) (s : St) : Prop :=
  (nilOk t0 = true ∧
  Bnd (shiftP 2 t0) fun t42 =>
  CallWi Tryz.env 103 [t42] (adv s 4) fun t43 s1 =>
  f51j3 Q ih1 t18 t0 t17 s1)
noncomputable def f51j5 (Q : AV → St → Prop) (ih1 : AV → AV → AV → St → Prop) (ih2 : AV → AV → AV → AV → AV → AV → St → Prop) (t29 t0 t17 t18 t27 t28 : AV) (s : St) : Prop :=
  Bnd (bn .add 3 t29 (.int .i64 1)) fun t39 =>
  ih2 t0 t17 t18 t27 t28 t39 (adv s 2)
noncomputable def f51l2s (Q : AV → St → Prop) (ih1 : AV → AV → AV → St → Prop) (ih2 : AV → AV → AV → AV → AV → AV → St → Prop) (t0 t17 t18 t27 t28 t29 : AV) (s : St) : Prop :=
  Bnd (bn .lss 3 t29 t28) fun t30 =>
  IfP t30
  (Bnd (ixS 10 t27 t29) fun t31 =>
  Bnd (ld 10 true t31 (adv s 5)) fun t32 =>
  Bnd (zr 67) fun z6 =>
  Bnd (sto 10 (.ptr (s.nx + 3) 0) t32 ((adv s 5).set (s.nx + 3) (some (.cells z6.cells 67 true true)))) fun s1 =>
  (nilOk t0 = true ∧
  Bnd (shiftP 4 t0) fun t35 =>
  Bnd (ld 1 false t35 (adv s1 7)) fun t36 =>
  Bnd (shiftP 0 (.ptr (s.nx + 3) 0)) fun t37 =>
  Bnd (ld 1 false t37 (adv s1 7)) fun t38 =>
  ((adv s1 7).h (s1.nx + 6) = none ∧ Bnd (mapUpd Tryz.ty 86 t36 t38 (.bool true) (adv s1 7)) fun s2 =>
  f51j5 Q ih1 ih2 t29 t0 t17 t18 t27 t28 s2)))
  (f51j4 Q ih1 t0 t18 t17 (adv s 1))
noncomputable def f51l2 (Q : AV → St → Prop) (ih1 : AV → AV → AV → St → Prop) (n : Nat) : AV → AV → AV → AV → AV → AV → St → Prop := Nat.rec (motive := fun _ => AV → AV → AV → AV → AV → AV → St → Prop) (fun _ _ _ _ _ _ _ => False) (fun _ ih => f51l2s Q ih1 ih) n
noncomputable def f51l1s (Q : AV → St → Prop) (ih1 : AV → AV → AV → St → Prop) (t0 t17 t18 : AV) (s : St) : Prop :=
  Bnd (bn .lss 3 t18 t17) fun t19 =>
  IfP t19
  ((nilOk t0 = true ∧
  Bnd (shiftP 4 t0) fun t23 =>
  Bnd (sto 1 t23 (.map (s.nx + 2)) ((adv s 6).set (s.nx + 2) (some (.map [])))) fun s1 =>
  (nilOk t0 = true ∧
  Bnd (shiftP 0 t0) fun t26 =>
  CallWi Tryz.env 102 [t26] (adv s1 6) fun t27 s2 =>
  Bnd (bt .len #[49] [t27] (s1.nx + 4) s2) fun r28 =>
  ∃ n, f51l2 Q ih1 n t0 t17 t18 t27 r28.1 (.int .i64 0) r28.2)))
  (f51j2 Q (adv s 1))
noncomputable def f51l1 (Q : AV → St → Prop) (n : Nat) : AV → AV → AV → St → Prop := Nat.rec (motive := fun _ => AV → AV → AV → St → Prop) (fun _ _ _ _ => False) (fun _ ih => f51l1s Q ih) n
noncomputable def f51j1 (Q : AV → St → Prop) (t1 t0 : AV) (s : St) : Prop :=
  ∃ n, f51l1 Q n t0 t1 (.int .i64 0) (adv s 2)
noncomputable def f51j6 (Q : AV → St → Prop) (t7 t1 t0 : AV) (s : St) : Prop :=
  IfP t7
  (Q (.int .i64 1) (adv s 1))
  (CallWi Tryz.env 46 [t0] (adv s 5) fun t15 s1 =>
  Bnd (bn .gtr 3 t1 t15) fun t16 =>
  IfP t16
  (Q (.int .i64 5) (adv s1 1))
  (f51j1 Q t1 t0 s1))
theorem f51j2_eq (Q : AV → St → Prop) : f51C (sub f51B [true, true, true]) (f51R Q) (fun _ _ _ => False) (f51R Q) = (fun g s => f51j2 Q s) :=
  Eq.trans rfl (by kernel_rfl)
theorem f51j3_eq (Q : AV → St → Prop) (n1 : Nat) : f51C (sub f51B [true, true, false, true, false, false, true, true, true]) (fun g s => (fun (n : Nat) (g : Gf) (s : St) => f51l1 Q n (g 0) (g 17) (g 18) s) n1 (fun k => cond (bitOf (Tryz.env.kp 51) k) (g k) .undef) s) (fun i => cond (Nat.beq i 1) (fun g s => f51j2 Q s) ((fun _ _ _ => False) i)) (f51R Q) = (fun g s => f51j3 Q (f51l1 Q n1) (g 18) (g 0) (g 17) s) :=
  Eq.trans rfl (by kernel_rfl)
theorem f51j4_eq (Q : AV → St → Prop) (n1 : Nat) : f51C (sub f51B [true, true, false, true, false, false, true, true, false, false, true, true]) (fun g s => f51j3 Q (f51l1 Q n1) (g 18) (g 0) (g 17) s) (fun i => cond (Nat.beq i 2) (fun g s => f51j3 Q (f51l1 Q n1) (g 18) (g 0) (g 17) s) ((fun i => cond (Nat.beq i 1) (fun g s => f51j2 Q s) ((fun _ _ _ => False) i)) i)) (f51R Q) = (fun g s => f51j4 Q (f51l1 Q n1) (g 0) (g 18) (g 17) s) :=
  Eq.trans rfl (by kernel_rfl)
theorem f51j5_eq (Q : AV → St → Prop) (n1 : Nat) (n2 : Nat) : f51C (sub f51B [true, true, false, true, false, false, true, true, false, false, true, false, true, false, false, true, true, true]) (fun g s => (fun (n : Nat) (g : Gf) (s : St) => f51l2 Q (f51l1 Q n1) n (g 0) (g 17) (g 18) (g 27) (g 28) (g 29) s) n2 (fun k => cond (bitOf (Tryz.env.kp 51) k) (g k) .undef) s) (fun i => cond (Nat.beq i 3) (fun g s => f51j4 Q (f51l1 Q n1) (g 0) (g 18) (g 17) s) ((fun i => cond (Nat.beq i 2) (fun g s => f51j3 Q (f51l1 Q n1) (g 18) (g 0) (g 17) s) ((fun i => cond (Nat.beq i 1) (fun g s => f51j2 Q s) ((fun _ _ _ => False) i)) i)) i)) (f51R Q) = (fun g s => f51j5 Q (f51l1 Q n1) (f51l2 Q (f51l1 Q n1) n2) (g 29) (g 0) (g 17) (g 18) (g 27) (g 28) s) :=
  Eq.trans rfl (by kernel_rfl)
theorem f51l2_eq (Q : AV → St → Prop) (n1 : Nat) (kN : Kt) : f51C (sub f51B [true, true, false, true, false, false, true, true, false, false, true, false, true, false]) kN (fun i => cond (Nat.beq i 3) (fun g s => f51j4 Q (f51l1 Q n1) (g 0) (g 18) (g 17) s) ((fun i => cond (Nat.beq i 2) (fun g s => f51j3 Q (f51l1 Q n1) (g 18) (g 0) (g 17) s) ((fun i => cond (Nat.beq i 1) (fun g s => f51j2 Q s) ((fun _ _ _ => False) i)) i)) i)) (f51R Q) = fun g s => ∃ n, (fun (n : Nat) (g : Gf) (s : St) => f51l2 Q (f51l1 Q n1) n (g 0) (g 17) (g 18) (g 27) (g 28) (g 29) s) n g s :=
  loop_eq (L := fun (n : Nat) (g : Gf) (s : St) => f51l2 Q (f51l1 Q n1) n (g 0) (g 17) (g 18) (g 27) (g 28) (g 29) s) (by kernel_rfl : (sub f51B [true, true, false, true, false, false, true, true, false, false, true, false, true, false]) = .loop (sub f51B [true, true, false, true, false, false, true, true, false, false, true, false, true, false, false])) (by kernel_rfl) (fun n2 => Eq.trans (seq_eq (by kernel_rfl : (sub f51B [true, true, false, true, false, false, true, true, false, false, true, false, true, false, false]) = .seq (sub f51B [true, true, false, true, false, false, true, true, false, false, true, false, true, false, false, false]) (sub f51B [true, true, false, true, false, false, true, true, false, false, true, false, true, false, false, true])) (seq_eq (by kernel_rfl : (sub f51B [true, true, false, true, false, false, true, true, false, false, true, false, true, false, false, true]) = .seq (sub f51B [true, true, false, true, false, false, true, true, false, false, true, false, true, false, false, true, false]) (sub f51B [true, true, false, true, false, false, true, true, false, false, true, false, true, false, false, true, true])) (seq_eq (by kernel_rfl : (sub f51B [true, true, false, true, false, false, true, true, false, false, true, false, true, false, false, true, true]) = .seq (sub f51B [true, true, false, true, false, false, true, true, false, false, true, false, true, false, false, true, true, false]) (sub f51B [true, true, false, true, false, false, true, true, false, false, true, false, true, false, false, true, true, true])) (f51j5_eq Q n1 n2) (block_eq (by kernel_rfl : (sub f51B [true, true, false, true, false, false, true, true, false, false, true, false, true, false, false, true, true, false]) = .block 4 (sub f51B [true, true, false, true, false, false, true, true, false, false, true, false, true, false, false, true, true, false, false])) rfl)) rfl) rfl) (by kernel_rfl))
theorem f51l1_eq (Q : AV → St → Prop) (kN : Kt) : f51C (sub f51B [true, true, false, true, false]) kN (fun i => cond (Nat.beq i 1) (fun g s => f51j2 Q s) ((fun _ _ _ => False) i)) (f51R Q) = fun g s => ∃ n, (fun (n : Nat) (g : Gf) (s : St) => f51l1 Q n (g 0) (g 17) (g 18) s) n g s :=
  loop_eq (L := fun (n : Nat) (g : Gf) (s : St) => f51l1 Q n (g 0) (g 17) (g 18) s) (by kernel_rfl : (sub f51B [true, true, false, true, false]) = .loop (sub f51B [true, true, false, true, false, false])) (by kernel_rfl) (fun n1 => Eq.trans (seq_eq (by kernel_rfl : (sub f51B [true, true, false, true, false, false]) = .seq (sub f51B [true, true, false, true, false, false, false]) (sub f51B [true, true, false, true, false, false, true])) (seq_eq (by kernel_rfl : (sub f51B [true, true, false, true, false, false, true]) = .seq (sub f51B [true, true, false, true, false, false, true, false]) (sub f51B [true, true, false, true, false, false, true, true])) (seq_eq (by kernel_rfl : (sub f51B [true, true, false, true, false, false, true, true]) = .seq (sub f51B [true, true, false, true, false, false, true, true, false]) (sub f51B [true, true, false, true, false, false, true, true, true])) (f51j3_eq Q n1) (block_eq (by kernel_rfl : (sub f51B [true, true, false, true, false, false, true, true, false]) = .block 2 (sub f51B [true, true, false, true, false, false, true, true, false, false])) (seq_eq (by kernel_rfl : (sub f51B [true, true, false, true, false, false, true, true, false, false]) = .seq (sub f51B [true, true, false, true, false, false, true, true, false, false, false]) (sub f51B [true, true, false, true, false, false, true, true, false, false, true])) (seq_eq (by kernel_rfl : (sub f51B [true, true, false, true, false, false, true, true, false, false, true]) = .seq (sub f51B [true, true, false, true, false, false, true, true, false, false, true, false]) (sub f51B [true, true, false, true, false, false, true, true, false, false, true, true])) (f51j4_eq Q n1) (seq_eq (by kernel_rfl : (sub f51B [true, true, false, true, false, false, true, true, false, false, true, false]) = .seq (sub f51B [true, true, false, true, false, false, true, true, false, false, true, false, false]) (sub f51B [true, true, false, true, false, false, true, true, false, false, true, false, true])) (block_eq (by kernel_rfl : (sub f51B [true, true, false, true, false, false, true, true, false, false, true, false, true]) = .block 3 (sub f51B [true, true, false, true, false, false, true, true, false, false, true, false, true, false])) (f51l2_eq Q n1 _)) rfl)) rfl))) rfl) rfl) (by kernel_rfl))
theorem f51j1_eq (Q : AV → St → Prop) : f51C (sub f51B [true, true]) (f51R Q) (fun _ _ _ => False) (f51R Q) = (fun g s => f51j1 Q (g 1) (g 0) s) :=
  Eq.trans (seq_eq (by kernel_rfl : (sub f51B [true, true]) = .seq (sub f51B [true, true, false]) (sub f51B [true, true, true])) (f51j2_eq Q) (seq_eq (by kernel_rfl : (sub f51B [true, true, false]) = .seq (sub f51B [true, true, false, false]) (sub f51B [true, true, false, true])) (block_eq (by kernel_rfl : (sub f51B [true, true, false, true]) = .block 1 (sub f51B [true, true, false, true, false])) (f51l1_eq Q _)) rfl)) (by kernel_rfl)
theorem f51j6_eq (Q : AV → St → Prop) : f51C (sub f51B [true, false, false, true]) (fun g s => f51j1 Q (g 1) (g 0) s) (fun i => cond (Nat.beq i 0) (fun g s => f51j1 Q (g 1) (g 0) s) ((fun _ _ _ => False) i)) (f51R Q) = (fun g s => f51j6 Q (g 7) (g 1) (g 0) s) :=
  Eq.trans rfl (by kernel_rfl)
noncomputable def f51 (Q : AV → St → Prop) (t0 t1 : AV) (s : St) : Prop :=
  Bnd (bn .eql 81 t0 .nilp) fun t9 =>
  IfP t9
  (f51j6 Q t9 t1 t0 (adv s 4))
  (Bnd (bn .lss 3 t1 (.int .i64 0)) fun t11 =>
  f51j6 Q t11 t1 t0 (adv s 7))
theorem f51_run (t0 t1 : AV) (s : St) {Q : AV → St → Prop} (h : f51 Q t0 t1 s) : ∃ r s', WideC Tryz.env 51 [t0, t1] s r s' ∧ Q r s' :=
  wide_of (h := 51) (fn := Tryz.f51) (c := sub f51B []) (by kernel_rfl) (by kernel_rfl) (by kernel_rfl) (by kernel_rfl) (of_decide_eq_true (by kernel_rfl))
    (Eq.mp (Eq.trans (by kernel_rfl) (congrFun (congrFun (show f51C (sub f51B []) (f51R Q) (fun _ _ _ => False) (f51R Q) = _ from (seq_eq (by kernel_rfl : (sub f51B []) = .seq (sub f51B [false]) (sub f51B [true])) (seq_eq (by kernel_rfl : (sub f51B [true]) = .seq (sub f51B [true, false]) (sub f51B [true, true])) (f51j1_eq Q) (block_eq (by kernel_rfl : (sub f51B [true, false]) = .block 0 (sub f51B [true, false, false])) (seq_eq (by kernel_rfl : (sub f51B [true, false, false]) = .seq (sub f51B [true, false, false, false]) (sub f51B [true, false, false, true])) (f51j6_eq Q) rfl))) rfl)).symm (gt (frame Tryz.f51 [t0, t1]))) s)) h)
end Go.Proofs.YtdehdahimkcakaaGreatDoor
