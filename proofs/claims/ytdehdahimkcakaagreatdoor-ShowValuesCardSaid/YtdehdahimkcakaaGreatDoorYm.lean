/- Texts joined by wip/tools/pack.py: LLi, LSw, LCc, LLt, LBn, Bn, LRf. -/
import Derived.Test.YtdehdahimkcakaaGreatDoorYl
section
set_option linter.unusedVariables false
set_option maxRecDepth 1000000
namespace Go.Proofs.YtdehdahimkcakaaGreatDoor
open Go Ai
noncomputable abbrev f166B : Code := bodyOf Tryz.f166
noncomputable abbrev f166R (Q : AV → St → Prop) : Kt := fun g s => RetP (result Tryz.ty Tryz.f166 g s) fun v => Q v s
noncomputable abbrev f166C : Code → Kt → (Nat → Kt) → Kt → Kt := codeP Tryz.env 166 (Tryz.env.kp 166)
noncomputable def f166j2 (Q : AV → St → Prop) (t1 t8 : AV) (s : St) : Prop :=
  Bnd (bn .lss 3 t1 (.int .i64 0)) fun t52 =>
  IfP t52
  (Q (.tup [.nils, (.int .i64 2)]) (adv s 4))
  (Q (.tup [t8, (.int .i64 0)]) (adv s 5))
noncomputable def f166j3 (Q : AV → St → Prop) (ih1 : AV → AV → AV → AV → AV → St → Prop) (t29 t1 t8 t27 t28 : AV) (s : St) : Prop :=
  Bnd (bn .add 3 t29 (.int .i64 1)) fun t50 =>
  ih1 t1 t8 t27 t28 t50 (adv s 2)
noncomputable def f166j4 (Q : AV → St → Prop) (ih1 : AV → AV → AV → AV → AV → St → Prop) (ih2 : AV → AV → AV → AV → AV → AV → AV → AV → St → Prop) (t42 t1 t8 t10 t27 t28 t29 t41 : AV) (s : St) : Prop :=
  Bnd (bn .add 3 t42 (.int .i64 1)) fun t49 =>
  ih2 t1 t8 t10 t27 t28 t29 t41 t49 (adv s 2)
noncomputable def f166l2s (Q : AV → St → Prop) (ih1 : AV → AV → AV → AV → AV → St → Prop) (ih2 : AV → AV → AV → AV → AV → AV → AV → AV → St → Prop) (t1 t8 t10 t27 t28 t29 t41 t42 : AV) (s : St) : Prop :=
  Bnd (bn .lss 3 t42 t41) fun t43 =>
  IfP t43
  (Bnd (shiftP 0 t10) fun t45 =>
  Bnd (ld 1 false t45 (adv s 7)) fun t46 =>
  Bnd (bsl 72 1 [(0, t46)]) fun t47 =>
  Bnd (bt .append #[72, 72] [t8, t47] (s.nx + 5) (adv s 7)) fun r48 =>
  f166j4 Q ih1 ih2 t42 t1 r48.1 t10 t27 t28 t29 t41 r48.2)
  (f166j3 Q ih1 t29 t1 t8 t27 t28 (adv s 1))
noncomputable def f166l2 (Q : AV → St → Prop) (ih1 : AV → AV → AV → AV → AV → St → Prop) (n : Nat) : AV → AV → AV → AV → AV → AV → AV → AV → St → Prop := Nat.rec (motive := fun _ => AV → AV → AV → AV → AV → AV → AV → AV → St → Prop) (fun _ _ _ _ _ _ _ _ _ => False) (fun _ ih => f166l2s Q ih1 ih) n
noncomputable def f166l1s (Q : AV → St → Prop) (ih1 : AV → AV → AV → AV → AV → St → Prop) (t1 t8 t27 t28 t29 : AV) (s : St) : Prop :=
  Bnd (bn .lss 3 t29 t28) fun t30 =>
  IfP t30
  (Bnd (ixS 2 t27 t29) fun t31 =>
  Bnd (ld 2 true t31 (adv s 5)) fun t32 =>
  Bnd (zr 109) fun z10 =>
  Bnd (sto 2 (.ptr (s.nx + 3) 0) t32 ((adv s 5).set (s.nx + 3) (some (.cells z10.cells 109 true true)))) fun s1 =>
  Bnd (shiftP 1 (.ptr (s.nx + 3) 0)) fun t33 =>
  Bnd (ld 1 false t33 (adv s1 7)) fun t34 =>
  Bnd (bt .len #[72] [t8] (s1.nx + 4) (adv s1 7)) fun r37 =>
  Bnd (bn .sub 3 t1 r37.1) fun t38 =>
  Bnd (bn .gtr 3 t34 t38) fun t39 =>
  IfP t39
  (Q (.tup [.nils, (.int .i64 2)]) (adv r37.2 2))
  (Bnd (shiftP 1 (.ptr (s.nx + 3) 0)) fun t40 =>
  Bnd (ld 1 false t40 (adv r37.2 3)) fun t41 =>
  ∃ n, f166l2 Q ih1 n t1 t8 (.ptr (s.nx + 3) 0) t27 t28 t29 t41 (.int .i64 0) (adv r37.2 3)))
  (f166j2 Q t1 t8 (adv s 1))
noncomputable def f166l1 (Q : AV → St → Prop) (n : Nat) : AV → AV → AV → AV → AV → St → Prop := Nat.rec (motive := fun _ => AV → AV → AV → AV → AV → St → Prop) (fun _ _ _ _ _ _ => False) (fun _ ih => f166l1s Q ih) n
noncomputable def f166j1 (Q : AV → St → Prop) (t0 t1 : AV) (s : St) : Prop :=
  Bnd (bt .len #[25] [t0] (s.nx + 2) (adv s 4)) fun r28 =>
  ∃ n, f166l1 Q n t1 .nils t0 r28.1 (.int .i64 0) r28.2
noncomputable def f166j5 (Q : AV → St → Prop) (ih3 : AV → AV → AV → AV → AV → St → Prop) (t13 t0 t1 t11 t12 : AV) (s : St) : Prop :=
  Bnd (bn .add 3 t13 (.int .i64 1)) fun t26 =>
  ih3 t0 t1 t11 t12 t26 (adv s 2)
noncomputable def f166l3s (Q : AV → St → Prop) (ih3 : AV → AV → AV → AV → AV → St → Prop) (t0 t1 t11 t12 t13 : AV) (s : St) : Prop :=
  Bnd (bn .lss 3 t13 t12) fun t14 =>
  IfP t14
  (Bnd (ixS 2 t11 t13) fun t15 =>
  Bnd (ld 2 true t15 (adv s 5)) fun t16 =>
  Bnd (zr 109) fun z7 =>
  Bnd (sto 2 (.ptr (s.nx + 3) 0) t16 ((adv s 5).set (s.nx + 3) (some (.cells z7.cells 109 true true)))) fun s1 =>
  Bnd (shiftP 0 (.ptr (s.nx + 3) 0)) fun t17 =>
  Bnd (ld 1 false t17 (adv s1 9)) fun t18 =>
  CallPu Tryz.env 181 [t18] (adv s1 9) fun t19 s2 =>
  Bnd (un .not t19) fun t20 =>
  Gd (wantV t20 false) s2 (fun k => Bnd (shiftP 1 (.ptr (s.nx + 3) 0)) fun v => k v s2) fun t22 s3 =>
  Gd (wantV t20 false) s3 (fun k => Bnd (ld 1 false t22 s3) fun v => k v s3) fun t23 s4 =>
  Gd (wantV t20 false) s4 (fun k => Bnd (bn .lss 3 t23 (.int .i64 1)) fun v => k v s4) fun t24 s5 =>
  Bnd (pickV t20 (.bool true) t24) fun t25 =>
  IfP t25
  (Q (.tup [.nils, (.int .i64 1)]) (adv s5 2))
  (f166j5 Q ih3 t13 t0 t1 t11 t12 s5))
  (f166j1 Q t0 t1 (adv s 1))
noncomputable def f166l3 (Q : AV → St → Prop) (n : Nat) : AV → AV → AV → AV → AV → St → Prop := Nat.rec (motive := fun _ => AV → AV → AV → AV → AV → St → Prop) (fun _ _ _ _ _ _ => False) (fun _ ih => f166l3s Q ih) n
theorem f166j2_eq (Q : AV → St → Prop) : f166C (sub f166B [true, true, true, true]) (f166R Q) (fun _ _ _ => False) (f166R Q) = (fun g s => f166j2 Q (g 1) (g 8) s) :=
  Eq.trans rfl (by kernel_rfl)
theorem f166j3_eq (Q : AV → St → Prop) (n1 : Nat) : f166C (sub f166B [true, true, true, false, true, false, false, true, true, true]) (fun g s => (fun (n : Nat) (g : Gf) (s : St) => f166l1 Q n (g 1) (g 8) (g 27) (g 28) (g 29) s) n1 (fun k => cond (bitOf (Tryz.env.kp 166) k) (g k) .undef) s) (fun i => cond (Nat.beq i 2) (fun g s => f166j2 Q (g 1) (g 8) s) ((fun _ _ _ => False) i)) (f166R Q) = (fun g s => f166j3 Q (f166l1 Q n1) (g 29) (g 1) (g 8) (g 27) (g 28) s) :=
  Eq.trans rfl (by kernel_rfl)
theorem f166j4_eq (Q : AV → St → Prop) (n1 : Nat) (n2 : Nat) : f166C (sub f166B [true, true, true, false, true, false, false, true, true, false, false, true, true, true, false, false, true, true, true]) (fun g s => (fun (n : Nat) (g : Gf) (s : St) => f166l2 Q (f166l1 Q n1) n (g 1) (g 8) (g 10) (g 27) (g 28) (g 29) (g 41) (g 42) s) n2 (fun k => cond (bitOf (Tryz.env.kp 166) k) (g k) .undef) s) (fun i => cond (Nat.beq i 4) (fun g s => f166j3 Q (f166l1 Q n1) (g 29) (g 1) (g 8) (g 27) (g 28) s) ((fun i => cond (Nat.beq i 3) (fun g s => f166j3 Q (f166l1 Q n1) (g 29) (g 1) (g 8) (g 27) (g 28) s) ((fun i => cond (Nat.beq i 2) (fun g s => f166j2 Q (g 1) (g 8) s) ((fun _ _ _ => False) i)) i)) i)) (f166R Q) = (fun g s => f166j4 Q (f166l1 Q n1) (f166l2 Q (f166l1 Q n1) n2) (g 42) (g 1) (g 8) (g 10) (g 27) (g 28) (g 29) (g 41) s) :=
  Eq.trans rfl (by kernel_rfl)
theorem f166l2_eq (Q : AV → St → Prop) (n1 : Nat) (kN : Kt) : f166C (sub f166B [true, true, true, false, true, false, false, true, true, false, false, true, true, true, false]) kN (fun i => cond (Nat.beq i 4) (fun g s => f166j3 Q (f166l1 Q n1) (g 29) (g 1) (g 8) (g 27) (g 28) s) ((fun i => cond (Nat.beq i 3) (fun g s => f166j3 Q (f166l1 Q n1) (g 29) (g 1) (g 8) (g 27) (g 28) s) ((fun i => cond (Nat.beq i 2) (fun g s => f166j2 Q (g 1) (g 8) s) ((fun _ _ _ => False) i)) i)) i)) (f166R Q) = fun g s => ∃ n, (fun (n : Nat) (g : Gf) (s : St) => f166l2 Q (f166l1 Q n1) n (g 1) (g 8) (g 10) (g 27) (g 28) (g 29) (g 41) (g 42) s) n g s :=
  loop_eq (L := fun (n : Nat) (g : Gf) (s : St) => f166l2 Q (f166l1 Q n1) n (g 1) (g 8) (g 10) (g 27) (g 28) (g 29) (g 41) (g 42) s) (by kernel_rfl : (sub f166B [true, true, true, false, true, false, false, true, true, false, false, true, true, true, false]) = .loop (sub f166B [true, true, true, false, true, false, false, true, true, false, false, true, true, true, false, false])) (by kernel_rfl) (fun n2 => Eq.trans (seq_eq (by kernel_rfl : (sub f166B [true, true, true, false, true, false, false, true, true, false, false, true, true, true, false, false]) = .seq (sub f166B [true, true, true, false, true, false, false, true, true, false, false, true, true, true, false, false, false]) (sub f166B [true, true, true, false, true, false, false, true, true, false, false, true, true, true, false, false, true])) (seq_eq (by kernel_rfl : (sub f166B [true, true, true, false, true, false, false, true, true, false, false, true, true, true, false, false, true]) = .seq (sub f166B [true, true, true, false, true, false, false, true, true, false, false, true, true, true, false, false, true, false]) (sub f166B [true, true, true, false, true, false, false, true, true, false, false, true, true, true, false, false, true, true])) (seq_eq (by kernel_rfl : (sub f166B [true, true, true, false, true, false, false, true, true, false, false, true, true, true, false, false, true, true]) = .seq (sub f166B [true, true, true, false, true, false, false, true, true, false, false, true, true, true, false, false, true, true, false]) (sub f166B [true, true, true, false, true, false, false, true, true, false, false, true, true, true, false, false, true, true, true])) (f166j4_eq Q n1 n2) (block_eq (by kernel_rfl : (sub f166B [true, true, true, false, true, false, false, true, true, false, false, true, true, true, false, false, true, true, false]) = .block 5 (sub f166B [true, true, true, false, true, false, false, true, true, false, false, true, true, true, false, false, true, true, false, false])) rfl)) rfl) rfl) (by kernel_rfl))
theorem f166l1_eq (Q : AV → St → Prop) (kN : Kt) : f166C (sub f166B [true, true, true, false, true, false]) kN (fun i => cond (Nat.beq i 2) (fun g s => f166j2 Q (g 1) (g 8) s) ((fun _ _ _ => False) i)) (f166R Q) = fun g s => ∃ n, (fun (n : Nat) (g : Gf) (s : St) => f166l1 Q n (g 1) (g 8) (g 27) (g 28) (g 29) s) n g s :=
  loop_eq (L := fun (n : Nat) (g : Gf) (s : St) => f166l1 Q n (g 1) (g 8) (g 27) (g 28) (g 29) s) (by kernel_rfl : (sub f166B [true, true, true, false, true, false]) = .loop (sub f166B [true, true, true, false, true, false, false])) (by kernel_rfl) (fun n1 => Eq.trans (seq_eq (by kernel_rfl : (sub f166B [true, true, true, false, true, false, false]) = .seq (sub f166B [true, true, true, false, true, false, false, false]) (sub f166B [true, true, true, false, true, false, false, true])) (seq_eq (by kernel_rfl : (sub f166B [true, true, true, false, true, false, false, true]) = .seq (sub f166B [true, true, true, false, true, false, false, true, false]) (sub f166B [true, true, true, false, true, false, false, true, true])) (seq_eq (by kernel_rfl : (sub f166B [true, true, true, false, true, false, false, true, true]) = .seq (sub f166B [true, true, true, false, true, false, false, true, true, false]) (sub f166B [true, true, true, false, true, false, false, true, true, true])) (f166j3_eq Q n1) (block_eq (by kernel_rfl : (sub f166B [true, true, true, false, true, false, false, true, true, false]) = .block 3 (sub f166B [true, true, true, false, true, false, false, true, true, false, false])) (seq_eq (by kernel_rfl : (sub f166B [true, true, true, false, true, false, false, true, true, false, false]) = .seq (sub f166B [true, true, true, false, true, false, false, true, true, false, false, false]) (sub f166B [true, true, true, false, true, false, false, true, true, false, false, true])) (seq_eq (by kernel_rfl : (sub f166B [true, true, true, false, true, false, false, true, true, false, false, true]) = .seq (sub f166B [true, true, true, false, true, false, false, true, true, false, false, true, false]) (sub f166B [true, true, true, false, true, false, false, true, true, false, false, true, true])) (seq_eq (by kernel_rfl : (sub f166B [true, true, true, false, true, false, false, true, true, false, false, true, true]) = .seq (sub f166B [true, true, true, false, true, false, false, true, true, false, false, true, true, false]) (sub f166B [true, true, true, false, true, false, false, true, true, false, false, true, true, true])) (block_eq (by kernel_rfl : (sub f166B [true, true, true, false, true, false, false, true, true, false, false, true, true, true]) = .block 4 (sub f166B [true, true, true, false, true, false, false, true, true, false, false, true, true, true, false])) (f166l2_eq Q n1 _)) rfl) rfl) rfl))) rfl) rfl) (by kernel_rfl))
theorem f166j1_eq (Q : AV → St → Prop) : f166C (sub f166B [true, true]) (f166R Q) (fun _ _ _ => False) (f166R Q) = (fun g s => f166j1 Q (g 0) (g 1) s) :=
  Eq.trans (seq_eq (by kernel_rfl : (sub f166B [true, true]) = .seq (sub f166B [true, true, false]) (sub f166B [true, true, true])) (seq_eq (by kernel_rfl : (sub f166B [true, true, true]) = .seq (sub f166B [true, true, true, false]) (sub f166B [true, true, true, true])) (f166j2_eq Q) (seq_eq (by kernel_rfl : (sub f166B [true, true, true, false]) = .seq (sub f166B [true, true, true, false, false]) (sub f166B [true, true, true, false, true])) (block_eq (by kernel_rfl : (sub f166B [true, true, true, false, true]) = .block 2 (sub f166B [true, true, true, false, true, false])) (f166l1_eq Q _)) rfl)) rfl) (by kernel_rfl)
theorem f166j5_eq (Q : AV → St → Prop) (n3 : Nat) : f166C (sub f166B [true, false, true, false, false, true, true, true]) (fun g s => (fun (n : Nat) (g : Gf) (s : St) => f166l3 Q n (g 0) (g 1) (g 11) (g 12) (g 13) s) n3 (fun k => cond (bitOf (Tryz.env.kp 166) k) (g k) .undef) s) (fun i => cond (Nat.beq i 0) (fun g s => f166j1 Q (g 0) (g 1) s) ((fun _ _ _ => False) i)) (f166R Q) = (fun g s => f166j5 Q (f166l3 Q n3) (g 13) (g 0) (g 1) (g 11) (g 12) s) :=
  Eq.trans rfl (by kernel_rfl)
theorem f166l3_eq (Q : AV → St → Prop) (kN : Kt) : f166C (sub f166B [true, false, true, false]) kN (fun i => cond (Nat.beq i 0) (fun g s => f166j1 Q (g 0) (g 1) s) ((fun _ _ _ => False) i)) (f166R Q) = fun g s => ∃ n, (fun (n : Nat) (g : Gf) (s : St) => f166l3 Q n (g 0) (g 1) (g 11) (g 12) (g 13) s) n g s :=
  loop_eq (L := fun (n : Nat) (g : Gf) (s : St) => f166l3 Q n (g 0) (g 1) (g 11) (g 12) (g 13) s) (by kernel_rfl : (sub f166B [true, false, true, false]) = .loop (sub f166B [true, false, true, false, false])) (by kernel_rfl) (fun n3 => Eq.trans (seq_eq (by kernel_rfl : (sub f166B [true, false, true, false, false]) = .seq (sub f166B [true, false, true, false, false, false]) (sub f166B [true, false, true, false, false, true])) (seq_eq (by kernel_rfl : (sub f166B [true, false, true, false, false, true]) = .seq (sub f166B [true, false, true, false, false, true, false]) (sub f166B [true, false, true, false, false, true, true])) (seq_eq (by kernel_rfl : (sub f166B [true, false, true, false, false, true, true]) = .seq (sub f166B [true, false, true, false, false, true, true, false]) (sub f166B [true, false, true, false, false, true, true, true])) (f166j5_eq Q n3) (block_eq (by kernel_rfl : (sub f166B [true, false, true, false, false, true, true, false]) = .block 1 (sub f166B [true, false, true, false, false, true, true, false, false])) rfl)) rfl) rfl) (by kernel_rfl))
noncomputable def f166 (Q : AV → St → Prop) (t0 t1 : AV) (s : St) : Prop :=
  Bnd (bt .len #[25] [t0] (s.nx + 3) (adv s 5)) fun r12 =>
  ∃ n, f166l3 Q n t0 t1 t0 r12.1 (.int .i64 0) r12.2
theorem f166_run (t0 t1 : AV) (s : St) {Q : AV → St → Prop} (h : f166 Q t0 t1 s) : ∃ r s', WideC Tryz.env 166 [t0, t1] s r s' ∧ Q r s' :=
  wide_of (h := 166) (fn := Tryz.f166) (c := sub f166B []) (by kernel_rfl) (by kernel_rfl) (by kernel_rfl) (by kernel_rfl) (of_decide_eq_true (by kernel_rfl))
    (Eq.mp (Eq.trans (by kernel_rfl) (congrFun (congrFun (show f166C (sub f166B []) (f166R Q) (fun _ _ _ => False) (f166R Q) = _ from (seq_eq (by kernel_rfl : (sub f166B []) = .seq (sub f166B [false]) (sub f166B [true])) (seq_eq (by kernel_rfl : (sub f166B [true]) = .seq (sub f166B [true, false]) (sub f166B [true, true])) (f166j1_eq Q) (seq_eq (by kernel_rfl : (sub f166B [true, false]) = .seq (sub f166B [true, false, false]) (sub f166B [true, false, true])) (block_eq (by kernel_rfl : (sub f166B [true, false, true]) = .block 0 (sub f166B [true, false, true, false])) (f166l3_eq Q _)) rfl)) rfl)).symm (gt (frame Tryz.f166 [t0, t1]))) s)) h)
noncomputable abbrev f181B : Code := bodyOf Tryz.f181
noncomputable abbrev f181R (Q : AV → St → Prop) : Kt := fun g s => RetP (result Tryz.ty Tryz.f181 g s) fun v => Q v s
noncomputable abbrev f181C : Code → Kt → (Nat → Kt) → Kt → Kt := codeP Tryz.env 181 (Tryz.env.kp 181)
noncomputable def f181 (Q : AV → St → Prop) (t0 : AV) (s : St) : Prop :=
  Bnd (bn .geq 3 t0 (.int .i64 0)) fun t4 =>
  Gd (wantV t4 true) (adv s 8) (fun k => k t0 (adv s 8)) fun t6 s1 =>
  Gd (wantV t4 true) s1 (fun k => Bnd (bn .leq 3 t6 (.int .i64 196607)) fun v => k v s1) fun t7 s2 =>
  Bnd (pickV t4 t7 (.bool false)) fun t8 =>
  Q t8 s2
theorem f181_run (t0 : AV) (s : St) {Q : AV → St → Prop} (h : f181 Q t0 s) : ∃ r s', WideC Tryz.env 181 [t0] s r s' ∧ Q r s' :=
  wide_of (h := 181) (fn := Tryz.f181) (c := sub f181B []) (by kernel_rfl) (by kernel_rfl) (by kernel_rfl) (by kernel_rfl) (of_decide_eq_true (by kernel_rfl))
    (Eq.mp (Eq.trans (by kernel_rfl) (congrFun (congrFun (show f181C (sub f181B []) (f181R Q) (fun _ _ _ => False) (f181R Q) = _ from rfl).symm (gt (frame Tryz.f181 [t0]))) s)) h)
end Go.Proofs.YtdehdahimkcakaaGreatDoor
end
section
set_option linter.unusedVariables false
set_option maxRecDepth 1000000
namespace Go.Proofs.YtdehdahimkcakaaGreatDoor
open Go Ai
noncomputable abbrev f15B : Code := bodyOf Tryz.f15
noncomputable abbrev f15R (Q : AV → St → Prop) : Kt := fun g s => RetP (result Tryz.ty Tryz.f15 g s) fun v => Q v s
noncomputable abbrev f15C : Code → Kt → (Nat → Kt) → Kt → Kt := codeP Tryz.env 15 (Tryz.env.kp 15)
noncomputable def f15 (Q : AV → St → Prop) (s : St) : Prop :=
  CallPu Tryz.env 54 [(.int .i64 (-5))] (adv s 10) fun t10 s1 =>
  Bnd (bld 27 [(0, (.int .i64 2)), (2, t10)]) fun t11 =>
  CallPu Tryz.env 16 [t11] s1 fun t12 s2 =>
  Bnd (extr t12 0) fun t13 =>
  Bnd (extr t12 1) fun t14 =>
  Bnd (zr 33) fun z1 =>
  Bnd (sto 6 (.ptr (s.nx + 7) 0) t13 (s2.set (s.nx + 7) (some (.cells z1.cells 33 true true)))) fun s3 =>
  Bnd (ld 6 true (.ptr (s.nx + 7) 0) (adv s3 7)) fun t16 =>
  CallPu Tryz.env 55 [t16] (adv s3 7) fun t17 s4 =>
  Bnd (extr t17 0) fun t18 =>
  Bnd (extr t17 1) fun t19 =>
  Bnd (bld 109 [(0, (.int .i64 97)), (1, (.int .i64 1000))]) fun t21 =>
  Bnd (bld 109 [(0, (.int .i64 98)), (1, (.int .i64 1))]) fun t22 =>
  Bnd (bsl 25 2 [(0, t21), (1, t22)]) fun t23 =>
  Bnd (bld 27 [(0, (.int .i64 3)), (3, t23)]) fun t24 =>
  CallPu Tryz.env 16 [t24] (adv s4 11) fun t25 s5 =>
  Bnd (extr t25 0) fun t26 =>
  Bnd (extr t25 1) fun t27 =>
  Bnd (zr 33) fun z5 =>
  Bnd (sto 6 (.ptr (s4.nx + 8) 0) t26 (s5.set (s4.nx + 8) (some (.cells z5.cells 33 true true)))) fun s6 =>
  Bnd (bld 109 [(0, (.int .i64 97)), (1, (.int .i64 1001))]) fun t29 =>
  Bnd (bsl 25 1 [(0, t29)]) fun t30 =>
  Bnd (bld 27 [(0, (.int .i64 3)), (3, t30)]) fun t31 =>
  CallPu Tryz.env 16 [t31] (adv s6 10) fun t32 s7 =>
  Bnd (extr t32 0) fun t33 =>
  Bnd (extr t32 1) fun t34 =>
  Bnd (zr 33) fun z7 =>
  Bnd (sto 6 (.ptr (s6.nx + 7) 0) t33 (s7.set (s6.nx + 7) (some (.cells z7.cells 33 true true)))) fun s8 =>
  Bnd (bn .eql 34 t14 (.int .i64 0)) fun t36 =>
  Gd (wantV t36 true) (adv s8 34) (fun k => k t19 (adv s8 34)) fun t38 s9 =>
  Gd (wantV t36 true) s9 (fun k => Bnd (bn .eql 34 t38 (.int .i64 0)) fun v => k v s9) fun t39 s10 =>
  Bnd (pickV t36 t39 (.bool false)) fun t40 =>
  Gd (wantV t40 true) s10 (fun k => k t27 s10) fun t42 s11 =>
  Gd (wantV t40 true) s11 (fun k => Bnd (bn .eql 34 t42 (.int .i64 0)) fun v => k v s11) fun t43 s12 =>
  Bnd (pickV t40 t43 (.bool false)) fun t44 =>
  Gd (wantV t44 true) s12 (fun k => k t34 s12) fun t46 s13 =>
  Gd (wantV t44 true) s13 (fun k => Bnd (bn .eql 34 t46 (.int .i64 0)) fun v => k v s13) fun t47 s14 =>
  Bnd (pickV t44 t47 (.bool false)) fun t48 =>
  Gd (wantV t48 true) s14 (fun k => k t18 s14) fun t50 s15 =>
  Gd (wantV t48 true) s15 (fun k => Bnd (bn .eql 9 t50 (.str [40, 45, 32, 53, 41])) fun v => k v s15) fun t51 s16 =>
  Bnd (pickV t48 t51 (.bool false)) fun t52 =>
  Gd (wantV t52 true) s16 (fun k => Bnd (shiftP 5 (.ptr (s4.nx + 8) 0)) fun v => k v s16) fun t54 s17 =>
  Gd (wantV t52 true) s17 (fun k => Bnd (ld 1 false t54 s17) fun v => k v s17) fun t55 s18 =>
  Gd (wantV t52 true) s18 (fun k => Bnd (bt .len #[31] [t55] (s8.nx + 21) s18) fun r => k r.1 r.2) fun t56 s19 =>
  Gd (wantV t52 true) s19 (fun k => Bnd (bn .eql 3 t56 (.int .i64 3)) fun v => k v s19) fun t57 s20 =>
  Bnd (pickV t52 t57 (.bool false)) fun t58 =>
  Gd (wantV t58 true) s20 (fun k => Bnd (ld 6 true (.ptr (s6.nx + 7) 0) s20) fun v => k v s20) fun t60 s21 =>
  Gd (wantV t58 true) s21 (fun k => CallPu Tryz.env 21 [t60] s21 k) fun t61 s22 =>
  Gd (wantV t58 true) s22 (fun k => Bnd (bn .eql 3 t61 (.int .i64 13)) fun v => k v s22) fun t62 s23 =>
  Bnd (pickV t58 t62 (.bool false)) fun t63 =>
  Gd (wantV t63 true) s23 (fun k => CallPu Tryz.env 22 [(.int .i64 22)] s23 k) fun t65 s24 =>
  Gd (wantV t63 true) s24 (fun k => Bnd (bn .eql 9 t65 (.str [115, 116, 114, 46, 43, 43])) fun v => k v s24) fun t66 s25 =>
  Bnd (pickV t63 t66 (.bool false)) fun t67 =>
  Q t67 s25
theorem f15_run (s : St) {Q : AV → St → Prop} (h : f15 Q s) : ∃ r s', WideC Tryz.env 15 [] s r s' ∧ Q r s' :=
  wide_of (h := 15) (fn := Tryz.f15) (c := sub f15B []) (by kernel_rfl) (by kernel_rfl) (by kernel_rfl) (by kernel_rfl) (of_decide_eq_true (by kernel_rfl))
    (Eq.mp (Eq.trans (by kernel_rfl) (congrFun (congrFun (show f15C (sub f15B []) (f15R Q) (fun _ _ _ => False) (f15R Q) = _ from rfl).symm (gt (frame Tryz.f15 []))) s)) h)
noncomputable abbrev f16B : Code := bodyOf Tryz.f16
noncomputable abbrev f16R (Q : AV → St → Prop) : Kt := fun g s => RetP (result Tryz.ty Tryz.f16 g s) fun v => Q v s
noncomputable abbrev f16C : Code → Kt → (Nat → Kt) → Kt → Kt := codeP Tryz.env 16 (Tryz.env.kp 16)
noncomputable def f16j1 (Q : AV → St → Prop) (t2 : AV) (s : St) : Prop :=
  Bnd (bld 33 []) fun t58 =>
  Bnd (sto 6 t2 t58 (adv s 3)) fun s1 =>
  RetP ((resC [ld 6 true t2 s1, some (.int .i64 1)]).map tupV) fun v => Q v s1
theorem f16j1_eq (Q : AV → St → Prop) : f16C (sub f16B [true, true]) (f16R Q) (fun _ _ _ => False) (f16R Q) = (fun g s => f16j1 Q (g 2) s) :=
  Eq.trans rfl (by kernel_rfl)
noncomputable def f16 (Q : AV → St → Prop) (t0 : AV) (s : St) : Prop :=
  (t0.cells.all AV.one = true ∧
  Bnd (zr 33) fun z2 =>
  Bnd (shiftP 0 (.ptr s.nx 0)) fun t5 =>
  Bnd (ld 1 false t5 (adv (((adv s 3).set s.nx (some (.cells t0.cells 27 true true))).set (s.nx + 1) (some (.cells z2.cells 33 true true))) 8)) fun t6 =>
  Bnd (bn .eql 3 t6 (.int .i64 1)) fun t7 =>
  Gd (wantV t7 true) (adv (((adv s 3).set s.nx (some (.cells t0.cells 27 true true))).set (s.nx + 1) (some (.cells z2.cells 33 true true))) 8) (fun k => Bnd (shiftP 1 (.ptr s.nx 0)) fun v => k v (adv (((adv s 3).set s.nx (some (.cells t0.cells 27 true true))).set (s.nx + 1) (some (.cells z2.cells 33 true true))) 8)) fun t9 s1 =>
  Gd (wantV t7 true) s1 (fun k => Bnd (ld 1 false t9 s1) fun v => k v s1) fun t10 s2 =>
  Bnd (pickV t7 t10 (.bool false)) fun t11 =>
  IfP t11
  (CallPu Tryz.env 56 [(.str [116, 114, 117, 101])] (adv s2 3) fun t12 s3 =>
  Bnd (sto 6 (.ptr (s.nx + 1) 0) t12 s3) fun s4 =>
  RetP ((resC [ld 6 true (.ptr (s.nx + 1) 0) s4, some (.int .i64 0)]).map tupV) fun v => Q v s4)
  (Bnd (shiftP 0 (.ptr s.nx 0)) fun t14 =>
  Bnd (ld 1 false t14 (adv s2 4)) fun t15 =>
  Bnd (bn .eql 3 t15 (.int .i64 1)) fun t16 =>
  IfP t16
  (CallPu Tryz.env 56 [(.str [102, 97, 108, 115, 101])] (adv s2 7) fun t17 s5 =>
  Bnd (sto 6 (.ptr (s.nx + 1) 0) t17 s5) fun s6 =>
  RetP ((resC [ld 6 true (.ptr (s.nx + 1) 0) s6, some (.int .i64 0)]).map tupV) fun v => Q v s6)
  (Bnd (shiftP 0 (.ptr s.nx 0)) fun t19 =>
  Bnd (ld 1 false t19 (adv s2 14)) fun t20 =>
  Bnd (bn .eql 3 t20 (.int .i64 2)) fun t21 =>
  Gd (wantV t21 true) (adv s2 14) (fun k => Bnd (shiftP 2 (.ptr s.nx 0)) fun v => k v (adv s2 14)) fun t23 s7 =>
  Gd (wantV t21 true) s7 (fun k => Bnd (ld 2 true t23 s7) fun v => k v s7) fun t24 s8 =>
  Gd (wantV t21 true) s8 (fun k => CallPu Tryz.env 20 [t24] s8 k) fun t25 s9 =>
  Gd (wantV t21 true) s9 (fun k => Bnd (bn .lss 3 t25 (.int .i64 0)) fun v => k v s9) fun t26 s10 =>
  Bnd (pickV t21 t26 (.bool false)) fun t27 =>
  IfP t27
  (Bnd (shiftP 2 (.ptr s.nx 0)) fun t28 =>
  Bnd (shiftP 1 t28) fun t29 =>
  Bnd (ld 1 false t29 (adv s10 9)) fun t30 =>
  CallPu Tryz.env 59 [t30] (adv s10 9) fun t31 s11 =>
  CallPu Tryz.env 58 [(.int .i64 4), t31] s11 fun t32 s12 =>
  Bnd (bsl 31 1 [(0, t32)]) fun t33 =>
  CallWi Tryz.env 57 [(.str [45]), t33] s12 fun t34 s13 =>
  Bnd (sto 6 (.ptr (s.nx + 1) 0) t34 s13) fun s14 =>
  RetP ((resC [ld 6 true (.ptr (s.nx + 1) 0) s14, some (.int .i64 0)]).map tupV) fun v => Q v s14)
  (Bnd (shiftP 0 (.ptr s.nx 0)) fun t36 =>
  Bnd (ld 1 false t36 (adv s10 4)) fun t37 =>
  Bnd (bn .eql 3 t37 (.int .i64 2)) fun t38 =>
  IfP t38
  (Bnd (shiftP 2 (.ptr s.nx 0)) fun t39 =>
  Bnd (shiftP 1 t39) fun t40 =>
  Bnd (ld 1 false t40 (adv s10 11)) fun t41 =>
  CallPu Tryz.env 59 [t41] (adv s10 11) fun t42 s15 =>
  CallPu Tryz.env 58 [(.int .i64 4), t42] s15 fun t43 s16 =>
  Bnd (sto 6 (.ptr (s.nx + 1) 0) t43 s16) fun s17 =>
  RetP ((resC [ld 6 true (.ptr (s.nx + 1) 0) s17, some (.int .i64 0)]).map tupV) fun v => Q v s17)
  (Bnd (shiftP 0 (.ptr s.nx 0)) fun t45 =>
  Bnd (ld 1 false t45 (adv s10 13)) fun t46 =>
  Bnd (bn .eql 3 t46 (.int .i64 3)) fun t47 =>
  Gd (wantV t47 true) (adv s10 13) (fun k => Bnd (shiftP 4 (.ptr s.nx 0)) fun v => k v (adv s10 13)) fun t49 s18 =>
  Gd (wantV t47 true) s18 (fun k => Bnd (ld 1 false t49 s18) fun v => k v s18) fun t50 s19 =>
  Gd (wantV t47 true) s19 (fun k => CallPu Tryz.env 60 [t50] s19 k) fun t51 s20 =>
  Bnd (pickV t47 t51 (.bool false)) fun t52 =>
  IfP t52
  (Bnd (shiftP 4 (.ptr s.nx 0)) fun t53 =>
  Bnd (ld 1 false t53 (adv s20 7)) fun t54 =>
  CallPu Tryz.env 61 [t54] (adv s20 7) fun t55 s21 =>
  Bnd (extr t55 0) fun t56 =>
  Bnd (extr t55 1) fun t57 =>
  Bnd (sto 6 (.ptr (s.nx + 1) 0) t56 s21) fun s22 =>
  RetP ((resC [ld 6 true (.ptr (s.nx + 1) 0) s22, some t57]).map tupV) fun v => Q v s22)
  (f16j1 Q (.ptr (s.nx + 1) 0) s20))))))
theorem f16_run (t0 : AV) (s : St) {Q : AV → St → Prop} (h : f16 Q t0 s) : ∃ r s', WideC Tryz.env 16 [t0] s r s' ∧ Q r s' :=
  wide_of (h := 16) (fn := Tryz.f16) (c := sub f16B []) (by kernel_rfl) (by kernel_rfl) (by kernel_rfl) (by kernel_rfl) (of_decide_eq_true (by kernel_rfl))
    (Eq.mp (Eq.trans (by kernel_rfl) (congrFun (congrFun (show f16C (sub f16B []) (f16R Q) (fun _ _ _ => False) (f16R Q) = _ from (seq_eq (by kernel_rfl : (sub f16B []) = .seq (sub f16B [false]) (sub f16B [true])) (seq_eq (by kernel_rfl : (sub f16B [true]) = .seq (sub f16B [true, false]) (sub f16B [true, true])) (f16j1_eq Q) (block_eq (by kernel_rfl : (sub f16B [true, false]) = .block 0 (sub f16B [true, false, false])) rfl)) rfl)).symm (gt (frame Tryz.f16 [t0]))) s)) h)
noncomputable abbrev f61B : Code := bodyOf Tryz.f61
noncomputable abbrev f61R (Q : AV → St → Prop) : Kt := fun g s => RetP (result Tryz.ty Tryz.f61 g s) fun v => Q v s
noncomputable abbrev f61C : Code → Kt → (Nat → Kt) → Kt → Kt := codeP Tryz.env 61 (Tryz.env.kp 61)
noncomputable def f61j2 (Q : AV → St → Prop) (t4 t2 : AV) (s : St) : Prop :=
  CallWi Tryz.env 57 [(.str [115, 116, 114, 46, 43, 43]), t4] (adv s 4) fun t79 s1 =>
  Bnd (zr 33) fun z9 =>
  Bnd (sto 6 (.ptr (s.nx + 2) 0) t79 (s1.set (s.nx + 2) (some (.cells z9.cells 33 true true)))) fun s2 =>
  Bnd (ld 6 true (.ptr (s.nx + 2) 0) (adv s2 3)) fun t80 =>
  CallPu Tryz.env 116 [t80] (adv s2 3) fun t81 s3 =>
  Bnd (bn .gtr 3 t81 (.int .i64 2000)) fun t82 =>
  IfP t82
  (Bnd (bld 33 []) fun t83 =>
  Bnd (sto 6 t2 t83 (adv s3 3)) fun s4 =>
  RetP ((resC [ld 6 true t2 s4, some (.int .i64 2)]).map tupV) fun v => Q v s4)
  (Bnd (ld 6 true (.ptr (s.nx + 2) 0) (adv s3 3)) fun t84 =>
  Bnd (sto 6 t2 t84 (adv s3 3)) fun s5 =>
  RetP ((resC [ld 6 true t2 s5, some (.int .i64 0)]).map tupV) fun v => Q v s5)
noncomputable def f61j1 (Q : AV → St → Prop) (t4 t2 : AV) (s : St) : Prop :=
  Bnd (bt .len #[31] [t4] (s.nx + 1) (adv s 4)) fun r63 =>
  Bnd (bn .eql 3 r63.1 (.int .i64 0)) fun t64 =>
  IfP t64
  (CallPu Tryz.env 58 [(.int .i64 6), (.str [])] (adv r63.2 3) fun t65 s1 =>
  Bnd (sto 6 t2 t65 s1) fun s2 =>
  RetP ((resC [ld 6 true t2 s2, some (.int .i64 0)]).map tupV) fun v => Q v s2)
  (Bnd (bt .len #[31] [t4] (r63.2.nx + 1) (adv r63.2 4)) fun r68 =>
  Bnd (bn .gtr 3 r68.1 (.int .i64 200)) fun t69 =>
  IfP t69
  (Bnd (bld 33 []) fun t70 =>
  Bnd (sto 6 t2 t70 (adv r68.2 3)) fun s3 =>
  RetP ((resC [ld 6 true t2 s3, some (.int .i64 2)]).map tupV) fun v => Q v s3)
  (Bnd (bt .len #[31] [t4] (r68.2.nx + 1) (adv r68.2 4)) fun r73 =>
  Bnd (bn .eql 3 r73.1 (.int .i64 1)) fun t74 =>
  IfP t74
  (Bnd (ixS 6 t4 (.int .i64 0)) fun t76 =>
  Bnd (ld 6 true t76 (adv r73.2 5)) fun t77 =>
  Bnd (sto 6 t2 t77 (adv r73.2 5)) fun s4 =>
  RetP ((resC [ld 6 true t2 s4, some (.int .i64 0)]).map tupV) fun v => Q v s4)
  (f61j2 Q t4 t2 r73.2)))
noncomputable def f61j3 (Q : AV → St → Prop) (ih1 : AV → AV → AV → St → Prop) (t6 t4 t0 t2 : AV) (s : St) : Prop :=
  Bnd (bn .eql 3 t6 (.int .i64 0)) fun t37 =>
  IfP t37
  (Bnd (ixS 2 t0 (.int .i64 0)) fun t40 =>
  Bnd (ld 2 true t40 (adv s 13)) fun t41 =>
  CallPuD Tryz.env 114 [t41] (rch (adv s 13) [(.fn 114 [] []), t41]) (adv s 13) fun t42 s1 =>
  Bnd (bsl 31 1 [(0, t42)]) fun t43 =>
  (s1.h (s.nx + 8) = none ∧ Bnd (bt .append #[31, 31] [t4, t43] (s.nx + 8) s1) fun r44 =>
  (clear 128 ⟨8, false, idOf t0, none⟩ [⟨7, false, [], none⟩, ⟨6, true, (s.nx + 8) :: ([t4, t43]).flatMap idOf, none⟩, ⟨5, false, [], none⟩, ⟨4, false, rch (adv s 13) [(.fn 114 [] []), t41], none⟩, ⟨3, false, idOf t40, none⟩, ⟨2, false, [], none⟩, ⟨1, false, [], none⟩, ⟨0, false, [], none⟩] = true ∧ Bnd (slc 25 t0 (some (.int .i64 1)) none none r44.2) fun t46 =>
  ih1 t46 t2 r44.1 r44.2)))
  (Bnd (slc 25 t0 none (some t6) none (adv s 12)) fun t50 =>
  CallPu Tryz.env 115 [t50] (adv s 12) fun t51 s2 =>
  Bnd (extr t51 0) fun t52 =>
  Bnd (extr t51 1) fun t53 =>
  Bnd (zr 33) fun z7 =>
  Bnd (sto 6 (.ptr (s.nx + 9) 0) t52 (s2.set (s.nx + 9) (some (.cells z7.cells 33 true true)))) fun s3 =>
  Bnd (ld 6 true (.ptr (s.nx + 9) 0) (adv s3 9)) fun t55 =>
  Bnd (bsl 31 1 [(0, t55)]) fun t56 =>
  ((adv s3 9).h (s3.nx + 3) = none ∧ Bnd (bt .append #[31, 31] [t4, t56] (s3.nx + 3) (adv s3 9)) fun r57 =>
  (clear 48 ⟨6, false, idOf t0, none⟩ [⟨5, false, [], none⟩, ⟨4, false, [], none⟩, ⟨3, true, (s3.nx + 3) :: ([t4, t56]).flatMap idOf, none⟩, ⟨2, false, [], none⟩, ⟨1, false, idOf (.ptr (s.nx + 9) 0), none⟩, ⟨0, false, [], none⟩] = true ∧ Bnd (slc 25 t0 (some t6) none none r57.2) fun t60 =>
  ih1 t60 t2 r57.1 r57.2)))
noncomputable def f61l2s (Q : AV → St → Prop) (ih1 : AV → AV → AV → St → Prop) (ih2 : AV → AV → AV → AV → AV → St → Prop) (t0 t2 t4 t5 t6 : AV) (s : St) : Prop :=
  Bnd (bt .len #[25] [t0] (s.nx + 2) (adv s 14)) fun r15 =>
  Bnd (bn .lss 3 t6 r15.1) fun t16 =>
  Gd (wantV t16 true) r15.2 (fun k => k t5 r15.2) fun t18 s1 =>
  Gd (wantV t16 true) s1 (fun k => k t0 s1) fun t19 s2 =>
  Gd (wantV t16 true) s2 (fun k => k t6 s2) fun t20 s3 =>
  Gd (wantV t16 true) s3 (fun k => Bnd (ixS 2 t19 t20) fun v => k v s3) fun t21 s4 =>
  Gd (wantV t16 true) s4 (fun k => Bnd (shiftP 1 t21) fun v => k v s4) fun t22 s5 =>
  Gd (wantV t16 true) s5 (fun k => Bnd (ld 1 false t22 s5) fun v => k v s5) fun t23 s6 =>
  Gd (wantV t16 true) s6 (fun k => Bnd (bn .add 3 t18 t23) fun v => k v s6) fun t24 s7 =>
  Gd (wantV t16 true) s7 (fun k => Bnd (bn .leq 3 t24 (.int .i64 1000)) fun v => k v s7) fun t25 s8 =>
  Bnd (pickV t16 t25 (.bool false)) fun t26 =>
  IfP t26
  (Bnd (ixS 2 t0 t6) fun t30 =>
  Bnd (shiftP 1 t30) fun t31 =>
  Bnd (ld 1 false t31 (adv s8 8)) fun t32 =>
  Bnd (bn .add 3 t5 t32) fun t33 =>
  Bnd (bn .add 3 t6 (.int .i64 1)) fun t35 =>
  ih2 t0 t2 t4 t33 t35 (adv s8 11))
  (f61j3 Q ih1 t6 t4 t0 t2 s8)
noncomputable def f61l2 (Q : AV → St → Prop) (ih1 : AV → AV → AV → St → Prop) (n : Nat) : AV → AV → AV → AV → AV → St → Prop := Nat.rec (motive := fun _ => AV → AV → AV → AV → AV → St → Prop) (fun _ _ _ _ _ _ => False) (fun _ ih => f61l2s Q ih1 ih) n
noncomputable def f61l1s (Q : AV → St → Prop) (ih1 : AV → AV → AV → St → Prop) (t0 t2 t4 : AV) (s : St) : Prop :=
  Bnd (bt .len #[25] [t0] (s.nx + 1) (adv s 3)) fun r11 =>
  Bnd (bn .gtr 3 r11.1 (.int .i64 0)) fun t12 =>
  IfP t12
  (∃ n, f61l2 Q ih1 n t0 t2 t4 (.int .i64 0) (.int .i64 0) (adv r11.2 2))
  (f61j1 Q t4 t2 r11.2)
noncomputable def f61l1 (Q : AV → St → Prop) (n : Nat) : AV → AV → AV → St → Prop := Nat.rec (motive := fun _ => AV → AV → AV → St → Prop) (fun _ _ _ _ => False) (fun _ ih => f61l1s Q ih) n
theorem f61j2_eq (Q : AV → St → Prop) : f61C (sub f61B [true, true, true, true]) (f61R Q) (fun _ _ _ => False) (f61R Q) = (fun g s => f61j2 Q (g 4) (g 2) s) :=
  Eq.trans rfl (by kernel_rfl)
theorem f61j1_eq (Q : AV → St → Prop) : f61C (sub f61B [true, true, true]) (f61R Q) (fun _ _ _ => False) (f61R Q) = (fun g s => f61j1 Q (g 4) (g 2) s) :=
  Eq.trans (seq_eq (by kernel_rfl : (sub f61B [true, true, true]) = .seq (sub f61B [true, true, true, false]) (sub f61B [true, true, true, true])) (f61j2_eq Q) (block_eq (by kernel_rfl : (sub f61B [true, true, true, false]) = .block 4 (sub f61B [true, true, true, false, false])) rfl)) (by kernel_rfl)
theorem f61j3_eq (Q : AV → St → Prop) (n1 : Nat) : f61C (sub f61B [true, true, false, false, false, true, false, true, true]) (fun g s => (fun (n : Nat) (g : Gf) (s : St) => f61l1 Q n (g 0) (g 2) (g 4) s) n1 (fun k => cond (bitOf (Tryz.env.kp 61) k) (g k) .undef) s) (fun i => cond (Nat.beq i 1) (fun g s => (fun (n : Nat) (g : Gf) (s : St) => f61l1 Q n (g 0) (g 2) (g 4) s) n1 (fun k => cond (bitOf (Tryz.env.kp 61) k) (g k) .undef) s) ((fun i => cond (Nat.beq i 0) (fun g s => f61j1 Q (g 4) (g 2) s) ((fun _ _ _ => False) i)) i)) (f61R Q) = (fun g s => f61j3 Q (f61l1 Q n1) (g 6) (g 4) (g 0) (g 2) s) :=
  Eq.trans rfl (by kernel_rfl)
theorem f61l2_eq (Q : AV → St → Prop) (n1 : Nat) (kN : Kt) : f61C (sub f61B [true, true, false, false, false, true, false, true, false, false]) kN (fun i => cond (Nat.beq i 2) (fun g s => f61j3 Q (f61l1 Q n1) (g 6) (g 4) (g 0) (g 2) s) ((fun i => cond (Nat.beq i 1) (fun g s => (fun (n : Nat) (g : Gf) (s : St) => f61l1 Q n (g 0) (g 2) (g 4) s) n1 (fun k => cond (bitOf (Tryz.env.kp 61) k) (g k) .undef) s) ((fun i => cond (Nat.beq i 0) (fun g s => f61j1 Q (g 4) (g 2) s) ((fun _ _ _ => False) i)) i)) i)) (f61R Q) = fun g s => ∃ n, (fun (n : Nat) (g : Gf) (s : St) => f61l2 Q (f61l1 Q n1) n (g 0) (g 2) (g 4) (g 5) (g 6) s) n g s :=
  loop_eq (L := fun (n : Nat) (g : Gf) (s : St) => f61l2 Q (f61l1 Q n1) n (g 0) (g 2) (g 4) (g 5) (g 6) s) (by kernel_rfl : (sub f61B [true, true, false, false, false, true, false, true, false, false]) = .loop (sub f61B [true, true, false, false, false, true, false, true, false, false, false])) (by kernel_rfl) (fun n2 => Eq.trans (seq_eq (by kernel_rfl : (sub f61B [true, true, false, false, false, true, false, true, false, false, false]) = .seq (sub f61B [true, true, false, false, false, true, false, true, false, false, false, false]) (sub f61B [true, true, false, false, false, true, false, true, false, false, false, true])) (block_eq (by kernel_rfl : (sub f61B [true, true, false, false, false, true, false, true, false, false, false, true]) = .block 3 (sub f61B [true, true, false, false, false, true, false, true, false, false, false, true, false])) rfl) rfl) (by kernel_rfl))
theorem f61l1_eq (Q : AV → St → Prop) (kN : Kt) : f61C (sub f61B [true, true, false, false]) kN (fun i => cond (Nat.beq i 0) (fun g s => f61j1 Q (g 4) (g 2) s) ((fun _ _ _ => False) i)) (f61R Q) = fun g s => ∃ n, (fun (n : Nat) (g : Gf) (s : St) => f61l1 Q n (g 0) (g 2) (g 4) s) n g s :=
  loop_eq (L := fun (n : Nat) (g : Gf) (s : St) => f61l1 Q n (g 0) (g 2) (g 4) s) (by kernel_rfl : (sub f61B [true, true, false, false]) = .loop (sub f61B [true, true, false, false, false])) (by kernel_rfl) (fun n1 => Eq.trans (seq_eq (by kernel_rfl : (sub f61B [true, true, false, false, false]) = .seq (sub f61B [true, true, false, false, false, false]) (sub f61B [true, true, false, false, false, true])) (block_eq (by kernel_rfl : (sub f61B [true, true, false, false, false, true]) = .block 1 (sub f61B [true, true, false, false, false, true, false])) (seq_eq (by kernel_rfl : (sub f61B [true, true, false, false, false, true, false]) = .seq (sub f61B [true, true, false, false, false, true, false, false]) (sub f61B [true, true, false, false, false, true, false, true])) (seq_eq (by kernel_rfl : (sub f61B [true, true, false, false, false, true, false, true]) = .seq (sub f61B [true, true, false, false, false, true, false, true, false]) (sub f61B [true, true, false, false, false, true, false, true, true])) (f61j3_eq Q n1) (block_eq (by kernel_rfl : (sub f61B [true, true, false, false, false, true, false, true, false]) = .block 2 (sub f61B [true, true, false, false, false, true, false, true, false, false])) (f61l2_eq Q n1 _))) rfl)) rfl) (by kernel_rfl))
noncomputable def f61 (Q : AV → St → Prop) (t0 : AV) (s : St) : Prop :=
  Bnd (zr 33) fun z2 =>
  ∃ n, f61l1 Q n t0 (.ptr s.nx 0) .nils (adv ((adv s 2).set s.nx (some (.cells z2.cells 33 true true))) 1)
theorem f61_run (t0 : AV) (s : St) {Q : AV → St → Prop} (h : f61 Q t0 s) : ∃ r s', WideC Tryz.env 61 [t0] s r s' ∧ Q r s' :=
  wide_of (h := 61) (fn := Tryz.f61) (c := sub f61B []) (by kernel_rfl) (by kernel_rfl) (by kernel_rfl) (by kernel_rfl) (of_decide_eq_true (by kernel_rfl))
    (Eq.mp (Eq.trans (by kernel_rfl) (congrFun (congrFun (show f61C (sub f61B []) (f61R Q) (fun _ _ _ => False) (f61R Q) = _ from (seq_eq (by kernel_rfl : (sub f61B []) = .seq (sub f61B [false]) (sub f61B [true])) (seq_eq (by kernel_rfl : (sub f61B [true]) = .seq (sub f61B [true, false]) (sub f61B [true, true])) (seq_eq (by kernel_rfl : (sub f61B [true, true]) = .seq (sub f61B [true, true, false]) (sub f61B [true, true, true])) (f61j1_eq Q) (block_eq (by kernel_rfl : (sub f61B [true, true, false]) = .block 0 (sub f61B [true, true, false, false])) (f61l1_eq Q _))) rfl) rfl)).symm (gt (frame Tryz.f61 [t0]))) s)) h)
noncomputable abbrev f116B : Code := bodyOf Tryz.f116
noncomputable abbrev f116R (Q : AV → St → Prop) : Kt := fun g s => RetP (result Tryz.ty Tryz.f116 g s) fun v => Q v s
noncomputable abbrev f116C : Code → Kt → (Nat → Kt) → Kt → Kt := codeP Tryz.env 116 (Tryz.env.kp 116)
noncomputable def f116j1 (Q : AV → St → Prop) (t3 : AV) (s : St) : Prop :=
  Q t3 (adv s 2)
noncomputable def f116j2 (Q : AV → St → Prop) (ih1 : AV → AV → AV → AV → St → Prop) (t9 t3 t7 t8 : AV) (s : St) : Prop :=
  Bnd (bn .add 3 t9 (.int .i64 1)) fun t17 =>
  ih1 t3 t7 t8 t17 (adv s 2)
noncomputable def f116l1s (Q : AV → St → Prop) (ih1 : AV → AV → AV → AV → St → Prop) (t3 t7 t8 t9 : AV) (s : St) : Prop :=
  Bnd (bn .lss 3 t9 t8) fun t10 =>
  IfP t10
  (Bnd (ixS 6 t7 t9) fun t11 =>
  Bnd (ld 6 true t11 (adv s 5)) fun t12 =>
  Bnd (zr 33) fun z5 =>
  Bnd (sto 6 (.ptr (s.nx + 3) 0) t12 ((adv s 5).set (s.nx + 3) (some (.cells z5.cells 33 true true)))) fun s1 =>
  Bnd (ld 6 true (.ptr (s.nx + 3) 0) (adv s1 5)) fun t14 =>
  CallPu Tryz.env 116 [t14] (adv s1 5) fun t15 s2 =>
  Bnd (bn .add 3 t3 t15) fun t16 =>
  f116j2 Q ih1 t9 t16 t7 t8 s2)
  (f116j1 Q t3 (adv s 1))
noncomputable def f116l1 (Q : AV → St → Prop) (n : Nat) : AV → AV → AV → AV → St → Prop := Nat.rec (motive := fun _ => AV → AV → AV → AV → St → Prop) (fun _ _ _ _ _ => False) (fun _ ih => f116l1s Q ih) n
theorem f116j1_eq (Q : AV → St → Prop) : f116C (sub f116B [true, true, true]) (f116R Q) (fun _ _ _ => False) (f116R Q) = (fun g s => f116j1 Q (g 3) s) :=
  Eq.trans rfl (by kernel_rfl)
theorem f116j2_eq (Q : AV → St → Prop) (n1 : Nat) : f116C (sub f116B [true, true, false, true, false, false, true, true, true]) (fun g s => (fun (n : Nat) (g : Gf) (s : St) => f116l1 Q n (g 3) (g 7) (g 8) (g 9) s) n1 (fun k => cond (bitOf (Tryz.env.kp 116) k) (g k) .undef) s) (fun i => cond (Nat.beq i 0) (fun g s => f116j1 Q (g 3) s) ((fun _ _ _ => False) i)) (f116R Q) = (fun g s => f116j2 Q (f116l1 Q n1) (g 9) (g 3) (g 7) (g 8) s) :=
  Eq.trans rfl (by kernel_rfl)
theorem f116l1_eq (Q : AV → St → Prop) (kN : Kt) : f116C (sub f116B [true, true, false, true, false]) kN (fun i => cond (Nat.beq i 0) (fun g s => f116j1 Q (g 3) s) ((fun _ _ _ => False) i)) (f116R Q) = fun g s => ∃ n, (fun (n : Nat) (g : Gf) (s : St) => f116l1 Q n (g 3) (g 7) (g 8) (g 9) s) n g s :=
  loop_eq (L := fun (n : Nat) (g : Gf) (s : St) => f116l1 Q n (g 3) (g 7) (g 8) (g 9) s) (by kernel_rfl : (sub f116B [true, true, false, true, false]) = .loop (sub f116B [true, true, false, true, false, false])) (by kernel_rfl) (fun n1 => Eq.trans (seq_eq (by kernel_rfl : (sub f116B [true, true, false, true, false, false]) = .seq (sub f116B [true, true, false, true, false, false, false]) (sub f116B [true, true, false, true, false, false, true])) (seq_eq (by kernel_rfl : (sub f116B [true, true, false, true, false, false, true]) = .seq (sub f116B [true, true, false, true, false, false, true, false]) (sub f116B [true, true, false, true, false, false, true, true])) (seq_eq (by kernel_rfl : (sub f116B [true, true, false, true, false, false, true, true]) = .seq (sub f116B [true, true, false, true, false, false, true, true, false]) (sub f116B [true, true, false, true, false, false, true, true, true])) (f116j2_eq Q n1) (block_eq (by kernel_rfl : (sub f116B [true, true, false, true, false, false, true, true, false]) = .block 1 (sub f116B [true, true, false, true, false, false, true, true, false, false])) rfl)) rfl) rfl) (by kernel_rfl))
noncomputable def f116 (Q : AV → St → Prop) (t0 : AV) (s : St) : Prop :=
  (t0.cells.all AV.one = true ∧
  Bnd (shiftP 5 (.ptr s.nx 0)) fun t6 =>
  Bnd (ld 1 false t6 (adv ((adv s 2).set s.nx (some (.cells t0.cells 33 true true))) 5)) fun t7 =>
  Bnd (bt .len #[31] [t7] (((adv s 2).set s.nx (some (.cells t0.cells 33 true true))).nx + 3) (adv ((adv s 2).set s.nx (some (.cells t0.cells 33 true true))) 5)) fun r8 =>
  ∃ n, f116l1 Q n (.int .i64 1) t7 r8.1 (.int .i64 0) r8.2)
theorem f116_run (t0 : AV) (s : St) {Q : AV → St → Prop} (h : f116 Q t0 s) : ∃ r s', WideC Tryz.env 116 [t0] s r s' ∧ Q r s' :=
  wide_of (h := 116) (fn := Tryz.f116) (c := sub f116B []) (by kernel_rfl) (by kernel_rfl) (by kernel_rfl) (by kernel_rfl) (of_decide_eq_true (by kernel_rfl))
    (Eq.mp (Eq.trans (by kernel_rfl) (congrFun (congrFun (show f116C (sub f116B []) (f116R Q) (fun _ _ _ => False) (f116R Q) = _ from (seq_eq (by kernel_rfl : (sub f116B []) = .seq (sub f116B [false]) (sub f116B [true])) (seq_eq (by kernel_rfl : (sub f116B [true]) = .seq (sub f116B [true, false]) (sub f116B [true, true])) (seq_eq (by kernel_rfl : (sub f116B [true, true]) = .seq (sub f116B [true, true, false]) (sub f116B [true, true, true])) (f116j1_eq Q) (seq_eq (by kernel_rfl : (sub f116B [true, true, false]) = .seq (sub f116B [true, true, false, false]) (sub f116B [true, true, false, true])) (block_eq (by kernel_rfl : (sub f116B [true, true, false, true]) = .block 0 (sub f116B [true, true, false, true, false])) (f116l1_eq Q _)) rfl)) rfl) rfl)).symm (gt (frame Tryz.f116 [t0]))) s)) h)
noncomputable def f22 (Q : AV → St → Prop) (t0 : AV) (s : St) : Prop :=
  Bnd (bn .lss 3 t0 (.int .i64 0)) fun t4 =>
  Gd (wantV t4 false) (adv s 7) (fun k => k t0 (adv s 7)) fun t6 s1 =>
  Gd (wantV t4 false) s1 (fun k => Bnd (bn .geq 3 t6 (.int .i64 31)) fun v => k v s1) fun t7 s2 =>
  Bnd (pickV t4 (.bool true) t7) fun t8 =>
  IfP t8
  (Q (.str []) (adv s2 1))
  (Bnd (ixA 31 1 (gl 0) t0) fun t10 =>
  Bnd (ld 1 false t10 (adv s2 4)) fun t11 =>
  Q t11 (adv s2 4))
noncomputable def f5j1 (Q : AV → St → Prop) (t0 t1 t6 t8 t7 : AV) (s : St) : Prop :=
  Bnd (bn .eql 3 t0 (.int .i64 14)) fun t25 =>
  Gd (wantV t25 false) (adv s 15) (fun k => k t0 (adv s 15)) fun t27 s1 =>
  Gd (wantV t25 false) s1 (fun k => Bnd (bn .eql 3 t27 (.int .i64 16)) fun v => k v s1) fun t28 s2 =>
  Bnd (pickV t25 (.bool true) t28) fun t29 =>
  Gd (wantV t29 true) s2 (fun k => k t1 s2) fun t31 s3 =>
  Gd (wantV t29 true) s3 (fun k => Bnd (bn .eql 3 t31 (.int .i64 14)) fun v => k v s3) fun t32 s4 =>
  Gd (wantV t29 true) s4 (fun k => k t32 s4) fun t33 s5 =>
  Gd (wantV t33 false) s5 (fun k => k t1 s5) fun t34 s6 =>
  Gd (wantV t33 false) s6 (fun k => Bnd (bn .eql 3 t34 (.int .i64 16)) fun v => k v s6) fun t35 s7 =>
  Gd (wantV t29 true) s7 (fun k => Bnd (pickV t33 (.bool true) t35) fun v => k v s7) fun t36 s8 =>
  Bnd (pickV t29 t36 (.bool false)) fun t37 =>
  CallPu Tryz.env 23 [t6, t8] (adv s8 23) fun t40 s9 =>
  Bnd (bn .eql 3 t40 t0) fun t42 =>
  Gd (wantV t42 true) s9 (fun k => k t6 s9) fun t44 s10 =>
  Gd (wantV t42 true) s10 (fun k => CallPu Tryz.env 24 [t44] s10 k) fun t45 s11 =>
  Bnd (pickV t42 t45 (.bool false)) fun t46 =>
  Gd (wantV t46 true) s11 (fun k => k t0 s11) fun t48 s12 =>
  Gd (wantV t46 true) s12 (fun k => k t1 s12) fun t49 s13 =>
  Gd (wantV t46 true) s13 (fun k => Bnd (bn .eql 3 t48 t49) fun v => k v s13) fun t50 s14 =>
  Gd (wantV t46 true) s14 (fun k => k t50 s14) fun t51 s15 =>
  Gd (wantV t51 false) s15 (fun k => k t6 s15) fun t52 s16 =>
  Gd (wantV t51 false) s16 (fun k => k t7 s16) fun t53 s17 =>
  Gd (wantV t51 false) s17 (fun k => Bnd (bn .neq 9 t52 t53) fun v => k v s17) fun t54 s18 =>
  Gd (wantV t46 true) s18 (fun k => Bnd (pickV t51 (.bool true) t54) fun v => k v s18) fun t55 s19 =>
  Gd (wantV t46 true) s19 (fun k => k t55 s19) fun t56 s20 =>
  Gd (wantV t56 false) s20 (fun k => k t37 s20) fun t57 s21 =>
  Gd (wantV t46 true) s21 (fun k => Bnd (pickV t56 (.bool true) t57) fun v => k v s21) fun t58 s22 =>
  Bnd (pickV t46 t58 (.bool false)) fun t59 =>
  Q t59 s22
noncomputable def f5 (Q : AV → St → Prop) (t0 t1 : AV) (s : St) : Prop :=
  CallPu Tryz.env 15 [] (adv s 3) fun t10 s1 =>
  CallPu Tryz.env 22 [t0] (adv s1 3) fun t12 s2 =>
  CallPu Tryz.env 22 [t1] (adv s2 3) fun t14 s3 =>
  Bnd (un .not t10) fun t16 =>
  Gd (wantV t16 false) (adv s3 6) (fun k => k t12 (adv s3 6)) fun t18 s4 =>
  Gd (wantV t16 false) s4 (fun k => Bnd (bn .eql 9 t18 (.str [])) fun v => k v s4) fun t19 s5 =>
  Bnd (pickV t16 (.bool true) t19) fun t20 =>
  IfP t20
  (Q t10 (adv s5 2))
  (Bnd (bn .eql 3 t0 (.int .i64 14)) fun t23 =>
  IfP t23
  (f5j1 Q t0 t1 t12 (.int .i64 1) t14 (adv s5 4))
  (f5j1 Q t0 t1 t12 (.int .i64 2) t14 (adv s5 3)))
end Go.Proofs.YtdehdahimkcakaaGreatDoor
end
section
set_option linter.unusedVariables false
set_option maxRecDepth 1000000
namespace Go.Proofs.YtdehdahimkcakaaGreatDoor
open Go Ai
noncomputable abbrev f158B : Code := bodyOf Tryz.f158
noncomputable abbrev f158R (Q : AV → St → Prop) : Kt := fun g s => RetP (result Tryz.ty Tryz.f158 g s) fun v => Q v s
noncomputable abbrev f158C : Code → Kt → (Nat → Kt) → Kt → Kt := codeP Tryz.env 158 (Tryz.env.kp 158)
noncomputable def f158j2 (Q : AV → St → Prop) (t0 : AV) (s : St) : Prop :=
  Q t0 (adv s 2)
noncomputable def f158j1 (Q : AV → St → Prop) (t1 t0 : AV) (s : St) : Prop :=
  Bnd (bt .cap #[31] [t0] (s.nx + 2) (adv s 8)) fun r10 =>
  Bnd (bt .len #[31] [t0] (s.nx + 4) r10.2) fun r12 =>
  Bnd (bn .sub 3 r10.1 r12.1) fun t13 =>
  Bnd (bn .sub 3 t1 t13) fun t14 =>
  Bnd (bn .gtr 3 t14 (.int .i64 0)) fun t16 =>
  IfP t16
  (Bnd (bt .cap #[31] [t0] (r12.2.nx + 4) (adv r12.2 12)) fun r19 =>
  Bnd (slc 31 t0 none (some r19.1) none r19.2) fun t20 =>
  Bnd (bt .append #[31, 3] [t20, t14] (r12.2.nx + 7) r19.2) fun r22 =>
  Bnd (bt .len #[31] [t0] (r12.2.nx + 9) r22.2) fun r24 =>
  Bnd (slc 31 r22.1 none (some r24.1) none r24.2) fun t25 =>
  f158j2 Q t25 r24.2)
  (f158j2 Q t0 (adv r12.2 2))
theorem f158j2_eq (Q : AV → St → Prop) : f158C (sub f158B [true, true, true]) (f158R Q) (fun _ _ _ => False) (f158R Q) = (fun g s => f158j2 Q (g 0) s) :=
  Eq.trans rfl (by kernel_rfl)
theorem f158j1_eq (Q : AV → St → Prop) : f158C (sub f158B [true, true]) (f158R Q) (fun _ _ _ => False) (f158R Q) = (fun g s => f158j1 Q (g 1) (g 0) s) :=
  Eq.trans (seq_eq (by kernel_rfl : (sub f158B [true, true]) = .seq (sub f158B [true, true, false]) (sub f158B [true, true, true])) (f158j2_eq Q) rfl) (by kernel_rfl)
noncomputable def f158 (Q : AV → St → Prop) (t0 t1 : AV) (s : St) : Prop :=
  Bnd (bn .lss 3 t1 (.int .i64 0)) fun t6 =>
  IfP t6
  (Bnd (mkI Tryz.ty 9 (.str [99, 97, 110, 110, 111, 116, 32, 98, 101, 32, 110, 101, 103, 97, 116, 105, 118, 101])) fun t7 =>
  Bnd (none : Option (AV × St)) fun rNone =>
  f158j1 Q t1 t0 rNone.2)
  (f158j1 Q t1 t0 (adv s 3))
theorem f158_run (t0 t1 : AV) (s : St) {Q : AV → St → Prop} (h : f158 Q t0 t1 s) : ∃ r s', WideC Tryz.env 158 [t0, t1] s r s' ∧ Q r s' :=
  wide_of (h := 158) (fn := Tryz.f158) (c := sub f158B []) (by kernel_rfl) (by kernel_rfl) (by kernel_rfl) (by kernel_rfl) (of_decide_eq_true (by kernel_rfl))
    (Eq.mp (Eq.trans (by kernel_rfl) (congrFun (congrFun (show f158C (sub f158B []) (f158R Q) (fun _ _ _ => False) (f158R Q) = _ from (seq_eq (by kernel_rfl : (sub f158B []) = .seq (sub f158B [false]) (sub f158B [true])) (seq_eq (by kernel_rfl : (sub f158B [true]) = .seq (sub f158B [true, false]) (sub f158B [true, true])) (f158j1_eq Q) rfl) rfl)).symm (gt (frame Tryz.f158 [t0, t1]))) s)) h)
noncomputable abbrev f109B : Code := bodyOf Tryz.f109
noncomputable abbrev f109R (Q : AV → St → Prop) : Kt := fun g s => RetP (result Tryz.ty Tryz.f109 g s) fun v => Q v s
noncomputable abbrev f109C : Code → Kt → (Nat → Kt) → Kt → Kt := codeP Tryz.env 109 (Tryz.env.kp 109)
noncomputable def f109j2 (Q : AV → St → Prop) (t6 : AV) (s : St) : Prop :=
  Q t6 (adv s 2)
noncomputable def f109j3 (Q : AV → St → Prop) (ih1 : AV → AV → AV → AV → St → Prop) (t27 t6 t25 t26 : AV) (s : St) : Prop :=
  Bnd (bn .add 3 t27 (.int .i64 1)) fun t34 =>
  ih1 t6 t25 t26 t34 (adv s 2)
noncomputable def f109l1s (Q : AV → St → Prop) (ih1 : AV → AV → AV → AV → St → Prop) (t6 t25 t26 t27 : AV) (s : St) : Prop :=
  Bnd (bn .lss 3 t27 t26) fun t28 =>
  IfP t28
  (Bnd (ixS 1 t25 t27) fun t29 =>
  Bnd (ld 1 false t29 (adv s 4)) fun t30 =>
  Bnd (bt .append #[31, 31] [t6, t30] (s.nx + 6) (adv s 8)) fun r33 =>
  f109j3 Q ih1 t27 r33.1 t25 t26 r33.2)
  (f109j2 Q t6 (adv s 1))
noncomputable def f109l1 (Q : AV → St → Prop) (n : Nat) : AV → AV → AV → AV → St → Prop := Nat.rec (motive := fun _ => AV → AV → AV → AV → St → Prop) (fun _ _ _ _ _ => False) (fun _ ih => f109l1s Q ih) n
noncomputable def f109j1 (Q : AV → St → Prop) (t3 t0 : AV) (s : St) : Prop :=
  CallWi Tryz.env 158 [.nils, t3] (adv s 3) fun t24 s1 =>
  Bnd (bt .len #[221] [t0] (s1.nx + 1) (adv s1 3)) fun r26 =>
  ∃ n, f109l1 Q n t24 t0 r26.1 (.int .i64 0) r26.2
noncomputable def f109j4 (Q : AV → St → Prop) (ih2 : AV → AV → AV → AV → AV → St → Prop) (t11 t0 t3 t9 t10 : AV) (s : St) : Prop :=
  Bnd (bn .add 3 t11 (.int .i64 1)) fun t22 =>
  ih2 t0 t3 t9 t10 t22 (adv s 2)
noncomputable def f109l2s (Q : AV → St → Prop) (ih2 : AV → AV → AV → AV → AV → St → Prop) (t0 t3 t9 t10 t11 : AV) (s : St) : Prop :=
  Bnd (bn .lss 3 t11 t10) fun t12 =>
  IfP t12
  (Bnd (ixS 1 t9 t11) fun t13 =>
  Bnd (ld 1 false t13 (adv s 4)) fun t14 =>
  Bnd (bt .len #[31] [t14] (s.nx + 6) (adv s 9)) fun r17 =>
  Bnd (bn .add 3 t3 r17.1) fun t18 =>
  Bnd (bn .lss 3 t18 (.int .i64 0)) fun t20 =>
  IfP t20
  (Bnd (mkI Tryz.ty 9 (.str [108, 101, 110, 32, 111, 117, 116, 32, 111, 102, 32, 114, 97, 110, 103, 101])) fun t21 =>
  Bnd (none : Option (AV × St)) fun rNone =>
  f109j4 Q ih2 t11 t0 t18 t9 t10 rNone.2)
  (f109j4 Q ih2 t11 t0 t18 t9 t10 (adv r17.2 2)))
  (f109j1 Q t3 t0 (adv s 1))
noncomputable def f109l2 (Q : AV → St → Prop) (n : Nat) : AV → AV → AV → AV → AV → St → Prop := Nat.rec (motive := fun _ => AV → AV → AV → AV → AV → St → Prop) (fun _ _ _ _ _ _ => False) (fun _ ih => f109l2s Q ih) n
theorem f109j2_eq (Q : AV → St → Prop) : f109C (sub f109B [true, true, true, true, true]) (f109R Q) (fun _ _ _ => False) (f109R Q) = (fun g s => f109j2 Q (g 6) s) :=
  Eq.trans rfl (by kernel_rfl)
theorem f109j3_eq (Q : AV → St → Prop) (n1 : Nat) : f109C (sub f109B [true, true, true, true, false, true, false, false, true, true, true]) (fun g s => (fun (n : Nat) (g : Gf) (s : St) => f109l1 Q n (g 6) (g 25) (g 26) (g 27) s) n1 (fun k => cond (bitOf (Tryz.env.kp 109) k) (g k) .undef) s) (fun i => cond (Nat.beq i 2) (fun g s => f109j2 Q (g 6) s) ((fun _ _ _ => False) i)) (f109R Q) = (fun g s => f109j3 Q (f109l1 Q n1) (g 27) (g 6) (g 25) (g 26) s) :=
  Eq.trans rfl (by kernel_rfl)
theorem f109l1_eq (Q : AV → St → Prop) (kN : Kt) : f109C (sub f109B [true, true, true, true, false, true, false]) kN (fun i => cond (Nat.beq i 2) (fun g s => f109j2 Q (g 6) s) ((fun _ _ _ => False) i)) (f109R Q) = fun g s => ∃ n, (fun (n : Nat) (g : Gf) (s : St) => f109l1 Q n (g 6) (g 25) (g 26) (g 27) s) n g s :=
  loop_eq (L := fun (n : Nat) (g : Gf) (s : St) => f109l1 Q n (g 6) (g 25) (g 26) (g 27) s) (by kernel_rfl : (sub f109B [true, true, true, true, false, true, false]) = .loop (sub f109B [true, true, true, true, false, true, false, false])) (by kernel_rfl) (fun n1 => Eq.trans (seq_eq (by kernel_rfl : (sub f109B [true, true, true, true, false, true, false, false]) = .seq (sub f109B [true, true, true, true, false, true, false, false, false]) (sub f109B [true, true, true, true, false, true, false, false, true])) (seq_eq (by kernel_rfl : (sub f109B [true, true, true, true, false, true, false, false, true]) = .seq (sub f109B [true, true, true, true, false, true, false, false, true, false]) (sub f109B [true, true, true, true, false, true, false, false, true, true])) (seq_eq (by kernel_rfl : (sub f109B [true, true, true, true, false, true, false, false, true, true]) = .seq (sub f109B [true, true, true, true, false, true, false, false, true, true, false]) (sub f109B [true, true, true, true, false, true, false, false, true, true, true])) (f109j3_eq Q n1) (block_eq (by kernel_rfl : (sub f109B [true, true, true, true, false, true, false, false, true, true, false]) = .block 3 (sub f109B [true, true, true, true, false, true, false, false, true, true, false, false])) rfl)) rfl) rfl) (by kernel_rfl))
theorem f109j1_eq (Q : AV → St → Prop) : f109C (sub f109B [true, true, true]) (f109R Q) (fun _ _ _ => False) (f109R Q) = (fun g s => f109j1 Q (g 3) (g 0) s) :=
  Eq.trans (seq_eq (by kernel_rfl : (sub f109B [true, true, true]) = .seq (sub f109B [true, true, true, false]) (sub f109B [true, true, true, true])) (seq_eq (by kernel_rfl : (sub f109B [true, true, true, true]) = .seq (sub f109B [true, true, true, true, false]) (sub f109B [true, true, true, true, true])) (f109j2_eq Q) (seq_eq (by kernel_rfl : (sub f109B [true, true, true, true, false]) = .seq (sub f109B [true, true, true, true, false, false]) (sub f109B [true, true, true, true, false, true])) (block_eq (by kernel_rfl : (sub f109B [true, true, true, true, false, true]) = .block 2 (sub f109B [true, true, true, true, false, true, false])) (f109l1_eq Q _)) rfl)) rfl) (by kernel_rfl)
theorem f109j4_eq (Q : AV → St → Prop) (n2 : Nat) : f109C (sub f109B [true, true, false, true, false, false, true, true, true]) (fun g s => (fun (n : Nat) (g : Gf) (s : St) => f109l2 Q n (g 0) (g 3) (g 9) (g 10) (g 11) s) n2 (fun k => cond (bitOf (Tryz.env.kp 109) k) (g k) .undef) s) (fun i => cond (Nat.beq i 0) (fun g s => f109j1 Q (g 3) (g 0) s) ((fun _ _ _ => False) i)) (f109R Q) = (fun g s => f109j4 Q (f109l2 Q n2) (g 11) (g 0) (g 3) (g 9) (g 10) s) :=
  Eq.trans rfl (by kernel_rfl)
theorem f109l2_eq (Q : AV → St → Prop) (kN : Kt) : f109C (sub f109B [true, true, false, true, false]) kN (fun i => cond (Nat.beq i 0) (fun g s => f109j1 Q (g 3) (g 0) s) ((fun _ _ _ => False) i)) (f109R Q) = fun g s => ∃ n, (fun (n : Nat) (g : Gf) (s : St) => f109l2 Q n (g 0) (g 3) (g 9) (g 10) (g 11) s) n g s :=
  loop_eq (L := fun (n : Nat) (g : Gf) (s : St) => f109l2 Q n (g 0) (g 3) (g 9) (g 10) (g 11) s) (by kernel_rfl : (sub f109B [true, true, false, true, false]) = .loop (sub f109B [true, true, false, true, false, false])) (by kernel_rfl) (fun n2 => Eq.trans (seq_eq (by kernel_rfl : (sub f109B [true, true, false, true, false, false]) = .seq (sub f109B [true, true, false, true, false, false, false]) (sub f109B [true, true, false, true, false, false, true])) (seq_eq (by kernel_rfl : (sub f109B [true, true, false, true, false, false, true]) = .seq (sub f109B [true, true, false, true, false, false, true, false]) (sub f109B [true, true, false, true, false, false, true, true])) (seq_eq (by kernel_rfl : (sub f109B [true, true, false, true, false, false, true, true]) = .seq (sub f109B [true, true, false, true, false, false, true, true, false]) (sub f109B [true, true, false, true, false, false, true, true, true])) (f109j4_eq Q n2) (block_eq (by kernel_rfl : (sub f109B [true, true, false, true, false, false, true, true, false]) = .block 1 (sub f109B [true, true, false, true, false, false, true, true, false, false])) rfl)) rfl) rfl) (by kernel_rfl))
noncomputable def f109 (Q : AV → St → Prop) (t0 : AV) (s : St) : Prop :=
  Bnd (bt .len #[221] [t0] (s.nx + 3) (adv s 5)) fun r10 =>
  ∃ n, f109l2 Q n t0 (.int .i64 0) t0 r10.1 (.int .i64 0) r10.2
theorem f109_run (t0 : AV) (s : St) {Q : AV → St → Prop} (h : f109 Q t0 s) : ∃ r s', WideC Tryz.env 109 [t0] s r s' ∧ Q r s' :=
  wide_of (h := 109) (fn := Tryz.f109) (c := sub f109B []) (by kernel_rfl) (by kernel_rfl) (by kernel_rfl) (by kernel_rfl) (of_decide_eq_true (by kernel_rfl))
    (Eq.mp (Eq.trans (by kernel_rfl) (congrFun (congrFun (show f109C (sub f109B []) (f109R Q) (fun _ _ _ => False) (f109R Q) = _ from (seq_eq (by kernel_rfl : (sub f109B []) = .seq (sub f109B [false]) (sub f109B [true])) (seq_eq (by kernel_rfl : (sub f109B [true]) = .seq (sub f109B [true, false]) (sub f109B [true, true])) (seq_eq (by kernel_rfl : (sub f109B [true, true]) = .seq (sub f109B [true, true, false]) (sub f109B [true, true, true])) (f109j1_eq Q) (seq_eq (by kernel_rfl : (sub f109B [true, true, false]) = .seq (sub f109B [true, true, false, false]) (sub f109B [true, true, false, true])) (block_eq (by kernel_rfl : (sub f109B [true, true, false, true]) = .block 0 (sub f109B [true, true, false, true, false])) (f109l2_eq Q _)) rfl)) rfl) rfl)).symm (gt (frame Tryz.f109 [t0]))) s)) h)
noncomputable abbrev f57B : Code := bodyOf Tryz.f57
noncomputable abbrev f57R (Q : AV → St → Prop) : Kt := fun g s => RetP (result Tryz.ty Tryz.f57 g s) fun v => Q v s
noncomputable abbrev f57C : Code → Kt → (Nat → Kt) → Kt → Kt := codeP Tryz.env 57 (Tryz.env.kp 57)
noncomputable def f57 (Q : AV → St → Prop) (t0 t1 : AV) (s : St) : Prop :=
  Bnd (zr 33) fun z4 =>
  CallPu Tryz.env 56 [t0] (adv ((adv s 1).set s.nx (some (.cells z4.cells 33 true true))) 8) fun t6 s1 =>
  Bnd (bsl 31 1 [(0, t6)]) fun t7 =>
  Bnd (bsl 221 2 [(0, t7), (1, t1)]) fun t9 =>
  CallPu Tryz.env 109 [t9] s1 fun t10 s2 =>
  Bnd (bld 33 [(0, (.bool true)), (3, t10)]) fun t11 =>
  Bnd (sto 6 (.ptr s.nx 0) t11 s2) fun s3 =>
  RetP ((resC [ld 6 true (.ptr s.nx 0) s3]).map tupV) fun v => Q v s3
theorem f57_run (t0 t1 : AV) (s : St) {Q : AV → St → Prop} (h : f57 Q t0 t1 s) : ∃ r s', WideC Tryz.env 57 [t0, t1] s r s' ∧ Q r s' :=
  wide_of (h := 57) (fn := Tryz.f57) (c := sub f57B []) (by kernel_rfl) (by kernel_rfl) (by kernel_rfl) (by kernel_rfl) (of_decide_eq_true (by kernel_rfl))
    (Eq.mp (Eq.trans (by kernel_rfl) (congrFun (congrFun (show f57C (sub f57B []) (f57R Q) (fun _ _ _ => False) (f57R Q) = _ from rfl).symm (gt (frame Tryz.f57 [t0, t1]))) s)) h)
end Go.Proofs.YtdehdahimkcakaaGreatDoor
end
section
set_option linter.unusedVariables false
set_option maxRecDepth 1000000
namespace Go.Proofs.YtdehdahimkcakaaGreatDoor
open Go Ai
noncomputable def f246j1 (Q : AV → St → Prop) (s : St) : Prop :=
  Q (.int .i64 (-1)) (adv s 1)
noncomputable def f246 (Q : AV → St → Prop) (t0 : AV) (s : St) : Prop :=
  Bnd (bn .geq 5 t0 (.int .u8 48)) fun t5 =>
  Gd (wantV t5 true) (adv s 8) (fun k => k t0 (adv s 8)) fun t7 s1 =>
  Gd (wantV t5 true) s1 (fun k => Bnd (bn .leq 5 t7 (.int .u8 57)) fun v => k v s1) fun t8 s2 =>
  Bnd (pickV t5 t8 (.bool false)) fun t9 =>
  IfP t9
  (Bnd (bn .sub 5 t0 (.int .u8 48)) fun t11 =>
  Bnd (cv 5 3 t11 (adv s2 4)) fun t12 =>
  Q t12 (adv s2 4))
  (Bnd (bn .geq 5 t0 (.int .u8 97)) fun t15 =>
  Gd (wantV t15 true) (adv s2 7) (fun k => k t0 (adv s2 7)) fun t17 s3 =>
  Gd (wantV t15 true) s3 (fun k => Bnd (bn .leq 5 t17 (.int .u8 102)) fun v => k v s3) fun t18 s4 =>
  Bnd (pickV t15 t18 (.bool false)) fun t19 =>
  IfP t19
  (Bnd (bn .sub 5 t0 (.int .u8 97)) fun t21 =>
  Bnd (cv 5 3 t21 (adv s4 5)) fun t22 =>
  Bnd (bn .add 3 t22 (.int .i64 10)) fun t23 =>
  Q t23 (adv s4 5))
  (Bnd (bn .geq 5 t0 (.int .u8 65)) fun t26 =>
  Gd (wantV t26 true) (adv s4 7) (fun k => k t0 (adv s4 7)) fun t28 s5 =>
  Gd (wantV t26 true) s5 (fun k => Bnd (bn .leq 5 t28 (.int .u8 70)) fun v => k v s5) fun t29 s6 =>
  Bnd (pickV t26 t29 (.bool false)) fun t30 =>
  IfP t30
  (Bnd (bn .sub 5 t0 (.int .u8 65)) fun t32 =>
  Bnd (cv 5 3 t32 (adv s6 5)) fun t33 =>
  Bnd (bn .add 3 t33 (.int .i64 10)) fun t34 =>
  Q t34 (adv s6 5))
  (f246j1 Q s6)))
noncomputable def f217j1 (Q : AV → St → Prop) (t0 t3 : AV) (s : St) : Prop :=
  Bnd (bn .eql 9 t0 (.str [])) fun t23 =>
  Gd (wantV t23 false) (adv s 6) (fun k => k t3 (adv s 6)) fun t25 s1 =>
  Gd (wantV t23 false) s1 (fun k => Bnd (bn .gtr 3 t25 (.int .i64 196607)) fun v => k v s1) fun t26 s2 =>
  Bnd (pickV t23 (.bool true) t26) fun t27 =>
  IfP t27
  (Q (.int .i64 (-1)) (adv s2 1))
  (Q t3 (adv s2 2))
noncomputable def f217j2 (Q : AV → St → Prop) (ih1 : AV → AV → AV → AV → St → Prop) (t8 t0 t3 t7 : AV) (s : St) : Prop :=
  Bnd (bn .add 3 t8 (.int .i64 1)) fun t21 =>
  ih1 t0 t3 t7 t21 (adv s 2)
noncomputable def f217l1s (Q : AV → St → Prop) (ih1 : AV → AV → AV → AV → St → Prop) (t0 t3 t7 t8 : AV) (s : St) : Prop :=
  Bnd (bn .lss 3 t8 t7) fun t9 =>
  IfP t9
  (Bnd (ixa 9 t0 t8) fun t13 =>
  CallPu Tryz.env 246 [t13] (adv s 8) fun t14 s1 =>
  Bnd (bn .lss 3 t14 (.int .i64 0)) fun t16 =>
  IfP t16
  (Q (.int .i64 (-1)) (adv s1 3))
  (Bnd (bn .mul 3 (.int .i64 16) t3) fun t18 =>
  Bnd (bn .add 3 t18 t14) fun t20 =>
  f217j2 Q ih1 t8 t0 t20 t7 (adv s1 7)))
  (f217j1 Q t0 t3 (adv s 1))
noncomputable def f217l1 (Q : AV → St → Prop) (n : Nat) : AV → AV → AV → AV → St → Prop := Nat.rec (motive := fun _ => AV → AV → AV → AV → St → Prop) (fun _ _ _ _ _ => False) (fun _ ih => f217l1s Q ih) n
noncomputable def f217 (Q : AV → St → Prop) (t0 : AV) (s : St) : Prop :=
  Bnd (bt .len #[9] [t0] (s.nx + 3) (adv s 5)) fun r7 =>
  ∃ n, f217l1 Q n t0 (.int .i64 0) r7.1 (.int .i64 0) r7.2
noncomputable def f244 (Q : AV → St → Prop) (t0 t1 : AV) (s : St) : Prop :=
  CallPu Tryz.env 123 [t0, t1] (adv s 6) fun t8 s1 =>
  Bnd (un .not t8) fun t9 =>
  IfP t9
  (Q (.tup [t0, (.bool false)]) (adv s1 3))
  (Bnd (bt .len #[9] [t1] (s1.nx + 2) (adv s1 6)) fun r13 =>
  Bnd (slc 9 t0 (some r13.1) none none r13.2) fun t14 =>
  Q (.tup [t14, (.bool true)]) r13.2)
noncomputable def f215 (Q : AV → St → Prop) (t0 t1 : AV) (s : St) : Prop :=
  CallPu Tryz.env 244 [t0, t1] (adv s 9) fun t8 s1 =>
  Bnd (extr t8 0) fun t9 =>
  Bnd (extr t8 1) fun t10 =>
  Q (.tup [t9, t10]) s1
noncomputable def f245 (Q : AV → St → Prop) (t0 t1 : AV) (s : St) : Prop :=
  CallPu Tryz.env 268 [t0, t1] (adv s 7) fun t10 s1 =>
  Bnd (bn .geq 3 t10 (.int .i64 0)) fun t12 =>
  IfP t12
  (Bnd (slc 9 t0 none (some t10) none (adv s1 14)) fun t15 =>
  Bnd (bt .len #[9] [t1] (s1.nx + 8) (adv s1 14)) fun r19 =>
  Bnd (bn .add 3 t10 r19.1) fun t20 =>
  Bnd (slc 9 t0 (some t20) none none r19.2) fun t21 =>
  Q (.tup [t15, t21, (.bool true)]) r19.2)
  (Q (.tup [t0, (.str []), (.bool false)]) (adv s1 6))
noncomputable def f216 (Q : AV → St → Prop) (t0 t1 : AV) (s : St) : Prop :=
  CallPu Tryz.env 245 [t0, t1] (adv s 12) fun t9 s1 =>
  Bnd (extr t9 0) fun t10 =>
  Bnd (extr t9 1) fun t11 =>
  Bnd (extr t9 2) fun t12 =>
  Q (.tup [t10, t11, t12]) s1
noncomputable def f268j2 (Q : AV → St → Prop) (s : St) : Prop :=
  Q (.int .i64 (-1)) (adv s 1)
noncomputable def f268j3 (Q : AV → St → Prop) (ih1 : AV → AV → AV → AV → AV → AV → AV → AV → St → Prop) (t0 t8 t7 t5 t1 t10 t9 t6 : AV) (s : St) : Prop :=
  Bnd (bn .add 3 t8 (.int .i64 1)) fun t80 =>
  Bnd (ixa 9 t0 t80) fun t81 =>
  Bnd (bn .eql 5 t81 t7) fun t83 =>
  Gd (wantV t83 true) (adv s 16) (fun k => k t0 (adv s 16)) fun t85 s1 =>
  Gd (wantV t83 true) s1 (fun k => k t8 s1) fun t86 s2 =>
  Gd (wantV t83 true) s2 (fun k => k t8 s2) fun t87 s3 =>
  Gd (wantV t83 true) s3 (fun k => k t5 s3) fun t88 s4 =>
  Gd (wantV t83 true) s4 (fun k => Bnd (bn .add 3 t87 t88) fun v => k v s4) fun t89 s5 =>
  Gd (wantV t83 true) s5 (fun k => Bnd (slc 9 t85 (some t86) (some t89) none s5) fun v => k v s5) fun t90 s6 =>
  Gd (wantV t83 true) s6 (fun k => k t1 s6) fun t91 s7 =>
  Gd (wantV t83 true) s7 (fun k => Bnd (bn .eql 9 t90 t91) fun v => k v s7) fun t92 s8 =>
  Bnd (pickV t83 t92 (.bool false)) fun t93 =>
  IfP t93
  (Q t8 (adv s8 2))
  (Bnd (bn .add 3 t8 (.int .i64 1)) fun t96 =>
  Bnd (bn .add 3 t10 (.int .i64 1)) fun t98 =>
  Bnd (ld 1 false (gl 4) (adv s8 15)) fun t100 =>
  Bnd (bn .leq 3 t5 t100) fun t101 =>
  Gd (wantV t101 true) (adv s8 15) (fun k => k t98 (adv s8 15)) fun t103 s9 =>
  Gd (wantV t101 true) s9 (fun k => k t96 s9) fun t104 s10 =>
  Gd (wantV t101 true) s10 (fun k => CallPu Tryz.env 261 [t104] s10 k) fun t105 s11 =>
  Gd (wantV t101 true) s11 (fun k => Bnd (bn .gtr 3 t103 t105) fun v => k v s11) fun t106 s12 =>
  Bnd (pickV t101 t106 (.bool false)) fun t107 =>
  IfP t107
  (Bnd (slc 9 t0 (some t96) none none (adv s12 6)) fun t110 =>
  CallPu Tryz.env 262 [t110, t1] (adv s12 6) fun t112 s13 =>
  Bnd (bn .geq 3 t112 (.int .i64 0)) fun t114 =>
  IfP t114
  (Bnd (bn .add 3 t112 t96) fun t117 =>
  Q t117 (adv s13 6))
  (Q (.int .i64 (-1)) (adv s13 3)))
  (Bnd (ld 1 false (gl 4) (adv s12 15)) fun t119 =>
  Bnd (bn .gtr 3 t5 t119) fun t120 =>
  Gd (wantV t120 true) (adv s12 15) (fun k => k t98 (adv s12 15)) fun t122 s14 =>
  Gd (wantV t120 true) s14 (fun k => k t96 s14) fun t123 s15 =>
  Gd (wantV t120 true) s15 (fun k => Bnd (bn .shr 3 t123 (.int .u64 4)) fun v => k v s15) fun t124 s16 =>
  Gd (wantV t120 true) s16 (fun k => Bnd (bn .add 3 (.int .i64 4) t124) fun v => k v s16) fun t125 s17 =>
  Gd (wantV t120 true) s17 (fun k => Bnd (bn .geq 3 t122 t125) fun v => k v s17) fun t126 s18 =>
  Bnd (pickV t120 t126 (.bool false)) fun t127 =>
  Gd (wantV t127 true) s18 (fun k => k t96 s18) fun t129 s19 =>
  Gd (wantV t127 true) s19 (fun k => k t9 s19) fun t130 s20 =>
  Gd (wantV t127 true) s20 (fun k => Bnd (bn .lss 3 t129 t130) fun v => k v s20) fun t131 s21 =>
  Bnd (pickV t127 t131 (.bool false)) fun t132 =>
  IfP t132
  (Bnd (slc 9 t0 (some t96) none none (adv s21 6)) fun t135 =>
  CallPu Tryz.env 284 [t135, t1] (adv s21 6) fun t137 s22 =>
  Bnd (bn .lss 3 t137 (.int .i64 0)) fun t139 =>
  IfP t139
  (Q (.int .i64 (-1)) (adv s22 3))
  (Bnd (bn .add 3 t96 t137) fun t142 =>
  Q t142 (adv s22 6)))
  (ih1 t0 t1 t5 t6 t7 t96 t9 t98 s21)))
noncomputable def f268l1s (Q : AV → St → Prop) (ih1 : AV → AV → AV → AV → AV → AV → AV → AV → St → Prop) (t0 t1 t5 t6 t7 t8 t9 t10 : AV) (s : St) : Prop :=
  Bnd (bn .lss 3 t8 t9) fun t59 =>
  IfP t59
  (Bnd (ixa 9 t0 t8) fun t62 =>
  Bnd (bn .neq 5 t62 t6) fun t64 =>
  IfP t64
  (Bnd (bn .add 3 t8 (.int .i64 1)) fun t67 =>
  Bnd (slc 9 t0 (some t67) (some t9) none (adv s 16)) fun t69 =>
  CallPu Tryz.env 269 [t69, t6] (adv s 16) fun t71 s1 =>
  Bnd (bn .lss 3 t71 (.int .i64 0)) fun t73 =>
  IfP t73
  (Q (.int .i64 (-1)) (adv s1 3))
  (Bnd (bn .add 3 t71 (.int .i64 1)) fun t76 =>
  Bnd (bn .add 3 t8 t76) fun t77 =>
  f268j3 Q ih1 t0 t77 t7 t5 t1 t10 t9 t6 (adv s1 7)))
  (f268j3 Q ih1 t0 t8 t7 t5 t1 t10 t9 t6 (adv s 8)))
  (f268j2 Q (adv s 3))
noncomputable def f268l1 (Q : AV → St → Prop) (n : Nat) : AV → AV → AV → AV → AV → AV → AV → AV → St → Prop := Nat.rec (motive := fun _ => AV → AV → AV → AV → AV → AV → AV → AV → St → Prop) (fun _ _ _ _ _ _ _ _ _ => False) (fun _ ih => f268l1s Q ih) n
noncomputable def f268j1 (Q : AV → St → Prop) (t1 t0 t5 : AV) (s : St) : Prop :=
  Bnd (ixa 9 t1 (.int .i64 0)) fun t49 =>
  Bnd (ixa 9 t1 (.int .i64 1)) fun t51 =>
  Bnd (bt .len #[9] [t0] (s.nx + 8) (adv s 13)) fun r53 =>
  Bnd (bn .sub 3 r53.1 t5) fun t55 =>
  Bnd (bn .add 3 t55 (.int .i64 1)) fun t56 =>
  ∃ n, f268l1 Q n t0 t1 t5 t49 t51 (.int .i64 0) t56 (.int .i64 0) (adv r53.2 1)
noncomputable def f268 (Q : AV → St → Prop) (t0 t1 : AV) (s : St) : Prop :=
  Bnd (bt .len #[9] [t1] (s.nx + 2) (adv s 4)) fun r15 =>
  Bnd (bn .eql 3 r15.1 (.int .i64 0)) fun t18 =>
  Gd (wantV t18 false) (adv r15.2 8) (fun k => k t1 (adv r15.2 8)) fun t20 s1 =>
  Gd (wantV t18 false) s1 (fun k => k t0 s1) fun t21 s2 =>
  Gd (wantV t18 false) s2 (fun k => Bnd (bn .eql 9 t20 t21) fun v => k v s2) fun t22 s3 =>
  Bnd (pickV t18 (.bool true) t22) fun t23 =>
  IfP t23
  (Q (.int .i64 0) (adv s3 1))
  (Bnd (bn .eql 3 r15.1 (.int .i64 1)) fun t26 =>
  IfP t26
  (Bnd (ixa 9 t1 (.int .i64 0)) fun t29 =>
  CallPu Tryz.env 269 [t0, t29] (adv s3 8) fun t30 s4 =>
  Q t30 s4)
  (Bnd (bt .len #[9] [t0] (s3.nx + 5) (adv s3 8)) fun r34 =>
  Bnd (bn .geq 3 r15.1 r34.1) fun t35 =>
  IfP t35
  (Q (.int .i64 (-1)) (adv r34.2 1))
  (Bnd (ld 1 false (gl 4) (adv r34.2 9)) fun t38 =>
  Bnd (bn .leq 3 r15.1 t38) fun t39 =>
  Gd (wantV t39 true) (adv r34.2 9) (fun k => k t0 (adv r34.2 9)) fun t41 s5 =>
  Gd (wantV t39 true) s5 (fun k => Bnd (bt .len #[9] [t41] (r34.2.nx + 5) s5) fun r => k r.1 r.2) fun t42 s6 =>
  Gd (wantV t39 true) s6 (fun k => Bnd (bn .leq 3 t42 (.int .i64 64)) fun v => k v s6) fun t43 s7 =>
  Bnd (pickV t39 t43 (.bool false)) fun t44 =>
  IfP t44
  (CallPu Tryz.env 262 [t0, t1] (adv s7 4) fun t47 s8 =>
  Q t47 s8)
  (f268j1 Q t1 t0 r15.1 s7))))
noncomputable def f269 (Q : AV → St → Prop) (t0 t1 : AV) (s : St) : Prop :=
  CallPu Tryz.env 285 [t0, t1] (adv s 5) fun t7 s1 =>
  Q t7 s1
noncomputable def f182 (Q : AV → St → Prop) (t0 : AV) (s : St) : Prop :=
  CallPu Tryz.env 215 [t0, (.str [92, 117])] (adv s 9) fun t13 s1 =>
  Bnd (extr t13 0) fun t14 =>
  Bnd (extr t13 1) fun t15 =>
  Bnd (un .not t15) fun t17 =>
  IfP t17
  (Q (.tup [(.int .i64 (-1)), (.int .i64 0)]) (adv s1 4))
  (CallPu Tryz.env 215 [t14, (.str [123])] (adv s1 9) fun t20 s2 =>
  Bnd (extr t20 0) fun t21 =>
  Bnd (extr t20 1) fun t22 =>
  IfP t22
  (CallPu Tryz.env 216 [t21, (.str [125])] (adv s2 10) fun t26 s3 =>
  Bnd (extr t26 0) fun t27 =>
  Bnd (extr t26 1) fun t28 =>
  Bnd (extr t26 2) fun t29 =>
  Bnd (un .not t29) fun t31 =>
  Gd (wantV t31 false) (adv s3 7) (fun k => k t27 (adv s3 7)) fun t33 s4 =>
  Gd (wantV t31 false) s4 (fun k => Bnd (bt .len #[9] [t33] (s3.nx + 4) s4) fun r => k r.1 r.2) fun t34 s5 =>
  Gd (wantV t31 false) s5 (fun k => Bnd (bn .gtr 3 t34 (.int .i64 5)) fun v => k v s5) fun t35 s6 =>
  Bnd (pickV t31 (.bool true) t35) fun t36 =>
  IfP t36
  (Q (.tup [(.int .i64 (-1)), (.int .i64 0)]) (adv s6 2))
  (CallPu Tryz.env 217 [t27] (adv s6 7) fun t38 s7 =>
  Bnd (bt .len #[9] [t27] (s6.nx + 3) s7) fun r40 =>
  Bnd (bn .add 3 r40.1 (.int .i64 4)) fun t41 =>
  Q (.tup [t38, t41]) r40.2))
  (Bnd (bt .len #[9] [t14] (s2.nx + 2) (adv s2 4)) fun r43 =>
  Bnd (bn .lss 3 r43.1 (.int .i64 4)) fun t44 =>
  IfP t44
  (Q (.tup [(.int .i64 (-1)), (.int .i64 0)]) (adv r43.2 2))
  (Bnd (slc 9 t14 none (some (.int .i64 4)) none (adv r43.2 5)) fun t46 =>
  CallPu Tryz.env 217 [t46] (adv r43.2 5) fun t47 s8 =>
  Q (.tup [t47, (.int .i64 6)]) s8)))
noncomputable def f129j1 (Q : AV → St → Prop) (t3 : AV) (s : St) : Prop :=
  Q t3 (adv s 2)
noncomputable def f129j2 (Q : AV → St → Prop) (ih1 : AV → AV → AV → St → Prop) (t3 t5 t4 t6 t0 : AV) (s : St) : Prop :=
  Bnd (bsl 72 1 [(0, t5)]) fun t26 =>
  Bnd (bt .append #[72, 72] [t3, t26] (s.nx + 3) (adv s 5)) fun r27 =>
  Bnd (bn .add 3 t4 t6) fun t30 =>
  ih1 t0 r27.1 t30 (adv r27.2 4)
noncomputable def f129l1s (Q : AV → St → Prop) (ih1 : AV → AV → AV → St → Prop) (t0 t3 t4 : AV) (s : St) : Prop :=
  Bnd (bt .len #[9] [t0] (s.nx + 2) (adv s 4)) fun r9 =>
  Bnd (bn .geq 3 t4 r9.1) fun t10 =>
  IfP t10
  (f129j1 Q t3 r9.2)
  (Bnd (slc 9 t0 (some t4) none none (adv r9.2 9)) fun t14 =>
  CallPu Tryz.env 182 [t14] (adv r9.2 9) fun t15 s1 =>
  Bnd (extr t15 0) fun t16 =>
  Bnd (extr t15 1) fun t17 =>
  Bnd (bn .lss 3 t16 (.int .i64 0)) fun t19 =>
  IfP t19
  (Bnd (ixa 9 t0 t4) fun t22 =>
  Bnd (cv 5 3 t22 (adv s1 8)) fun t23 =>
  f129j2 Q ih1 t3 t23 t4 (.int .i64 1) t0 (adv s1 8))
  (f129j2 Q ih1 t3 t16 t4 t17 t0 (adv s1 2)))
noncomputable def f129l1 (Q : AV → St → Prop) (n : Nat) : AV → AV → AV → St → Prop := Nat.rec (motive := fun _ => AV → AV → AV → St → Prop) (fun _ _ _ _ => False) (fun _ ih => f129l1s Q ih) n
noncomputable def f129 (Q : AV → St → Prop) (t0 : AV) (s : St) : Prop :=
  ∃ n, f129l1 Q n t0 .nils (.int .i64 0) (adv s 3)
noncomputable def f128j1 (Q : AV → St → Prop) (t4 : AV) (s : St) : Prop :=
  Bnd (bt .len #[25] [t4] (s.nx + 1) (adv s 3)) fun r46 =>
  Bnd (bn .gtr 3 r46.1 (.int .i64 65536)) fun t47 =>
  IfP t47
  (Q (.tup [.nils, (.int .i64 2)]) (adv r46.2 2))
  (Q (.tup [t4, (.int .i64 0)]) (adv r46.2 3))
noncomputable def f128j2 (Q : AV → St → Prop) (ih1 : AV → AV → AV → AV → St → Prop) (t10 t4 t8 t9 : AV) (s : St) : Prop :=
  Bnd (bn .add 3 t10 (.int .i64 1)) fun t44 =>
  ih1 t4 t8 t9 t44 (adv s 2)
noncomputable def f128l1s (Q : AV → St → Prop) (ih1 : AV → AV → AV → AV → St → Prop) (t4 t8 t9 t10 : AV) (s : St) : Prop :=
  Bnd (bn .lss 3 t10 t9) fun t11 =>
  IfP t11
  (Bnd (ixS 1 t8 t10) fun t12 =>
  Bnd (ld 1 false t12 (adv s 4)) fun t13 =>
  CallPu Tryz.env 181 [t13] (adv s 7) fun t15 s1 =>
  Bnd (un .not t15) fun t16 =>
  IfP t16
  (Q (.tup [.nils, (.int .i64 1)]) (adv s1 2))
  (Bnd (bt .len #[25] [t4] (s1.nx + 1) (adv s1 4)) fun r18 =>
  Bnd (bn .sub 3 r18.1 (.int .i64 1)) fun t19 =>
  Bnd (bn .geq 3 t19 (.int .i64 0)) fun t21 =>
  Gd (wantV t21 true) (adv r18.2 11) (fun k => k t4 (adv r18.2 11)) fun t23 s2 =>
  Gd (wantV t21 true) s2 (fun k => k t19 s2) fun t24 s3 =>
  Gd (wantV t21 true) s3 (fun k => Bnd (ixS 2 t23 t24) fun v => k v s3) fun t25 s4 =>
  Gd (wantV t21 true) s4 (fun k => Bnd (shiftP 0 t25) fun v => k v s4) fun t26 s5 =>
  Gd (wantV t21 true) s5 (fun k => Bnd (ld 1 false t26 s5) fun v => k v s5) fun t27 s6 =>
  Gd (wantV t21 true) s6 (fun k => k t13 s6) fun t28 s7 =>
  Gd (wantV t21 true) s7 (fun k => Bnd (bn .eql 3 t27 t28) fun v => k v s7) fun t29 s8 =>
  Bnd (pickV t21 t29 (.bool false)) fun t30 =>
  IfP t30
  (Bnd (ixS 2 t4 t19) fun t33 =>
  Bnd (shiftP 1 t33) fun t34 =>
  Bnd (ld 1 false t34 (adv s8 9)) fun t35 =>
  Bnd (bn .add 3 t35 (.int .i64 1)) fun t36 =>
  Bnd (ixS 2 t4 t19) fun t37 =>
  Bnd (shiftP 1 t37) fun t38 =>
  Bnd (sto 1 t38 t36 (adv s8 9)) fun s9 =>
  f128j2 Q ih1 t10 t4 t8 t9 s9)
  (Bnd (bld 109 [(0, t13), (1, (.int .i64 1))]) fun t41 =>
  Bnd (bsl 25 1 [(0, t41)]) fun t42 =>
  Bnd (bt .append #[25, 25] [t4, t42] (s8.nx + 4) (adv s8 6)) fun r43 =>
  f128j2 Q ih1 t10 r43.1 t8 t9 r43.2)))
  (f128j1 Q t4 (adv s 1))
noncomputable def f128l1 (Q : AV → St → Prop) (n : Nat) : AV → AV → AV → AV → St → Prop := Nat.rec (motive := fun _ => AV → AV → AV → AV → St → Prop) (fun _ _ _ _ _ => False) (fun _ ih => f128l1s Q ih) n
noncomputable def f128 (Q : AV → St → Prop) (t0 : AV) (s : St) : Prop :=
  Bnd (bt .len #[72] [t0] (s.nx + 4) (adv s 6)) fun r9 =>
  ∃ n, f128l1 Q n .nils t0 r9.1 (.int .i64 0) r9.2
end Go.Proofs.YtdehdahimkcakaaGreatDoor
end
section
set_option linter.unusedVariables false
set_option maxRecDepth 1000000
namespace Go.Proofs.YtdehdahimkcakaaGreatDoor
open Go Ai
noncomputable def f6 (Q : AV → St → Prop) (t0 t1 : AV) (s : St) : Prop :=
  (t0.cells.all AV.one = true ∧
  CallPu Tryz.env 25 [] (adv ((adv s 2).set s.nx (some (.cells t0.cells 33 true true))) 2) fun t10 s1 =>
  Bnd (un .not t10) fun t12 =>
  Gd (wantV t12 false) (adv s1 14) (fun k => k t1 (adv s1 14)) fun t14 s2 =>
  Gd (wantV t12 false) s2 (fun k => Bnd (bt .len #[9] [t14] (s1.nx + 4) s2) fun r => k r.1 r.2) fun t15 s3 =>
  Gd (wantV t12 false) s3 (fun k => Bnd (bn .gtr 3 t15 (.int .i64 200)) fun v => k v s3) fun t16 s4 =>
  Bnd (pickV t12 (.bool true) t16) fun t17 =>
  Gd (wantV t17 false) s4 (fun k => Bnd (shiftP 1 (.ptr s.nx 0)) fun v => k v s4) fun t19 s5 =>
  Gd (wantV t17 false) s5 (fun k => Bnd (shiftP 1 t19) fun v => k v s5) fun t20 s6 =>
  Gd (wantV t17 false) s6 (fun k => Bnd (ld 1 false t20 s6) fun v => k v s6) fun t21 s7 =>
  Gd (wantV t17 false) s7 (fun k => Bnd (bt .len #[9] [t21] (s1.nx + 11) s7) fun r => k r.1 r.2) fun t22 s8 =>
  Gd (wantV t17 false) s8 (fun k => Bnd (bn .gtr 3 t22 (.int .i64 200)) fun v => k v s8) fun t23 s9 =>
  Bnd (pickV t17 (.bool true) t23) fun t24 =>
  IfP t24
  (Q t10 (adv s9 2))
  (Bnd (ld 6 true (.ptr s.nx 0) (adv s9 7)) fun t27 =>
  CallPu Tryz.env 26 [t27] (adv s9 7) fun t28 s10 =>
  Bnd (extr t28 0) fun t29 =>
  Bnd (extr t28 1) fun t30 =>
  Bnd (ld 6 true (.ptr s.nx 0) (adv s10 7)) fun t32 =>
  CallPu Tryz.env 27 [t32] (adv s10 7) fun t33 s11 =>
  Bnd (extr t33 0) fun t34 =>
  Bnd (extr t33 1) fun t35 =>
  Bnd (bn .eql 3 t29 t34) fun t38 =>
  Gd (wantV t38 true) (adv s11 16) (fun k => k t30 (adv s11 16)) fun t40 s12 =>
  Gd (wantV t38 true) s12 (fun k => k t35 s12) fun t41 s13 =>
  Gd (wantV t38 true) s13 (fun k => Bnd (bn .eql 34 t40 t41) fun v => k v s13) fun t42 s14 =>
  Bnd (pickV t38 t42 (.bool false)) fun t43 =>
  Gd (wantV t43 true) s14 (fun k => k t1 s14) fun t45 s15 =>
  Gd (wantV t43 true) s15 (fun k => CallPu Tryz.env 24 [t45] s15 k) fun t46 s16 =>
  Gd (wantV t43 true) s16 (fun k => k t1 s16) fun t47 s17 =>
  Gd (wantV t43 true) s17 (fun k => CallPu Tryz.env 28 [t47] s17 k) fun t48 s18 =>
  Gd (wantV t43 true) s18 (fun k => Bnd (bn .eql 4 t46 t48) fun v => k v s18) fun t49 s19 =>
  Bnd (pickV t43 t49 (.bool false)) fun t50 =>
  Q t50 s19))
noncomputable def f26j1 (Q : AV → St → Prop) (s : St) : Prop :=
  Q (.tup [(.int .i64 0), (.int .i64 101)]) (adv s 2)
noncomputable def f26 (Q : AV → St → Prop) (t0 : AV) (s : St) : Prop :=
  (t0.cells.all AV.one = true ∧
  Bnd (shiftP 0 (.ptr s.nx 0)) fun t4 =>
  Bnd (ld 1 false t4 (adv ((adv s 3).set s.nx (some (.cells t0.cells 33 true true))) 9)) fun t5 =>
  Bnd (un .not t5) fun t6 =>
  Gd (wantV t6 true) (adv ((adv s 3).set s.nx (some (.cells t0.cells 33 true true))) 9) (fun k => Bnd (shiftP 1 (.ptr s.nx 0)) fun v => k v (adv ((adv s 3).set s.nx (some (.cells t0.cells 33 true true))) 9)) fun t8 s1 =>
  Gd (wantV t6 true) s1 (fun k => Bnd (shiftP 0 t8) fun v => k v s1) fun t9 s2 =>
  Gd (wantV t6 true) s2 (fun k => Bnd (ld 1 false t9 s2) fun v => k v s2) fun t10 s3 =>
  Gd (wantV t6 true) s3 (fun k => Bnd (bn .eql 3 t10 (.int .i64 3)) fun v => k v s3) fun t11 s4 =>
  Bnd (pickV t6 t11 (.bool false)) fun t12 =>
  IfP t12
  (Bnd (shiftP 1 (.ptr s.nx 0)) fun t13 =>
  Bnd (shiftP 1 t13) fun t14 =>
  Bnd (ld 1 false t14 (adv s4 3)) fun t15 =>
  Bnd (bn .eql 9 t15 (.str [66, 111, 111, 108])) fun t17 =>
  IfP t17
  (Q (.tup [(.int .i64 1), (.int .i64 0)]) (adv s4 7))
  (Bnd (bn .eql 9 t15 (.str [73, 110, 116])) fun t19 =>
  IfP t19
  (Q (.tup [(.int .i64 2), (.int .i64 0)]) (adv s4 9))
  (Bnd (bn .eql 9 t15 (.str [83, 116, 114, 105, 110, 103])) fun t21 =>
  IfP t21
  (Q (.tup [(.int .i64 3), (.int .i64 0)]) (adv s4 11))
  (f26j1 Q (adv s4 9)))))
  (f26j1 Q s4))
noncomputable def f27j1 (Q : AV → St → Prop) (s : St) : Prop :=
  Q (.tup [(.int .i64 0), (.int .i64 101)]) (adv s 2)
noncomputable def f27j2 (Q : AV → St → Prop) (ih1 : AV → AV → AV → St → Prop) (t5 t1 t4 : AV) (s : St) : Prop :=
  Bnd (bn .add 3 t5 (.int .i64 1)) fun t10 =>
  ih1 t1 t4 t10 (adv s 3)
noncomputable def f27l1s (Q : AV → St → Prop) (ih1 : AV → AV → AV → St → Prop) (t1 t4 t5 : AV) (s : St) : Prop :=
  Bnd (bn .lss 3 t5 (.int .i64 3)) fun t8 =>
  IfP t8
  (Bnd (shiftP 0 t1) fun t11 =>
  Bnd (ld 1 false t11 (adv s 21)) fun t12 =>
  Bnd (un .not t12) fun t13 =>
  Gd (wantV t13 true) (adv s 21) (fun k => Bnd (shiftP 1 t1) fun v => k v (adv s 21)) fun t15 s1 =>
  Gd (wantV t13 true) s1 (fun k => Bnd (shiftP 0 t15) fun v => k v s1) fun t16 s2 =>
  Gd (wantV t13 true) s2 (fun k => Bnd (ld 1 false t16 s2) fun v => k v s2) fun t17 s3 =>
  Gd (wantV t13 true) s3 (fun k => Bnd (bn .eql 3 t17 (.int .i64 3)) fun v => k v s3) fun t18 s4 =>
  Bnd (pickV t13 t18 (.bool false)) fun t19 =>
  Gd (wantV t19 true) s4 (fun k => Bnd (shiftP 1 t1) fun v => k v s4) fun t21 s5 =>
  Gd (wantV t19 true) s5 (fun k => Bnd (shiftP 1 t21) fun v => k v s5) fun t22 s6 =>
  Gd (wantV t19 true) s6 (fun k => Bnd (ld 1 false t22 s6) fun v => k v s6) fun t23 s7 =>
  Gd (wantV t19 true) s7 (fun k => k t4 s7) fun t24 s8 =>
  Gd (wantV t19 true) s8 (fun k => k t5 s8) fun t25 s9 =>
  Gd (wantV t19 true) s9 (fun k => Bnd (ixS 1 t24 t25) fun v => k v s9) fun t26 s10 =>
  Gd (wantV t19 true) s10 (fun k => Bnd (ld 1 false t26 s10) fun v => k v s10) fun t27 s11 =>
  Gd (wantV t19 true) s11 (fun k => Bnd (bn .eql 9 t23 t27) fun v => k v s11) fun t28 s12 =>
  Bnd (pickV t19 t28 (.bool false)) fun t29 =>
  IfP t29
  (Bnd (bn .add 3 t5 (.int .i64 1)) fun t31 =>
  Q (.tup [t31, (.int .i64 0)]) (adv s12 4))
  (f27j2 Q ih1 t5 t1 t4 s12))
  (f27j1 Q (adv s 2))
noncomputable def f27l1 (Q : AV → St → Prop) (n : Nat) : AV → AV → AV → St → Prop := Nat.rec (motive := fun _ => AV → AV → AV → St → Prop) (fun _ _ _ _ => False) (fun _ ih => f27l1s Q ih) n
noncomputable def f27 (Q : AV → St → Prop) (t0 : AV) (s : St) : Prop :=
  (t0.cells.all AV.one = true ∧
  Bnd (bsl 52 3 [(0, (.str [66, 111, 111, 108])), (1, (.str [73, 110, 116])), (2, (.str [83, 116, 114, 105, 110, 103]))]) fun t6 =>
  ∃ n, f27l1 Q n (.ptr s.nx 0) t6 (.int .i64 0) (adv ((adv s 3).set s.nx (some (.cells t0.cells 33 true true))) 3))
noncomputable def f24j1 (Q : AV → St → Prop) (t0 : AV) (s : St) : Prop :=
  CallPu Tryz.env 71 [t0, (.int .i64 2)] (adv s 12) fun t19 s1 =>
  Bnd (bn .neq 3 t19 (.int .i64 0)) fun t20 =>
  Gd (wantV t20 false) s1 (fun k => k t0 s1) fun t22 s2 =>
  Gd (wantV t20 false) s2 (fun k => CallPu Tryz.env 72 [t22, (.str [115, 116, 114, 46])] s2 k) fun t23 s3 =>
  Bnd (pickV t20 (.bool true) t23) fun t24 =>
  Gd (wantV t24 false) s3 (fun k => k t0 s3) fun t26 s4 =>
  Gd (wantV t24 false) s4 (fun k => CallPu Tryz.env 72 [t26, (.str [114, 101, 46])] s4 k) fun t27 s5 =>
  Bnd (pickV t24 (.bool true) t27) fun t28 =>
  Q t28 s5
noncomputable def f24j2 (Q : AV → St → Prop) (t4 t0 : AV) (s : St) : Prop :=
  IfP t4
  (Q (.bool true) (adv s 1))
  (f24j1 Q t0 s)
noncomputable def f24 (Q : AV → St → Prop) (t0 : AV) (s : St) : Prop :=
  Bnd (bn .eql 9 t0 (.str [116, 114, 117, 101])) fun t5 =>
  IfP t5
  (f24j2 Q t5 t0 (adv s 4))
  (Bnd (bn .eql 9 t0 (.str [102, 97, 108, 115, 101])) fun t6 =>
  IfP t6
  (f24j2 Q t6 t0 (adv s 6))
  (Bnd (bn .eql 9 t0 (.str [108, 101, 116])) fun t7 =>
  IfP t7
  (f24j2 Q t7 t0 (adv s 8))
  (Bnd (bn .eql 9 t0 (.str [102, 111, 114, 97, 108, 108])) fun t8 =>
  IfP t8
  (f24j2 Q t8 t0 (adv s 10))
  (Bnd (bn .eql 9 t0 (.str [101, 120, 105, 115, 116, 115])) fun t9 =>
  IfP t9
  (f24j2 Q t9 t0 (adv s 12))
  (Bnd (bn .eql 9 t0 (.str [109, 97, 116, 99, 104])) fun t10 =>
  IfP t10
  (f24j2 Q t10 t0 (adv s 14))
  (Bnd (bn .eql 9 t0 (.str [112, 97, 114])) fun t11 =>
  IfP t11
  (f24j2 Q t11 t0 (adv s 16))
  (Bnd (bn .eql 9 t0 (.str [33])) fun t12 =>
  IfP t12
  (f24j2 Q t12 t0 (adv s 18))
  (Bnd (bn .eql 9 t0 (.str [95])) fun t13 =>
  IfP t13
  (f24j2 Q t13 t0 (adv s 20))
  (Bnd (bn .eql 9 t0 (.str [97, 115])) fun t14 =>
  IfP t14
  (f24j2 Q t14 t0 (adv s 22))
  (Bnd (bn .eql 9 t0 (.str [100, 105, 118])) fun t15 =>
  IfP t15
  (f24j2 Q t15 t0 (adv s 24))
  (Bnd (bn .eql 9 t0 (.str [109, 111, 100])) fun t16 =>
  IfP t16
  (f24j2 Q t16 t0 (adv s 26))
  (Bnd (bn .eql 9 t0 (.str [97, 98, 115])) fun t17 =>
  f24j2 Q t17 t0 (adv s 28)))))))))))))
noncomputable def f28j1 (Q : AV → St → Prop) (t0 : AV) (s : St) : Prop :=
  Bnd (bt .len #[9] [t0] (s.nx + 1) (adv s 9)) fun r21 =>
  Bnd (bn .geq 3 r21.1 (.int .i64 4)) fun t22 =>
  Gd (wantV t22 true) r21.2 (fun k => k t0 r21.2) fun t24 s1 =>
  Gd (wantV t22 true) s1 (fun k => Bnd (slc 9 t24 none (some (.int .i64 4)) none s1) fun v => k v s1) fun t25 s2 =>
  Gd (wantV t22 true) s2 (fun k => Bnd (bn .eql 9 t25 (.str [115, 116, 114, 46])) fun v => k v s2) fun t26 s3 =>
  Bnd (pickV t22 t26 (.bool false)) fun t27 =>
  Bnd (bt .len #[9] [t0] (s3.nx + 1) (adv s3 9)) fun r29 =>
  Bnd (bn .geq 3 r29.1 (.int .i64 3)) fun t30 =>
  Gd (wantV t30 true) r29.2 (fun k => k t0 r29.2) fun t32 s4 =>
  Gd (wantV t30 true) s4 (fun k => Bnd (slc 9 t32 none (some (.int .i64 3)) none s4) fun v => k v s4) fun t33 s5 =>
  Gd (wantV t30 true) s5 (fun k => Bnd (bn .eql 9 t33 (.str [114, 101, 46])) fun v => k v s5) fun t34 s6 =>
  Bnd (pickV t30 t34 (.bool false)) fun t35 =>
  Gd (wantV t27 false) (adv s6 10) (fun k => k t35 (adv s6 10)) fun t38 s7 =>
  Bnd (pickV t27 (.bool true) t38) fun t39 =>
  Gd (wantV t39 false) s7 (fun k => k t0 s7) fun t41 s8 =>
  Gd (wantV t39 false) s8 (fun k => CallPu Tryz.env 23 [t41, (.int .i64 2)] s8 k) fun t42 s9 =>
  Gd (wantV t39 false) s9 (fun k => Bnd (bn .neq 3 t42 (.int .i64 0)) fun v => k v s9) fun t43 s10 =>
  Bnd (pickV t39 (.bool true) t43) fun t44 =>
  Q t44 s10
noncomputable def f28j2 (Q : AV → St → Prop) (ih1 : AV → AV → AV → St → Prop) (t4 t0 t3 : AV) (s : St) : Prop :=
  Bnd (bn .add 3 t4 (.int .i64 1)) fun t13 =>
  ih1 t0 t3 t13 (adv s 3)
noncomputable def f28l1s (Q : AV → St → Prop) (ih1 : AV → AV → AV → St → Prop) (t0 t3 t4 : AV) (s : St) : Prop :=
  Bnd (bt .len #[52] [t3] (s.nx + 2) (adv s 4)) fun r10 =>
  Bnd (bn .lss 3 t4 r10.1) fun t11 =>
  IfP t11
  (Bnd (ixS 1 t3 t4) fun t16 =>
  Bnd (ld 1 false t16 (adv r10.2 6)) fun t17 =>
  Bnd (bn .eql 9 t17 t0) fun t19 =>
  IfP t19
  (Q (.bool true) (adv r10.2 7))
  (f28j2 Q ih1 t4 t0 t3 (adv r10.2 6)))
  (f28j1 Q t0 r10.2)
noncomputable def f28l1 (Q : AV → St → Prop) (n : Nat) : AV → AV → AV → St → Prop := Nat.rec (motive := fun _ => AV → AV → AV → St → Prop) (fun _ _ _ _ => False) (fun _ ih => f28l1s Q ih) n
noncomputable def f28 (Q : AV → St → Prop) (t0 : AV) (s : St) : Prop :=
  Bnd (bsl 52 13 [(0, (.str [116, 114, 117, 101])), (1, (.str [102, 97, 108, 115, 101])), (2, (.str [108, 101, 116])), (3, (.str [102, 111, 114, 97, 108, 108])), (4, (.str [101, 120, 105, 115, 116, 115])), (5, (.str [109, 97, 116, 99, 104])), (6, (.str [112, 97, 114])), (7, (.str [33])), (8, (.str [95])), (9, (.str [97, 115])), (10, (.str [100, 105, 118])), (11, (.str [109, 111, 100])), (12, (.str [97, 98, 115]))]) fun t7 =>
  ∃ n, f28l1 Q n t0 t7 (.int .i64 0) (adv s 4)
noncomputable def f71j1 (Q : AV → St → Prop) (t0 : AV) (s : St) : Prop :=
  CallPu Tryz.env 122 [t0] (adv s 3) fun t39 s1 =>
  Q t39 s1
noncomputable def f71 (Q : AV → St → Prop) (t0 t1 : AV) (s : St) : Prop :=
  Bnd (bn .eql 9 t0 (.str [110, 111, 116])) fun t7 =>
  IfP t7
  (Q (.int .i64 6) (adv s 5))
  (Bnd (bn .eql 9 t0 (.str [97, 110, 100])) fun t9 =>
  IfP t9
  (Q (.int .i64 7) (adv s 7))
  (Bnd (bn .eql 9 t0 (.str [111, 114])) fun t11 =>
  IfP t11
  (Q (.int .i64 8) (adv s 9))
  (Bnd (bn .eql 9 t0 (.str [61, 62])) fun t13 =>
  IfP t13
  (Q (.int .i64 9) (adv s 11))
  (Bnd (bn .eql 9 t0 (.str [120, 111, 114])) fun t15 =>
  IfP t15
  (Q (.int .i64 10) (adv s 13))
  (Bnd (bn .eql 9 t0 (.str [61])) fun t17 =>
  IfP t17
  (Q (.int .i64 11) (adv s 15))
  (Bnd (bn .eql 9 t0 (.str [100, 105, 115, 116, 105, 110, 99, 116])) fun t19 =>
  IfP t19
  (Q (.int .i64 12) (adv s 17))
  (Bnd (bn .eql 9 t0 (.str [105, 116, 101])) fun t21 =>
  IfP t21
  (Q (.int .i64 13) (adv s 19))
  (Bnd (bn .eql 9 t0 (.str [43])) fun t23 =>
  IfP t23
  (Q (.int .i64 15) (adv s 21))
  (Bnd (bn .eql 9 t0 (.str [45])) fun t25 =>
  IfP t25
  (Bnd (bn .eql 3 t1 (.int .i64 1)) fun t27 =>
  IfP t27
  (Q (.int .i64 14) (adv s 25))
  (Q (.int .i64 16) (adv s 25)))
  (Bnd (bn .eql 9 t0 (.str [42])) fun t29 =>
  IfP t29
  (Q (.int .i64 17) (adv s 25))
  (Bnd (bn .eql 9 t0 (.str [60, 61])) fun t31 =>
  IfP t31
  (Q (.int .i64 18) (adv s 27))
  (Bnd (bn .eql 9 t0 (.str [60])) fun t33 =>
  IfP t33
  (Q (.int .i64 19) (adv s 29))
  (Bnd (bn .eql 9 t0 (.str [62, 61])) fun t35 =>
  IfP t35
  (Q (.int .i64 20) (adv s 31))
  (Bnd (bn .eql 9 t0 (.str [62])) fun t37 =>
  IfP t37
  (Q (.int .i64 21) (adv s 33))
  (f71j1 Q t0 (adv s 32))))))))))))))))
noncomputable def f122j1 (Q : AV → St → Prop) (s : St) : Prop :=
  Q (.int .i64 0) (adv s 1)
noncomputable def f122 (Q : AV → St → Prop) (t0 : AV) (s : St) : Prop :=
  Bnd (bn .eql 9 t0 (.str [115, 116, 114, 46, 43, 43])) fun t5 =>
  IfP t5
  (Q (.int .i64 22) (adv s 5))
  (Bnd (bn .eql 9 t0 (.str [115, 116, 114, 46, 108, 101, 110])) fun t7 =>
  IfP t7
  (Q (.int .i64 23) (adv s 7))
  (Bnd (bn .eql 9 t0 (.str [115, 116, 114, 46, 97, 116])) fun t9 =>
  IfP t9
  (Q (.int .i64 24) (adv s 9))
  (Bnd (bn .eql 9 t0 (.str [115, 116, 114, 46, 115, 117, 98, 115, 116, 114])) fun t11 =>
  IfP t11
  (Q (.int .i64 25) (adv s 11))
  (Bnd (bn .eql 9 t0 (.str [115, 116, 114, 46, 112, 114, 101, 102, 105, 120, 111, 102])) fun t13 =>
  IfP t13
  (Q (.int .i64 26) (adv s 13))
  (Bnd (bn .eql 9 t0 (.str [115, 116, 114, 46, 115, 117, 102, 102, 105, 120, 111, 102])) fun t15 =>
  IfP t15
  (Q (.int .i64 27) (adv s 15))
  (Bnd (bn .eql 9 t0 (.str [115, 116, 114, 46, 99, 111, 110, 116, 97, 105, 110, 115])) fun t17 =>
  IfP t17
  (Q (.int .i64 28) (adv s 17))
  (Bnd (bn .eql 9 t0 (.str [115, 116, 114, 46, 105, 110, 100, 101, 120, 111, 102])) fun t19 =>
  IfP t19
  (Q (.int .i64 29) (adv s 19))
  (Bnd (bn .eql 9 t0 (.str [115, 116, 114, 46, 114, 101, 112, 108, 97, 99, 101])) fun t21 =>
  IfP t21
  (Q (.int .i64 30) (adv s 21))
  (f122j1 Q (adv s 20))))))))))
noncomputable def f72 (Q : AV → St → Prop) (t0 t1 : AV) (s : St) : Prop :=
  CallPu Tryz.env 123 [t0, t1] (adv s 5) fun t7 s1 =>
  Q t7 s1
noncomputable def f123 (Q : AV → St → Prop) (t0 t1 : AV) (s : St) : Prop :=
  Bnd (bt .len #[9] [t0] (s.nx + 2) (adv s 15)) fun r6 =>
  Bnd (bt .len #[9] [t1] (s.nx + 4) r6.2) fun r8 =>
  Bnd (bn .geq 3 r6.1 r8.1) fun t9 =>
  Gd (wantV t9 true) r8.2 (fun k => k t0 r8.2) fun t11 s1 =>
  Gd (wantV t9 true) s1 (fun k => k t1 s1) fun t12 s2 =>
  Gd (wantV t9 true) s2 (fun k => Bnd (bt .len #[9] [t12] (s.nx + 9) s2) fun r => k r.1 r.2) fun t13 s3 =>
  Gd (wantV t9 true) s3 (fun k => Bnd (slc 9 t11 none (some t13) none s3) fun v => k v s3) fun t14 s4 =>
  Gd (wantV t9 true) s4 (fun k => k t1 s4) fun t15 s5 =>
  Gd (wantV t9 true) s5 (fun k => Bnd (bn .eql 9 t14 t15) fun v => k v s5) fun t16 s6 =>
  Bnd (pickV t9 t16 (.bool false)) fun t17 =>
  Q t17 s6
noncomputable def f23j1 (Q : AV → St → Prop) (s : St) : Prop :=
  Q (.int .i64 0) (adv s 1)
noncomputable def f23j2 (Q : AV → St → Prop) (ih1 : AV → AV → AV → St → Prop) (t6 t0 t5 : AV) (s : St) : Prop :=
  Bnd (bn .add 3 t6 (.int .i64 1)) fun t19 =>
  ih1 t0 t5 t19 (adv s 3)
noncomputable def f23l1s (Q : AV → St → Prop) (ih1 : AV → AV → AV → St → Prop) (t0 t5 t6 : AV) (s : St) : Prop :=
  Bnd (bt .len #[52] [t5] (s.nx + 2) (adv s 4)) fun r16 =>
  Bnd (bn .lss 3 t6 r16.1) fun t17 =>
  IfP t17
  (Bnd (ixS 1 t5 t6) fun t22 =>
  Bnd (ld 1 false t22 (adv r16.2 10)) fun t23 =>
  Bnd (bn .eql 9 t23 t0) fun t25 =>
  Gd (wantV t25 true) (adv r16.2 10) (fun k => k t0 (adv r16.2 10)) fun t27 s1 =>
  Gd (wantV t25 true) s1 (fun k => Bnd (bn .neq 9 t27 (.str [])) fun v => k v s1) fun t28 s2 =>
  Bnd (pickV t25 t28 (.bool false)) fun t29 =>
  IfP t29
  (Bnd (bn .add 3 (.int .i64 6) t6) fun t31 =>
  Q t31 (adv s2 3))
  (f23j2 Q ih1 t6 t0 t5 s2))
  (f23j1 Q r16.2)
noncomputable def f23l1 (Q : AV → St → Prop) (n : Nat) : AV → AV → AV → St → Prop := Nat.rec (motive := fun _ => AV → AV → AV → St → Prop) (fun _ _ _ _ => False) (fun _ ih => f23l1s Q ih) n
noncomputable def f23 (Q : AV → St → Prop) (t0 t1 : AV) (s : St) : Prop :=
  Bnd (bn .eql 9 t0 (.str [45])) fun t8 =>
  Gd (wantV t8 true) (adv s 7) (fun k => k t1 (adv s 7)) fun t10 s1 =>
  Gd (wantV t8 true) s1 (fun k => Bnd (bn .eql 3 t10 (.int .i64 1)) fun v => k v s1) fun t11 s2 =>
  Bnd (pickV t8 t11 (.bool false)) fun t12 =>
  IfP t12
  (Q (.int .i64 14) (adv s2 1))
  (Bnd (bsl 52 25 [(0, (.str [110, 111, 116])), (1, (.str [97, 110, 100])), (2, (.str [111, 114])), (3, (.str [61, 62])), (4, (.str [120, 111, 114])), (5, (.str [61])), (6, (.str [100, 105, 115, 116, 105, 110, 99, 116])), (7, (.str [105, 116, 101])), (8, (.str [])), (9, (.str [43])), (10, (.str [45])), (11, (.str [42])), (12, (.str [60, 61])), (13, (.str [60])), (14, (.str [62, 61])), (15, (.str [62])), (16, (.str [115, 116, 114, 46, 43, 43])), (17, (.str [115, 116, 114, 46, 108, 101, 110])), (18, (.str [115, 116, 114, 46, 97, 116])), (19, (.str [115, 116, 114, 46, 115, 117, 98, 115, 116, 114])), (20, (.str [115, 116, 114, 46, 112, 114, 101, 102, 105, 120, 111, 102])), (21, (.str [115, 116, 114, 46, 115, 117, 102, 102, 105, 120, 111, 102])), (22, (.str [115, 116, 114, 46, 99, 111, 110, 116, 97, 105, 110, 115])), (23, (.str [115, 116, 114, 46, 105, 110, 100, 101, 120, 111, 102])), (24, (.str [115, 116, 114, 46, 114, 101, 112, 108, 97, 99, 101]))]) fun t13 =>
  ∃ n, f23l1 Q n t0 t13 (.int .i64 0) (adv s2 3))
end Go.Proofs.YtdehdahimkcakaaGreatDoor
end
section
set_option linter.unusedVariables false
set_option linter.unusedSimpArgs false
set_option maxRecDepth 100000
namespace Go.Proofs.YtdehdahimkcakaaGreatDoor
open Go Ai
def pre (p x : List UInt8) : Bool := decide (p.length ≤ x.length) && (x.take p.length == p)
def place (x : List UInt8) : List (List UInt8) → Nat → Option Nat
  | [], _ => none
  | p :: l, i => if (p == x) = true then some i else place x l (i + 1)
end Go.Proofs.YtdehdahimkcakaaGreatDoor
end
section
set_option linter.unusedVariables false
set_option maxRecDepth 1000000
namespace Go.Proofs.YtdehdahimkcakaaGreatDoor
open Go Ai
noncomputable abbrev f62B : Code := bodyOf Tryz.f62
noncomputable abbrev f62R (Q : AV → St → Prop) : Kt := fun g s => RetP (result Tryz.ty Tryz.f62 g s) fun v => Q v s
noncomputable abbrev f62C : Code → Kt → (Nat → Kt) → Kt → Kt := codeP Tryz.env 62 (Tryz.env.kp 62)
noncomputable def f62 (Q : AV → St → Prop) (t0 t1 : AV) (s : St) : Prop :=
  Bnd (zr 33) fun z4 =>
  Bnd (bld 30 [(0, t0), (1, t1)]) fun t7 =>
  Bnd (bld 33 [(1, t7)]) fun t8 =>
  Bnd (sto 6 (.ptr s.nx 0) t8 (adv ((adv s 1).set s.nx (some (.cells z4.cells 33 true true))) 5)) fun s1 =>
  RetP ((resC [ld 6 true (.ptr s.nx 0) s1]).map tupV) fun v => Q v s1
theorem f62_run (t0 t1 : AV) (s : St) {Q : AV → St → Prop} (h : f62 Q t0 t1 s) : ∃ r s', WideC Tryz.env 62 [t0, t1] s r s' ∧ Q r s' :=
  wide_of (h := 62) (fn := Tryz.f62) (c := sub f62B []) (by kernel_rfl) (by kernel_rfl) (by kernel_rfl) (by kernel_rfl) (of_decide_eq_true (by kernel_rfl))
    (Eq.mp (Eq.trans (by kernel_rfl) (congrFun (congrFun (show f62C (sub f62B []) (f62R Q) (fun _ _ _ => False) (f62R Q) = _ from rfl).symm (gt (frame Tryz.f62 [t0, t1]))) s)) h)
noncomputable abbrev f63B : Code := bodyOf Tryz.f63
noncomputable abbrev f63R (Q : AV → St → Prop) : Kt := fun g s => RetP (result Tryz.ty Tryz.f63 g s) fun v => Q v s
noncomputable abbrev f63C : Code → Kt → (Nat → Kt) → Kt → Kt := codeP Tryz.env 63 (Tryz.env.kp 63)
noncomputable def f63j2 (Q : AV → St → Prop) (t9 : AV) (s : St) : Prop :=
  Bnd (cv 161 9 t9 (adv s 3)) fun t70 =>
  Q t70 (adv s 3)
noncomputable def f63j3 (Q : AV → St → Prop) (ih1 : AV → AV → AV → St → Prop) (t10 t4 t9 : AV) (s : St) : Prop :=
  Bnd (bn .sub 3 t10 (.int .i64 1)) fun t59 =>
  ih1 t4 t9 t59 (adv s 3)
noncomputable def f63l1s (Q : AV → St → Prop) (ih1 : AV → AV → AV → St → Prop) (t4 t9 t10 : AV) (s : St) : Prop :=
  Bnd (bn .geq 3 t10 (.int .i64 0)) fun t57 =>
  IfP t57
  (Bnd (ixS 1 t4 t10) fun t63 =>
  Bnd (ld 1 false t63 (adv s 12)) fun t64 =>
  Bnd (bn .add 3 (.int .i64 48) t64) fun t65 =>
  Bnd (cv 3 5 t65 (adv s 12)) fun t66 =>
  Bnd (bsl 161 1 [(0, t66)]) fun t67 =>
  Bnd (bt .append #[161, 161] [t9, t67] (s.nx + 10) (adv s 12)) fun r68 =>
  f63j3 Q ih1 t10 t4 r68.1 r68.2)
  (f63j2 Q t9 (adv s 2))
noncomputable def f63l1 (Q : AV → St → Prop) (n : Nat) : AV → AV → AV → St → Prop := Nat.rec (motive := fun _ => AV → AV → AV → St → Prop) (fun _ _ _ _ => False) (fun _ ih => f63l1s Q ih) n
noncomputable def f63j1 (Q : AV → St → Prop) (t4 : AV) (s : St) : Prop :=
  Bnd (bt .len #[72] [t4] (s.nx + 1) (adv s 3)) fun r51 =>
  Bnd (bn .eql 3 r51.1 (.int .i64 0)) fun t52 =>
  IfP t52
  (Q (.str [48]) (adv r51.2 1))
  (Bnd (bt .len #[72] [t4] (r51.2.nx + 2) (adv r51.2 5)) fun r54 =>
  Bnd (bn .sub 3 r54.1 (.int .i64 1)) fun t55 =>
  ∃ n, f63l1 Q n t4 .nils t55 r54.2)
noncomputable def f63j4 (Q : AV → St → Prop) (ih2 : AV → AV → AV → St → Prop) (t5 t3 t4 : AV) (s : St) : Prop :=
  Bnd (bn .sub 3 t5 (.int .i64 1)) fun t19 =>
  ih2 t3 t4 t19 (adv s 3)
noncomputable def f63j6 (Q : AV → St → Prop) (ih2 : AV → AV → AV → St → Prop) (t6 t4 t5 t3 : AV) (s : St) : Prop :=
  Bnd (bn .gtr 3 t6 (.int .i64 0)) fun t45 =>
  IfP t45
  (Bnd (bsl 72 1 [(0, t6)]) fun t48 =>
  Bnd (bt .append #[72, 72] [t4, t48] (s.nx + 5) (adv s 7)) fun r49 =>
  f63j4 Q ih2 t5 t3 r49.1 r49.2)
  (f63j4 Q ih2 t5 t3 t4 (adv s 2))
noncomputable def f63j7 (Q : AV → St → Prop) (ih2 : AV → AV → AV → St → Prop) (ih3 : AV → AV → AV → AV → AV → St → Prop) (t7 t3 t4 t5 t6 : AV) (s : St) : Prop :=
  Bnd (bn .add 3 t7 (.int .i64 1)) fun t29 =>
  ih3 t3 t4 t5 t6 t29 (adv s 3)
noncomputable def f63l3s (Q : AV → St → Prop) (ih2 : AV → AV → AV → St → Prop) (ih3 : AV → AV → AV → AV → AV → St → Prop) (t3 t4 t5 t6 t7 : AV) (s : St) : Prop :=
  Bnd (bt .len #[72] [t4] (s.nx + 2) (adv s 4)) fun r26 =>
  Bnd (bn .lss 3 t7 r26.1) fun t27 =>
  IfP t27
  (Bnd (ixS 1 t4 t7) fun t32 =>
  Bnd (ld 1 false t32 (adv r26.2 8)) fun t33 =>
  Bnd (bn .mul 3 (.int .i64 2) t33) fun t34 =>
  Bnd (bn .add 3 t34 t6) fun t36 =>
  Bnd (bn .rem 3 t36 (.int .i64 10)) fun t40 =>
  Bnd (ixS 1 t4 t7) fun t41 =>
  Bnd (sto 1 t41 t40 (adv r26.2 14)) fun s1 =>
  Bnd (bn .quo 3 t36 (.int .i64 10)) fun t43 =>
  f63j7 Q ih2 ih3 t7 t3 t4 t5 t43 (adv s1 3))
  (f63j6 Q ih2 t6 t4 t5 t3 r26.2)
noncomputable def f63l3 (Q : AV → St → Prop) (ih2 : AV → AV → AV → St → Prop) (n : Nat) : AV → AV → AV → AV → AV → St → Prop := Nat.rec (motive := fun _ => AV → AV → AV → AV → AV → St → Prop) (fun _ _ _ _ _ _ => False) (fun _ ih => f63l3s Q ih2 ih) n
noncomputable def f63j5 (Q : AV → St → Prop) (ih2 : AV → AV → AV → St → Prop) (t3 t4 t5 t6 : AV) (s : St) : Prop :=
  ∃ n, f63l3 Q ih2 n t3 t4 t5 t6 (.int .i64 0) (adv s 1)
noncomputable def f63l2s (Q : AV → St → Prop) (ih2 : AV → AV → AV → St → Prop) (t3 t4 t5 : AV) (s : St) : Prop :=
  Bnd (bn .geq 3 t5 (.int .i64 0)) fun t17 =>
  IfP t17
  (Bnd (ixS 1 t3 t5) fun t22 =>
  Bnd (ld 1 false t22 (adv s 7)) fun t23 =>
  IfP t23
  (f63j5 Q ih2 t3 t4 t5 (.int .i64 1) (adv s 8))
  (f63j5 Q ih2 t3 t4 t5 (.int .i64 0) (adv s 7)))
  (f63j1 Q t4 (adv s 2))
noncomputable def f63l2 (Q : AV → St → Prop) (n : Nat) : AV → AV → AV → St → Prop := Nat.rec (motive := fun _ => AV → AV → AV → St → Prop) (fun _ _ _ _ => False) (fun _ ih => f63l2s Q ih) n
theorem f63j2_eq (Q : AV → St → Prop) : f63C (sub f63B [true, true, true, true, true, true, true]) (f63R Q) (fun _ _ _ => False) (f63R Q) = (fun g s => f63j2 Q (g 9) s) :=
  Eq.trans rfl (by kernel_rfl)
theorem f63j3_eq (Q : AV → St → Prop) (n1 : Nat) : f63C (sub f63B [true, true, true, true, true, true, false, true, false, false, true, true]) (fun g s => (fun (n : Nat) (g : Gf) (s : St) => f63l1 Q n (g 4) (g 9) (g 10) s) n1 (fun k => cond (bitOf (Tryz.env.kp 63) k) (g k) .undef) s) (fun i => cond (Nat.beq i 4) (fun g s => f63j2 Q (g 9) s) ((fun _ _ _ => False) i)) (f63R Q) = (fun g s => f63j3 Q (f63l1 Q n1) (g 10) (g 4) (g 9) s) :=
  Eq.trans rfl (by kernel_rfl)
theorem f63l1_eq (Q : AV → St → Prop) (kN : Kt) : f63C (sub f63B [true, true, true, true, true, true, false, true, false]) kN (fun i => cond (Nat.beq i 4) (fun g s => f63j2 Q (g 9) s) ((fun _ _ _ => False) i)) (f63R Q) = fun g s => ∃ n, (fun (n : Nat) (g : Gf) (s : St) => f63l1 Q n (g 4) (g 9) (g 10) s) n g s :=
  loop_eq (L := fun (n : Nat) (g : Gf) (s : St) => f63l1 Q n (g 4) (g 9) (g 10) s) (by kernel_rfl : (sub f63B [true, true, true, true, true, true, false, true, false]) = .loop (sub f63B [true, true, true, true, true, true, false, true, false, false])) (by kernel_rfl) (fun n1 => Eq.trans (seq_eq (by kernel_rfl : (sub f63B [true, true, true, true, true, true, false, true, false, false]) = .seq (sub f63B [true, true, true, true, true, true, false, true, false, false, false]) (sub f63B [true, true, true, true, true, true, false, true, false, false, true])) (seq_eq (by kernel_rfl : (sub f63B [true, true, true, true, true, true, false, true, false, false, true]) = .seq (sub f63B [true, true, true, true, true, true, false, true, false, false, true, false]) (sub f63B [true, true, true, true, true, true, false, true, false, false, true, true])) (f63j3_eq Q n1) (block_eq (by kernel_rfl : (sub f63B [true, true, true, true, true, true, false, true, false, false, true, false]) = .block 5 (sub f63B [true, true, true, true, true, true, false, true, false, false, true, false, false])) rfl)) rfl) (by kernel_rfl))
theorem f63j1_eq (Q : AV → St → Prop) : f63C (sub f63B [true, true, true, true]) (f63R Q) (fun _ _ _ => False) (f63R Q) = (fun g s => f63j1 Q (g 4) s) :=
  Eq.trans (seq_eq (by kernel_rfl : (sub f63B [true, true, true, true]) = .seq (sub f63B [true, true, true, true, false]) (sub f63B [true, true, true, true, true])) (seq_eq (by kernel_rfl : (sub f63B [true, true, true, true, true]) = .seq (sub f63B [true, true, true, true, true, false]) (sub f63B [true, true, true, true, true, true])) (seq_eq (by kernel_rfl : (sub f63B [true, true, true, true, true, true]) = .seq (sub f63B [true, true, true, true, true, true, false]) (sub f63B [true, true, true, true, true, true, true])) (f63j2_eq Q) (seq_eq (by kernel_rfl : (sub f63B [true, true, true, true, true, true, false]) = .seq (sub f63B [true, true, true, true, true, true, false, false]) (sub f63B [true, true, true, true, true, true, false, true])) (block_eq (by kernel_rfl : (sub f63B [true, true, true, true, true, true, false, true]) = .block 4 (sub f63B [true, true, true, true, true, true, false, true, false])) (f63l1_eq Q _)) rfl)) rfl) rfl) (by kernel_rfl)
theorem f63j4_eq (Q : AV → St → Prop) (n2 : Nat) : f63C (sub f63B [true, true, true, false, true, false, false, true, true]) (fun g s => (fun (n : Nat) (g : Gf) (s : St) => f63l2 Q n (g 3) (g 4) (g 5) s) n2 (fun k => cond (bitOf (Tryz.env.kp 63) k) (g k) .undef) s) (fun i => cond (Nat.beq i 0) (fun g s => f63j1 Q (g 4) s) ((fun _ _ _ => False) i)) (f63R Q) = (fun g s => f63j4 Q (f63l2 Q n2) (g 5) (g 3) (g 4) s) :=
  Eq.trans rfl (by kernel_rfl)
theorem f63j6_eq (Q : AV → St → Prop) (n2 : Nat) : f63C (sub f63B [true, true, true, false, true, false, false, true, false, false, true, true, true]) (fun g s => f63j4 Q (f63l2 Q n2) (g 5) (g 3) (g 4) s) (fun i => cond (Nat.beq i 1) (fun g s => f63j4 Q (f63l2 Q n2) (g 5) (g 3) (g 4) s) ((fun i => cond (Nat.beq i 0) (fun g s => f63j1 Q (g 4) s) ((fun _ _ _ => False) i)) i)) (f63R Q) = (fun g s => f63j6 Q (f63l2 Q n2) (g 6) (g 4) (g 5) (g 3) s) :=
  Eq.trans rfl (by kernel_rfl)
theorem f63j7_eq (Q : AV → St → Prop) (n2 : Nat) (n3 : Nat) : f63C (sub f63B [true, true, true, false, true, false, false, true, false, false, true, true, false, true, false, false, true, true]) (fun g s => (fun (n : Nat) (g : Gf) (s : St) => f63l3 Q (f63l2 Q n2) n (g 3) (g 4) (g 5) (g 6) (g 7) s) n3 (fun k => cond (bitOf (Tryz.env.kp 63) k) (g k) .undef) s) (fun i => cond (Nat.beq i 2) (fun g s => f63j6 Q (f63l2 Q n2) (g 6) (g 4) (g 5) (g 3) s) ((fun i => cond (Nat.beq i 1) (fun g s => f63j4 Q (f63l2 Q n2) (g 5) (g 3) (g 4) s) ((fun i => cond (Nat.beq i 0) (fun g s => f63j1 Q (g 4) s) ((fun _ _ _ => False) i)) i)) i)) (f63R Q) = (fun g s => f63j7 Q (f63l2 Q n2) (f63l3 Q (f63l2 Q n2) n3) (g 7) (g 3) (g 4) (g 5) (g 6) s) :=
  Eq.trans rfl (by kernel_rfl)
theorem f63l3_eq (Q : AV → St → Prop) (n2 : Nat) (kN : Kt) : f63C (sub f63B [true, true, true, false, true, false, false, true, false, false, true, true, false, true, false]) kN (fun i => cond (Nat.beq i 2) (fun g s => f63j6 Q (f63l2 Q n2) (g 6) (g 4) (g 5) (g 3) s) ((fun i => cond (Nat.beq i 1) (fun g s => f63j4 Q (f63l2 Q n2) (g 5) (g 3) (g 4) s) ((fun i => cond (Nat.beq i 0) (fun g s => f63j1 Q (g 4) s) ((fun _ _ _ => False) i)) i)) i)) (f63R Q) = fun g s => ∃ n, (fun (n : Nat) (g : Gf) (s : St) => f63l3 Q (f63l2 Q n2) n (g 3) (g 4) (g 5) (g 6) (g 7) s) n g s :=
  loop_eq (L := fun (n : Nat) (g : Gf) (s : St) => f63l3 Q (f63l2 Q n2) n (g 3) (g 4) (g 5) (g 6) (g 7) s) (by kernel_rfl : (sub f63B [true, true, true, false, true, false, false, true, false, false, true, true, false, true, false]) = .loop (sub f63B [true, true, true, false, true, false, false, true, false, false, true, true, false, true, false, false])) (by kernel_rfl) (fun n3 => Eq.trans (seq_eq (by kernel_rfl : (sub f63B [true, true, true, false, true, false, false, true, false, false, true, true, false, true, false, false]) = .seq (sub f63B [true, true, true, false, true, false, false, true, false, false, true, true, false, true, false, false, false]) (sub f63B [true, true, true, false, true, false, false, true, false, false, true, true, false, true, false, false, true])) (seq_eq (by kernel_rfl : (sub f63B [true, true, true, false, true, false, false, true, false, false, true, true, false, true, false, false, true]) = .seq (sub f63B [true, true, true, false, true, false, false, true, false, false, true, true, false, true, false, false, true, false]) (sub f63B [true, true, true, false, true, false, false, true, false, false, true, true, false, true, false, false, true, true])) (f63j7_eq Q n2 n3) (block_eq (by kernel_rfl : (sub f63B [true, true, true, false, true, false, false, true, false, false, true, true, false, true, false, false, true, false]) = .block 3 (sub f63B [true, true, true, false, true, false, false, true, false, false, true, true, false, true, false, false, true, false, false])) rfl)) rfl) (by kernel_rfl))
theorem f63j5_eq (Q : AV → St → Prop) (n2 : Nat) : f63C (sub f63B [true, true, true, false, true, false, false, true, false, false, true, true]) (fun g s => f63j4 Q (f63l2 Q n2) (g 5) (g 3) (g 4) s) (fun i => cond (Nat.beq i 1) (fun g s => f63j4 Q (f63l2 Q n2) (g 5) (g 3) (g 4) s) ((fun i => cond (Nat.beq i 0) (fun g s => f63j1 Q (g 4) s) ((fun _ _ _ => False) i)) i)) (f63R Q) = (fun g s => f63j5 Q (f63l2 Q n2) (g 3) (g 4) (g 5) (g 6) s) :=
  Eq.trans (seq_eq (by kernel_rfl : (sub f63B [true, true, true, false, true, false, false, true, false, false, true, true]) = .seq (sub f63B [true, true, true, false, true, false, false, true, false, false, true, true, false]) (sub f63B [true, true, true, false, true, false, false, true, false, false, true, true, true])) (f63j6_eq Q n2) (seq_eq (by kernel_rfl : (sub f63B [true, true, true, false, true, false, false, true, false, false, true, true, false]) = .seq (sub f63B [true, true, true, false, true, false, false, true, false, false, true, true, false, false]) (sub f63B [true, true, true, false, true, false, false, true, false, false, true, true, false, true])) (block_eq (by kernel_rfl : (sub f63B [true, true, true, false, true, false, false, true, false, false, true, true, false, true]) = .block 2 (sub f63B [true, true, true, false, true, false, false, true, false, false, true, true, false, true, false])) (f63l3_eq Q n2 _)) rfl)) (by kernel_rfl)
theorem f63l2_eq (Q : AV → St → Prop) (kN : Kt) : f63C (sub f63B [true, true, true, false, true, false]) kN (fun i => cond (Nat.beq i 0) (fun g s => f63j1 Q (g 4) s) ((fun _ _ _ => False) i)) (f63R Q) = fun g s => ∃ n, (fun (n : Nat) (g : Gf) (s : St) => f63l2 Q n (g 3) (g 4) (g 5) s) n g s :=
  loop_eq (L := fun (n : Nat) (g : Gf) (s : St) => f63l2 Q n (g 3) (g 4) (g 5) s) (by kernel_rfl : (sub f63B [true, true, true, false, true, false]) = .loop (sub f63B [true, true, true, false, true, false, false])) (by kernel_rfl) (fun n2 => Eq.trans (seq_eq (by kernel_rfl : (sub f63B [true, true, true, false, true, false, false]) = .seq (sub f63B [true, true, true, false, true, false, false, false]) (sub f63B [true, true, true, false, true, false, false, true])) (seq_eq (by kernel_rfl : (sub f63B [true, true, true, false, true, false, false, true]) = .seq (sub f63B [true, true, true, false, true, false, false, true, false]) (sub f63B [true, true, true, false, true, false, false, true, true])) (f63j4_eq Q n2) (block_eq (by kernel_rfl : (sub f63B [true, true, true, false, true, false, false, true, false]) = .block 1 (sub f63B [true, true, true, false, true, false, false, true, false, false])) (seq_eq (by kernel_rfl : (sub f63B [true, true, true, false, true, false, false, true, false, false]) = .seq (sub f63B [true, true, true, false, true, false, false, true, false, false, false]) (sub f63B [true, true, true, false, true, false, false, true, false, false, true])) (seq_eq (by kernel_rfl : (sub f63B [true, true, true, false, true, false, false, true, false, false, true]) = .seq (sub f63B [true, true, true, false, true, false, false, true, false, false, true, false]) (sub f63B [true, true, true, false, true, false, false, true, false, false, true, true])) (f63j5_eq Q n2) rfl) rfl))) rfl) (by kernel_rfl))
noncomputable def f63 (Q : AV → St → Prop) (t0 : AV) (s : St) : Prop :=
  CallPu Tryz.env 117 [t0] (adv s 4) fun t12 s1 =>
  Bnd (bt .len #[173] [t12] (s1.nx + 2) (adv s1 5)) fun r14 =>
  Bnd (bn .sub 3 r14.1 (.int .i64 1)) fun t15 =>
  ∃ n, f63l2 Q n t12 .nils t15 r14.2
theorem f63_run (t0 : AV) (s : St) {Q : AV → St → Prop} (h : f63 Q t0 s) : ∃ r s', WideC Tryz.env 63 [t0] s r s' ∧ Q r s' :=
  wide_of (h := 63) (fn := Tryz.f63) (c := sub f63B []) (by kernel_rfl) (by kernel_rfl) (by kernel_rfl) (by kernel_rfl) (of_decide_eq_true (by kernel_rfl))
    (Eq.mp (Eq.trans (by kernel_rfl) (congrFun (congrFun (show f63C (sub f63B []) (f63R Q) (fun _ _ _ => False) (f63R Q) = _ from (seq_eq (by kernel_rfl : (sub f63B []) = .seq (sub f63B [false]) (sub f63B [true])) (seq_eq (by kernel_rfl : (sub f63B [true]) = .seq (sub f63B [true, false]) (sub f63B [true, true])) (seq_eq (by kernel_rfl : (sub f63B [true, true]) = .seq (sub f63B [true, true, false]) (sub f63B [true, true, true])) (seq_eq (by kernel_rfl : (sub f63B [true, true, true]) = .seq (sub f63B [true, true, true, false]) (sub f63B [true, true, true, true])) (f63j1_eq Q) (seq_eq (by kernel_rfl : (sub f63B [true, true, true, false]) = .seq (sub f63B [true, true, true, false, false]) (sub f63B [true, true, true, false, true])) (block_eq (by kernel_rfl : (sub f63B [true, true, true, false, true]) = .block 0 (sub f63B [true, true, true, false, true, false])) (f63l2_eq Q _)) rfl)) rfl) rfl) rfl)).symm (gt (frame Tryz.f63 [t0]))) s)) h)
noncomputable abbrev f117B : Code := bodyOf Tryz.f117
noncomputable abbrev f117R (Q : AV → St → Prop) : Kt := fun g s => RetP (result Tryz.ty Tryz.f117 g s) fun v => Q v s
noncomputable abbrev f117C : Code → Kt → (Nat → Kt) → Kt → Kt := codeP Tryz.env 117 (Tryz.env.kp 117)
noncomputable def f117j1 (Q : AV → St → Prop) (t3 : AV) (s : St) : Prop :=
  CallPu Tryz.env 168 [t3] (adv s 3) fun t30 s1 =>
  Q t30 s1
noncomputable def f117j2 (Q : AV → St → Prop) (ih1 : AV → AV → AV → St → Prop) (t4 t0 t3 : AV) (s : St) : Prop :=
  Bnd (bn .add 3 t4 (.int .i64 1)) fun t12 =>
  ih1 t0 t3 t12 (adv s 3)
noncomputable def f117j3 (Q : AV → St → Prop) (ih1 : AV → AV → AV → St → Prop) (ih2 : AV → AV → AV → AV → AV → St → Prop) (t6 t0 t3 t4 t5 : AV) (s : St) : Prop :=
  Bnd (bn .add 3 t6 (.int .i64 1)) fun t20 =>
  ih2 t0 t3 t4 t5 t20 (adv s 3)
noncomputable def f117l2s (Q : AV → St → Prop) (ih1 : AV → AV → AV → St → Prop) (ih2 : AV → AV → AV → AV → AV → St → Prop) (t0 t3 t4 t5 t6 : AV) (s : St) : Prop :=
  Bnd (bn .lss 3 t6 (.int .i64 32)) fun t18 =>
  IfP t18
  (Bnd (bn .rem 211 t5 (.int .u32 2)) fun t23 =>
  Bnd (bn .eql 211 t23 (.int .u32 1)) fun t24 =>
  Bnd (bsl 173 1 [(0, t24)]) fun t25 =>
  Bnd (bt .append #[173, 173] [t3, t25] (s.nx + 7) (adv s 9)) fun r26 =>
  Bnd (bn .quo 211 t5 (.int .u32 2)) fun t28 =>
  f117j3 Q ih1 ih2 t6 t0 r26.1 t4 t28 (adv r26.2 3))
  (f117j2 Q ih1 t4 t0 t3 (adv s 2))
noncomputable def f117l2 (Q : AV → St → Prop) (ih1 : AV → AV → AV → St → Prop) (n : Nat) : AV → AV → AV → AV → AV → St → Prop := Nat.rec (motive := fun _ => AV → AV → AV → AV → AV → St → Prop) (fun _ _ _ _ _ _ => False) (fun _ ih => f117l2s Q ih1 ih) n
noncomputable def f117l1s (Q : AV → St → Prop) (ih1 : AV → AV → AV → St → Prop) (t0 t3 t4 : AV) (s : St) : Prop :=
  Bnd (bt .len #[22] [t0] (s.nx + 2) (adv s 4)) fun r9 =>
  Bnd (bn .lss 3 t4 r9.1) fun t10 =>
  IfP t10
  (Bnd (ixS 1 t0 t4) fun t15 =>
  Bnd (ld 1 false t15 (adv r9.2 5)) fun t16 =>
  ∃ n, f117l2 Q ih1 n t0 t3 t4 t16 (.int .i64 0) (adv r9.2 6))
  (f117j1 Q t3 r9.2)
noncomputable def f117l1 (Q : AV → St → Prop) (n : Nat) : AV → AV → AV → St → Prop := Nat.rec (motive := fun _ => AV → AV → AV → St → Prop) (fun _ _ _ _ => False) (fun _ ih => f117l1s Q ih) n
theorem f117j1_eq (Q : AV → St → Prop) : f117C (sub f117B [true, true, true]) (f117R Q) (fun _ _ _ => False) (f117R Q) = (fun g s => f117j1 Q (g 3) s) :=
  Eq.trans rfl (by kernel_rfl)
theorem f117j2_eq (Q : AV → St → Prop) (n1 : Nat) : f117C (sub f117B [true, true, false, true, false, false, true, true]) (fun g s => (fun (n : Nat) (g : Gf) (s : St) => f117l1 Q n (g 0) (g 3) (g 4) s) n1 (fun k => cond (bitOf (Tryz.env.kp 117) k) (g k) .undef) s) (fun i => cond (Nat.beq i 0) (fun g s => f117j1 Q (g 3) s) ((fun _ _ _ => False) i)) (f117R Q) = (fun g s => f117j2 Q (f117l1 Q n1) (g 4) (g 0) (g 3) s) :=
  Eq.trans rfl (by kernel_rfl)
theorem f117j3_eq (Q : AV → St → Prop) (n1 : Nat) (n2 : Nat) : f117C (sub f117B [true, true, false, true, false, false, true, false, false, true, true, false, false, true, true]) (fun g s => (fun (n : Nat) (g : Gf) (s : St) => f117l2 Q (f117l1 Q n1) n (g 0) (g 3) (g 4) (g 5) (g 6) s) n2 (fun k => cond (bitOf (Tryz.env.kp 117) k) (g k) .undef) s) (fun i => cond (Nat.beq i 2) (fun g s => f117j2 Q (f117l1 Q n1) (g 4) (g 0) (g 3) s) ((fun i => cond (Nat.beq i 1) (fun g s => f117j2 Q (f117l1 Q n1) (g 4) (g 0) (g 3) s) ((fun i => cond (Nat.beq i 0) (fun g s => f117j1 Q (g 3) s) ((fun _ _ _ => False) i)) i)) i)) (f117R Q) = (fun g s => f117j3 Q (f117l1 Q n1) (f117l2 Q (f117l1 Q n1) n2) (g 6) (g 0) (g 3) (g 4) (g 5) s) :=
  Eq.trans rfl (by kernel_rfl)
theorem f117l2_eq (Q : AV → St → Prop) (n1 : Nat) (kN : Kt) : f117C (sub f117B [true, true, false, true, false, false, true, false, false, true, true, false]) kN (fun i => cond (Nat.beq i 2) (fun g s => f117j2 Q (f117l1 Q n1) (g 4) (g 0) (g 3) s) ((fun i => cond (Nat.beq i 1) (fun g s => f117j2 Q (f117l1 Q n1) (g 4) (g 0) (g 3) s) ((fun i => cond (Nat.beq i 0) (fun g s => f117j1 Q (g 3) s) ((fun _ _ _ => False) i)) i)) i)) (f117R Q) = fun g s => ∃ n, (fun (n : Nat) (g : Gf) (s : St) => f117l2 Q (f117l1 Q n1) n (g 0) (g 3) (g 4) (g 5) (g 6) s) n g s :=
  loop_eq (L := fun (n : Nat) (g : Gf) (s : St) => f117l2 Q (f117l1 Q n1) n (g 0) (g 3) (g 4) (g 5) (g 6) s) (by kernel_rfl : (sub f117B [true, true, false, true, false, false, true, false, false, true, true, false]) = .loop (sub f117B [true, true, false, true, false, false, true, false, false, true, true, false, false])) (by kernel_rfl) (fun n2 => Eq.trans (seq_eq (by kernel_rfl : (sub f117B [true, true, false, true, false, false, true, false, false, true, true, false, false]) = .seq (sub f117B [true, true, false, true, false, false, true, false, false, true, true, false, false, false]) (sub f117B [true, true, false, true, false, false, true, false, false, true, true, false, false, true])) (seq_eq (by kernel_rfl : (sub f117B [true, true, false, true, false, false, true, false, false, true, true, false, false, true]) = .seq (sub f117B [true, true, false, true, false, false, true, false, false, true, true, false, false, true, false]) (sub f117B [true, true, false, true, false, false, true, false, false, true, true, false, false, true, true])) (f117j3_eq Q n1 n2) (block_eq (by kernel_rfl : (sub f117B [true, true, false, true, false, false, true, false, false, true, true, false, false, true, false]) = .block 3 (sub f117B [true, true, false, true, false, false, true, false, false, true, true, false, false, true, false, false])) rfl)) rfl) (by kernel_rfl))
theorem f117l1_eq (Q : AV → St → Prop) (kN : Kt) : f117C (sub f117B [true, true, false, true, false]) kN (fun i => cond (Nat.beq i 0) (fun g s => f117j1 Q (g 3) s) ((fun _ _ _ => False) i)) (f117R Q) = fun g s => ∃ n, (fun (n : Nat) (g : Gf) (s : St) => f117l1 Q n (g 0) (g 3) (g 4) s) n g s :=
  loop_eq (L := fun (n : Nat) (g : Gf) (s : St) => f117l1 Q n (g 0) (g 3) (g 4) s) (by kernel_rfl : (sub f117B [true, true, false, true, false]) = .loop (sub f117B [true, true, false, true, false, false])) (by kernel_rfl) (fun n1 => Eq.trans (seq_eq (by kernel_rfl : (sub f117B [true, true, false, true, false, false]) = .seq (sub f117B [true, true, false, true, false, false, false]) (sub f117B [true, true, false, true, false, false, true])) (seq_eq (by kernel_rfl : (sub f117B [true, true, false, true, false, false, true]) = .seq (sub f117B [true, true, false, true, false, false, true, false]) (sub f117B [true, true, false, true, false, false, true, true])) (f117j2_eq Q n1) (block_eq (by kernel_rfl : (sub f117B [true, true, false, true, false, false, true, false]) = .block 1 (sub f117B [true, true, false, true, false, false, true, false, false])) (seq_eq (by kernel_rfl : (sub f117B [true, true, false, true, false, false, true, false, false]) = .seq (sub f117B [true, true, false, true, false, false, true, false, false, false]) (sub f117B [true, true, false, true, false, false, true, false, false, true])) (seq_eq (by kernel_rfl : (sub f117B [true, true, false, true, false, false, true, false, false, true]) = .seq (sub f117B [true, true, false, true, false, false, true, false, false, true, false]) (sub f117B [true, true, false, true, false, false, true, false, false, true, true])) (block_eq (by kernel_rfl : (sub f117B [true, true, false, true, false, false, true, false, false, true, true]) = .block 2 (sub f117B [true, true, false, true, false, false, true, false, false, true, true, false])) (f117l2_eq Q n1 _)) rfl) rfl))) rfl) (by kernel_rfl))
noncomputable def f117 (Q : AV → St → Prop) (t0 : AV) (s : St) : Prop :=
  ∃ n, f117l1 Q n t0 .nils (.int .i64 0) (adv s 3)
theorem f117_run (t0 : AV) (s : St) {Q : AV → St → Prop} (h : f117 Q t0 s) : ∃ r s', WideC Tryz.env 117 [t0] s r s' ∧ Q r s' :=
  wide_of (h := 117) (fn := Tryz.f117) (c := sub f117B []) (by kernel_rfl) (by kernel_rfl) (by kernel_rfl) (by kernel_rfl) (of_decide_eq_true (by kernel_rfl))
    (Eq.mp (Eq.trans (by kernel_rfl) (congrFun (congrFun (show f117C (sub f117B []) (f117R Q) (fun _ _ _ => False) (f117R Q) = _ from (seq_eq (by kernel_rfl : (sub f117B []) = .seq (sub f117B [false]) (sub f117B [true])) (seq_eq (by kernel_rfl : (sub f117B [true]) = .seq (sub f117B [true, false]) (sub f117B [true, true])) (seq_eq (by kernel_rfl : (sub f117B [true, true]) = .seq (sub f117B [true, true, false]) (sub f117B [true, true, true])) (f117j1_eq Q) (seq_eq (by kernel_rfl : (sub f117B [true, true, false]) = .seq (sub f117B [true, true, false, false]) (sub f117B [true, true, false, true])) (block_eq (by kernel_rfl : (sub f117B [true, true, false, true]) = .block 0 (sub f117B [true, true, false, true, false])) (f117l1_eq Q _)) rfl)) rfl) rfl)).symm (gt (frame Tryz.f117 [t0]))) s)) h)
noncomputable abbrev f168B : Code := bodyOf Tryz.f168
noncomputable abbrev f168R (Q : AV → St → Prop) : Kt := fun g s => RetP (result Tryz.ty Tryz.f168 g s) fun v => Q v s
noncomputable abbrev f168C : Code → Kt → (Nat → Kt) → Kt → Kt := codeP Tryz.env 168 (Tryz.env.kp 168)
noncomputable def f168j1 (Q : AV → St → Prop) (t0 t3 : AV) (s : St) : Prop :=
  Bnd (slc 173 t0 none (some t3) none (adv s 5)) fun t20 =>
  Bnd (bt .append #[173, 173] [.nils, t20] (s.nx + 3) (adv s 5)) fun r21 =>
  Q r21.1 r21.2
noncomputable def f168l1s (Q : AV → St → Prop) (ih1 : AV → AV → St → Prop) (t0 t3 : AV) (s : St) : Prop :=
  Bnd (bn .gtr 3 t3 (.int .i64 0)) fun t7 =>
  Gd (wantV t7 true) (adv s 10) (fun k => k t0 (adv s 10)) fun t9 s1 =>
  Gd (wantV t7 true) s1 (fun k => k t3 s1) fun t10 s2 =>
  Gd (wantV t7 true) s2 (fun k => Bnd (bn .sub 3 t10 (.int .i64 1)) fun v => k v s2) fun t11 s3 =>
  Gd (wantV t7 true) s3 (fun k => Bnd (ixS 1 t9 t11) fun v => k v s3) fun t12 s4 =>
  Gd (wantV t7 true) s4 (fun k => Bnd (ld 1 false t12 s4) fun v => k v s4) fun t13 s5 =>
  Gd (wantV t7 true) s5 (fun k => Bnd (un .not t13) fun v => k v s5) fun t14 s6 =>
  Bnd (pickV t7 t14 (.bool false)) fun t15 =>
  IfP t15
  (Bnd (bn .sub 3 t3 (.int .i64 1)) fun t17 =>
  ih1 t0 t17 (adv s6 3))
  (f168j1 Q t0 t3 s6)
noncomputable def f168l1 (Q : AV → St → Prop) (n : Nat) : AV → AV → St → Prop := Nat.rec (motive := fun _ => AV → AV → St → Prop) (fun _ _ _ => False) (fun _ ih => f168l1s Q ih) n
theorem f168j1_eq (Q : AV → St → Prop) : f168C (sub f168B [true, true, true]) (f168R Q) (fun _ _ _ => False) (f168R Q) = (fun g s => f168j1 Q (g 0) (g 3) s) :=
  Eq.trans rfl (by kernel_rfl)
theorem f168l1_eq (Q : AV → St → Prop) (kN : Kt) : f168C (sub f168B [true, true, false, false]) kN (fun i => cond (Nat.beq i 0) (fun g s => f168j1 Q (g 0) (g 3) s) ((fun _ _ _ => False) i)) (f168R Q) = fun g s => ∃ n, (fun (n : Nat) (g : Gf) (s : St) => f168l1 Q n (g 0) (g 3) s) n g s :=
  loop_eq (L := fun (n : Nat) (g : Gf) (s : St) => f168l1 Q n (g 0) (g 3) s) (by kernel_rfl : (sub f168B [true, true, false, false]) = .loop (sub f168B [true, true, false, false, false])) (by kernel_rfl) (fun n1 => Eq.trans (seq_eq (by kernel_rfl : (sub f168B [true, true, false, false, false]) = .seq (sub f168B [true, true, false, false, false, false]) (sub f168B [true, true, false, false, false, true])) (block_eq (by kernel_rfl : (sub f168B [true, true, false, false, false, true]) = .block 1 (sub f168B [true, true, false, false, false, true, false])) rfl) rfl) (by kernel_rfl))
noncomputable def f168 (Q : AV → St → Prop) (t0 : AV) (s : St) : Prop :=
  Bnd (bt .len #[173] [t0] (s.nx + 2) (adv s 4)) fun r5 =>
  ∃ n, f168l1 Q n t0 r5.1 r5.2
theorem f168_run (t0 : AV) (s : St) {Q : AV → St → Prop} (h : f168 Q t0 s) : ∃ r s', WideC Tryz.env 168 [t0] s r s' ∧ Q r s' :=
  wide_of (h := 168) (fn := Tryz.f168) (c := sub f168B []) (by kernel_rfl) (by kernel_rfl) (by kernel_rfl) (by kernel_rfl) (of_decide_eq_true (by kernel_rfl))
    (Eq.mp (Eq.trans (by kernel_rfl) (congrFun (congrFun (show f168C (sub f168B []) (f168R Q) (fun _ _ _ => False) (f168R Q) = _ from (seq_eq (by kernel_rfl : (sub f168B []) = .seq (sub f168B [false]) (sub f168B [true])) (seq_eq (by kernel_rfl : (sub f168B [true]) = .seq (sub f168B [true, false]) (sub f168B [true, true])) (seq_eq (by kernel_rfl : (sub f168B [true, true]) = .seq (sub f168B [true, true, false]) (sub f168B [true, true, true])) (f168j1_eq Q) (block_eq (by kernel_rfl : (sub f168B [true, true, false]) = .block 0 (sub f168B [true, true, false, false])) (f168l1_eq Q _))) rfl) rfl)).symm (gt (frame Tryz.f168 [t0]))) s)) h)
noncomputable abbrev f64B : Code := bodyOf Tryz.f64
noncomputable abbrev f64R (Q : AV → St → Prop) : Kt := fun g s => RetP (result Tryz.ty Tryz.f64 g s) fun v => Q v s
noncomputable abbrev f64C : Code → Kt → (Nat → Kt) → Kt → Kt := codeP Tryz.env 64 (Tryz.env.kp 64)
noncomputable def f64 (Q : AV → St → Prop) (t0 : AV) (s : St) : Prop :=
  (t0.cells.all AV.one = true ∧
  Bnd (ld 2 true (.ptr s.nx 0) (adv ((adv s 2).set s.nx (some (.cells t0.cells 24 true true))) 4)) fun t4 =>
  CallPu Tryz.env 118 [t4] (adv ((adv s 2).set s.nx (some (.cells t0.cells 24 true true))) 4) fun t5 s1 =>
  Bnd (zr 24) fun z3 =>
  Bnd (sto 2 (.ptr (((adv s 2).set s.nx (some (.cells t0.cells 24 true true))).nx + 2) 0) t5 (s1.set (((adv s 2).set s.nx (some (.cells t0.cells 24 true true))).nx + 2) (some (.cells z3.cells 24 true true)))) fun s2 =>
  Bnd (shiftP 1 (.ptr (((adv s 2).set s.nx (some (.cells t0.cells 24 true true))).nx + 2) 0)) fun t6 =>
  Bnd (ld 1 false t6 (adv s2 4)) fun t7 =>
  Bnd (bt .len #[22] [t7] (s2.nx + 2) (adv s2 4)) fun r8 =>
  Bnd (bn .eql 3 r8.1 (.int .i64 0)) fun t9 =>
  IfP t9
  (Q (.int .i64 0) (adv r8.2 1))
  (Bnd (shiftP 0 (.ptr (((adv s 2).set s.nx (some (.cells t0.cells 24 true true))).nx + 2) 0)) fun t10 =>
  Bnd (ld 1 false t10 (adv r8.2 2)) fun t11 =>
  IfP t11
  (Q (.int .i64 (-1)) (adv r8.2 3))
  (Q (.int .i64 1) (adv r8.2 3))))
theorem f64_run (t0 : AV) (s : St) {Q : AV → St → Prop} (h : f64 Q t0 s) : ∃ r s', WideC Tryz.env 64 [t0] s r s' ∧ Q r s' :=
  wide_of (h := 64) (fn := Tryz.f64) (c := sub f64B []) (by kernel_rfl) (by kernel_rfl) (by kernel_rfl) (by kernel_rfl) (of_decide_eq_true (by kernel_rfl))
    (Eq.mp (Eq.trans (by kernel_rfl) (congrFun (congrFun (show f64C (sub f64B []) (f64R Q) (fun _ _ _ => False) (f64R Q) = _ from rfl).symm (gt (frame Tryz.f64 [t0]))) s)) h)
noncomputable abbrev f118B : Code := bodyOf Tryz.f118
noncomputable abbrev f118R (Q : AV → St → Prop) : Kt := fun g s => RetP (result Tryz.ty Tryz.f118 g s) fun v => Q v s
noncomputable abbrev f118C : Code → Kt → (Nat → Kt) → Kt → Kt := codeP Tryz.env 118 (Tryz.env.kp 118)
noncomputable def f118 (Q : AV → St → Prop) (t0 : AV) (s : St) : Prop :=
  (t0.cells.all AV.one = true ∧
  Bnd (zr 24) fun z2 =>
  Bnd (shiftP 1 (.ptr s.nx 0)) fun t4 =>
  Bnd (ld 1 false t4 (adv (((adv s 2).set s.nx (some (.cells t0.cells 24 true true))).set (s.nx + 1) (some (.cells z2.cells 24 true true))) 4)) fun t5 =>
  CallPu Tryz.env 137 [t5] (adv (((adv s 2).set s.nx (some (.cells t0.cells 24 true true))).set (s.nx + 1) (some (.cells z2.cells 24 true true))) 4) fun t6 s1 =>
  Bnd (shiftP 0 (.ptr s.nx 0)) fun t7 =>
  Bnd (ld 1 false t7 (adv s1 10)) fun t8 =>
  Gd (wantV t8 true) (adv s1 10) (fun k => k t6 (adv s1 10)) fun t10 s2 =>
  Gd (wantV t8 true) s2 (fun k => Bnd (bt .len #[22] [t10] (s1.nx + 4) s2) fun r => k r.1 r.2) fun t11 s3 =>
  Gd (wantV t8 true) s3 (fun k => Bnd (bn .gtr 3 t11 (.int .i64 0)) fun v => k v s3) fun t12 s4 =>
  Bnd (pickV t8 t12 (.bool false)) fun t13 =>
  Bnd (bld 24 [(0, t13), (1, t6)]) fun t15 =>
  Bnd (sto 2 (.ptr (s.nx + 1) 0) t15 s4) fun s5 =>
  RetP ((resC [ld 2 true (.ptr (s.nx + 1) 0) s5]).map tupV) fun v => Q v s5)
theorem f118_run (t0 : AV) (s : St) {Q : AV → St → Prop} (h : f118 Q t0 s) : ∃ r s', WideC Tryz.env 118 [t0] s r s' ∧ Q r s' :=
  wide_of (h := 118) (fn := Tryz.f118) (c := sub f118B []) (by kernel_rfl) (by kernel_rfl) (by kernel_rfl) (by kernel_rfl) (of_decide_eq_true (by kernel_rfl))
    (Eq.mp (Eq.trans (by kernel_rfl) (congrFun (congrFun (show f118C (sub f118B []) (f118R Q) (fun _ _ _ => False) (f118R Q) = _ from rfl).symm (gt (frame Tryz.f118 [t0]))) s)) h)
noncomputable abbrev f137B : Code := bodyOf Tryz.f137
noncomputable abbrev f137R (Q : AV → St → Prop) : Kt := fun g s => RetP (result Tryz.ty Tryz.f137 g s) fun v => Q v s
noncomputable abbrev f137C : Code → Kt → (Nat → Kt) → Kt → Kt := codeP Tryz.env 137 (Tryz.env.kp 137)
noncomputable def f137 (Q : AV → St → Prop) (t0 : AV) (s : St) : Prop :=
  CallPu Tryz.env 117 [t0] (adv s 5) fun t4 s1 =>
  CallPu Tryz.env 189 [t4] s1 fun t5 s2 =>
  Q t5 s2
theorem f137_run (t0 : AV) (s : St) {Q : AV → St → Prop} (h : f137 Q t0 s) : ∃ r s', WideC Tryz.env 137 [t0] s r s' ∧ Q r s' :=
  wide_of (h := 137) (fn := Tryz.f137) (c := sub f137B []) (by kernel_rfl) (by kernel_rfl) (by kernel_rfl) (by kernel_rfl) (of_decide_eq_true (by kernel_rfl))
    (Eq.mp (Eq.trans (by kernel_rfl) (congrFun (congrFun (show f137C (sub f137B []) (f137R Q) (fun _ _ _ => False) (f137R Q) = _ from rfl).symm (gt (frame Tryz.f137 [t0]))) s)) h)
noncomputable abbrev f189B : Code := bodyOf Tryz.f189
noncomputable abbrev f189R (Q : AV → St → Prop) : Kt := fun g s => RetP (result Tryz.ty Tryz.f189 g s) fun v => Q v s
noncomputable abbrev f189C : Code → Kt → (Nat → Kt) → Kt → Kt := codeP Tryz.env 189 (Tryz.env.kp 189)
noncomputable def f189j1 (Q : AV → St → Prop) (t3 : AV) (s : St) : Prop :=
  Q t3 (adv s 2)
noncomputable def f189j2 (Q : AV → St → Prop) (ih1 : AV → AV → AV → St → Prop) (t4 t0 t3 : AV) (s : St) : Prop :=
  Bnd (bn .add 3 t4 (.int .i64 32)) fun t14 =>
  ih1 t0 t3 t14 (adv s 3)
noncomputable def f189j3 (Q : AV → St → Prop) (ih1 : AV → AV → AV → St → Prop) (t3 t5 t4 t0 : AV) (s : St) : Prop :=
  Bnd (bsl 22 1 [(0, t5)]) fun t38 =>
  Bnd (bt .append #[22, 22] [t3, t38] (s.nx + 3) (adv s 5)) fun r39 =>
  f189j2 Q ih1 t4 t0 r39.1 r39.2
noncomputable def f189j4 (Q : AV → St → Prop) (ih1 : AV → AV → AV → St → Prop) (ih2 : AV → AV → AV → AV → AV → St → Prop) (t6 t0 t3 t4 t5 : AV) (s : St) : Prop :=
  Bnd (bn .sub 3 t6 (.int .i64 1)) fun t21 =>
  ih2 t0 t3 t4 t5 t21 (adv s 3)
noncomputable def f189l2s (Q : AV → St → Prop) (ih1 : AV → AV → AV → St → Prop) (ih2 : AV → AV → AV → AV → AV → St → Prop) (t0 t3 t4 t5 t6 : AV) (s : St) : Prop :=
  Bnd (bn .geq 3 t6 t4) fun t19 =>
  IfP t19
  (Bnd (bn .mul 211 t5 (.int .u32 2)) fun t23 =>
  Bnd (bt .len #[173] [t0] (s.nx + 8) (adv s 16)) fun r26 =>
  Bnd (bn .lss 3 t6 r26.1) fun t27 =>
  Gd (wantV t27 true) r26.2 (fun k => k t0 r26.2) fun t29 s1 =>
  Gd (wantV t27 true) s1 (fun k => k t6 s1) fun t30 s2 =>
  Gd (wantV t27 true) s2 (fun k => Bnd (ixS 1 t29 t30) fun v => k v s2) fun t31 s3 =>
  Gd (wantV t27 true) s3 (fun k => Bnd (ld 1 false t31 s3) fun v => k v s3) fun t32 s4 =>
  Bnd (pickV t27 t32 (.bool false)) fun t33 =>
  IfP t33
  (Bnd (bn .add 211 t23 (.int .u32 1)) fun t35 =>
  f189j4 Q ih1 ih2 t6 t0 t3 t4 t35 (adv s4 3))
  (f189j4 Q ih1 ih2 t6 t0 t3 t4 t23 s4))
  (f189j3 Q ih1 t3 t5 t4 t0 (adv s 3))
noncomputable def f189l2 (Q : AV → St → Prop) (ih1 : AV → AV → AV → St → Prop) (n : Nat) : AV → AV → AV → AV → AV → St → Prop := Nat.rec (motive := fun _ => AV → AV → AV → AV → AV → St → Prop) (fun _ _ _ _ _ _ => False) (fun _ ih => f189l2s Q ih1 ih) n
noncomputable def f189l1s (Q : AV → St → Prop) (ih1 : AV → AV → AV → St → Prop) (t0 t3 t4 : AV) (s : St) : Prop :=
  Bnd (bt .len #[173] [t0] (s.nx + 2) (adv s 4)) fun r11 =>
  Bnd (bn .lss 3 t4 r11.1) fun t12 =>
  IfP t12
  (Bnd (bn .add 3 t4 (.int .i64 31)) fun t16 =>
  ∃ n, f189l2 Q ih1 n t0 t3 t4 (.int .u32 0) t16 (adv r11.2 4))
  (f189j1 Q t3 r11.2)
noncomputable def f189l1 (Q : AV → St → Prop) (n : Nat) : AV → AV → AV → St → Prop := Nat.rec (motive := fun _ => AV → AV → AV → St → Prop) (fun _ _ _ _ => False) (fun _ ih => f189l1s Q ih) n
theorem f189j1_eq (Q : AV → St → Prop) : f189C (sub f189B [true, true, true, true]) (f189R Q) (fun _ _ _ => False) (f189R Q) = (fun g s => f189j1 Q (g 3) s) :=
  Eq.trans rfl (by kernel_rfl)
theorem f189j2_eq (Q : AV → St → Prop) (n1 : Nat) : f189C (sub f189B [true, true, true, false, true, false, false, true, true]) (fun g s => (fun (n : Nat) (g : Gf) (s : St) => f189l1 Q n (g 0) (g 3) (g 4) s) n1 (fun k => cond (bitOf (Tryz.env.kp 189) k) (g k) .undef) s) (fun i => cond (Nat.beq i 0) (fun g s => f189j1 Q (g 3) s) ((fun _ _ _ => False) i)) (f189R Q) = (fun g s => f189j2 Q (f189l1 Q n1) (g 4) (g 0) (g 3) s) :=
  Eq.trans rfl (by kernel_rfl)
theorem f189j3_eq (Q : AV → St → Prop) (n1 : Nat) : f189C (sub f189B [true, true, true, false, true, false, false, true, false, false, true, true]) (fun g s => f189j2 Q (f189l1 Q n1) (g 4) (g 0) (g 3) s) (fun i => cond (Nat.beq i 1) (fun g s => f189j2 Q (f189l1 Q n1) (g 4) (g 0) (g 3) s) ((fun i => cond (Nat.beq i 0) (fun g s => f189j1 Q (g 3) s) ((fun _ _ _ => False) i)) i)) (f189R Q) = (fun g s => f189j3 Q (f189l1 Q n1) (g 3) (g 5) (g 4) (g 0) s) :=
  Eq.trans rfl (by kernel_rfl)
theorem f189j4_eq (Q : AV → St → Prop) (n1 : Nat) (n2 : Nat) : f189C (sub f189B [true, true, true, false, true, false, false, true, false, false, true, false, true, false, false, true, true]) (fun g s => (fun (n : Nat) (g : Gf) (s : St) => f189l2 Q (f189l1 Q n1) n (g 0) (g 3) (g 4) (g 5) (g 6) s) n2 (fun k => cond (bitOf (Tryz.env.kp 189) k) (g k) .undef) s) (fun i => cond (Nat.beq i 2) (fun g s => f189j3 Q (f189l1 Q n1) (g 3) (g 5) (g 4) (g 0) s) ((fun i => cond (Nat.beq i 1) (fun g s => f189j2 Q (f189l1 Q n1) (g 4) (g 0) (g 3) s) ((fun i => cond (Nat.beq i 0) (fun g s => f189j1 Q (g 3) s) ((fun _ _ _ => False) i)) i)) i)) (f189R Q) = (fun g s => f189j4 Q (f189l1 Q n1) (f189l2 Q (f189l1 Q n1) n2) (g 6) (g 0) (g 3) (g 4) (g 5) s) :=
  Eq.trans rfl (by kernel_rfl)
theorem f189l2_eq (Q : AV → St → Prop) (n1 : Nat) (kN : Kt) : f189C (sub f189B [true, true, true, false, true, false, false, true, false, false, true, false, true, false]) kN (fun i => cond (Nat.beq i 2) (fun g s => f189j3 Q (f189l1 Q n1) (g 3) (g 5) (g 4) (g 0) s) ((fun i => cond (Nat.beq i 1) (fun g s => f189j2 Q (f189l1 Q n1) (g 4) (g 0) (g 3) s) ((fun i => cond (Nat.beq i 0) (fun g s => f189j1 Q (g 3) s) ((fun _ _ _ => False) i)) i)) i)) (f189R Q) = fun g s => ∃ n, (fun (n : Nat) (g : Gf) (s : St) => f189l2 Q (f189l1 Q n1) n (g 0) (g 3) (g 4) (g 5) (g 6) s) n g s :=
  loop_eq (L := fun (n : Nat) (g : Gf) (s : St) => f189l2 Q (f189l1 Q n1) n (g 0) (g 3) (g 4) (g 5) (g 6) s) (by kernel_rfl : (sub f189B [true, true, true, false, true, false, false, true, false, false, true, false, true, false]) = .loop (sub f189B [true, true, true, false, true, false, false, true, false, false, true, false, true, false, false])) (by kernel_rfl) (fun n2 => Eq.trans (seq_eq (by kernel_rfl : (sub f189B [true, true, true, false, true, false, false, true, false, false, true, false, true, false, false]) = .seq (sub f189B [true, true, true, false, true, false, false, true, false, false, true, false, true, false, false, false]) (sub f189B [true, true, true, false, true, false, false, true, false, false, true, false, true, false, false, true])) (seq_eq (by kernel_rfl : (sub f189B [true, true, true, false, true, false, false, true, false, false, true, false, true, false, false, true]) = .seq (sub f189B [true, true, true, false, true, false, false, true, false, false, true, false, true, false, false, true, false]) (sub f189B [true, true, true, false, true, false, false, true, false, false, true, false, true, false, false, true, true])) (f189j4_eq Q n1 n2) (block_eq (by kernel_rfl : (sub f189B [true, true, true, false, true, false, false, true, false, false, true, false, true, false, false, true, false]) = .block 3 (sub f189B [true, true, true, false, true, false, false, true, false, false, true, false, true, false, false, true, false, false])) rfl)) rfl) (by kernel_rfl))
theorem f189l1_eq (Q : AV → St → Prop) (kN : Kt) : f189C (sub f189B [true, true, true, false, true, false]) kN (fun i => cond (Nat.beq i 0) (fun g s => f189j1 Q (g 3) s) ((fun _ _ _ => False) i)) (f189R Q) = fun g s => ∃ n, (fun (n : Nat) (g : Gf) (s : St) => f189l1 Q n (g 0) (g 3) (g 4) s) n g s :=
  loop_eq (L := fun (n : Nat) (g : Gf) (s : St) => f189l1 Q n (g 0) (g 3) (g 4) s) (by kernel_rfl : (sub f189B [true, true, true, false, true, false]) = .loop (sub f189B [true, true, true, false, true, false, false])) (by kernel_rfl) (fun n1 => Eq.trans (seq_eq (by kernel_rfl : (sub f189B [true, true, true, false, true, false, false]) = .seq (sub f189B [true, true, true, false, true, false, false, false]) (sub f189B [true, true, true, false, true, false, false, true])) (seq_eq (by kernel_rfl : (sub f189B [true, true, true, false, true, false, false, true]) = .seq (sub f189B [true, true, true, false, true, false, false, true, false]) (sub f189B [true, true, true, false, true, false, false, true, true])) (f189j2_eq Q n1) (block_eq (by kernel_rfl : (sub f189B [true, true, true, false, true, false, false, true, false]) = .block 1 (sub f189B [true, true, true, false, true, false, false, true, false, false])) (seq_eq (by kernel_rfl : (sub f189B [true, true, true, false, true, false, false, true, false, false]) = .seq (sub f189B [true, true, true, false, true, false, false, true, false, false, false]) (sub f189B [true, true, true, false, true, false, false, true, false, false, true])) (seq_eq (by kernel_rfl : (sub f189B [true, true, true, false, true, false, false, true, false, false, true]) = .seq (sub f189B [true, true, true, false, true, false, false, true, false, false, true, false]) (sub f189B [true, true, true, false, true, false, false, true, false, false, true, true])) (f189j3_eq Q n1) (seq_eq (by kernel_rfl : (sub f189B [true, true, true, false, true, false, false, true, false, false, true, false]) = .seq (sub f189B [true, true, true, false, true, false, false, true, false, false, true, false, false]) (sub f189B [true, true, true, false, true, false, false, true, false, false, true, false, true])) (block_eq (by kernel_rfl : (sub f189B [true, true, true, false, true, false, false, true, false, false, true, false, true]) = .block 2 (sub f189B [true, true, true, false, true, false, false, true, false, false, true, false, true, false])) (f189l2_eq Q n1 _)) rfl)) rfl))) rfl) (by kernel_rfl))
noncomputable def f189 (Q : AV → St → Prop) (t0 : AV) (s : St) : Prop :=
  CallPu Tryz.env 168 [t0] (adv s 4) fun t8 s1 =>
  ∃ n, f189l1 Q n t8 .nils (.int .i64 0) (adv s1 2)
theorem f189_run (t0 : AV) (s : St) {Q : AV → St → Prop} (h : f189 Q t0 s) : ∃ r s', WideC Tryz.env 189 [t0] s r s' ∧ Q r s' :=
  wide_of (h := 189) (fn := Tryz.f189) (c := sub f189B []) (by kernel_rfl) (by kernel_rfl) (by kernel_rfl) (by kernel_rfl) (of_decide_eq_true (by kernel_rfl))
    (Eq.mp (Eq.trans (by kernel_rfl) (congrFun (congrFun (show f189C (sub f189B []) (f189R Q) (fun _ _ _ => False) (f189R Q) = _ from (seq_eq (by kernel_rfl : (sub f189B []) = .seq (sub f189B [false]) (sub f189B [true])) (seq_eq (by kernel_rfl : (sub f189B [true]) = .seq (sub f189B [true, false]) (sub f189B [true, true])) (seq_eq (by kernel_rfl : (sub f189B [true, true]) = .seq (sub f189B [true, true, false]) (sub f189B [true, true, true])) (seq_eq (by kernel_rfl : (sub f189B [true, true, true]) = .seq (sub f189B [true, true, true, false]) (sub f189B [true, true, true, true])) (f189j1_eq Q) (seq_eq (by kernel_rfl : (sub f189B [true, true, true, false]) = .seq (sub f189B [true, true, true, false, false]) (sub f189B [true, true, true, false, true])) (block_eq (by kernel_rfl : (sub f189B [true, true, true, false, true]) = .block 0 (sub f189B [true, true, true, false, true, false])) (f189l1_eq Q _)) rfl)) rfl) rfl) rfl)).symm (gt (frame Tryz.f189 [t0]))) s)) h)
noncomputable abbrev f66B : Code := bodyOf Tryz.f66
noncomputable abbrev f66R (Q : AV → St → Prop) : Kt := fun g s => RetP (result Tryz.ty Tryz.f66 g s) fun v => Q v s
noncomputable abbrev f66C : Code → Kt → (Nat → Kt) → Kt → Kt := codeP Tryz.env 66 (Tryz.env.kp 66)
noncomputable def f66j1 (Q : AV → St → Prop) (s : St) : Prop :=
  Q (.bool true) (adv s 1)
noncomputable def f66j2 (Q : AV → St → Prop) (ih1 : AV → AV → AV → St → Prop) (t4 t0 t3 : AV) (s : St) : Prop :=
  Bnd (bn .add 3 t4 (.int .i64 1)) fun t14 =>
  ih1 t0 t3 t14 (adv s 3)
noncomputable def f66l1s (Q : AV → St → Prop) (ih1 : AV → AV → AV → St → Prop) (t0 t3 t4 : AV) (s : St) : Prop :=
  Bnd (bt .len #[25] [t0] (s.nx + 2) (adv s 4)) fun r11 =>
  Bnd (bn .lss 3 t4 r11.1) fun t12 =>
  IfP t12
  (Bnd (ixS 2 t0 t4) fun t17 =>
  Bnd (shiftP 0 t17) fun t18 =>
  Bnd (ld 1 false t18 (adv r11.2 7)) fun t19 =>
  CallPu Tryz.env 119 [t19] (adv r11.2 7) fun t20 s1 =>
  Bnd (un .not t20) fun t22 =>
  Gd (wantV t22 false) (adv s1 38) (fun k => k t0 (adv s1 38)) fun t24 s2 =>
  Gd (wantV t22 false) s2 (fun k => k t4 s2) fun t25 s3 =>
  Gd (wantV t22 false) s3 (fun k => Bnd (ixS 2 t24 t25) fun v => k v s3) fun t26 s4 =>
  Gd (wantV t22 false) s4 (fun k => Bnd (shiftP 1 t26) fun v => k v s4) fun t27 s5 =>
  Gd (wantV t22 false) s5 (fun k => Bnd (ld 1 false t27 s5) fun v => k v s5) fun t28 s6 =>
  Gd (wantV t22 false) s6 (fun k => Bnd (bn .lss 3 t28 (.int .i64 1)) fun v => k v s6) fun t29 s7 =>
  Bnd (pickV t22 (.bool true) t29) fun t30 =>
  Gd (wantV t30 false) s7 (fun k => k t0 s7) fun t32 s8 =>
  Gd (wantV t30 false) s8 (fun k => k t4 s8) fun t33 s9 =>
  Gd (wantV t30 false) s9 (fun k => Bnd (ixS 2 t32 t33) fun v => k v s9) fun t34 s10 =>
  Gd (wantV t30 false) s10 (fun k => Bnd (shiftP 1 t34) fun v => k v s10) fun t35 s11 =>
  Gd (wantV t30 false) s11 (fun k => Bnd (ld 1 false t35 s11) fun v => k v s11) fun t36 s12 =>
  Gd (wantV t30 false) s12 (fun k => k t3 s12) fun t37 s13 =>
  Gd (wantV t30 false) s13 (fun k => Bnd (bn .sub 3 (.int .i64 1099511627776) t37) fun v => k v s13) fun t38 s14 =>
  Gd (wantV t30 false) s14 (fun k => Bnd (bn .gtr 3 t36 t38) fun v => k v s14) fun t39 s15 =>
  Bnd (pickV t30 (.bool true) t39) fun t40 =>
  Gd (wantV t40 false) s15 (fun k => k t4 s15) fun t42 s16 =>
  Gd (wantV t40 false) s16 (fun k => Bnd (bn .gtr 3 t42 (.int .i64 0)) fun v => k v s16) fun t43 s17 =>
  Gd (wantV t40 false) s17 (fun k => k t43 s17) fun t44 s18 =>
  Gd (wantV t44 true) s18 (fun k => k t0 s18) fun t45 s19 =>
  Gd (wantV t44 true) s19 (fun k => k t4 s19) fun t46 s20 =>
  Gd (wantV t44 true) s20 (fun k => Bnd (ixS 2 t45 t46) fun v => k v s20) fun t47 s21 =>
  Gd (wantV t44 true) s21 (fun k => Bnd (shiftP 0 t47) fun v => k v s21) fun t48 s22 =>
  Gd (wantV t44 true) s22 (fun k => Bnd (ld 1 false t48 s22) fun v => k v s22) fun t49 s23 =>
  Gd (wantV t44 true) s23 (fun k => k t0 s23) fun t50 s24 =>
  Gd (wantV t44 true) s24 (fun k => k t4 s24) fun t51 s25 =>
  Gd (wantV t44 true) s25 (fun k => Bnd (bn .sub 3 t51 (.int .i64 1)) fun v => k v s25) fun t52 s26 =>
  Gd (wantV t44 true) s26 (fun k => Bnd (ixS 2 t50 t52) fun v => k v s26) fun t53 s27 =>
  Gd (wantV t44 true) s27 (fun k => Bnd (shiftP 0 t53) fun v => k v s27) fun t54 s28 =>
  Gd (wantV t44 true) s28 (fun k => Bnd (ld 1 false t54 s28) fun v => k v s28) fun t55 s29 =>
  Gd (wantV t44 true) s29 (fun k => Bnd (bn .eql 3 t49 t55) fun v => k v s29) fun t56 s30 =>
  Gd (wantV t40 false) s30 (fun k => Bnd (pickV t44 t56 (.bool false)) fun v => k v s30) fun t57 s31 =>
  Bnd (pickV t40 (.bool true) t57) fun t58 =>
  IfP t58
  (Q (.bool false) (adv s31 1))
  (Bnd (ixS 2 t0 t4) fun t62 =>
  Bnd (shiftP 1 t62) fun t63 =>
  Bnd (ld 1 false t63 (adv s31 8)) fun t64 =>
  Bnd (bn .add 3 t3 t64) fun t65 =>
  f66j2 Q ih1 t4 t0 t65 (adv s31 8)))
  (f66j1 Q r11.2)
noncomputable def f66l1 (Q : AV → St → Prop) (n : Nat) : AV → AV → AV → St → Prop := Nat.rec (motive := fun _ => AV → AV → AV → St → Prop) (fun _ _ _ _ => False) (fun _ ih => f66l1s Q ih) n
theorem f66j1_eq (Q : AV → St → Prop) : f66C (sub f66B [true, true, true, true]) (f66R Q) (fun _ _ _ => False) (f66R Q) = (fun g s => f66j1 Q s) :=
  Eq.trans rfl (by kernel_rfl)
theorem f66j2_eq (Q : AV → St → Prop) (n1 : Nat) : f66C (sub f66B [true, true, true, false, true, false, false, true, true]) (fun g s => (fun (n : Nat) (g : Gf) (s : St) => f66l1 Q n (g 0) (g 3) (g 4) s) n1 (fun k => cond (bitOf (Tryz.env.kp 66) k) (g k) .undef) s) (fun i => cond (Nat.beq i 0) (fun g s => f66j1 Q s) ((fun _ _ _ => False) i)) (f66R Q) = (fun g s => f66j2 Q (f66l1 Q n1) (g 4) (g 0) (g 3) s) :=
  Eq.trans rfl (by kernel_rfl)
theorem f66l1_eq (Q : AV → St → Prop) (kN : Kt) : f66C (sub f66B [true, true, true, false, true, false]) kN (fun i => cond (Nat.beq i 0) (fun g s => f66j1 Q s) ((fun _ _ _ => False) i)) (f66R Q) = fun g s => ∃ n, (fun (n : Nat) (g : Gf) (s : St) => f66l1 Q n (g 0) (g 3) (g 4) s) n g s :=
  loop_eq (L := fun (n : Nat) (g : Gf) (s : St) => f66l1 Q n (g 0) (g 3) (g 4) s) (by kernel_rfl : (sub f66B [true, true, true, false, true, false]) = .loop (sub f66B [true, true, true, false, true, false, false])) (by kernel_rfl) (fun n1 => Eq.trans (seq_eq (by kernel_rfl : (sub f66B [true, true, true, false, true, false, false]) = .seq (sub f66B [true, true, true, false, true, false, false, false]) (sub f66B [true, true, true, false, true, false, false, true])) (seq_eq (by kernel_rfl : (sub f66B [true, true, true, false, true, false, false, true]) = .seq (sub f66B [true, true, true, false, true, false, false, true, false]) (sub f66B [true, true, true, false, true, false, false, true, true])) (f66j2_eq Q n1) (block_eq (by kernel_rfl : (sub f66B [true, true, true, false, true, false, false, true, false]) = .block 1 (sub f66B [true, true, true, false, true, false, false, true, false, false])) rfl)) rfl) (by kernel_rfl))
noncomputable def f66 (Q : AV → St → Prop) (t0 : AV) (s : St) : Prop :=
  Bnd (bt .len #[25] [t0] (s.nx + 2) (adv s 4)) fun r7 =>
  Bnd (bn .gtr 3 r7.1 (.int .i64 65536)) fun t8 =>
  IfP t8
  (Q (.bool false) (adv r7.2 1))
  (∃ n, f66l1 Q n t0 (.int .i64 0) (.int .i64 0) (adv r7.2 2))
theorem f66_run (t0 : AV) (s : St) {Q : AV → St → Prop} (h : f66 Q t0 s) : ∃ r s', WideC Tryz.env 66 [t0] s r s' ∧ Q r s' :=
  wide_of (h := 66) (fn := Tryz.f66) (c := sub f66B []) (by kernel_rfl) (by kernel_rfl) (by kernel_rfl) (by kernel_rfl) (of_decide_eq_true (by kernel_rfl))
    (Eq.mp (Eq.trans (by kernel_rfl) (congrFun (congrFun (show f66C (sub f66B []) (f66R Q) (fun _ _ _ => False) (f66R Q) = _ from (seq_eq (by kernel_rfl : (sub f66B []) = .seq (sub f66B [false]) (sub f66B [true])) (seq_eq (by kernel_rfl : (sub f66B [true]) = .seq (sub f66B [true, false]) (sub f66B [true, true])) (seq_eq (by kernel_rfl : (sub f66B [true, true]) = .seq (sub f66B [true, true, false]) (sub f66B [true, true, true])) (seq_eq (by kernel_rfl : (sub f66B [true, true, true]) = .seq (sub f66B [true, true, true, false]) (sub f66B [true, true, true, true])) (f66j1_eq Q) (seq_eq (by kernel_rfl : (sub f66B [true, true, true, false]) = .seq (sub f66B [true, true, true, false, false]) (sub f66B [true, true, true, false, true])) (block_eq (by kernel_rfl : (sub f66B [true, true, true, false, true]) = .block 0 (sub f66B [true, true, true, false, true, false])) (f66l1_eq Q _)) rfl)) rfl) rfl) rfl)).symm (gt (frame Tryz.f66 [t0]))) s)) h)
noncomputable abbrev f119B : Code := bodyOf Tryz.f119
noncomputable abbrev f119R (Q : AV → St → Prop) : Kt := fun g s => RetP (result Tryz.ty Tryz.f119 g s) fun v => Q v s
noncomputable abbrev f119C : Code → Kt → (Nat → Kt) → Kt → Kt := codeP Tryz.env 119 (Tryz.env.kp 119)
noncomputable def f119 (Q : AV → St → Prop) (t0 : AV) (s : St) : Prop :=
  Bnd (bn .geq 3 t0 (.int .i64 0)) fun t4 =>
  Gd (wantV t4 true) (adv s 8) (fun k => k t0 (adv s 8)) fun t6 s1 =>
  Gd (wantV t4 true) s1 (fun k => Bnd (bn .lss 3 t6 (.int .i64 196608)) fun v => k v s1) fun t7 s2 =>
  Bnd (pickV t4 t7 (.bool false)) fun t8 =>
  Q t8 s2
theorem f119_run (t0 : AV) (s : St) {Q : AV → St → Prop} (h : f119 Q t0 s) : ∃ r s', WideC Tryz.env 119 [t0] s r s' ∧ Q r s' :=
  wide_of (h := 119) (fn := Tryz.f119) (c := sub f119B []) (by kernel_rfl) (by kernel_rfl) (by kernel_rfl) (by kernel_rfl) (of_decide_eq_true (by kernel_rfl))
    (Eq.mp (Eq.trans (by kernel_rfl) (congrFun (congrFun (show f119C (sub f119B []) (f119R Q) (fun _ _ _ => False) (f119R Q) = _ from rfl).symm (gt (frame Tryz.f119 [t0]))) s)) h)
noncomputable abbrev f121B : Code := bodyOf Tryz.f121
noncomputable abbrev f121R (Q : AV → St → Prop) : Kt := fun g s => RetP (result Tryz.ty Tryz.f121 g s) fun v => Q v s
noncomputable abbrev f121C : Code → Kt → (Nat → Kt) → Kt → Kt := codeP Tryz.env 121 (Tryz.env.kp 121)
noncomputable def f121 (Q : AV → St → Prop) (t0 : AV) (s : St) : Prop :=
  Bnd (zr 33) fun z2 =>
  CallPu Tryz.env 170 [t0, (.int .i64 1000)] (adv ((adv s 2).set s.nx (some (.cells z2.cells 33 true true))) 7) fun t10 s1 =>
  Bnd (extr t10 0) fun t11 =>
  Bnd (extr t10 1) fun t12 =>
  Bnd (bn .neq 34 t12 (.int .i64 0)) fun t14 =>
  IfP t14
  (Bnd (bld 33 []) fun t15 =>
  Bnd (sto 6 (.ptr s.nx 0) t15 (adv s1 5)) fun s2 =>
  RetP ((resC [ld 6 true (.ptr s.nx 0) s2, some (.bool false)]).map tupV) fun v => Q v s2)
  (CallPu Tryz.env 171 [t11] (adv s1 9) fun t18 s3 =>
  Bnd (extr t18 0) fun t19 =>
  Bnd (extr t18 1) fun t20 =>
  CallPu Tryz.env 62 [(.int .i64 6), t19] (adv s3 4) fun t22 s4 =>
  Bnd (sto 6 (.ptr s.nx 0) t22 s4) fun s5 =>
  RetP ((resC [ld 6 true (.ptr s.nx 0) s5, some (.bool true)]).map tupV) fun v => Q v s5)
theorem f121_run (t0 : AV) (s : St) {Q : AV → St → Prop} (h : f121 Q t0 s) : ∃ r s', WideC Tryz.env 121 [t0] s r s' ∧ Q r s' :=
  wide_of (h := 121) (fn := Tryz.f121) (c := sub f121B []) (by kernel_rfl) (by kernel_rfl) (by kernel_rfl) (by kernel_rfl) (of_decide_eq_true (by kernel_rfl))
    (Eq.mp (Eq.trans (by kernel_rfl) (congrFun (congrFun (show f121C (sub f121B []) (f121R Q) (fun _ _ _ => False) (f121R Q) = _ from rfl).symm (gt (frame Tryz.f121 [t0]))) s)) h)
noncomputable abbrev f170B : Code := bodyOf Tryz.f170
noncomputable abbrev f170R (Q : AV → St → Prop) : Kt := fun g s => RetP (result Tryz.ty Tryz.f170 g s) fun v => Q v s
noncomputable abbrev f170C : Code → Kt → (Nat → Kt) → Kt → Kt := codeP Tryz.env 170 (Tryz.env.kp 170)
noncomputable def f170j3 (Q : AV → St → Prop) (t10 : AV) (s : St) : Prop :=
  Q (.tup [t10, (.int .i64 0)]) (adv s 3)
noncomputable def f170j4 (Q : AV → St → Prop) (ih1 : AV → AV → AV → St → Prop) (t11 t0 t10 : AV) (s : St) : Prop :=
  Bnd (bn .add 3 t11 (.int .i64 1)) fun t63 =>
  ih1 t0 t10 t63 (adv s 3)
noncomputable def f170j5 (Q : AV → St → Prop) (ih1 : AV → AV → AV → St → Prop) (ih2 : AV → AV → AV → AV → St → Prop) (t12 t0 t10 t11 : AV) (s : St) : Prop :=
  Bnd (bn .add 3 t12 (.int .i64 1)) fun t72 =>
  ih2 t0 t10 t11 t72 (adv s 3)
noncomputable def f170l2s (Q : AV → St → Prop) (ih1 : AV → AV → AV → St → Prop) (ih2 : AV → AV → AV → AV → St → Prop) (t0 t10 t11 t12 : AV) (s : St) : Prop :=
  Bnd (ixS 2 t0 t11) fun t67 =>
  Bnd (shiftP 1 t67) fun t68 =>
  Bnd (ld 1 false t68 (adv s 7)) fun t69 =>
  Bnd (bn .lss 3 t12 t69) fun t70 =>
  IfP t70
  (Bnd (ixS 2 t0 t11) fun t76 =>
  Bnd (shiftP 0 t76) fun t77 =>
  Bnd (ld 1 false t77 (adv s 16)) fun t78 =>
  Bnd (bsl 72 1 [(0, t78)]) fun t79 =>
  Bnd (bt .append #[72, 72] [t10, t79] (s.nx + 14) (adv s 16)) fun r80 =>
  f170j5 Q ih1 ih2 t12 t0 r80.1 t11 r80.2)
  (f170j4 Q ih1 t11 t0 t10 (adv s 7))
noncomputable def f170l2 (Q : AV → St → Prop) (ih1 : AV → AV → AV → St → Prop) (n : Nat) : AV → AV → AV → AV → St → Prop := Nat.rec (motive := fun _ => AV → AV → AV → AV → St → Prop) (fun _ _ _ _ _ => False) (fun _ ih => f170l2s Q ih1 ih) n
noncomputable def f170l1s (Q : AV → St → Prop) (ih1 : AV → AV → AV → St → Prop) (t0 t10 t11 : AV) (s : St) : Prop :=
  Bnd (bt .len #[25] [t0] (s.nx + 2) (adv s 4)) fun r60 =>
  Bnd (bn .lss 3 t11 r60.1) fun t61 =>
  IfP t61
  (∃ n, f170l2 Q ih1 n t0 t10 t11 (.int .i64 0) (adv r60.2 1))
  (f170j3 Q t10 r60.2)
noncomputable def f170l1 (Q : AV → St → Prop) (n : Nat) : AV → AV → AV → St → Prop := Nat.rec (motive := fun _ => AV → AV → AV → St → Prop) (fun _ _ _ _ => False) (fun _ ih => f170l1s Q ih) n
noncomputable def f170j2 (Q : AV → St → Prop) (t0 : AV) (s : St) : Prop :=
  ∃ n, f170l1 Q n t0 .nils (.int .i64 0) (adv s 2)
noncomputable def f170j6 (Q : AV → St → Prop) (ih3 : AV → AV → AV → St → Prop) (t9 t0 t8 : AV) (s : St) : Prop :=
  Bnd (bn .add 3 t9 (.int .i64 1)) fun t43 =>
  ih3 t0 t8 t43 (adv s 3)
noncomputable def f170l3s (Q : AV → St → Prop) (ih3 : AV → AV → AV → St → Prop) (t0 t8 t9 : AV) (s : St) : Prop :=
  Bnd (bt .len #[25] [t0] (s.nx + 2) (adv s 4)) fun r40 =>
  Bnd (bn .lss 3 t9 r40.1) fun t41 =>
  IfP t41
  (Bnd (ixS 2 t0 t9) fun t46 =>
  Bnd (shiftP 1 t46) fun t47 =>
  Bnd (ld 1 false t47 (adv r40.2 7)) fun t48 =>
  Bnd (bn .gtr 3 t48 t8) fun t50 =>
  IfP t50
  (Q (.tup [.nils, (.int .i64 2)]) (adv r40.2 9))
  (Bnd (ixS 2 t0 t9) fun t54 =>
  Bnd (shiftP 1 t54) fun t55 =>
  Bnd (ld 1 false t55 (adv r40.2 15)) fun t56 =>
  Bnd (bn .sub 3 t8 t56) fun t57 =>
  f170j6 Q ih3 t9 t0 t57 (adv r40.2 15)))
  (f170j2 Q t0 r40.2)
noncomputable def f170l3 (Q : AV → St → Prop) (n : Nat) : AV → AV → AV → St → Prop := Nat.rec (motive := fun _ => AV → AV → AV → St → Prop) (fun _ _ _ _ => False) (fun _ ih => f170l3s Q ih) n
noncomputable def f170j1 (Q : AV → St → Prop) (t1 t0 : AV) (s : St) : Prop :=
  Bnd (bn .lss 3 t1 (.int .i64 0)) fun t36 =>
  IfP t36
  (Q (.tup [.nils, (.int .i64 2)]) (adv s 4))
  (∃ n, f170l3 Q n t0 t1 (.int .i64 0) (adv s 5))
noncomputable def f170j7 (Q : AV → St → Prop) (ih4 : AV → AV → AV → St → Prop) (t6 t0 t1 : AV) (s : St) : Prop :=
  Bnd (bn .add 3 t6 (.int .i64 1)) fun t18 =>
  ih4 t0 t1 t18 (adv s 3)
noncomputable def f170l4s (Q : AV → St → Prop) (ih4 : AV → AV → AV → St → Prop) (t0 t1 t6 : AV) (s : St) : Prop :=
  Bnd (bt .len #[25] [t0] (s.nx + 2) (adv s 4)) fun r15 =>
  Bnd (bn .lss 3 t6 r15.1) fun t16 =>
  IfP t16
  (Bnd (ixS 2 t0 t6) fun t21 =>
  Bnd (shiftP 0 t21) fun t22 =>
  Bnd (ld 1 false t22 (adv r15.2 7)) fun t23 =>
  CallPu Tryz.env 119 [t23] (adv r15.2 7) fun t24 s1 =>
  Bnd (un .not t24) fun t26 =>
  Gd (wantV t26 false) (adv s1 10) (fun k => k t0 (adv s1 10)) fun t28 s2 =>
  Gd (wantV t26 false) s2 (fun k => k t6 s2) fun t29 s3 =>
  Gd (wantV t26 false) s3 (fun k => Bnd (ixS 2 t28 t29) fun v => k v s3) fun t30 s4 =>
  Gd (wantV t26 false) s4 (fun k => Bnd (shiftP 1 t30) fun v => k v s4) fun t31 s5 =>
  Gd (wantV t26 false) s5 (fun k => Bnd (ld 1 false t31 s5) fun v => k v s5) fun t32 s6 =>
  Gd (wantV t26 false) s6 (fun k => Bnd (bn .lss 3 t32 (.int .i64 1)) fun v => k v s6) fun t33 s7 =>
  Bnd (pickV t26 (.bool true) t33) fun t34 =>
  IfP t34
  (Q (.tup [.nils, (.int .i64 1)]) (adv s7 2))
  (f170j7 Q ih4 t6 t0 t1 s7))
  (f170j1 Q t1 t0 r15.2)
noncomputable def f170l4 (Q : AV → St → Prop) (n : Nat) : AV → AV → AV → St → Prop := Nat.rec (motive := fun _ => AV → AV → AV → St → Prop) (fun _ _ _ _ => False) (fun _ ih => f170l4s Q ih) n
theorem f170j3_eq (Q : AV → St → Prop) : f170C (sub f170B [true, true, true, true, true, true, true]) (f170R Q) (fun _ _ _ => False) (f170R Q) = (fun g s => f170j3 Q (g 10) s) :=
  Eq.trans rfl (by kernel_rfl)
theorem f170j4_eq (Q : AV → St → Prop) (n1 : Nat) : f170C (sub f170B [true, true, true, true, true, true, false, true, false, false, true, true]) (fun g s => (fun (n : Nat) (g : Gf) (s : St) => f170l1 Q n (g 0) (g 10) (g 11) s) n1 (fun k => cond (bitOf (Tryz.env.kp 170) k) (g k) .undef) s) (fun i => cond (Nat.beq i 4) (fun g s => f170j3 Q (g 10) s) ((fun _ _ _ => False) i)) (f170R Q) = (fun g s => f170j4 Q (f170l1 Q n1) (g 11) (g 0) (g 10) s) :=
  Eq.trans rfl (by kernel_rfl)
theorem f170j5_eq (Q : AV → St → Prop) (n1 : Nat) (n2 : Nat) : f170C (sub f170B [true, true, true, true, true, true, false, true, false, false, true, false, false, true, false, false, true, true]) (fun g s => (fun (n : Nat) (g : Gf) (s : St) => f170l2 Q (f170l1 Q n1) n (g 0) (g 10) (g 11) (g 12) s) n2 (fun k => cond (bitOf (Tryz.env.kp 170) k) (g k) .undef) s) (fun i => cond (Nat.beq i 6) (fun g s => f170j4 Q (f170l1 Q n1) (g 11) (g 0) (g 10) s) ((fun i => cond (Nat.beq i 5) (fun g s => f170j4 Q (f170l1 Q n1) (g 11) (g 0) (g 10) s) ((fun i => cond (Nat.beq i 4) (fun g s => f170j3 Q (g 10) s) ((fun _ _ _ => False) i)) i)) i)) (f170R Q) = (fun g s => f170j5 Q (f170l1 Q n1) (f170l2 Q (f170l1 Q n1) n2) (g 12) (g 0) (g 10) (g 11) s) :=
  Eq.trans rfl (by kernel_rfl)
theorem f170l2_eq (Q : AV → St → Prop) (n1 : Nat) (kN : Kt) : f170C (sub f170B [true, true, true, true, true, true, false, true, false, false, true, false, false, true, false]) kN (fun i => cond (Nat.beq i 6) (fun g s => f170j4 Q (f170l1 Q n1) (g 11) (g 0) (g 10) s) ((fun i => cond (Nat.beq i 5) (fun g s => f170j4 Q (f170l1 Q n1) (g 11) (g 0) (g 10) s) ((fun i => cond (Nat.beq i 4) (fun g s => f170j3 Q (g 10) s) ((fun _ _ _ => False) i)) i)) i)) (f170R Q) = fun g s => ∃ n, (fun (n : Nat) (g : Gf) (s : St) => f170l2 Q (f170l1 Q n1) n (g 0) (g 10) (g 11) (g 12) s) n g s :=
  loop_eq (L := fun (n : Nat) (g : Gf) (s : St) => f170l2 Q (f170l1 Q n1) n (g 0) (g 10) (g 11) (g 12) s) (by kernel_rfl : (sub f170B [true, true, true, true, true, true, false, true, false, false, true, false, false, true, false]) = .loop (sub f170B [true, true, true, true, true, true, false, true, false, false, true, false, false, true, false, false])) (by kernel_rfl) (fun n2 => Eq.trans (seq_eq (by kernel_rfl : (sub f170B [true, true, true, true, true, true, false, true, false, false, true, false, false, true, false, false]) = .seq (sub f170B [true, true, true, true, true, true, false, true, false, false, true, false, false, true, false, false, false]) (sub f170B [true, true, true, true, true, true, false, true, false, false, true, false, false, true, false, false, true])) (seq_eq (by kernel_rfl : (sub f170B [true, true, true, true, true, true, false, true, false, false, true, false, false, true, false, false, true]) = .seq (sub f170B [true, true, true, true, true, true, false, true, false, false, true, false, false, true, false, false, true, false]) (sub f170B [true, true, true, true, true, true, false, true, false, false, true, false, false, true, false, false, true, true])) (f170j5_eq Q n1 n2) (block_eq (by kernel_rfl : (sub f170B [true, true, true, true, true, true, false, true, false, false, true, false, false, true, false, false, true, false]) = .block 7 (sub f170B [true, true, true, true, true, true, false, true, false, false, true, false, false, true, false, false, true, false, false])) rfl)) rfl) (by kernel_rfl))
theorem f170l1_eq (Q : AV → St → Prop) (kN : Kt) : f170C (sub f170B [true, true, true, true, true, true, false, true, false]) kN (fun i => cond (Nat.beq i 4) (fun g s => f170j3 Q (g 10) s) ((fun _ _ _ => False) i)) (f170R Q) = fun g s => ∃ n, (fun (n : Nat) (g : Gf) (s : St) => f170l1 Q n (g 0) (g 10) (g 11) s) n g s :=
  loop_eq (L := fun (n : Nat) (g : Gf) (s : St) => f170l1 Q n (g 0) (g 10) (g 11) s) (by kernel_rfl : (sub f170B [true, true, true, true, true, true, false, true, false]) = .loop (sub f170B [true, true, true, true, true, true, false, true, false, false])) (by kernel_rfl) (fun n1 => Eq.trans (seq_eq (by kernel_rfl : (sub f170B [true, true, true, true, true, true, false, true, false, false]) = .seq (sub f170B [true, true, true, true, true, true, false, true, false, false, false]) (sub f170B [true, true, true, true, true, true, false, true, false, false, true])) (seq_eq (by kernel_rfl : (sub f170B [true, true, true, true, true, true, false, true, false, false, true]) = .seq (sub f170B [true, true, true, true, true, true, false, true, false, false, true, false]) (sub f170B [true, true, true, true, true, true, false, true, false, false, true, true])) (f170j4_eq Q n1) (block_eq (by kernel_rfl : (sub f170B [true, true, true, true, true, true, false, true, false, false, true, false]) = .block 5 (sub f170B [true, true, true, true, true, true, false, true, false, false, true, false, false])) (seq_eq (by kernel_rfl : (sub f170B [true, true, true, true, true, true, false, true, false, false, true, false, false]) = .seq (sub f170B [true, true, true, true, true, true, false, true, false, false, true, false, false, false]) (sub f170B [true, true, true, true, true, true, false, true, false, false, true, false, false, true])) (block_eq (by kernel_rfl : (sub f170B [true, true, true, true, true, true, false, true, false, false, true, false, false, true]) = .block 6 (sub f170B [true, true, true, true, true, true, false, true, false, false, true, false, false, true, false])) (f170l2_eq Q n1 _)) rfl))) rfl) (by kernel_rfl))
theorem f170j2_eq (Q : AV → St → Prop) : f170C (sub f170B [true, true, true, true, true]) (f170R Q) (fun _ _ _ => False) (f170R Q) = (fun g s => f170j2 Q (g 0) s) :=
  Eq.trans (seq_eq (by kernel_rfl : (sub f170B [true, true, true, true, true]) = .seq (sub f170B [true, true, true, true, true, false]) (sub f170B [true, true, true, true, true, true])) (seq_eq (by kernel_rfl : (sub f170B [true, true, true, true, true, true]) = .seq (sub f170B [true, true, true, true, true, true, false]) (sub f170B [true, true, true, true, true, true, true])) (f170j3_eq Q) (seq_eq (by kernel_rfl : (sub f170B [true, true, true, true, true, true, false]) = .seq (sub f170B [true, true, true, true, true, true, false, false]) (sub f170B [true, true, true, true, true, true, false, true])) (block_eq (by kernel_rfl : (sub f170B [true, true, true, true, true, true, false, true]) = .block 4 (sub f170B [true, true, true, true, true, true, false, true, false])) (f170l1_eq Q _)) rfl)) rfl) (by kernel_rfl)
theorem f170j6_eq (Q : AV → St → Prop) (n3 : Nat) : f170C (sub f170B [true, true, true, true, false, true, false, false, true, true]) (fun g s => (fun (n : Nat) (g : Gf) (s : St) => f170l3 Q n (g 0) (g 8) (g 9) s) n3 (fun k => cond (bitOf (Tryz.env.kp 170) k) (g k) .undef) s) (fun i => cond (Nat.beq i 2) (fun g s => f170j2 Q (g 0) s) ((fun _ _ _ => False) i)) (f170R Q) = (fun g s => f170j6 Q (f170l3 Q n3) (g 9) (g 0) (g 8) s) :=
  Eq.trans rfl (by kernel_rfl)
theorem f170l3_eq (Q : AV → St → Prop) (kN : Kt) : f170C (sub f170B [true, true, true, true, false, true, false]) kN (fun i => cond (Nat.beq i 2) (fun g s => f170j2 Q (g 0) s) ((fun _ _ _ => False) i)) (f170R Q) = fun g s => ∃ n, (fun (n : Nat) (g : Gf) (s : St) => f170l3 Q n (g 0) (g 8) (g 9) s) n g s :=
  loop_eq (L := fun (n : Nat) (g : Gf) (s : St) => f170l3 Q n (g 0) (g 8) (g 9) s) (by kernel_rfl : (sub f170B [true, true, true, true, false, true, false]) = .loop (sub f170B [true, true, true, true, false, true, false, false])) (by kernel_rfl) (fun n3 => Eq.trans (seq_eq (by kernel_rfl : (sub f170B [true, true, true, true, false, true, false, false]) = .seq (sub f170B [true, true, true, true, false, true, false, false, false]) (sub f170B [true, true, true, true, false, true, false, false, true])) (seq_eq (by kernel_rfl : (sub f170B [true, true, true, true, false, true, false, false, true]) = .seq (sub f170B [true, true, true, true, false, true, false, false, true, false]) (sub f170B [true, true, true, true, false, true, false, false, true, true])) (f170j6_eq Q n3) (block_eq (by kernel_rfl : (sub f170B [true, true, true, true, false, true, false, false, true, false]) = .block 3 (sub f170B [true, true, true, true, false, true, false, false, true, false, false])) rfl)) rfl) (by kernel_rfl))
theorem f170j1_eq (Q : AV → St → Prop) : f170C (sub f170B [true, true]) (f170R Q) (fun _ _ _ => False) (f170R Q) = (fun g s => f170j1 Q (g 1) (g 0) s) :=
  Eq.trans (seq_eq (by kernel_rfl : (sub f170B [true, true]) = .seq (sub f170B [true, true, false]) (sub f170B [true, true, true])) (seq_eq (by kernel_rfl : (sub f170B [true, true, true]) = .seq (sub f170B [true, true, true, false]) (sub f170B [true, true, true, true])) (seq_eq (by kernel_rfl : (sub f170B [true, true, true, true]) = .seq (sub f170B [true, true, true, true, false]) (sub f170B [true, true, true, true, true])) (f170j2_eq Q) (seq_eq (by kernel_rfl : (sub f170B [true, true, true, true, false]) = .seq (sub f170B [true, true, true, true, false, false]) (sub f170B [true, true, true, true, false, true])) (block_eq (by kernel_rfl : (sub f170B [true, true, true, true, false, true]) = .block 2 (sub f170B [true, true, true, true, false, true, false])) (f170l3_eq Q _)) rfl)) rfl) rfl) (by kernel_rfl)
theorem f170j7_eq (Q : AV → St → Prop) (n4 : Nat) : f170C (sub f170B [true, false, true, false, false, true, true]) (fun g s => (fun (n : Nat) (g : Gf) (s : St) => f170l4 Q n (g 0) (g 1) (g 6) s) n4 (fun k => cond (bitOf (Tryz.env.kp 170) k) (g k) .undef) s) (fun i => cond (Nat.beq i 0) (fun g s => f170j1 Q (g 1) (g 0) s) ((fun _ _ _ => False) i)) (f170R Q) = (fun g s => f170j7 Q (f170l4 Q n4) (g 6) (g 0) (g 1) s) :=
  Eq.trans rfl (by kernel_rfl)
theorem f170l4_eq (Q : AV → St → Prop) (kN : Kt) : f170C (sub f170B [true, false, true, false]) kN (fun i => cond (Nat.beq i 0) (fun g s => f170j1 Q (g 1) (g 0) s) ((fun _ _ _ => False) i)) (f170R Q) = fun g s => ∃ n, (fun (n : Nat) (g : Gf) (s : St) => f170l4 Q n (g 0) (g 1) (g 6) s) n g s :=
  loop_eq (L := fun (n : Nat) (g : Gf) (s : St) => f170l4 Q n (g 0) (g 1) (g 6) s) (by kernel_rfl : (sub f170B [true, false, true, false]) = .loop (sub f170B [true, false, true, false, false])) (by kernel_rfl) (fun n4 => Eq.trans (seq_eq (by kernel_rfl : (sub f170B [true, false, true, false, false]) = .seq (sub f170B [true, false, true, false, false, false]) (sub f170B [true, false, true, false, false, true])) (seq_eq (by kernel_rfl : (sub f170B [true, false, true, false, false, true]) = .seq (sub f170B [true, false, true, false, false, true, false]) (sub f170B [true, false, true, false, false, true, true])) (f170j7_eq Q n4) (block_eq (by kernel_rfl : (sub f170B [true, false, true, false, false, true, false]) = .block 1 (sub f170B [true, false, true, false, false, true, false, false])) rfl)) rfl) (by kernel_rfl))
noncomputable def f170 (Q : AV → St → Prop) (t0 t1 : AV) (s : St) : Prop :=
  ∃ n, f170l4 Q n t0 t1 (.int .i64 0) (adv s 3)
theorem f170_run (t0 t1 : AV) (s : St) {Q : AV → St → Prop} (h : f170 Q t0 t1 s) : ∃ r s', WideC Tryz.env 170 [t0, t1] s r s' ∧ Q r s' :=
  wide_of (h := 170) (fn := Tryz.f170) (c := sub f170B []) (by kernel_rfl) (by kernel_rfl) (by kernel_rfl) (by kernel_rfl) (of_decide_eq_true (by kernel_rfl))
    (Eq.mp (Eq.trans (by kernel_rfl) (congrFun (congrFun (show f170C (sub f170B []) (f170R Q) (fun _ _ _ => False) (f170R Q) = _ from (seq_eq (by kernel_rfl : (sub f170B []) = .seq (sub f170B [false]) (sub f170B [true])) (seq_eq (by kernel_rfl : (sub f170B [true]) = .seq (sub f170B [true, false]) (sub f170B [true, true])) (f170j1_eq Q) (seq_eq (by kernel_rfl : (sub f170B [true, false]) = .seq (sub f170B [true, false, false]) (sub f170B [true, false, true])) (block_eq (by kernel_rfl : (sub f170B [true, false, true]) = .block 0 (sub f170B [true, false, true, false])) (f170l4_eq Q _)) rfl)) rfl)).symm (gt (frame Tryz.f170 [t0, t1]))) s)) h)
noncomputable abbrev f171B : Code := bodyOf Tryz.f171
noncomputable abbrev f171R (Q : AV → St → Prop) : Kt := fun g s => RetP (result Tryz.ty Tryz.f171 g s) fun v => Q v s
noncomputable abbrev f171C : Code → Kt → (Nat → Kt) → Kt → Kt := codeP Tryz.env 171 (Tryz.env.kp 171)
noncomputable def f171j1 (Q : AV → St → Prop) (t4 : AV) (s : St) : Prop :=
  Q (.tup [t4, (.int .i64 0)]) (adv s 3)
noncomputable def f171j2 (Q : AV → St → Prop) (ih1 : AV → AV → AV → St → Prop) (t5 t0 t4 : AV) (s : St) : Prop :=
  Bnd (bn .add 3 t5 (.int .i64 1)) fun t13 =>
  ih1 t0 t4 t13 (adv s 3)
noncomputable def f171l1s (Q : AV → St → Prop) (ih1 : AV → AV → AV → St → Prop) (t0 t4 t5 : AV) (s : St) : Prop :=
  Bnd (bt .len #[72] [t0] (s.nx + 2) (adv s 4)) fun r10 =>
  Bnd (bn .lss 3 t5 r10.1) fun t11 =>
  IfP t11
  (Bnd (ixS 1 t0 t5) fun t16 =>
  Bnd (ld 1 false t16 (adv r10.2 5)) fun t17 =>
  CallPu Tryz.env 119 [t17] (adv r10.2 8) fun t19 s1 =>
  Bnd (un .not t19) fun t21 =>
  IfP t21
  (Q (.tup [(.str []), (.int .i64 1)]) (adv s1 4))
  (Bnd (bn .geq 3 t17 (.int .i64 32)) fun t23 =>
  Gd (wantV t23 true) (adv s1 12) (fun k => k t17 (adv s1 12)) fun t25 s2 =>
  Gd (wantV t23 true) s2 (fun k => Bnd (bn .lss 3 t25 (.int .i64 127)) fun v => k v s2) fun t26 s3 =>
  Bnd (pickV t23 t26 (.bool false)) fun t27 =>
  Gd (wantV t27 true) s3 (fun k => k t17 s3) fun t29 s4 =>
  Gd (wantV t27 true) s4 (fun k => Bnd (bn .neq 3 t29 (.int .i64 92)) fun v => k v s4) fun t30 s5 =>
  Bnd (pickV t27 t30 (.bool false)) fun t31 =>
  IfP t31
  (Bnd (cv 3 5 t17 (adv s5 7)) fun t34 =>
  Bnd (bsl 161 1 [(0, t34)]) fun t35 =>
  Bnd (cv 161 9 t35 (adv s5 7)) fun t36 =>
  Bnd (bn .add 9 t4 t36) fun t37 =>
  f171j2 Q ih1 t5 t0 t37 (adv s5 7))
  (Bnd (bn .add 9 t4 (.str [92, 117, 123])) fun t39 =>
  CallPu Tryz.env 208 [t17] (adv s5 7) fun t41 s6 =>
  Bnd (bn .add 9 t39 t41) fun t42 =>
  Bnd (bn .add 9 t42 (.str [125])) fun t43 =>
  f171j2 Q ih1 t5 t0 t43 s6)))
  (f171j1 Q t4 r10.2)
noncomputable def f171l1 (Q : AV → St → Prop) (n : Nat) : AV → AV → AV → St → Prop := Nat.rec (motive := fun _ => AV → AV → AV → St → Prop) (fun _ _ _ _ => False) (fun _ ih => f171l1s Q ih) n
theorem f171j1_eq (Q : AV → St → Prop) : f171C (sub f171B [true, true, true]) (f171R Q) (fun _ _ _ => False) (f171R Q) = (fun g s => f171j1 Q (g 4) s) :=
  Eq.trans rfl (by kernel_rfl)
theorem f171j2_eq (Q : AV → St → Prop) (n1 : Nat) : f171C (sub f171B [true, true, false, true, false, false, true, true]) (fun g s => (fun (n : Nat) (g : Gf) (s : St) => f171l1 Q n (g 0) (g 4) (g 5) s) n1 (fun k => cond (bitOf (Tryz.env.kp 171) k) (g k) .undef) s) (fun i => cond (Nat.beq i 0) (fun g s => f171j1 Q (g 4) s) ((fun _ _ _ => False) i)) (f171R Q) = (fun g s => f171j2 Q (f171l1 Q n1) (g 5) (g 0) (g 4) s) :=
  Eq.trans rfl (by kernel_rfl)
theorem f171l1_eq (Q : AV → St → Prop) (kN : Kt) : f171C (sub f171B [true, true, false, true, false]) kN (fun i => cond (Nat.beq i 0) (fun g s => f171j1 Q (g 4) s) ((fun _ _ _ => False) i)) (f171R Q) = fun g s => ∃ n, (fun (n : Nat) (g : Gf) (s : St) => f171l1 Q n (g 0) (g 4) (g 5) s) n g s :=
  loop_eq (L := fun (n : Nat) (g : Gf) (s : St) => f171l1 Q n (g 0) (g 4) (g 5) s) (by kernel_rfl : (sub f171B [true, true, false, true, false]) = .loop (sub f171B [true, true, false, true, false, false])) (by kernel_rfl) (fun n1 => Eq.trans (seq_eq (by kernel_rfl : (sub f171B [true, true, false, true, false, false]) = .seq (sub f171B [true, true, false, true, false, false, false]) (sub f171B [true, true, false, true, false, false, true])) (seq_eq (by kernel_rfl : (sub f171B [true, true, false, true, false, false, true]) = .seq (sub f171B [true, true, false, true, false, false, true, false]) (sub f171B [true, true, false, true, false, false, true, true])) (f171j2_eq Q n1) (block_eq (by kernel_rfl : (sub f171B [true, true, false, true, false, false, true, false]) = .block 1 (sub f171B [true, true, false, true, false, false, true, false, false])) rfl)) rfl) (by kernel_rfl))
noncomputable def f171 (Q : AV → St → Prop) (t0 : AV) (s : St) : Prop :=
  ∃ n, f171l1 Q n t0 (.str []) (.int .i64 0) (adv s 4)
theorem f171_run (t0 : AV) (s : St) {Q : AV → St → Prop} (h : f171 Q t0 s) : ∃ r s', WideC Tryz.env 171 [t0] s r s' ∧ Q r s' :=
  wide_of (h := 171) (fn := Tryz.f171) (c := sub f171B []) (by kernel_rfl) (by kernel_rfl) (by kernel_rfl) (by kernel_rfl) (of_decide_eq_true (by kernel_rfl))
    (Eq.mp (Eq.trans (by kernel_rfl) (congrFun (congrFun (show f171C (sub f171B []) (f171R Q) (fun _ _ _ => False) (f171R Q) = _ from (seq_eq (by kernel_rfl : (sub f171B []) = .seq (sub f171B [false]) (sub f171B [true])) (seq_eq (by kernel_rfl : (sub f171B [true]) = .seq (sub f171B [true, false]) (sub f171B [true, true])) (seq_eq (by kernel_rfl : (sub f171B [true, true]) = .seq (sub f171B [true, true, false]) (sub f171B [true, true, true])) (f171j1_eq Q) (seq_eq (by kernel_rfl : (sub f171B [true, true, false]) = .seq (sub f171B [true, true, false, false]) (sub f171B [true, true, false, true])) (block_eq (by kernel_rfl : (sub f171B [true, true, false, true]) = .block 0 (sub f171B [true, true, false, true, false])) (f171l1_eq Q _)) rfl)) rfl) rfl)).symm (gt (frame Tryz.f171 [t0]))) s)) h)
noncomputable abbrev f208B : Code := bodyOf Tryz.f208
noncomputable abbrev f208R (Q : AV → St → Prop) : Kt := fun g s => RetP (result Tryz.ty Tryz.f208 g s) fun v => Q v s
noncomputable abbrev f208C : Code → Kt → (Nat → Kt) → Kt → Kt := codeP Tryz.env 208 (Tryz.env.kp 208)
noncomputable def f208 (Q : AV → St → Prop) (t0 : AV) (s : St) : Prop :=
  Bnd (bn .lss 3 t0 (.int .i64 16)) fun t5 =>
  IfP t5
  (Bnd (bn .add 3 t0 (.int .i64 1)) fun t9 =>
  Bnd (slc 9 (.str [48, 49, 50, 51, 52, 53, 54, 55, 56, 57, 97, 98, 99, 100, 101, 102]) (some t0) (some t9) none (adv s 10)) fun t10 =>
  Q t10 (adv s 10))
  (Bnd (bn .quo 3 t0 (.int .i64 16)) fun t12 =>
  CallPuD Tryz.env 208 [t12] (rch (adv s 16) [(.fn 208 [] []), t12]) (adv s 16) fun t13 s1 =>
  Bnd (bn .rem 3 t0 (.int .i64 16)) fun t16 =>
  Bnd (bn .rem 3 t0 (.int .i64 16)) fun t18 =>
  Bnd (bn .add 3 t18 (.int .i64 1)) fun t19 =>
  Bnd (slc 9 (.str [48, 49, 50, 51, 52, 53, 54, 55, 56, 57, 97, 98, 99, 100, 101, 102]) (some t16) (some t19) none s1) fun t20 =>
  Bnd (bn .add 9 t13 t20) fun t21 =>
  Q t21 s1)
theorem f208_run (t0 : AV) (s : St) {Q : AV → St → Prop} (h : f208 Q t0 s) : ∃ r s', WideC Tryz.env 208 [t0] s r s' ∧ Q r s' :=
  wide_of (h := 208) (fn := Tryz.f208) (c := sub f208B []) (by kernel_rfl) (by kernel_rfl) (by kernel_rfl) (by kernel_rfl) (of_decide_eq_true (by kernel_rfl))
    (Eq.mp (Eq.trans (by kernel_rfl) (congrFun (congrFun (show f208C (sub f208B []) (f208R Q) (fun _ _ _ => False) (f208R Q) = _ from rfl).symm (gt (frame Tryz.f208 [t0]))) s)) h)
end Go.Proofs.YtdehdahimkcakaaGreatDoor
end
