/- PRINTED BY wip/tools/lift.py out of the translation: functions as statements, and that they are so. -/
import Derived.Test.YtdehdahimkcakaaGreatDoorWords
set_option linter.unusedVariables false
set_option maxRecDepth 1000000
namespace Go.Proofs.YtdehdahimkcakaaGreatDoor
open Go Ai
/-! 6 gudgeon/gudgeonlaw10.BuildNames -/
noncomputable abbrev f6B : Code := bodyOf Tryz.f6
noncomputable abbrev f6R (Q : AV → St → Prop) : Kt := fun g s => RetP (result Tryz.ty Tryz.f6 g s) fun v => Q v s
noncomputable abbrev f6C : Code → Kt → (Nat → Kt) → Kt → Kt := codeP Tryz.env 6 (Tryz.env.kp 6)
noncomputable def f6 (Q : AV → St → Prop) (t0 t1 : AV) (s : St) : Prop :=
  (t0.cells.all AV.one = true ∧
  CallPu Tryz.env 25 [] (adv ((adv s 2).set s.nx (some (.cells t0.cells 33 true true))) 2) fun t10 s1 =>
  Bnd (un .not t10) fun t12 =>
  Gd (wantV t12 false) (adv s1 14) (fun k => k t1 (adv s1 14)) fun t14 s2 =>
  Gd (wantV t12 false) s2 (fun k => Bnd (bt .len #[9] [t14] (s1.nx + 4) s2) fun r => k r.1 r.2) fun t15 s3 =>
  Gd (wantV t12 false) s3 (fun k => Bnd (bn .gtr 3 t15 (.int .i64 200)) fun v => k v s3) fun t16 s4 =>
  Bnd (pickV t12 (.bool true) t16) fun t17 =>
  Gd (wantV t17 false) s4 (fun k => Bnd (shiftP 1 (.ptr s.nx 0)) fun v => k v s4) fun t19 s5 =>
  Gd (wantV t17 false) s5 (fun k => Bnd (shiftP 1 t19) fun v => k v s5) fun t20 s6 =>
  Gd (wantV t17 false) s6 (fun k => Bnd (ld 1 false t20 s6) fun v => k v s6) fun t21 s7 =>
  Gd (wantV t17 false) s7 (fun k => Bnd (bt .len #[9] [t21] (s1.nx + 11) s7) fun r => k r.1 r.2) fun t22 s8 =>
  Gd (wantV t17 false) s8 (fun k => Bnd (bn .gtr 3 t22 (.int .i64 200)) fun v => k v s8) fun t23 s9 =>
  Bnd (pickV t17 (.bool true) t23) fun t24 =>
  IfP t24
  (Q t10 (adv s9 2))
  (Bnd (ld 6 true (.ptr s.nx 0) (adv s9 7)) fun t27 =>
  CallPu Tryz.env 26 [t27] (adv s9 7) fun t28 s10 =>
  Bnd (extr t28 0) fun t29 =>
  Bnd (extr t28 1) fun t30 =>
  Bnd (ld 6 true (.ptr s.nx 0) (adv s10 7)) fun t32 =>
  CallPu Tryz.env 27 [t32] (adv s10 7) fun t33 s11 =>
  Bnd (extr t33 0) fun t34 =>
  Bnd (extr t33 1) fun t35 =>
  Bnd (bn .eql 3 t29 t34) fun t38 =>
  Gd (wantV t38 true) (adv s11 16) (fun k => k t30 (adv s11 16)) fun t40 s12 =>
  Gd (wantV t38 true) s12 (fun k => k t35 s12) fun t41 s13 =>
  Gd (wantV t38 true) s13 (fun k => Bnd (bn .eql 34 t40 t41) fun v => k v s13) fun t42 s14 =>
  Bnd (pickV t38 t42 (.bool false)) fun t43 =>
  Gd (wantV t43 true) s14 (fun k => k t1 s14) fun t45 s15 =>
  Gd (wantV t43 true) s15 (fun k => CallPu Tryz.env 24 [t45] s15 k) fun t46 s16 =>
  Gd (wantV t43 true) s16 (fun k => k t1 s16) fun t47 s17 =>
  Gd (wantV t43 true) s17 (fun k => CallPu Tryz.env 28 [t47] s17 k) fun t48 s18 =>
  Gd (wantV t43 true) s18 (fun k => Bnd (bn .eql 4 t46 t48) fun v => k v s18) fun t49 s19 =>
  Bnd (pickV t43 t49 (.bool false)) fun t50 =>
  Q t50 s19))
theorem f6_run (t0 t1 : AV) (s : St) {Q : AV → St → Prop} (h : f6 Q t0 t1 s) : ∃ r s', WideC Tryz.env 6 [t0, t1] s r s' ∧ Q r s' :=
  wide_of (h := 6) (fn := Tryz.f6) (c := sub f6B []) (by kernel_rfl) (by kernel_rfl) (by kernel_rfl) (by kernel_rfl) (of_decide_eq_true (by kernel_rfl))
    (Eq.mp (Eq.trans (by kernel_rfl) (congrFun (congrFun (show f6C (sub f6B []) (f6R Q) (fun _ _ _ => False) (f6R Q) = _ from rfl).symm (gt (frame Tryz.f6 [t0, t1]))) s)) h)
/-! 26 gudgeon/build.Sort -/
noncomputable abbrev f26B : Code := bodyOf Tryz.f26
noncomputable abbrev f26R (Q : AV → St → Prop) : Kt := fun g s => RetP (result Tryz.ty Tryz.f26 g s) fun v => Q v s
noncomputable abbrev f26C : Code → Kt → (Nat → Kt) → Kt → Kt := codeP Tryz.env 26 (Tryz.env.kp 26)
noncomputable def f26j1 (Q : AV → St → Prop) (s : St) : Prop :=
  Q (.tup [(.int .i64 0), (.int .i64 101)]) (adv s 2)
theorem f26j1_eq (Q : AV → St → Prop) : f26C (sub f26B [true, true]) (f26R Q) (fun _ _ _ => False) (f26R Q) = (fun g s => f26j1 Q s) :=
  Eq.trans rfl (by kernel_rfl)
noncomputable def f26 (Q : AV → St → Prop) (t0 : AV) (s : St) : Prop :=
  (t0.cells.all AV.one = true ∧
  Bnd (shiftP 0 (.ptr s.nx 0)) fun t4 =>
  Bnd (ld 1 false t4 (adv ((adv s 3).set s.nx (some (.cells t0.cells 33 true true))) 9)) fun t5 =>
  Bnd (un .not t5) fun t6 =>
  Gd (wantV t6 true) (adv ((adv s 3).set s.nx (some (.cells t0.cells 33 true true))) 9) (fun k => Bnd (shiftP 1 (.ptr s.nx 0)) fun v => k v (adv ((adv s 3).set s.nx (some (.cells t0.cells 33 true true))) 9)) fun t8 s1 =>
  Gd (wantV t6 true) s1 (fun k => Bnd (shiftP 0 t8) fun v => k v s1) fun t9 s2 =>
  Gd (wantV t6 true) s2 (fun k => Bnd (ld 1 false t9 s2) fun v => k v s2) fun t10 s3 =>
  Gd (wantV t6 true) s3 (fun k => Bnd (bn .eql 3 t10 (.int .i64 3)) fun v => k v s3) fun t11 s4 =>
  Bnd (pickV t6 t11 (.bool false)) fun t12 =>
  IfP t12
  (Bnd (shiftP 1 (.ptr s.nx 0)) fun t13 =>
  Bnd (shiftP 1 t13) fun t14 =>
  Bnd (ld 1 false t14 (adv s4 3)) fun t15 =>
  Bnd (bn .eql 9 t15 (.str [66, 111, 111, 108])) fun t17 =>
  IfP t17
  (Q (.tup [(.int .i64 1), (.int .i64 0)]) (adv s4 7))
  (Bnd (bn .eql 9 t15 (.str [73, 110, 116])) fun t19 =>
  IfP t19
  (Q (.tup [(.int .i64 2), (.int .i64 0)]) (adv s4 9))
  (Bnd (bn .eql 9 t15 (.str [83, 116, 114, 105, 110, 103])) fun t21 =>
  IfP t21
  (Q (.tup [(.int .i64 3), (.int .i64 0)]) (adv s4 11))
  (f26j1 Q (adv s4 9)))))
  (f26j1 Q s4))
theorem f26_run (t0 : AV) (s : St) {Q : AV → St → Prop} (h : f26 Q t0 s) : ∃ r s', WideC Tryz.env 26 [t0] s r s' ∧ Q r s' :=
  wide_of (h := 26) (fn := Tryz.f26) (c := sub f26B []) (by kernel_rfl) (by kernel_rfl) (by kernel_rfl) (by kernel_rfl) (of_decide_eq_true (by kernel_rfl))
    (Eq.mp (Eq.trans (by kernel_rfl) (congrFun (congrFun (show f26C (sub f26B []) (f26R Q) (fun _ _ _ => False) (f26R Q) = _ from (seq_eq (by kernel_rfl : (sub f26B []) = .seq (sub f26B [false]) (sub f26B [true])) (seq_eq (by kernel_rfl : (sub f26B [true]) = .seq (sub f26B [true, false]) (sub f26B [true, true])) (f26j1_eq Q) (seq_eq (by kernel_rfl : (sub f26B [true, false]) = .seq (sub f26B [true, false, false]) (sub f26B [true, false, true])) (cond_eq (by kernel_rfl : (sub f26B [true, false, true]) = .cond (.tmp 12) (sub f26B [true, false, true, false]) (sub f26B [true, false, true, true])) (seq_eq (by kernel_rfl : (sub f26B [true, false, true, false]) = .seq (sub f26B [true, false, true, false, false]) (sub f26B [true, false, true, false, true])) (block_eq (by kernel_rfl : (sub f26B [true, false, true, false, true]) = .block 0 (sub f26B [true, false, true, false, true, false])) rfl) rfl) rfl) rfl)) rfl)).symm (gt (frame Tryz.f26 [t0]))) s)) h)
/-! 27 gudgeon/gudgeonref10.Sort -/
noncomputable abbrev f27B : Code := bodyOf Tryz.f27
noncomputable abbrev f27R (Q : AV → St → Prop) : Kt := fun g s => RetP (result Tryz.ty Tryz.f27 g s) fun v => Q v s
noncomputable abbrev f27C : Code → Kt → (Nat → Kt) → Kt → Kt := codeP Tryz.env 27 (Tryz.env.kp 27)
noncomputable def f27j1 (Q : AV → St → Prop) (s : St) : Prop :=
  Q (.tup [(.int .i64 0), (.int .i64 101)]) (adv s 2)
noncomputable def f27j2 (Q : AV → St → Prop) (ih1 : AV → AV → AV → St → Prop) (t5 t1 t4 : AV) (s : St) : Prop :=
  Bnd (bn .add 3 t5 (.int .i64 1)) fun t10 =>
  ih1 t1 t4 t10 (adv s 3)
noncomputable def f27l1s (Q : AV → St → Prop) (ih1 : AV → AV → AV → St → Prop) (t1 t4 t5 : AV) (s : St) : Prop :=
  Bnd (bn .lss 3 t5 (.int .i64 3)) fun t8 =>
  IfP t8
  (Bnd (shiftP 0 t1) fun t11 =>
  Bnd (ld 1 false t11 (adv s 21)) fun t12 =>
  Bnd (un .not t12) fun t13 =>
  Gd (wantV t13 true) (adv s 21) (fun k => Bnd (shiftP 1 t1) fun v => k v (adv s 21)) fun t15 s1 =>
  Gd (wantV t13 true) s1 (fun k => Bnd (shiftP 0 t15) fun v => k v s1) fun t16 s2 =>
  Gd (wantV t13 true) s2 (fun k => Bnd (ld 1 false t16 s2) fun v => k v s2) fun t17 s3 =>
  Gd (wantV t13 true) s3 (fun k => Bnd (bn .eql 3 t17 (.int .i64 3)) fun v => k v s3) fun t18 s4 =>
  Bnd (pickV t13 t18 (.bool false)) fun t19 =>
  Gd (wantV t19 true) s4 (fun k => Bnd (shiftP 1 t1) fun v => k v s4) fun t21 s5 =>
  Gd (wantV t19 true) s5 (fun k => Bnd (shiftP 1 t21) fun v => k v s5) fun t22 s6 =>
  Gd (wantV t19 true) s6 (fun k => Bnd (ld 1 false t22 s6) fun v => k v s6) fun t23 s7 =>
  Gd (wantV t19 true) s7 (fun k => k t4 s7) fun t24 s8 =>
  Gd (wantV t19 true) s8 (fun k => k t5 s8) fun t25 s9 =>
  Gd (wantV t19 true) s9 (fun k => Bnd (ixS 1 t24 t25) fun v => k v s9) fun t26 s10 =>
  Gd (wantV t19 true) s10 (fun k => Bnd (ld 1 false t26 s10) fun v => k v s10) fun t27 s11 =>
  Gd (wantV t19 true) s11 (fun k => Bnd (bn .eql 9 t23 t27) fun v => k v s11) fun t28 s12 =>
  Bnd (pickV t19 t28 (.bool false)) fun t29 =>
  IfP t29
  (Bnd (bn .add 3 t5 (.int .i64 1)) fun t31 =>
  Q (.tup [t31, (.int .i64 0)]) (adv s12 4))
  (f27j2 Q ih1 t5 t1 t4 s12))
  (f27j1 Q (adv s 2))
noncomputable def f27l1 (Q : AV → St → Prop) (n : Nat) : AV → AV → AV → St → Prop := Nat.rec (motive := fun _ => AV → AV → AV → St → Prop) (fun _ _ _ _ => False) (fun _ ih => f27l1s Q ih) n
theorem f27j1_eq (Q : AV → St → Prop) : f27C (sub f27B [true, true, true]) (f27R Q) (fun _ _ _ => False) (f27R Q) = (fun g s => f27j1 Q s) :=
  Eq.trans rfl (by kernel_rfl)
theorem f27j2_eq (Q : AV → St → Prop) (n1 : Nat) : f27C (sub f27B [true, true, false, true, false, false, true, true]) (fun g s => (fun (n : Nat) (g : Gf) (s : St) => f27l1 Q n (g 1) (g 4) (g 5) s) n1 (fun k => cond (bitOf (Tryz.env.kp 27) k) (g k) .undef) s) (fun i => cond (Nat.beq i 0) (fun g s => f27j1 Q s) ((fun _ _ _ => False) i)) (f27R Q) = (fun g s => f27j2 Q (f27l1 Q n1) (g 5) (g 1) (g 4) s) :=
  Eq.trans rfl (by kernel_rfl)
theorem f27l1_eq (Q : AV → St → Prop) (kN : Kt) : f27C (sub f27B [true, true, false, true, false]) kN (fun i => cond (Nat.beq i 0) (fun g s => f27j1 Q s) ((fun _ _ _ => False) i)) (f27R Q) = fun g s => ∃ n, (fun (n : Nat) (g : Gf) (s : St) => f27l1 Q n (g 1) (g 4) (g 5) s) n g s :=
  loop_eq (L := fun (n : Nat) (g : Gf) (s : St) => f27l1 Q n (g 1) (g 4) (g 5) s) (by kernel_rfl : (sub f27B [true, true, false, true, false]) = .loop (sub f27B [true, true, false, true, false, false])) (by kernel_rfl) (fun n1 => Eq.trans (seq_eq (by kernel_rfl : (sub f27B [true, true, false, true, false, false]) = .seq (sub f27B [true, true, false, true, false, false, false]) (sub f27B [true, true, false, true, false, false, true])) (seq_eq (by kernel_rfl : (sub f27B [true, true, false, true, false, false, true]) = .seq (sub f27B [true, true, false, true, false, false, true, false]) (sub f27B [true, true, false, true, false, false, true, true])) (f27j2_eq Q n1) (block_eq (by kernel_rfl : (sub f27B [true, true, false, true, false, false, true, false]) = .block 1 (sub f27B [true, true, false, true, false, false, true, false, false])) rfl)) rfl) (by kernel_rfl))
noncomputable def f27 (Q : AV → St → Prop) (t0 : AV) (s : St) : Prop :=
  (t0.cells.all AV.one = true ∧
  Bnd (bsl 52 3 [(0, (.str [66, 111, 111, 108])), (1, (.str [73, 110, 116])), (2, (.str [83, 116, 114, 105, 110, 103]))]) fun t6 =>
  ∃ n, f27l1 Q n (.ptr s.nx 0) t6 (.int .i64 0) (adv ((adv s 3).set s.nx (some (.cells t0.cells 33 true true))) 3))
theorem f27_run (t0 : AV) (s : St) {Q : AV → St → Prop} (h : f27 Q t0 s) : ∃ r s', WideC Tryz.env 27 [t0] s r s' ∧ Q r s' :=
  wide_of (h := 27) (fn := Tryz.f27) (c := sub f27B []) (by kernel_rfl) (by kernel_rfl) (by kernel_rfl) (by kernel_rfl) (of_decide_eq_true (by kernel_rfl))
    (Eq.mp (Eq.trans (by kernel_rfl) (congrFun (congrFun (show f27C (sub f27B []) (f27R Q) (fun _ _ _ => False) (f27R Q) = _ from (seq_eq (by kernel_rfl : (sub f27B []) = .seq (sub f27B [false]) (sub f27B [true])) (seq_eq (by kernel_rfl : (sub f27B [true]) = .seq (sub f27B [true, false]) (sub f27B [true, true])) (seq_eq (by kernel_rfl : (sub f27B [true, true]) = .seq (sub f27B [true, true, false]) (sub f27B [true, true, true])) (f27j1_eq Q) (seq_eq (by kernel_rfl : (sub f27B [true, true, false]) = .seq (sub f27B [true, true, false, false]) (sub f27B [true, true, false, true])) (block_eq (by kernel_rfl : (sub f27B [true, true, false, true]) = .block 0 (sub f27B [true, true, false, true, false])) (f27l1_eq Q _)) rfl)) rfl) rfl)).symm (gt (frame Tryz.f27 [t0]))) s)) h)
/-! 24 gudgeon/build.Reserved -/
noncomputable abbrev f24B : Code := bodyOf Tryz.f24
noncomputable abbrev f24R (Q : AV → St → Prop) : Kt := fun g s => RetP (result Tryz.ty Tryz.f24 g s) fun v => Q v s
noncomputable abbrev f24C : Code → Kt → (Nat → Kt) → Kt → Kt := codeP Tryz.env 24 (Tryz.env.kp 24)
noncomputable def f24j1 (Q : AV → St → Prop) (t0 : AV) (s : St) : Prop :=
  CallPu Tryz.env 71 [t0, (.int .i64 2)] (adv s 12) fun t19 s1 =>
  Bnd (bn .neq 3 t19 (.int .i64 0)) fun t20 =>
  Gd (wantV t20 false) s1 (fun k => k t0 s1) fun t22 s2 =>
  Gd (wantV t20 false) s2 (fun k => CallPu Tryz.env 72 [t22, (.str [115, 116, 114, 46])] s2 k) fun t23 s3 =>
  Bnd (pickV t20 (.bool true) t23) fun t24 =>
  Gd (wantV t24 false) s3 (fun k => k t0 s3) fun t26 s4 =>
  Gd (wantV t24 false) s4 (fun k => CallPu Tryz.env 72 [t26, (.str [114, 101, 46])] s4 k) fun t27 s5 =>
  Bnd (pickV t24 (.bool true) t27) fun t28 =>
  Q t28 s5
noncomputable def f24j2 (Q : AV → St → Prop) (t4 t0 : AV) (s : St) : Prop :=
  IfP t4
  (Q (.bool true) (adv s 1))
  (f24j1 Q t0 s)
theorem f24j1_eq (Q : AV → St → Prop) : f24C (sub f24B [true, true]) (f24R Q) (fun _ _ _ => False) (f24R Q) = (fun g s => f24j1 Q (g 0) s) :=
  Eq.trans rfl (by kernel_rfl)
theorem f24j2_eq (Q : AV → St → Prop) : f24C (sub f24B [true, false, true, false, true]) (fun g s => f24j1 Q (g 0) s) (fun i => cond (Nat.beq i 0) (fun g s => f24j1 Q (g 0) s) ((fun _ _ _ => False) i)) (f24R Q) = (fun g s => f24j2 Q (g 4) (g 0) s) :=
  Eq.trans rfl (by kernel_rfl)
noncomputable def f24 (Q : AV → St → Prop) (t0 : AV) (s : St) : Prop :=
  Bnd (bn .eql 9 t0 (.str [116, 114, 117, 101])) fun t5 =>
  IfP t5
  (f24j2 Q t5 t0 (adv s 4))
  (Bnd (bn .eql 9 t0 (.str [102, 97, 108, 115, 101])) fun t6 =>
  IfP t6
  (f24j2 Q t6 t0 (adv s 6))
  (Bnd (bn .eql 9 t0 (.str [108, 101, 116])) fun t7 =>
  IfP t7
  (f24j2 Q t7 t0 (adv s 8))
  (Bnd (bn .eql 9 t0 (.str [102, 111, 114, 97, 108, 108])) fun t8 =>
  IfP t8
  (f24j2 Q t8 t0 (adv s 10))
  (Bnd (bn .eql 9 t0 (.str [101, 120, 105, 115, 116, 115])) fun t9 =>
  IfP t9
  (f24j2 Q t9 t0 (adv s 12))
  (Bnd (bn .eql 9 t0 (.str [109, 97, 116, 99, 104])) fun t10 =>
  IfP t10
  (f24j2 Q t10 t0 (adv s 14))
  (Bnd (bn .eql 9 t0 (.str [112, 97, 114])) fun t11 =>
  IfP t11
  (f24j2 Q t11 t0 (adv s 16))
  (Bnd (bn .eql 9 t0 (.str [33])) fun t12 =>
  IfP t12
  (f24j2 Q t12 t0 (adv s 18))
  (Bnd (bn .eql 9 t0 (.str [95])) fun t13 =>
  IfP t13
  (f24j2 Q t13 t0 (adv s 20))
  (Bnd (bn .eql 9 t0 (.str [97, 115])) fun t14 =>
  IfP t14
  (f24j2 Q t14 t0 (adv s 22))
  (Bnd (bn .eql 9 t0 (.str [100, 105, 118])) fun t15 =>
  IfP t15
  (f24j2 Q t15 t0 (adv s 24))
  (Bnd (bn .eql 9 t0 (.str [109, 111, 100])) fun t16 =>
  IfP t16
  (f24j2 Q t16 t0 (adv s 26))
  (Bnd (bn .eql 9 t0 (.str [97, 98, 115])) fun t17 =>
  f24j2 Q t17 t0 (adv s 28)))))))))))))
theorem f24_run (t0 : AV) (s : St) {Q : AV → St → Prop} (h : f24 Q t0 s) : ∃ r s', WideC Tryz.env 24 [t0] s r s' ∧ Q r s' :=
  wide_of (h := 24) (fn := Tryz.f24) (c := sub f24B []) (by kernel_rfl) (by kernel_rfl) (by kernel_rfl) (by kernel_rfl) (of_decide_eq_true (by kernel_rfl))
    (Eq.mp (Eq.trans (by kernel_rfl) (congrFun (congrFun (show f24C (sub f24B []) (f24R Q) (fun _ _ _ => False) (f24R Q) = _ from (seq_eq (by kernel_rfl : (sub f24B []) = .seq (sub f24B [false]) (sub f24B [true])) (seq_eq (by kernel_rfl : (sub f24B [true]) = .seq (sub f24B [true, false]) (sub f24B [true, true])) (f24j1_eq Q) (seq_eq (by kernel_rfl : (sub f24B [true, false]) = .seq (sub f24B [true, false, false]) (sub f24B [true, false, true])) (block_eq (by kernel_rfl : (sub f24B [true, false, true]) = .block 0 (sub f24B [true, false, true, false])) (seq_eq (by kernel_rfl : (sub f24B [true, false, true, false]) = .seq (sub f24B [true, false, true, false, false]) (sub f24B [true, false, true, false, true])) (f24j2_eq Q) rfl)) rfl)) rfl)).symm (gt (frame Tryz.f24 [t0]))) s)) h)
/-! 28 gudgeon/gudgeonref10.Reserved -/
noncomputable abbrev f28B : Code := bodyOf Tryz.f28
noncomputable abbrev f28R (Q : AV → St → Prop) : Kt := fun g s => RetP (result Tryz.ty Tryz.f28 g s) fun v => Q v s
noncomputable abbrev f28C : Code → Kt → (Nat → Kt) → Kt → Kt := codeP Tryz.env 28 (Tryz.env.kp 28)
noncomputable def f28j1 (Q : AV → St → Prop) (t0 : AV) (s : St) : Prop :=
  Bnd (bt .len #[9] [t0] (s.nx + 1) (adv s 9)) fun r21 =>
  Bnd (bn .geq 3 r21.1 (.int .i64 4)) fun t22 =>
  Gd (wantV t22 true) r21.2 (fun k => k t0 r21.2) fun t24 s1 =>
  Gd (wantV t22 true) s1 (fun k => Bnd (slc 9 t24 none (some (.int .i64 4)) none s1) fun v => k v s1) fun t25 s2 =>
  Gd (wantV t22 true) s2 (fun k => Bnd (bn .eql 9 t25 (.str [115, 116, 114, 46])) fun v => k v s2) fun t26 s3 =>
  Bnd (pickV t22 t26 (.bool false)) fun t27 =>
  Bnd (bt .len #[9] [t0] (s3.nx + 1) (adv s3 9)) fun r29 =>
  Bnd (bn .geq 3 r29.1 (.int .i64 3)) fun t30 =>
  Gd (wantV t30 true) r29.2 (fun k => k t0 r29.2) fun t32 s4 =>
  Gd (wantV t30 true) s4 (fun k => Bnd (slc 9 t32 none (some (.int .i64 3)) none s4) fun v => k v s4) fun t33 s5 =>
  Gd (wantV t30 true) s5 (fun k => Bnd (bn .eql 9 t33 (.str [114, 101, 46])) fun v => k v s5) fun t34 s6 =>
  Bnd (pickV t30 t34 (.bool false)) fun t35 =>
  Gd (wantV t27 false) (adv s6 10) (fun k => k t35 (adv s6 10)) fun t38 s7 =>
  Bnd (pickV t27 (.bool true) t38) fun t39 =>
  Gd (wantV t39 false) s7 (fun k => k t0 s7) fun t41 s8 =>
  Gd (wantV t39 false) s8 (fun k => CallPu Tryz.env 23 [t41, (.int .i64 2)] s8 k) fun t42 s9 =>
  Gd (wantV t39 false) s9 (fun k => Bnd (bn .neq 3 t42 (.int .i64 0)) fun v => k v s9) fun t43 s10 =>
  Bnd (pickV t39 (.bool true) t43) fun t44 =>
  Q t44 s10
noncomputable def f28j2 (Q : AV → St → Prop) (ih1 : AV → AV → AV → St → Prop) (t4 t0 t3 : AV) (s : St) : Prop :=
  Bnd (bn .add 3 t4 (.int .i64 1)) fun t13 =>
  ih1 t0 t3 t13 (adv s 3)
noncomputable def f28l1s (Q : AV → St → Prop) (ih1 : AV → AV → AV → St → Prop) (t0 t3 t4 : AV) (s : St) : Prop :=
  Bnd (bt .len #[52] [t3] (s.nx + 2) (adv s 4)) fun r10 =>
  Bnd (bn .lss 3 t4 r10.1) fun t11 =>
  IfP t11
  (Bnd (ixS 1 t3 t4) fun t16 =>
  Bnd (ld 1 false t16 (adv r10.2 6)) fun t17 =>
  Bnd (bn .eql 9 t17 t0) fun t19 =>
  IfP t19
  (Q (.bool true) (adv r10.2 7))
  (f28j2 Q ih1 t4 t0 t3 (adv r10.2 6)))
  (f28j1 Q t0 r10.2)
noncomputable def f28l1 (Q : AV → St → Prop) (n : Nat) : AV → AV → AV → St → Prop := Nat.rec (motive := fun _ => AV → AV → AV → St → Prop) (fun _ _ _ _ => False) (fun _ ih => f28l1s Q ih) n
theorem f28j1_eq (Q : AV → St → Prop) : f28C (sub f28B [true, true, true]) (f28R Q) (fun _ _ _ => False) (f28R Q) = (fun g s => f28j1 Q (g 0) s) :=
  Eq.trans rfl (by kernel_rfl)
theorem f28j2_eq (Q : AV → St → Prop) (n1 : Nat) : f28C (sub f28B [true, true, false, true, false, false, true, true]) (fun g s => (fun (n : Nat) (g : Gf) (s : St) => f28l1 Q n (g 0) (g 3) (g 4) s) n1 (fun k => cond (bitOf (Tryz.env.kp 28) k) (g k) .undef) s) (fun i => cond (Nat.beq i 0) (fun g s => f28j1 Q (g 0) s) ((fun _ _ _ => False) i)) (f28R Q) = (fun g s => f28j2 Q (f28l1 Q n1) (g 4) (g 0) (g 3) s) :=
  Eq.trans rfl (by kernel_rfl)
theorem f28l1_eq (Q : AV → St → Prop) (kN : Kt) : f28C (sub f28B [true, true, false, true, false]) kN (fun i => cond (Nat.beq i 0) (fun g s => f28j1 Q (g 0) s) ((fun _ _ _ => False) i)) (f28R Q) = fun g s => ∃ n, (fun (n : Nat) (g : Gf) (s : St) => f28l1 Q n (g 0) (g 3) (g 4) s) n g s :=
  loop_eq (L := fun (n : Nat) (g : Gf) (s : St) => f28l1 Q n (g 0) (g 3) (g 4) s) (by kernel_rfl : (sub f28B [true, true, false, true, false]) = .loop (sub f28B [true, true, false, true, false, false])) (by kernel_rfl) (fun n1 => Eq.trans (seq_eq (by kernel_rfl : (sub f28B [true, true, false, true, false, false]) = .seq (sub f28B [true, true, false, true, false, false, false]) (sub f28B [true, true, false, true, false, false, true])) (seq_eq (by kernel_rfl : (sub f28B [true, true, false, true, false, false, true]) = .seq (sub f28B [true, true, false, true, false, false, true, false]) (sub f28B [true, true, false, true, false, false, true, true])) (f28j2_eq Q n1) (block_eq (by kernel_rfl : (sub f28B [true, true, false, true, false, false, true, false]) = .block 1 (sub f28B [true, true, false, true, false, false, true, false, false])) rfl)) rfl) (by kernel_rfl))
noncomputable def f28 (Q : AV → St → Prop) (t0 : AV) (s : St) : Prop :=
  Bnd (bsl 52 13 [(0, (.str [116, 114, 117, 101])), (1, (.str [102, 97, 108, 115, 101])), (2, (.str [108, 101, 116])), (3, (.str [102, 111, 114, 97, 108, 108])), (4, (.str [101, 120, 105, 115, 116, 115])), (5, (.str [109, 97, 116, 99, 104])), (6, (.str [112, 97, 114])), (7, (.str [33])), (8, (.str [95])), (9, (.str [97, 115])), (10, (.str [100, 105, 118])), (11, (.str [109, 111, 100])), (12, (.str [97, 98, 115]))]) fun t7 =>
  ∃ n, f28l1 Q n t0 t7 (.int .i64 0) (adv s 4)
theorem f28_run (t0 : AV) (s : St) {Q : AV → St → Prop} (h : f28 Q t0 s) : ∃ r s', WideC Tryz.env 28 [t0] s r s' ∧ Q r s' :=
  wide_of (h := 28) (fn := Tryz.f28) (c := sub f28B []) (by kernel_rfl) (by kernel_rfl) (by kernel_rfl) (by kernel_rfl) (of_decide_eq_true (by kernel_rfl))
    (Eq.mp (Eq.trans (by kernel_rfl) (congrFun (congrFun (show f28C (sub f28B []) (f28R Q) (fun _ _ _ => False) (f28R Q) = _ from (seq_eq (by kernel_rfl : (sub f28B []) = .seq (sub f28B [false]) (sub f28B [true])) (seq_eq (by kernel_rfl : (sub f28B [true]) = .seq (sub f28B [true, false]) (sub f28B [true, true])) (seq_eq (by kernel_rfl : (sub f28B [true, true]) = .seq (sub f28B [true, true, false]) (sub f28B [true, true, true])) (f28j1_eq Q) (seq_eq (by kernel_rfl : (sub f28B [true, true, false]) = .seq (sub f28B [true, true, false, false]) (sub f28B [true, true, false, true])) (block_eq (by kernel_rfl : (sub f28B [true, true, false, true]) = .block 0 (sub f28B [true, true, false, true, false])) (f28l1_eq Q _)) rfl)) rfl) rfl)).symm (gt (frame Tryz.f28 [t0]))) s)) h)
/-! 71 gudgeon/build.operation -/
noncomputable abbrev f71B : Code := bodyOf Tryz.f71
noncomputable abbrev f71R (Q : AV → St → Prop) : Kt := fun g s => RetP (result Tryz.ty Tryz.f71 g s) fun v => Q v s
noncomputable abbrev f71C : Code → Kt → (Nat → Kt) → Kt → Kt := codeP Tryz.env 71 (Tryz.env.kp 71)
noncomputable def f71j1 (Q : AV → St → Prop) (t0 : AV) (s : St) : Prop :=
  CallPu Tryz.env 122 [t0] (adv s 3) fun t39 s1 =>
  Q t39 s1
theorem f71j1_eq (Q : AV → St → Prop) : f71C (sub f71B [true, true]) (f71R Q) (fun _ _ _ => False) (f71R Q) = (fun g s => f71j1 Q (g 0) s) :=
  Eq.trans rfl (by kernel_rfl)
noncomputable def f71 (Q : AV → St → Prop) (t0 t1 : AV) (s : St) : Prop :=
  Bnd (bn .eql 9 t0 (.str [110, 111, 116])) fun t7 =>
  IfP t7
  (Q (.int .i64 6) (adv s 5))
  (Bnd (bn .eql 9 t0 (.str [97, 110, 100])) fun t9 =>
  IfP t9
  (Q (.int .i64 7) (adv s 7))
  (Bnd (bn .eql 9 t0 (.str [111, 114])) fun t11 =>
  IfP t11
  (Q (.int .i64 8) (adv s 9))
  (Bnd (bn .eql 9 t0 (.str [61, 62])) fun t13 =>
  IfP t13
  (Q (.int .i64 9) (adv s 11))
  (Bnd (bn .eql 9 t0 (.str [120, 111, 114])) fun t15 =>
  IfP t15
  (Q (.int .i64 10) (adv s 13))
  (Bnd (bn .eql 9 t0 (.str [61])) fun t17 =>
  IfP t17
  (Q (.int .i64 11) (adv s 15))
  (Bnd (bn .eql 9 t0 (.str [100, 105, 115, 116, 105, 110, 99, 116])) fun t19 =>
  IfP t19
  (Q (.int .i64 12) (adv s 17))
  (Bnd (bn .eql 9 t0 (.str [105, 116, 101])) fun t21 =>
  IfP t21
  (Q (.int .i64 13) (adv s 19))
  (Bnd (bn .eql 9 t0 (.str [43])) fun t23 =>
  IfP t23
  (Q (.int .i64 15) (adv s 21))
  (Bnd (bn .eql 9 t0 (.str [45])) fun t25 =>
  IfP t25
  (Bnd (bn .eql 3 t1 (.int .i64 1)) fun t27 =>
  IfP t27
  (Q (.int .i64 14) (adv s 25))
  (Q (.int .i64 16) (adv s 25)))
  (Bnd (bn .eql 9 t0 (.str [42])) fun t29 =>
  IfP t29
  (Q (.int .i64 17) (adv s 25))
  (Bnd (bn .eql 9 t0 (.str [60, 61])) fun t31 =>
  IfP t31
  (Q (.int .i64 18) (adv s 27))
  (Bnd (bn .eql 9 t0 (.str [60])) fun t33 =>
  IfP t33
  (Q (.int .i64 19) (adv s 29))
  (Bnd (bn .eql 9 t0 (.str [62, 61])) fun t35 =>
  IfP t35
  (Q (.int .i64 20) (adv s 31))
  (Bnd (bn .eql 9 t0 (.str [62])) fun t37 =>
  IfP t37
  (Q (.int .i64 21) (adv s 33))
  (f71j1 Q t0 (adv s 32))))))))))))))))
theorem f71_run (t0 t1 : AV) (s : St) {Q : AV → St → Prop} (h : f71 Q t0 t1 s) : ∃ r s', WideC Tryz.env 71 [t0, t1] s r s' ∧ Q r s' :=
  wide_of (h := 71) (fn := Tryz.f71) (c := sub f71B []) (by kernel_rfl) (by kernel_rfl) (by kernel_rfl) (by kernel_rfl) (of_decide_eq_true (by kernel_rfl))
    (Eq.mp (Eq.trans (by kernel_rfl) (congrFun (congrFun (show f71C (sub f71B []) (f71R Q) (fun _ _ _ => False) (f71R Q) = _ from (seq_eq (by kernel_rfl : (sub f71B []) = .seq (sub f71B [false]) (sub f71B [true])) (seq_eq (by kernel_rfl : (sub f71B [true]) = .seq (sub f71B [true, false]) (sub f71B [true, true])) (f71j1_eq Q) (seq_eq (by kernel_rfl : (sub f71B [true, false]) = .seq (sub f71B [true, false, false]) (sub f71B [true, false, true])) (block_eq (by kernel_rfl : (sub f71B [true, false, true]) = .block 0 (sub f71B [true, false, true, false])) rfl) rfl)) rfl)).symm (gt (frame Tryz.f71 [t0, t1]))) s)) h)
/-! 122 gudgeon/build.texts -/
noncomputable abbrev f122B : Code := bodyOf Tryz.f122
noncomputable abbrev f122R (Q : AV → St → Prop) : Kt := fun g s => RetP (result Tryz.ty Tryz.f122 g s) fun v => Q v s
noncomputable abbrev f122C : Code → Kt → (Nat → Kt) → Kt → Kt := codeP Tryz.env 122 (Tryz.env.kp 122)
noncomputable def f122j1 (Q : AV → St → Prop) (s : St) : Prop :=
  Q (.int .i64 0) (adv s 1)
theorem f122j1_eq (Q : AV → St → Prop) : f122C (sub f122B [true, true]) (f122R Q) (fun _ _ _ => False) (f122R Q) = (fun g s => f122j1 Q s) :=
  Eq.trans rfl (by kernel_rfl)
noncomputable def f122 (Q : AV → St → Prop) (t0 : AV) (s : St) : Prop :=
  Bnd (bn .eql 9 t0 (.str [115, 116, 114, 46, 43, 43])) fun t5 =>
  IfP t5
  (Q (.int .i64 22) (adv s 5))
  (Bnd (bn .eql 9 t0 (.str [115, 116, 114, 46, 108, 101, 110])) fun t7 =>
  IfP t7
  (Q (.int .i64 23) (adv s 7))
  (Bnd (bn .eql 9 t0 (.str [115, 116, 114, 46, 97, 116])) fun t9 =>
  IfP t9
  (Q (.int .i64 24) (adv s 9))
  (Bnd (bn .eql 9 t0 (.str [115, 116, 114, 46, 115, 117, 98, 115, 116, 114])) fun t11 =>
  IfP t11
  (Q (.int .i64 25) (adv s 11))
  (Bnd (bn .eql 9 t0 (.str [115, 116, 114, 46, 112, 114, 101, 102, 105, 120, 111, 102])) fun t13 =>
  IfP t13
  (Q (.int .i64 26) (adv s 13))
  (Bnd (bn .eql 9 t0 (.str [115, 116, 114, 46, 115, 117, 102, 102, 105, 120, 111, 102])) fun t15 =>
  IfP t15
  (Q (.int .i64 27) (adv s 15))
  (Bnd (bn .eql 9 t0 (.str [115, 116, 114, 46, 99, 111, 110, 116, 97, 105, 110, 115])) fun t17 =>
  IfP t17
  (Q (.int .i64 28) (adv s 17))
  (Bnd (bn .eql 9 t0 (.str [115, 116, 114, 46, 105, 110, 100, 101, 120, 111, 102])) fun t19 =>
  IfP t19
  (Q (.int .i64 29) (adv s 19))
  (Bnd (bn .eql 9 t0 (.str [115, 116, 114, 46, 114, 101, 112, 108, 97, 99, 101])) fun t21 =>
  IfP t21
  (Q (.int .i64 30) (adv s 21))
  (f122j1 Q (adv s 20))))))))))
theorem f122_run (t0 : AV) (s : St) {Q : AV → St → Prop} (h : f122 Q t0 s) : ∃ r s', WideC Tryz.env 122 [t0] s r s' ∧ Q r s' :=
  wide_of (h := 122) (fn := Tryz.f122) (c := sub f122B []) (by kernel_rfl) (by kernel_rfl) (by kernel_rfl) (by kernel_rfl) (of_decide_eq_true (by kernel_rfl))
    (Eq.mp (Eq.trans (by kernel_rfl) (congrFun (congrFun (show f122C (sub f122B []) (f122R Q) (fun _ _ _ => False) (f122R Q) = _ from (seq_eq (by kernel_rfl : (sub f122B []) = .seq (sub f122B [false]) (sub f122B [true])) (seq_eq (by kernel_rfl : (sub f122B [true]) = .seq (sub f122B [true, false]) (sub f122B [true, true])) (f122j1_eq Q) (seq_eq (by kernel_rfl : (sub f122B [true, false]) = .seq (sub f122B [true, false, false]) (sub f122B [true, false, true])) (block_eq (by kernel_rfl : (sub f122B [true, false, true]) = .block 0 (sub f122B [true, false, true, false])) rfl) rfl)) rfl)).symm (gt (frame Tryz.f122 [t0]))) s)) h)
/-! 72 strings.HasPrefix -/
noncomputable abbrev f72B : Code := bodyOf Tryz.f72
noncomputable abbrev f72R (Q : AV → St → Prop) : Kt := fun g s => RetP (result Tryz.ty Tryz.f72 g s) fun v => Q v s
noncomputable abbrev f72C : Code → Kt → (Nat → Kt) → Kt → Kt := codeP Tryz.env 72 (Tryz.env.kp 72)
noncomputable def f72 (Q : AV → St → Prop) (t0 t1 : AV) (s : St) : Prop :=
  CallPu Tryz.env 123 [t0, t1] (adv s 5) fun t7 s1 =>
  Q t7 s1
theorem f72_run (t0 t1 : AV) (s : St) {Q : AV → St → Prop} (h : f72 Q t0 t1 s) : ∃ r s', WideC Tryz.env 72 [t0, t1] s r s' ∧ Q r s' :=
  wide_of (h := 72) (fn := Tryz.f72) (c := sub f72B []) (by kernel_rfl) (by kernel_rfl) (by kernel_rfl) (by kernel_rfl) (of_decide_eq_true (by kernel_rfl))
    (Eq.mp (Eq.trans (by kernel_rfl) (congrFun (congrFun (show f72C (sub f72B []) (f72R Q) (fun _ _ _ => False) (f72R Q) = _ from rfl).symm (gt (frame Tryz.f72 [t0, t1]))) s)) h)
/-! 123 internal/stringslite.HasPrefix -/
noncomputable abbrev f123B : Code := bodyOf Tryz.f123
noncomputable abbrev f123R (Q : AV → St → Prop) : Kt := fun g s => RetP (result Tryz.ty Tryz.f123 g s) fun v => Q v s
noncomputable abbrev f123C : Code → Kt → (Nat → Kt) → Kt → Kt := codeP Tryz.env 123 (Tryz.env.kp 123)
noncomputable def f123 (Q : AV → St → Prop) (t0 t1 : AV) (s : St) : Prop :=
  Bnd (bt .len #[9] [t0] (s.nx + 2) (adv s 15)) fun r6 =>
  Bnd (bt .len #[9] [t1] (s.nx + 4) r6.2) fun r8 =>
  Bnd (bn .geq 3 r6.1 r8.1) fun t9 =>
  Gd (wantV t9 true) r8.2 (fun k => k t0 r8.2) fun t11 s1 =>
  Gd (wantV t9 true) s1 (fun k => k t1 s1) fun t12 s2 =>
  Gd (wantV t9 true) s2 (fun k => Bnd (bt .len #[9] [t12] (s.nx + 9) s2) fun r => k r.1 r.2) fun t13 s3 =>
  Gd (wantV t9 true) s3 (fun k => Bnd (slc 9 t11 none (some t13) none s3) fun v => k v s3) fun t14 s4 =>
  Gd (wantV t9 true) s4 (fun k => k t1 s4) fun t15 s5 =>
  Gd (wantV t9 true) s5 (fun k => Bnd (bn .eql 9 t14 t15) fun v => k v s5) fun t16 s6 =>
  Bnd (pickV t9 t16 (.bool false)) fun t17 =>
  Q t17 s6
theorem f123_run (t0 t1 : AV) (s : St) {Q : AV → St → Prop} (h : f123 Q t0 t1 s) : ∃ r s', WideC Tryz.env 123 [t0, t1] s r s' ∧ Q r s' :=
  wide_of (h := 123) (fn := Tryz.f123) (c := sub f123B []) (by kernel_rfl) (by kernel_rfl) (by kernel_rfl) (by kernel_rfl) (of_decide_eq_true (by kernel_rfl))
    (Eq.mp (Eq.trans (by kernel_rfl) (congrFun (congrFun (show f123C (sub f123B []) (f123R Q) (fun _ _ _ => False) (f123R Q) = _ from rfl).symm (gt (frame Tryz.f123 [t0, t1]))) s)) h)
/-! 23 gudgeon/gudgeonref10.Operation -/
noncomputable abbrev f23B : Code := bodyOf Tryz.f23
noncomputable abbrev f23R (Q : AV → St → Prop) : Kt := fun g s => RetP (result Tryz.ty Tryz.f23 g s) fun v => Q v s
noncomputable abbrev f23C : Code → Kt → (Nat → Kt) → Kt → Kt := codeP Tryz.env 23 (Tryz.env.kp 23)
noncomputable def f23j1 (Q : AV → St → Prop) (s : St) : Prop :=
  Q (.int .i64 0) (adv s 1)
noncomputable def f23j2 (Q : AV → St → Prop) (ih1 : AV → AV → AV → St → Prop) (t6 t0 t5 : AV) (s : St) : Prop :=
  Bnd (bn .add 3 t6 (.int .i64 1)) fun t19 =>
  ih1 t0 t5 t19 (adv s 3)
noncomputable def f23l1s (Q : AV → St → Prop) (ih1 : AV → AV → AV → St → Prop) (t0 t5 t6 : AV) (s : St) : Prop :=
  Bnd (bt .len #[52] [t5] (s.nx + 2) (adv s 4)) fun r16 =>
  Bnd (bn .lss 3 t6 r16.1) fun t17 =>
  IfP t17
  (Bnd (ixS 1 t5 t6) fun t22 =>
  Bnd (ld 1 false t22 (adv r16.2 10)) fun t23 =>
  Bnd (bn .eql 9 t23 t0) fun t25 =>
  Gd (wantV t25 true) (adv r16.2 10) (fun k => k t0 (adv r16.2 10)) fun t27 s1 =>
  Gd (wantV t25 true) s1 (fun k => Bnd (bn .neq 9 t27 (.str [])) fun v => k v s1) fun t28 s2 =>
  Bnd (pickV t25 t28 (.bool false)) fun t29 =>
  IfP t29
  (Bnd (bn .add 3 (.int .i64 6) t6) fun t31 =>
  Q t31 (adv s2 3))
  (f23j2 Q ih1 t6 t0 t5 s2))
  (f23j1 Q r16.2)
noncomputable def f23l1 (Q : AV → St → Prop) (n : Nat) : AV → AV → AV → St → Prop := Nat.rec (motive := fun _ => AV → AV → AV → St → Prop) (fun _ _ _ _ => False) (fun _ ih => f23l1s Q ih) n
theorem f23j1_eq (Q : AV → St → Prop) : f23C (sub f23B [true, true, true, true]) (f23R Q) (fun _ _ _ => False) (f23R Q) = (fun g s => f23j1 Q s) :=
  Eq.trans rfl (by kernel_rfl)
theorem f23j2_eq (Q : AV → St → Prop) (n1 : Nat) : f23C (sub f23B [true, true, true, false, true, false, false, true, true]) (fun g s => (fun (n : Nat) (g : Gf) (s : St) => f23l1 Q n (g 0) (g 5) (g 6) s) n1 (fun k => cond (bitOf (Tryz.env.kp 23) k) (g k) .undef) s) (fun i => cond (Nat.beq i 0) (fun g s => f23j1 Q s) ((fun _ _ _ => False) i)) (f23R Q) = (fun g s => f23j2 Q (f23l1 Q n1) (g 6) (g 0) (g 5) s) :=
  Eq.trans rfl (by kernel_rfl)
theorem f23l1_eq (Q : AV → St → Prop) (kN : Kt) : f23C (sub f23B [true, true, true, false, true, false]) kN (fun i => cond (Nat.beq i 0) (fun g s => f23j1 Q s) ((fun _ _ _ => False) i)) (f23R Q) = fun g s => ∃ n, (fun (n : Nat) (g : Gf) (s : St) => f23l1 Q n (g 0) (g 5) (g 6) s) n g s :=
  loop_eq (L := fun (n : Nat) (g : Gf) (s : St) => f23l1 Q n (g 0) (g 5) (g 6) s) (by kernel_rfl : (sub f23B [true, true, true, false, true, false]) = .loop (sub f23B [true, true, true, false, true, false, false])) (by kernel_rfl) (fun n1 => Eq.trans (seq_eq (by kernel_rfl : (sub f23B [true, true, true, false, true, false, false]) = .seq (sub f23B [true, true, true, false, true, false, false, false]) (sub f23B [true, true, true, false, true, false, false, true])) (seq_eq (by kernel_rfl : (sub f23B [true, true, true, false, true, false, false, true]) = .seq (sub f23B [true, true, true, false, true, false, false, true, false]) (sub f23B [true, true, true, false, true, false, false, true, true])) (f23j2_eq Q n1) (block_eq (by kernel_rfl : (sub f23B [true, true, true, false, true, false, false, true, false]) = .block 1 (sub f23B [true, true, true, false, true, false, false, true, false, false])) rfl)) rfl) (by kernel_rfl))
noncomputable def f23 (Q : AV → St → Prop) (t0 t1 : AV) (s : St) : Prop :=
  Bnd (bn .eql 9 t0 (.str [45])) fun t8 =>
  Gd (wantV t8 true) (adv s 7) (fun k => k t1 (adv s 7)) fun t10 s1 =>
  Gd (wantV t8 true) s1 (fun k => Bnd (bn .eql 3 t10 (.int .i64 1)) fun v => k v s1) fun t11 s2 =>
  Bnd (pickV t8 t11 (.bool false)) fun t12 =>
  IfP t12
  (Q (.int .i64 14) (adv s2 1))
  (Bnd (bsl 52 25 [(0, (.str [110, 111, 116])), (1, (.str [97, 110, 100])), (2, (.str [111, 114])), (3, (.str [61, 62])), (4, (.str [120, 111, 114])), (5, (.str [61])), (6, (.str [100, 105, 115, 116, 105, 110, 99, 116])), (7, (.str [105, 116, 101])), (8, (.str [])), (9, (.str [43])), (10, (.str [45])), (11, (.str [42])), (12, (.str [60, 61])), (13, (.str [60])), (14, (.str [62, 61])), (15, (.str [62])), (16, (.str [115, 116, 114, 46, 43, 43])), (17, (.str [115, 116, 114, 46, 108, 101, 110])), (18, (.str [115, 116, 114, 46, 97, 116])), (19, (.str [115, 116, 114, 46, 115, 117, 98, 115, 116, 114])), (20, (.str [115, 116, 114, 46, 112, 114, 101, 102, 105, 120, 111, 102])), (21, (.str [115, 116, 114, 46, 115, 117, 102, 102, 105, 120, 111, 102])), (22, (.str [115, 116, 114, 46, 99, 111, 110, 116, 97, 105, 110, 115])), (23, (.str [115, 116, 114, 46, 105, 110, 100, 101, 120, 111, 102])), (24, (.str [115, 116, 114, 46, 114, 101, 112, 108, 97, 99, 101]))]) fun t13 =>
  ∃ n, f23l1 Q n t0 t13 (.int .i64 0) (adv s2 3))
theorem f23_run (t0 t1 : AV) (s : St) {Q : AV → St → Prop} (h : f23 Q t0 t1 s) : ∃ r s', WideC Tryz.env 23 [t0, t1] s r s' ∧ Q r s' :=
  wide_of (h := 23) (fn := Tryz.f23) (c := sub f23B []) (by kernel_rfl) (by kernel_rfl) (by kernel_rfl) (by kernel_rfl) (of_decide_eq_true (by kernel_rfl))
    (Eq.mp (Eq.trans (by kernel_rfl) (congrFun (congrFun (show f23C (sub f23B []) (f23R Q) (fun _ _ _ => False) (f23R Q) = _ from (seq_eq (by kernel_rfl : (sub f23B []) = .seq (sub f23B [false]) (sub f23B [true])) (seq_eq (by kernel_rfl : (sub f23B [true]) = .seq (sub f23B [true, false]) (sub f23B [true, true])) (seq_eq (by kernel_rfl : (sub f23B [true, true]) = .seq (sub f23B [true, true, false]) (sub f23B [true, true, true])) (seq_eq (by kernel_rfl : (sub f23B [true, true, true]) = .seq (sub f23B [true, true, true, false]) (sub f23B [true, true, true, true])) (f23j1_eq Q) (seq_eq (by kernel_rfl : (sub f23B [true, true, true, false]) = .seq (sub f23B [true, true, true, false, false]) (sub f23B [true, true, true, false, true])) (block_eq (by kernel_rfl : (sub f23B [true, true, true, false, true]) = .block 0 (sub f23B [true, true, true, false, true, false])) (f23l1_eq Q _)) rfl)) rfl) rfl) rfl)).symm (gt (frame Tryz.f23 [t0, t1]))) s)) h)
end Go.Proofs.YtdehdahimkcakaaGreatDoor
