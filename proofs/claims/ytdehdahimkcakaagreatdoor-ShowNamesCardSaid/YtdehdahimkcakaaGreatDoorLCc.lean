/- PRINTED BY wip/tools/lift.py out of the translation: functions as statements, and that they are so. -/
import Derived.Test.YtdehdahimkcakaaGreatDoorWords
set_option linter.unusedVariables false
set_option maxRecDepth 1000000
namespace Go.Proofs.YtdehdahimkcakaaGreatDoor
open Go Ai
/-! 158 slices.Grow[[]gudgeon/api.Sexp,gudgeon/api.Sexp] -/
noncomputable abbrev f158B : Code := bodyOf Tryz.f158
noncomputable abbrev f158R (Q : AV → St → Prop) : Kt := fun g s => RetP (result Tryz.ty Tryz.f158 g s) fun v => Q v s
noncomputable abbrev f158C : Code → Kt → (Nat → Kt) → Kt → Kt := codeP Tryz.env 158 (Tryz.env.kp 158)
noncomputable def f158j2 (Q : AV → St → Prop) (t0 : AV) (s : St) : Prop :=
  Q t0 (adv s 2)
noncomputable def f158j1 (Q : AV → St → Prop) (t1 t0 : AV) (s : St) : Prop :=
  Bnd (bt .cap #[31] [t0] (s.nx + 2) (adv s 8)) fun r10 =>
  Bnd (bt .len #[31] [t0] (s.nx + 4) r10.2) fun r12 =>
  Bnd (bn .sub 3 r10.1 r12.1) fun t13 =>
  Bnd (bn .sub 3 t1 t13) fun t14 =>
  Bnd (bn .gtr 3 t14 (.int .i64 0)) fun t16 =>
  IfP t16
  (Bnd (bt .cap #[31] [t0] (r12.2.nx + 4) (adv r12.2 12)) fun r19 =>
  Bnd (slc 31 t0 none (some r19.1) none r19.2) fun t20 =>
  Bnd (bt .append #[31, 3] [t20, t14] (r12.2.nx + 7) r19.2) fun r22 =>
  Bnd (bt .len #[31] [t0] (r12.2.nx + 9) r22.2) fun r24 =>
  Bnd (slc 31 r22.1 none (some r24.1) none r24.2) fun t25 =>
  f158j2 Q t25 r24.2)
  (f158j2 Q t0 (adv r12.2 2))
theorem f158j2_eq (Q : AV → St → Prop) : f158C (sub f158B [true, true, true]) (f158R Q) (fun _ _ _ => False) (f158R Q) = (fun g s => f158j2 Q (g 0) s) :=
  Eq.trans rfl (by kernel_rfl)
theorem f158j1_eq (Q : AV → St → Prop) : f158C (sub f158B [true, true]) (f158R Q) (fun _ _ _ => False) (f158R Q) = (fun g s => f158j1 Q (g 1) (g 0) s) :=
  Eq.trans (seq_eq (by kernel_rfl : (sub f158B [true, true]) = .seq (sub f158B [true, true, false]) (sub f158B [true, true, true])) (f158j2_eq Q) rfl) (by kernel_rfl)
noncomputable def f158 (Q : AV → St → Prop) (t0 t1 : AV) (s : St) : Prop :=
  Bnd (bn .lss 3 t1 (.int .i64 0)) fun t6 =>
  IfP t6
  (Bnd (mkI Tryz.ty 9 (.str [99, 97, 110, 110, 111, 116, 32, 98, 101, 32, 110, 101, 103, 97, 116, 105, 118, 101])) fun t7 =>
  Bnd (none : Option (AV × St)) fun rNone =>
  f158j1 Q t1 t0 rNone.2)
  (f158j1 Q t1 t0 (adv s 3))
theorem f158_run (t0 t1 : AV) (s : St) {Q : AV → St → Prop} (h : f158 Q t0 t1 s) : ∃ r s', WideC Tryz.env 158 [t0, t1] s r s' ∧ Q r s' :=
  wide_of (h := 158) (fn := Tryz.f158) (c := sub f158B []) (by kernel_rfl) (by kernel_rfl) (by kernel_rfl) (by kernel_rfl) (of_decide_eq_true (by kernel_rfl))
    (Eq.mp (Eq.trans (by kernel_rfl) (congrFun (congrFun (show f158C (sub f158B []) (f158R Q) (fun _ _ _ => False) (f158R Q) = _ from (seq_eq (by kernel_rfl : (sub f158B []) = .seq (sub f158B [false]) (sub f158B [true])) (seq_eq (by kernel_rfl : (sub f158B [true]) = .seq (sub f158B [true, false]) (sub f158B [true, true])) (f158j1_eq Q) rfl) rfl)).symm (gt (frame Tryz.f158 [t0, t1]))) s)) h)
/-! 109 slices.Concat[[]gudgeon/api.Sexp,gudgeon/api.Sexp] -/
noncomputable abbrev f109B : Code := bodyOf Tryz.f109
noncomputable abbrev f109R (Q : AV → St → Prop) : Kt := fun g s => RetP (result Tryz.ty Tryz.f109 g s) fun v => Q v s
noncomputable abbrev f109C : Code → Kt → (Nat → Kt) → Kt → Kt := codeP Tryz.env 109 (Tryz.env.kp 109)
noncomputable def f109j2 (Q : AV → St → Prop) (t6 : AV) (s : St) : Prop :=
  Q t6 (adv s 2)
noncomputable def f109j3 (Q : AV → St → Prop) (ih1 : AV → AV → AV → AV → St → Prop) (t27 t6 t25 t26 : AV) (s : St) : Prop :=
  Bnd (bn .add 3 t27 (.int .i64 1)) fun t34 =>
  ih1 t6 t25 t26 t34 (adv s 2)
noncomputable def f109l1s (Q : AV → St → Prop) (ih1 : AV → AV → AV → AV → St → Prop) (t6 t25 t26 t27 : AV) (s : St) : Prop :=
  Bnd (bn .lss 3 t27 t26) fun t28 =>
  IfP t28
  (Bnd (ixS 1 t25 t27) fun t29 =>
  Bnd (ld 1 false t29 (adv s 4)) fun t30 =>
  Bnd (bt .append #[31, 31] [t6, t30] (s.nx + 6) (adv s 8)) fun r33 =>
  f109j3 Q ih1 t27 r33.1 t25 t26 r33.2)
  (f109j2 Q t6 (adv s 1))
noncomputable def f109l1 (Q : AV → St → Prop) (n : Nat) : AV → AV → AV → AV → St → Prop := Nat.rec (motive := fun _ => AV → AV → AV → AV → St → Prop) (fun _ _ _ _ _ => False) (fun _ ih => f109l1s Q ih) n
noncomputable def f109j1 (Q : AV → St → Prop) (t3 t0 : AV) (s : St) : Prop :=
  CallWi Tryz.env 158 [.nils, t3] (adv s 3) fun t24 s1 =>
  Bnd (bt .len #[221] [t0] (s1.nx + 1) (adv s1 3)) fun r26 =>
  ∃ n, f109l1 Q n t24 t0 r26.1 (.int .i64 0) r26.2
noncomputable def f109j4 (Q : AV → St → Prop) (ih2 : AV → AV → AV → AV → AV → St → Prop) (t11 t0 t3 t9 t10 : AV) (s : St) : Prop :=
  Bnd (bn .add 3 t11 (.int .i64 1)) fun t22 =>
  ih2 t0 t3 t9 t10 t22 (adv s 2)
noncomputable def f109l2s (Q : AV → St → Prop) (ih2 : AV → AV → AV → AV → AV → St → Prop) (t0 t3 t9 t10 t11 : AV) (s : St) : Prop :=
  Bnd (bn .lss 3 t11 t10) fun t12 =>
  IfP t12
  (Bnd (ixS 1 t9 t11) fun t13 =>
  Bnd (ld 1 false t13 (adv s 4)) fun t14 =>
  Bnd (bt .len #[31] [t14] (s.nx + 6) (adv s 9)) fun r17 =>
  Bnd (bn .add 3 t3 r17.1) fun t18 =>
  Bnd (bn .lss 3 t18 (.int .i64 0)) fun t20 =>
  IfP t20
  (Bnd (mkI Tryz.ty 9 (.str [108, 101, 110, 32, 111, 117, 116, 32, 111, 102, 32, 114, 97, 110, 103, 101])) fun t21 =>
  Bnd (none : Option (AV × St)) fun rNone =>
  f109j4 Q ih2 t11 t0 t18 t9 t10 rNone.2)
  (f109j4 Q ih2 t11 t0 t18 t9 t10 (adv r17.2 2)))
  (f109j1 Q t3 t0 (adv s 1))
noncomputable def f109l2 (Q : AV → St → Prop) (n : Nat) : AV → AV → AV → AV → AV → St → Prop := Nat.rec (motive := fun _ => AV → AV → AV → AV → AV → St → Prop) (fun _ _ _ _ _ _ => False) (fun _ ih => f109l2s Q ih) n
theorem f109j2_eq (Q : AV → St → Prop) : f109C (sub f109B [true, true, true, true, true]) (f109R Q) (fun _ _ _ => False) (f109R Q) = (fun g s => f109j2 Q (g 6) s) :=
  Eq.trans rfl (by kernel_rfl)
theorem f109j3_eq (Q : AV → St → Prop) (n1 : Nat) : f109C (sub f109B [true, true, true, true, false, true, false, false, true, true, true]) (fun g s => (fun (n : Nat) (g : Gf) (s : St) => f109l1 Q n (g 6) (g 25) (g 26) (g 27) s) n1 (fun k => cond (bitOf (Tryz.env.kp 109) k) (g k) .undef) s) (fun i => cond (Nat.beq i 2) (fun g s => f109j2 Q (g 6) s) ((fun _ _ _ => False) i)) (f109R Q) = (fun g s => f109j3 Q (f109l1 Q n1) (g 27) (g 6) (g 25) (g 26) s) :=
  Eq.trans rfl (by kernel_rfl)
theorem f109l1_eq (Q : AV → St → Prop) (kN : Kt) : f109C (sub f109B [true, true, true, true, false, true, false]) kN (fun i => cond (Nat.beq i 2) (fun g s => f109j2 Q (g 6) s) ((fun _ _ _ => False) i)) (f109R Q) = fun g s => ∃ n, (fun (n : Nat) (g : Gf) (s : St) => f109l1 Q n (g 6) (g 25) (g 26) (g 27) s) n g s :=
  loop_eq (L := fun (n : Nat) (g : Gf) (s : St) => f109l1 Q n (g 6) (g 25) (g 26) (g 27) s) (by kernel_rfl : (sub f109B [true, true, true, true, false, true, false]) = .loop (sub f109B [true, true, true, true, false, true, false, false])) (by kernel_rfl) (fun n1 => Eq.trans (seq_eq (by kernel_rfl : (sub f109B [true, true, true, true, false, true, false, false]) = .seq (sub f109B [true, true, true, true, false, true, false, false, false]) (sub f109B [true, true, true, true, false, true, false, false, true])) (seq_eq (by kernel_rfl : (sub f109B [true, true, true, true, false, true, false, false, true]) = .seq (sub f109B [true, true, true, true, false, true, false, false, true, false]) (sub f109B [true, true, true, true, false, true, false, false, true, true])) (seq_eq (by kernel_rfl : (sub f109B [true, true, true, true, false, true, false, false, true, true]) = .seq (sub f109B [true, true, true, true, false, true, false, false, true, true, false]) (sub f109B [true, true, true, true, false, true, false, false, true, true, true])) (f109j3_eq Q n1) (block_eq (by kernel_rfl : (sub f109B [true, true, true, true, false, true, false, false, true, true, false]) = .block 3 (sub f109B [true, true, true, true, false, true, false, false, true, true, false, false])) rfl)) rfl) rfl) (by kernel_rfl))
theorem f109j1_eq (Q : AV → St → Prop) : f109C (sub f109B [true, true, true]) (f109R Q) (fun _ _ _ => False) (f109R Q) = (fun g s => f109j1 Q (g 3) (g 0) s) :=
  Eq.trans (seq_eq (by kernel_rfl : (sub f109B [true, true, true]) = .seq (sub f109B [true, true, true, false]) (sub f109B [true, true, true, true])) (seq_eq (by kernel_rfl : (sub f109B [true, true, true, true]) = .seq (sub f109B [true, true, true, true, false]) (sub f109B [true, true, true, true, true])) (f109j2_eq Q) (seq_eq (by kernel_rfl : (sub f109B [true, true, true, true, false]) = .seq (sub f109B [true, true, true, true, false, false]) (sub f109B [true, true, true, true, false, true])) (block_eq (by kernel_rfl : (sub f109B [true, true, true, true, false, true]) = .block 2 (sub f109B [true, true, true, true, false, true, false])) (f109l1_eq Q _)) rfl)) rfl) (by kernel_rfl)
theorem f109j4_eq (Q : AV → St → Prop) (n2 : Nat) : f109C (sub f109B [true, true, false, true, false, false, true, true, true]) (fun g s => (fun (n : Nat) (g : Gf) (s : St) => f109l2 Q n (g 0) (g 3) (g 9) (g 10) (g 11) s) n2 (fun k => cond (bitOf (Tryz.env.kp 109) k) (g k) .undef) s) (fun i => cond (Nat.beq i 0) (fun g s => f109j1 Q (g 3) (g 0) s) ((fun _ _ _ => False) i)) (f109R Q) = (fun g s => f109j4 Q (f109l2 Q n2) (g 11) (g 0) (g 3) (g 9) (g 10) s) :=
  Eq.trans rfl (by kernel_rfl)
theorem f109l2_eq (Q : AV → St → Prop) (kN : Kt) : f109C (sub f109B [true, true, false, true, false]) kN (fun i => cond (Nat.beq i 0) (fun g s => f109j1 Q (g 3) (g 0) s) ((fun _ _ _ => False) i)) (f109R Q) = fun g s => ∃ n, (fun (n : Nat) (g : Gf) (s : St) => f109l2 Q n (g 0) (g 3) (g 9) (g 10) (g 11) s) n g s :=
  loop_eq (L := fun (n : Nat) (g : Gf) (s : St) => f109l2 Q n (g 0) (g 3) (g 9) (g 10) (g 11) s) (by kernel_rfl : (sub f109B [true, true, false, true, false]) = .loop (sub f109B [true, true, false, true, false, false])) (by kernel_rfl) (fun n2 => Eq.trans (seq_eq (by kernel_rfl : (sub f109B [true, true, false, true, false, false]) = .seq (sub f109B [true, true, false, true, false, false, false]) (sub f109B [true, true, false, true, false, false, true])) (seq_eq (by kernel_rfl : (sub f109B [true, true, false, true, false, false, true]) = .seq (sub f109B [true, true, false, true, false, false, true, false]) (sub f109B [true, true, false, true, false, false, true, true])) (seq_eq (by kernel_rfl : (sub f109B [true, true, false, true, false, false, true, true]) = .seq (sub f109B [true, true, false, true, false, false, true, true, false]) (sub f109B [true, true, false, true, false, false, true, true, true])) (f109j4_eq Q n2) (block_eq (by kernel_rfl : (sub f109B [true, true, false, true, false, false, true, true, false]) = .block 1 (sub f109B [true, true, false, true, false, false, true, true, false, false])) rfl)) rfl) rfl) (by kernel_rfl))
noncomputable def f109 (Q : AV → St → Prop) (t0 : AV) (s : St) : Prop :=
  Bnd (bt .len #[221] [t0] (s.nx + 3) (adv s 5)) fun r10 =>
  ∃ n, f109l2 Q n t0 (.int .i64 0) t0 r10.1 (.int .i64 0) r10.2
theorem f109_run (t0 : AV) (s : St) {Q : AV → St → Prop} (h : f109 Q t0 s) : ∃ r s', WideC Tryz.env 109 [t0] s r s' ∧ Q r s' :=
  wide_of (h := 109) (fn := Tryz.f109) (c := sub f109B []) (by kernel_rfl) (by kernel_rfl) (by kernel_rfl) (by kernel_rfl) (of_decide_eq_true (by kernel_rfl))
    (Eq.mp (Eq.trans (by kernel_rfl) (congrFun (congrFun (show f109C (sub f109B []) (f109R Q) (fun _ _ _ => False) (f109R Q) = _ from (seq_eq (by kernel_rfl : (sub f109B []) = .seq (sub f109B [false]) (sub f109B [true])) (seq_eq (by kernel_rfl : (sub f109B [true]) = .seq (sub f109B [true, false]) (sub f109B [true, true])) (seq_eq (by kernel_rfl : (sub f109B [true, true]) = .seq (sub f109B [true, true, false]) (sub f109B [true, true, true])) (f109j1_eq Q) (seq_eq (by kernel_rfl : (sub f109B [true, true, false]) = .seq (sub f109B [true, true, false, false]) (sub f109B [true, true, false, true])) (block_eq (by kernel_rfl : (sub f109B [true, true, false, true]) = .block 0 (sub f109B [true, true, false, true, false])) (f109l2_eq Q _)) rfl)) rfl) rfl)).symm (gt (frame Tryz.f109 [t0]))) s)) h)
/-! 57 gudgeon/show.list -/
noncomputable abbrev f57B : Code := bodyOf Tryz.f57
noncomputable abbrev f57R (Q : AV → St → Prop) : Kt := fun g s => RetP (result Tryz.ty Tryz.f57 g s) fun v => Q v s
noncomputable abbrev f57C : Code → Kt → (Nat → Kt) → Kt → Kt := codeP Tryz.env 57 (Tryz.env.kp 57)
noncomputable def f57 (Q : AV → St → Prop) (t0 t1 : AV) (s : St) : Prop :=
  Bnd (zr 33) fun z4 =>
  CallPu Tryz.env 56 [t0] (adv ((adv s 1).set s.nx (some (.cells z4.cells 33 true true))) 8) fun t6 s1 =>
  Bnd (bsl 31 1 [(0, t6)]) fun t7 =>
  Bnd (bsl 221 2 [(0, t7), (1, t1)]) fun t9 =>
  CallPu Tryz.env 109 [t9] s1 fun t10 s2 =>
  Bnd (bld 33 [(0, (.bool true)), (3, t10)]) fun t11 =>
  Bnd (sto 6 (.ptr s.nx 0) t11 s2) fun s3 =>
  RetP ((resC [ld 6 true (.ptr s.nx 0) s3]).map tupV) fun v => Q v s3
theorem f57_run (t0 t1 : AV) (s : St) {Q : AV → St → Prop} (h : f57 Q t0 t1 s) : ∃ r s', WideC Tryz.env 57 [t0, t1] s r s' ∧ Q r s' :=
  wide_of (h := 57) (fn := Tryz.f57) (c := sub f57B []) (by kernel_rfl) (by kernel_rfl) (by kernel_rfl) (by kernel_rfl) (of_decide_eq_true (by kernel_rfl))
    (Eq.mp (Eq.trans (by kernel_rfl) (congrFun (congrFun (show f57C (sub f57B []) (f57R Q) (fun _ _ _ => False) (f57R Q) = _ from rfl).symm (gt (frame Tryz.f57 [t0, t1]))) s)) h)
end Go.Proofs.YtdehdahimkcakaaGreatDoor
