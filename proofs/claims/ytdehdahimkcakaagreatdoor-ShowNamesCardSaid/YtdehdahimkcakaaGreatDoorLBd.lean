/- PRINTED BY wip/tools/lift.py out of the translation: functions as statements, and that they are so. -/
import Derived.Test.YtdehdahimkcakaaGreatDoorWords
set_option linter.unusedVariables false
set_option maxRecDepth 1000000
namespace Go.Proofs.YtdehdahimkcakaaGreatDoor
open Go Ai
/-! 157 (*strings.Builder).WriteByte -/
noncomputable abbrev f157B : Code := bodyOf Tryz.f157
noncomputable abbrev f157R (Q : AV → St → Prop) : Kt := fun g s => RetP (result Tryz.ty Tryz.f157 g s) fun v => Q v s
noncomputable abbrev f157C : Code → Kt → (Nat → Kt) → Kt → Kt := codeP Tryz.env 157 (Tryz.env.kp 157)
noncomputable def f157 (Q : AV → St → Prop) (t0 t1 : AV) (s : St) : Prop :=
  CallWi Tryz.env 202 [t0] (adv s 3) fun t6 s1 =>
  (nilOk t0 = true ∧
  Bnd (shiftP 1 t0) fun t10 =>
  Bnd (ld 1 false t10 (adv s1 11)) fun t11 =>
  Bnd (bsl 161 1 [(0, t1)]) fun t13 =>
  Bnd (bt .append #[161, 161] [t11, t13] (s1.nx + 7) (adv s1 11)) fun r14 =>
  (nilOk t0 = true ∧
  Bnd (shiftP 1 t0) fun t16 =>
  Bnd (sto 1 t16 r14.1 r14.2) fun s2 =>
  Q .nili (adv s2 1)))
theorem f157_run (t0 t1 : AV) (s : St) {Q : AV → St → Prop} (h : f157 Q t0 t1 s) : ∃ r s', WideC Tryz.env 157 [t0, t1] s r s' ∧ Q r s' :=
  wide_of (h := 157) (fn := Tryz.f157) (c := sub f157B []) (by kernel_rfl) (by kernel_rfl) (by kernel_rfl) (by kernel_rfl) (of_decide_eq_true (by kernel_rfl))
    (Eq.mp (Eq.trans (by kernel_rfl) (congrFun (congrFun (show f157C (sub f157B []) (f157R Q) (fun _ _ _ => False) (f157R Q) = _ from rfl).symm (gt (frame Tryz.f157 [t0, t1]))) s)) h)
/-! 156 (*strings.Builder).WriteString -/
noncomputable abbrev f156B : Code := bodyOf Tryz.f156
noncomputable abbrev f156R (Q : AV → St → Prop) : Kt := fun g s => RetP (result Tryz.ty Tryz.f156 g s) fun v => Q v s
noncomputable abbrev f156C : Code → Kt → (Nat → Kt) → Kt → Kt := codeP Tryz.env 156 (Tryz.env.kp 156)
noncomputable def f156 (Q : AV → St → Prop) (t0 t1 : AV) (s : St) : Prop :=
  CallWi Tryz.env 202 [t0] (adv s 4) fun t7 s1 =>
  (nilOk t0 = true ∧
  Bnd (shiftP 1 t0) fun t11 =>
  Bnd (ld 1 false t11 (adv s1 10)) fun t12 =>
  Bnd (bt .append #[161, 9] [t12, t1] (s1.nx + 6) (adv s1 10)) fun r14 =>
  (nilOk t0 = true ∧
  Bnd (shiftP 1 t0) fun t16 =>
  Bnd (sto 1 t16 r14.1 r14.2) fun s2 =>
  Bnd (bt .len #[9] [t1] (s2.nx + 1) (adv s2 4)) fun r18 =>
  Q (.tup [r18.1, .nili]) r18.2))
theorem f156_run (t0 t1 : AV) (s : St) {Q : AV → St → Prop} (h : f156 Q t0 t1 s) : ∃ r s', WideC Tryz.env 156 [t0, t1] s r s' ∧ Q r s' :=
  wide_of (h := 156) (fn := Tryz.f156) (c := sub f156B []) (by kernel_rfl) (by kernel_rfl) (by kernel_rfl) (by kernel_rfl) (of_decide_eq_true (by kernel_rfl))
    (Eq.mp (Eq.trans (by kernel_rfl) (congrFun (congrFun (show f156C (sub f156B []) (f156R Q) (fun _ _ _ => False) (f156R Q) = _ from rfl).symm (gt (frame Tryz.f156 [t0, t1]))) s)) h)
/-! 108 (*strings.Builder).String -/
noncomputable abbrev f108B : Code := bodyOf Tryz.f108
noncomputable abbrev f108R (Q : AV → St → Prop) : Kt := fun g s => RetP (result Tryz.ty Tryz.f108 g s) fun v => Q v s
noncomputable abbrev f108C : Code → Kt → (Nat → Kt) → Kt → Kt := codeP Tryz.env 108 (Tryz.env.kp 108)
noncomputable def f108 (Q : AV → St → Prop) (t0 : AV) (s : St) : Prop :=
  (nilOk t0 = true ∧
  Bnd (shiftP 1 t0) fun t5 =>
  Bnd (ld 1 false t5 (adv s 13)) fun t6 =>
  Bnd (bt .unsafeSliceData #[161] [t6] (s.nx + 5) (adv s 13)) fun r7 =>
  (nilOk t0 = true ∧
  Bnd (shiftP 1 t0) fun t10 =>
  Bnd (ld 1 false t10 r7.2) fun t11 =>
  Bnd (bt .len #[161] [t11] (s.nx + 10) r7.2) fun r12 =>
  (r12.2.h (s.nx + 11) = none ∧ Bnd (bt .unsafeString #[220, 3] [r7.1, r12.1] (s.nx + 11) r12.2) fun r13 =>
  Q r13.1 r13.2)))
theorem f108_run (t0 : AV) (s : St) {Q : AV → St → Prop} (h : f108 Q t0 s) : ∃ r s', WideC Tryz.env 108 [t0] s r s' ∧ Q r s' :=
  wide_of (h := 108) (fn := Tryz.f108) (c := sub f108B []) (by kernel_rfl) (by kernel_rfl) (by kernel_rfl) (by kernel_rfl) (of_decide_eq_true (by kernel_rfl))
    (Eq.mp (Eq.trans (by kernel_rfl) (congrFun (congrFun (show f108C (sub f108B []) (f108R Q) (fun _ _ _ => False) (f108R Q) = _ from rfl).symm (gt (frame Tryz.f108 [t0]))) s)) h)
/-! 202 (*strings.Builder).copyCheck -/
noncomputable abbrev f202B : Code := bodyOf Tryz.f202
noncomputable abbrev f202R (Q : AV → St → Prop) : Kt := fun g s => RetP (result Tryz.ty Tryz.f202 g s) fun v => Q v s
noncomputable abbrev f202C : Code → Kt → (Nat → Kt) → Kt → Kt := codeP Tryz.env 202 (Tryz.env.kp 202)
noncomputable def f202 (Q : AV → St → Prop) (t0 : AV) (s : St) : Prop :=
  (nilOk t0 = true ∧
  Bnd (shiftP 0 t0) fun t4 =>
  Bnd (ld 1 false t4 (adv s 5)) fun t5 =>
  Bnd (bn .eql 160 t5 .nilp) fun t6 =>
  IfP t6
  (Bnd (cv 160 288 t0 (adv s 13)) fun t9 =>
  CallWi Tryz.env 232 [t9] (adv s 13) fun t10 s1 =>
  Bnd (cv 288 160 t10 s1) fun t11 =>
  (nilOk t0 = true ∧
  Bnd (shiftP 0 t0) fun t13 =>
  Bnd (sto 1 t13 t11 s1) fun s2 =>
  Q (.tup []) s2))
  ((nilOk t0 = true ∧
  Bnd (shiftP 0 t0) fun t16 =>
  Bnd (ld 1 false t16 (adv s 11)) fun t17 =>
  Bnd (bn .neq 160 t17 t0) fun t19 =>
  IfP t19
  (False)
  (Q (.tup []) (adv s 11)))))
theorem f202_run (t0 : AV) (s : St) {Q : AV → St → Prop} (h : f202 Q t0 s) : ∃ r s', WideC Tryz.env 202 [t0] s r s' ∧ Q r s' :=
  wide_of (h := 202) (fn := Tryz.f202) (c := sub f202B []) (by kernel_rfl) (by kernel_rfl) (by kernel_rfl) (by kernel_rfl) (of_decide_eq_true (by kernel_rfl))
    (Eq.mp (Eq.trans (by kernel_rfl) (congrFun (congrFun (show f202C (sub f202B []) (f202R Q) (fun _ _ _ => False) (f202R Q) = _ from rfl).symm (gt (frame Tryz.f202 [t0]))) s)) h)
/-! 167 gudgeon/lit.Escape -/
noncomputable abbrev f167B : Code := bodyOf Tryz.f167
noncomputable abbrev f167R (Q : AV → St → Prop) : Kt := fun g s => RetP (result Tryz.ty Tryz.f167 g s) fun v => Q v s
noncomputable abbrev f167C : Code → Kt → (Nat → Kt) → Kt → Kt := codeP Tryz.env 167 (Tryz.env.kp 167)
noncomputable def f167j1 (Q : AV → St → Prop) (t4 : AV) (s : St) : Prop :=
  CallWi Tryz.env 108 [t4] (adv s 3) fun t37 s1 =>
  Q (.tup [t37, (.int .i64 0)]) s1
noncomputable def f167j2 (Q : AV → St → Prop) (ih1 : AV → AV → AV → AV → St → Prop) (t9 t4 t7 t8 : AV) (s : St) : Prop :=
  Bnd (bn .add 3 t9 (.int .i64 1)) fun t36 =>
  ih1 t4 t7 t8 t36 (adv s 2)
noncomputable def f167l1s (Q : AV → St → Prop) (ih1 : AV → AV → AV → AV → St → Prop) (t4 t7 t8 t9 : AV) (s : St) : Prop :=
  Bnd (bn .lss 3 t9 t8) fun t10 =>
  IfP t10
  (Bnd (ixS 1 t7 t9) fun t11 =>
  Bnd (ld 1 false t11 (adv s 4)) fun t12 =>
  CallPu Tryz.env 181 [t12] (adv s 8) fun t20 s1 =>
  Bnd (un .not t20) fun t21 =>
  IfP t21
  (Q (.tup [(.str []), (.int .i64 1)]) (adv s1 2))
  (Bnd (bn .geq 3 t12 (.int .i64 32)) fun t24 =>
  Gd (wantV t24 true) (adv s1 11) (fun k => k t12 (adv s1 11)) fun t26 s2 =>
  Gd (wantV t24 true) s2 (fun k => Bnd (bn .leq 3 t26 (.int .i64 126)) fun v => k v s2) fun t27 s3 =>
  Bnd (pickV t24 t27 (.bool false)) fun t28 =>
  Gd (wantV t28 true) s3 (fun k => k t12 s3) fun t30 s4 =>
  Gd (wantV t28 true) s4 (fun k => Bnd (bn .neq 3 t30 (.int .i64 92)) fun v => k v s4) fun t31 s5 =>
  Bnd (pickV t28 t31 (.bool false)) fun t32 =>
  IfP t32
  (Bnd (cv 3 5 t12 (adv s5 3)) fun t34 =>
  CallWi Tryz.env 157 [t4, t34] (adv s5 3) fun t35 s6 =>
  f167j2 Q ih1 t9 t4 t7 t8 s6)
  (CallPu Tryz.env 207 [t12, (.int .i64 16)] (adv s5 5) fun t14 s7 =>
  Bnd (bn .add 9 (.str [92, 117, 123]) t14) fun t15 =>
  Bnd (bn .add 9 t15 (.str [125])) fun t16 =>
  CallWi Tryz.env 156 [t4, t16] s7 fun t17 s8 =>
  f167j2 Q ih1 t9 t4 t7 t8 s8)))
  (f167j1 Q t4 (adv s 1))
noncomputable def f167l1 (Q : AV → St → Prop) (n : Nat) : AV → AV → AV → AV → St → Prop := Nat.rec (motive := fun _ => AV → AV → AV → AV → St → Prop) (fun _ _ _ _ _ => False) (fun _ ih => f167l1s Q ih) n
theorem f167j1_eq (Q : AV → St → Prop) : f167C (sub f167B [true, true, true]) (f167R Q) (fun _ _ _ => False) (f167R Q) = (fun g s => f167j1 Q (g 4) s) :=
  Eq.trans rfl (by kernel_rfl)
theorem f167j2_eq (Q : AV → St → Prop) (n1 : Nat) : f167C (sub f167B [true, true, false, true, false, false, true, true, true]) (fun g s => (fun (n : Nat) (g : Gf) (s : St) => f167l1 Q n (g 4) (g 7) (g 8) (g 9) s) n1 (fun k => cond (bitOf (Tryz.env.kp 167) k) (g k) .undef) s) (fun i => cond (Nat.beq i 0) (fun g s => f167j1 Q (g 4) s) ((fun _ _ _ => False) i)) (f167R Q) = (fun g s => f167j2 Q (f167l1 Q n1) (g 9) (g 4) (g 7) (g 8) s) :=
  Eq.trans rfl (by kernel_rfl)
theorem f167l1_eq (Q : AV → St → Prop) (kN : Kt) : f167C (sub f167B [true, true, false, true, false]) kN (fun i => cond (Nat.beq i 0) (fun g s => f167j1 Q (g 4) s) ((fun _ _ _ => False) i)) (f167R Q) = fun g s => ∃ n, (fun (n : Nat) (g : Gf) (s : St) => f167l1 Q n (g 4) (g 7) (g 8) (g 9) s) n g s :=
  loop_eq (L := fun (n : Nat) (g : Gf) (s : St) => f167l1 Q n (g 4) (g 7) (g 8) (g 9) s) (by kernel_rfl : (sub f167B [true, true, false, true, false]) = .loop (sub f167B [true, true, false, true, false, false])) (by kernel_rfl) (fun n1 => Eq.trans (seq_eq (by kernel_rfl : (sub f167B [true, true, false, true, false, false]) = .seq (sub f167B [true, true, false, true, false, false, false]) (sub f167B [true, true, false, true, false, false, true])) (seq_eq (by kernel_rfl : (sub f167B [true, true, false, true, false, false, true]) = .seq (sub f167B [true, true, false, true, false, false, true, false]) (sub f167B [true, true, false, true, false, false, true, true])) (seq_eq (by kernel_rfl : (sub f167B [true, true, false, true, false, false, true, true]) = .seq (sub f167B [true, true, false, true, false, false, true, true, false]) (sub f167B [true, true, false, true, false, false, true, true, true])) (f167j2_eq Q n1) (block_eq (by kernel_rfl : (sub f167B [true, true, false, true, false, false, true, true, false]) = .block 1 (sub f167B [true, true, false, true, false, false, true, true, false, false])) (seq_eq (by kernel_rfl : (sub f167B [true, true, false, true, false, false, true, true, false, false]) = .seq (sub f167B [true, true, false, true, false, false, true, true, false, false, false]) (sub f167B [true, true, false, true, false, false, true, true, false, false, true])) (block_eq (by kernel_rfl : (sub f167B [true, true, false, true, false, false, true, true, false, false, true]) = .block 2 (sub f167B [true, true, false, true, false, false, true, true, false, false, true, false])) rfl) rfl))) rfl) rfl) (by kernel_rfl))
noncomputable def f167 (Q : AV → St → Prop) (t0 : AV) (s : St) : Prop :=
  Bnd (zr 163) fun z4 =>
  Bnd (bt .len #[72] [t0] (((adv s 3).set (s.nx + 2) (some (.cells z4.cells 163 true true))).nx + 1) (adv ((adv s 3).set (s.nx + 2) (some (.cells z4.cells 163 true true))) 3)) fun r8 =>
  ∃ n, f167l1 Q n (.ptr (s.nx + 2) 0) t0 r8.1 (.int .i64 0) r8.2
theorem f167_run (t0 : AV) (s : St) {Q : AV → St → Prop} (h : f167 Q t0 s) : ∃ r s', WideC Tryz.env 167 [t0] s r s' ∧ Q r s' :=
  wide_of (h := 167) (fn := Tryz.f167) (c := sub f167B []) (by kernel_rfl) (by kernel_rfl) (by kernel_rfl) (by kernel_rfl) (of_decide_eq_true (by kernel_rfl))
    (Eq.mp (Eq.trans (by kernel_rfl) (congrFun (congrFun (show f167C (sub f167B []) (f167R Q) (fun _ _ _ => False) (f167R Q) = _ from (seq_eq (by kernel_rfl : (sub f167B []) = .seq (sub f167B [false]) (sub f167B [true])) (seq_eq (by kernel_rfl : (sub f167B [true]) = .seq (sub f167B [true, false]) (sub f167B [true, true])) (seq_eq (by kernel_rfl : (sub f167B [true, true]) = .seq (sub f167B [true, true, false]) (sub f167B [true, true, true])) (f167j1_eq Q) (seq_eq (by kernel_rfl : (sub f167B [true, true, false]) = .seq (sub f167B [true, true, false, false]) (sub f167B [true, true, false, true])) (block_eq (by kernel_rfl : (sub f167B [true, true, false, true]) = .block 0 (sub f167B [true, true, false, true, false])) (f167l1_eq Q _)) rfl)) rfl) rfl)).symm (gt (frame Tryz.f167 [t0]))) s)) h)
end Go.Proofs.YtdehdahimkcakaaGreatDoor
