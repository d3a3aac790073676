/- PRINTED BY wip/tools/lift.py out of the translation: functions as statements, and that they are so. -/
import Derived.Test.YtdehdahimkcakaaGreatDoorWords
set_option linter.unusedVariables false
set_option maxRecDepth 1000000
namespace Go.Proofs.YtdehdahimkcakaaGreatDoor
open Go Ai
/-! 246 gudgeon/lit.hex -/
noncomputable abbrev f246B : Code := bodyOf Tryz.f246
noncomputable abbrev f246R (Q : AV → St → Prop) : Kt := fun g s => RetP (result Tryz.ty Tryz.f246 g s) fun v => Q v s
noncomputable abbrev f246C : Code → Kt → (Nat → Kt) → Kt → Kt := codeP Tryz.env 246 (Tryz.env.kp 246)
noncomputable def f246j1 (Q : AV → St → Prop) (s : St) : Prop :=
  Q (.int .i64 (-1)) (adv s 1)
theorem f246j1_eq (Q : AV → St → Prop) : f246C (sub f246B [true, true]) (f246R Q) (fun _ _ _ => False) (f246R Q) = (fun g s => f246j1 Q s) :=
  Eq.trans rfl (by kernel_rfl)
noncomputable def f246 (Q : AV → St → Prop) (t0 : AV) (s : St) : Prop :=
  Bnd (bn .geq 5 t0 (.int .u8 48)) fun t5 =>
  Gd (wantV t5 true) (adv s 8) (fun k => k t0 (adv s 8)) fun t7 s1 =>
  Gd (wantV t5 true) s1 (fun k => Bnd (bn .leq 5 t7 (.int .u8 57)) fun v => k v s1) fun t8 s2 =>
  Bnd (pickV t5 t8 (.bool false)) fun t9 =>
  IfP t9
  (Bnd (bn .sub 5 t0 (.int .u8 48)) fun t11 =>
  Bnd (cv 5 3 t11 (adv s2 4)) fun t12 =>
  Q t12 (adv s2 4))
  (Bnd (bn .geq 5 t0 (.int .u8 97)) fun t15 =>
  Gd (wantV t15 true) (adv s2 7) (fun k => k t0 (adv s2 7)) fun t17 s3 =>
  Gd (wantV t15 true) s3 (fun k => Bnd (bn .leq 5 t17 (.int .u8 102)) fun v => k v s3) fun t18 s4 =>
  Bnd (pickV t15 t18 (.bool false)) fun t19 =>
  IfP t19
  (Bnd (bn .sub 5 t0 (.int .u8 97)) fun t21 =>
  Bnd (cv 5 3 t21 (adv s4 5)) fun t22 =>
  Bnd (bn .add 3 t22 (.int .i64 10)) fun t23 =>
  Q t23 (adv s4 5))
  (Bnd (bn .geq 5 t0 (.int .u8 65)) fun t26 =>
  Gd (wantV t26 true) (adv s4 7) (fun k => k t0 (adv s4 7)) fun t28 s5 =>
  Gd (wantV t26 true) s5 (fun k => Bnd (bn .leq 5 t28 (.int .u8 70)) fun v => k v s5) fun t29 s6 =>
  Bnd (pickV t26 t29 (.bool false)) fun t30 =>
  IfP t30
  (Bnd (bn .sub 5 t0 (.int .u8 65)) fun t32 =>
  Bnd (cv 5 3 t32 (adv s6 5)) fun t33 =>
  Bnd (bn .add 3 t33 (.int .i64 10)) fun t34 =>
  Q t34 (adv s6 5))
  (f246j1 Q s6)))
theorem f246_run (t0 : AV) (s : St) {Q : AV → St → Prop} (h : f246 Q t0 s) : ∃ r s', WideC Tryz.env 246 [t0] s r s' ∧ Q r s' :=
  wide_of (h := 246) (fn := Tryz.f246) (c := sub f246B []) (by kernel_rfl) (by kernel_rfl) (by kernel_rfl) (by kernel_rfl) (of_decide_eq_true (by kernel_rfl))
    (Eq.mp (Eq.trans (by kernel_rfl) (congrFun (congrFun (show f246C (sub f246B []) (f246R Q) (fun _ _ _ => False) (f246R Q) = _ from (seq_eq (by kernel_rfl : (sub f246B []) = .seq (sub f246B [false]) (sub f246B [true])) (seq_eq (by kernel_rfl : (sub f246B [true]) = .seq (sub f246B [true, false]) (sub f246B [true, true])) (f246j1_eq Q) (block_eq (by kernel_rfl : (sub f246B [true, false]) = .block 0 (sub f246B [true, false, false])) rfl)) rfl)).symm (gt (frame Tryz.f246 [t0]))) s)) h)
/-! 217 gudgeon/lit.number -/
noncomputable abbrev f217B : Code := bodyOf Tryz.f217
noncomputable abbrev f217R (Q : AV → St → Prop) : Kt := fun g s => RetP (result Tryz.ty Tryz.f217 g s) fun v => Q v s
noncomputable abbrev f217C : Code → Kt → (Nat → Kt) → Kt → Kt := codeP Tryz.env 217 (Tryz.env.kp 217)
noncomputable def f217j1 (Q : AV → St → Prop) (t0 t3 : AV) (s : St) : Prop :=
  Bnd (bn .eql 9 t0 (.str [])) fun t23 =>
  Gd (wantV t23 false) (adv s 6) (fun k => k t3 (adv s 6)) fun t25 s1 =>
  Gd (wantV t23 false) s1 (fun k => Bnd (bn .gtr 3 t25 (.int .i64 196607)) fun v => k v s1) fun t26 s2 =>
  Bnd (pickV t23 (.bool true) t26) fun t27 =>
  IfP t27
  (Q (.int .i64 (-1)) (adv s2 1))
  (Q t3 (adv s2 2))
noncomputable def f217j2 (Q : AV → St → Prop) (ih1 : AV → AV → AV → AV → St → Prop) (t8 t0 t3 t7 : AV) (s : St) : Prop :=
  Bnd (bn .add 3 t8 (.int .i64 1)) fun t21 =>
  ih1 t0 t3 t7 t21 (adv s 2)
noncomputable def f217l1s (Q : AV → St → Prop) (ih1 : AV → AV → AV → AV → St → Prop) (t0 t3 t7 t8 : AV) (s : St) : Prop :=
  Bnd (bn .lss 3 t8 t7) fun t9 =>
  IfP t9
  (Bnd (ixa 9 t0 t8) fun t13 =>
  CallPu Tryz.env 246 [t13] (adv s 8) fun t14 s1 =>
  Bnd (bn .lss 3 t14 (.int .i64 0)) fun t16 =>
  IfP t16
  (Q (.int .i64 (-1)) (adv s1 3))
  (Bnd (bn .mul 3 (.int .i64 16) t3) fun t18 =>
  Bnd (bn .add 3 t18 t14) fun t20 =>
  f217j2 Q ih1 t8 t0 t20 t7 (adv s1 7)))
  (f217j1 Q t0 t3 (adv s 1))
noncomputable def f217l1 (Q : AV → St → Prop) (n : Nat) : AV → AV → AV → AV → St → Prop := Nat.rec (motive := fun _ => AV → AV → AV → AV → St → Prop) (fun _ _ _ _ _ => False) (fun _ ih => f217l1s Q ih) n
theorem f217j1_eq (Q : AV → St → Prop) : f217C (sub f217B [true, true, true]) (f217R Q) (fun _ _ _ => False) (f217R Q) = (fun g s => f217j1 Q (g 0) (g 3) s) :=
  Eq.trans rfl (by kernel_rfl)
theorem f217j2_eq (Q : AV → St → Prop) (n1 : Nat) : f217C (sub f217B [true, true, false, true, false, false, true, true, true]) (fun g s => (fun (n : Nat) (g : Gf) (s : St) => f217l1 Q n (g 0) (g 3) (g 7) (g 8) s) n1 (fun k => cond (bitOf (Tryz.env.kp 217) k) (g k) .undef) s) (fun i => cond (Nat.beq i 0) (fun g s => f217j1 Q (g 0) (g 3) s) ((fun _ _ _ => False) i)) (f217R Q) = (fun g s => f217j2 Q (f217l1 Q n1) (g 8) (g 0) (g 3) (g 7) s) :=
  Eq.trans rfl (by kernel_rfl)
theorem f217l1_eq (Q : AV → St → Prop) (kN : Kt) : f217C (sub f217B [true, true, false, true, false]) kN (fun i => cond (Nat.beq i 0) (fun g s => f217j1 Q (g 0) (g 3) s) ((fun _ _ _ => False) i)) (f217R Q) = fun g s => ∃ n, (fun (n : Nat) (g : Gf) (s : St) => f217l1 Q n (g 0) (g 3) (g 7) (g 8) s) n g s :=
  loop_eq (L := fun (n : Nat) (g : Gf) (s : St) => f217l1 Q n (g 0) (g 3) (g 7) (g 8) s) (by kernel_rfl : (sub f217B [true, true, false, true, false]) = .loop (sub f217B [true, true, false, true, false, false])) (by kernel_rfl) (fun n1 => Eq.trans (seq_eq (by kernel_rfl : (sub f217B [true, true, false, true, false, false]) = .seq (sub f217B [true, true, false, true, false, false, false]) (sub f217B [true, true, false, true, false, false, true])) (seq_eq (by kernel_rfl : (sub f217B [true, true, false, true, false, false, true]) = .seq (sub f217B [true, true, false, true, false, false, true, false]) (sub f217B [true, true, false, true, false, false, true, true])) (seq_eq (by kernel_rfl : (sub f217B [true, true, false, true, false, false, true, true]) = .seq (sub f217B [true, true, false, true, false, false, true, true, false]) (sub f217B [true, true, false, true, false, false, true, true, true])) (f217j2_eq Q n1) (block_eq (by kernel_rfl : (sub f217B [true, true, false, true, false, false, true, true, false]) = .block 1 (sub f217B [true, true, false, true, false, false, true, true, false, false])) rfl)) rfl) rfl) (by kernel_rfl))
noncomputable def f217 (Q : AV → St → Prop) (t0 : AV) (s : St) : Prop :=
  Bnd (bt .len #[9] [t0] (s.nx + 3) (adv s 5)) fun r7 =>
  ∃ n, f217l1 Q n t0 (.int .i64 0) r7.1 (.int .i64 0) r7.2
theorem f217_run (t0 : AV) (s : St) {Q : AV → St → Prop} (h : f217 Q t0 s) : ∃ r s', WideC Tryz.env 217 [t0] s r s' ∧ Q r s' :=
  wide_of (h := 217) (fn := Tryz.f217) (c := sub f217B []) (by kernel_rfl) (by kernel_rfl) (by kernel_rfl) (by kernel_rfl) (of_decide_eq_true (by kernel_rfl))
    (Eq.mp (Eq.trans (by kernel_rfl) (congrFun (congrFun (show f217C (sub f217B []) (f217R Q) (fun _ _ _ => False) (f217R Q) = _ from (seq_eq (by kernel_rfl : (sub f217B []) = .seq (sub f217B [false]) (sub f217B [true])) (seq_eq (by kernel_rfl : (sub f217B [true]) = .seq (sub f217B [true, false]) (sub f217B [true, true])) (seq_eq (by kernel_rfl : (sub f217B [true, true]) = .seq (sub f217B [true, true, false]) (sub f217B [true, true, true])) (f217j1_eq Q) (seq_eq (by kernel_rfl : (sub f217B [true, true, false]) = .seq (sub f217B [true, true, false, false]) (sub f217B [true, true, false, true])) (block_eq (by kernel_rfl : (sub f217B [true, true, false, true]) = .block 0 (sub f217B [true, true, false, true, false])) (f217l1_eq Q _)) rfl)) rfl) rfl)).symm (gt (frame Tryz.f217 [t0]))) s)) h)
/-! 244 internal/stringslite.CutPrefix -/
noncomputable abbrev f244B : Code := bodyOf Tryz.f244
noncomputable abbrev f244R (Q : AV → St → Prop) : Kt := fun g s => RetP (result Tryz.ty Tryz.f244 g s) fun v => Q v s
noncomputable abbrev f244C : Code → Kt → (Nat → Kt) → Kt → Kt := codeP Tryz.env 244 (Tryz.env.kp 244)
noncomputable def f244 (Q : AV → St → Prop) (t0 t1 : AV) (s : St) : Prop :=
  CallPu Tryz.env 123 [t0, t1] (adv s 6) fun t8 s1 =>
  Bnd (un .not t8) fun t9 =>
  IfP t9
  (Q (.tup [t0, (.bool false)]) (adv s1 3))
  (Bnd (bt .len #[9] [t1] (s1.nx + 2) (adv s1 6)) fun r13 =>
  Bnd (slc 9 t0 (some r13.1) none none r13.2) fun t14 =>
  Q (.tup [t14, (.bool true)]) r13.2)
theorem f244_run (t0 t1 : AV) (s : St) {Q : AV → St → Prop} (h : f244 Q t0 t1 s) : ∃ r s', WideC Tryz.env 244 [t0, t1] s r s' ∧ Q r s' :=
  wide_of (h := 244) (fn := Tryz.f244) (c := sub f244B []) (by kernel_rfl) (by kernel_rfl) (by kernel_rfl) (by kernel_rfl) (of_decide_eq_true (by kernel_rfl))
    (Eq.mp (Eq.trans (by kernel_rfl) (congrFun (congrFun (show f244C (sub f244B []) (f244R Q) (fun _ _ _ => False) (f244R Q) = _ from rfl).symm (gt (frame Tryz.f244 [t0, t1]))) s)) h)
/-! 215 strings.CutPrefix -/
noncomputable abbrev f215B : Code := bodyOf Tryz.f215
noncomputable abbrev f215R (Q : AV → St → Prop) : Kt := fun g s => RetP (result Tryz.ty Tryz.f215 g s) fun v => Q v s
noncomputable abbrev f215C : Code → Kt → (Nat → Kt) → Kt → Kt := codeP Tryz.env 215 (Tryz.env.kp 215)
noncomputable def f215 (Q : AV → St → Prop) (t0 t1 : AV) (s : St) : Prop :=
  CallPu Tryz.env 244 [t0, t1] (adv s 9) fun t8 s1 =>
  Bnd (extr t8 0) fun t9 =>
  Bnd (extr t8 1) fun t10 =>
  Q (.tup [t9, t10]) s1
theorem f215_run (t0 t1 : AV) (s : St) {Q : AV → St → Prop} (h : f215 Q t0 t1 s) : ∃ r s', WideC Tryz.env 215 [t0, t1] s r s' ∧ Q r s' :=
  wide_of (h := 215) (fn := Tryz.f215) (c := sub f215B []) (by kernel_rfl) (by kernel_rfl) (by kernel_rfl) (by kernel_rfl) (of_decide_eq_true (by kernel_rfl))
    (Eq.mp (Eq.trans (by kernel_rfl) (congrFun (congrFun (show f215C (sub f215B []) (f215R Q) (fun _ _ _ => False) (f215R Q) = _ from rfl).symm (gt (frame Tryz.f215 [t0, t1]))) s)) h)
/-! 245 internal/stringslite.Cut -/
noncomputable abbrev f245B : Code := bodyOf Tryz.f245
noncomputable abbrev f245R (Q : AV → St → Prop) : Kt := fun g s => RetP (result Tryz.ty Tryz.f245 g s) fun v => Q v s
noncomputable abbrev f245C : Code → Kt → (Nat → Kt) → Kt → Kt := codeP Tryz.env 245 (Tryz.env.kp 245)
noncomputable def f245 (Q : AV → St → Prop) (t0 t1 : AV) (s : St) : Prop :=
  CallPu Tryz.env 268 [t0, t1] (adv s 7) fun t10 s1 =>
  Bnd (bn .geq 3 t10 (.int .i64 0)) fun t12 =>
  IfP t12
  (Bnd (slc 9 t0 none (some t10) none (adv s1 14)) fun t15 =>
  Bnd (bt .len #[9] [t1] (s1.nx + 8) (adv s1 14)) fun r19 =>
  Bnd (bn .add 3 t10 r19.1) fun t20 =>
  Bnd (slc 9 t0 (some t20) none none r19.2) fun t21 =>
  Q (.tup [t15, t21, (.bool true)]) r19.2)
  (Q (.tup [t0, (.str []), (.bool false)]) (adv s1 6))
theorem f245_run (t0 t1 : AV) (s : St) {Q : AV → St → Prop} (h : f245 Q t0 t1 s) : ∃ r s', WideC Tryz.env 245 [t0, t1] s r s' ∧ Q r s' :=
  wide_of (h := 245) (fn := Tryz.f245) (c := sub f245B []) (by kernel_rfl) (by kernel_rfl) (by kernel_rfl) (by kernel_rfl) (of_decide_eq_true (by kernel_rfl))
    (Eq.mp (Eq.trans (by kernel_rfl) (congrFun (congrFun (show f245C (sub f245B []) (f245R Q) (fun _ _ _ => False) (f245R Q) = _ from rfl).symm (gt (frame Tryz.f245 [t0, t1]))) s)) h)
/-! 216 strings.Cut -/
noncomputable abbrev f216B : Code := bodyOf Tryz.f216
noncomputable abbrev f216R (Q : AV → St → Prop) : Kt := fun g s => RetP (result Tryz.ty Tryz.f216 g s) fun v => Q v s
noncomputable abbrev f216C : Code → Kt → (Nat → Kt) → Kt → Kt := codeP Tryz.env 216 (Tryz.env.kp 216)
noncomputable def f216 (Q : AV → St → Prop) (t0 t1 : AV) (s : St) : Prop :=
  CallPu Tryz.env 245 [t0, t1] (adv s 12) fun t9 s1 =>
  Bnd (extr t9 0) fun t10 =>
  Bnd (extr t9 1) fun t11 =>
  Bnd (extr t9 2) fun t12 =>
  Q (.tup [t10, t11, t12]) s1
theorem f216_run (t0 t1 : AV) (s : St) {Q : AV → St → Prop} (h : f216 Q t0 t1 s) : ∃ r s', WideC Tryz.env 216 [t0, t1] s r s' ∧ Q r s' :=
  wide_of (h := 216) (fn := Tryz.f216) (c := sub f216B []) (by kernel_rfl) (by kernel_rfl) (by kernel_rfl) (by kernel_rfl) (of_decide_eq_true (by kernel_rfl))
    (Eq.mp (Eq.trans (by kernel_rfl) (congrFun (congrFun (show f216C (sub f216B []) (f216R Q) (fun _ _ _ => False) (f216R Q) = _ from rfl).symm (gt (frame Tryz.f216 [t0, t1]))) s)) h)
/-! 268 internal/stringslite.Index -/
noncomputable abbrev f268B : Code := bodyOf Tryz.f268
noncomputable abbrev f268R (Q : AV → St → Prop) : Kt := fun g s => RetP (result Tryz.ty Tryz.f268 g s) fun v => Q v s
noncomputable abbrev f268C : Code → Kt → (Nat → Kt) → Kt → Kt := codeP Tryz.env 268 (Tryz.env.kp 268)
noncomputable def f268j2 (Q : AV → St → Prop) (s : St) : Prop :=
  Q (.int .i64 (-1)) (adv s 1)
noncomputable def f268j3 (Q : AV → St → Prop) (ih1 : AV → AV → AV → AV → AV → AV → AV → AV → St → Prop) (t0 t8 t7 t5 t1 t10 t9 t6 : AV) (s : St) : Prop :=
  Bnd (bn .add 3 t8 (.int .i64 1)) fun t80 =>
  Bnd (ixa 9 t0 t80) fun t81 =>
  Bnd (bn .eql 5 t81 t7) fun t83 =>
  Gd (wantV t83 true) (adv s 16) (fun k => k t0 (adv s 16)) fun t85 s1 =>
  Gd (wantV t83 true) s1 (fun k => k t8 s1) fun t86 s2 =>
  Gd (wantV t83 true) s2 (fun k => k t8 s2) fun t87 s3 =>
  Gd (wantV t83 true) s3 (fun k => k t5 s3) fun t88 s4 =>
  Gd (wantV t83 true) s4 (fun k => Bnd (bn .add 3 t87 t88) fun v => k v s4) fun t89 s5 =>
  Gd (wantV t83 true) s5 (fun k => Bnd (slc 9 t85 (some t86) (some t89) none s5) fun v => k v s5) fun t90 s6 =>
  Gd (wantV t83 true) s6 (fun k => k t1 s6) fun t91 s7 =>
  Gd (wantV t83 true) s7 (fun k => Bnd (bn .eql 9 t90 t91) fun v => k v s7) fun t92 s8 =>
  Bnd (pickV t83 t92 (.bool false)) fun t93 =>
  IfP t93
  (Q t8 (adv s8 2))
  (Bnd (bn .add 3 t8 (.int .i64 1)) fun t96 =>
  Bnd (bn .add 3 t10 (.int .i64 1)) fun t98 =>
  Bnd (ld 1 false (gl 4) (adv s8 15)) fun t100 =>
  Bnd (bn .leq 3 t5 t100) fun t101 =>
  Gd (wantV t101 true) (adv s8 15) (fun k => k t98 (adv s8 15)) fun t103 s9 =>
  Gd (wantV t101 true) s9 (fun k => k t96 s9) fun t104 s10 =>
  Gd (wantV t101 true) s10 (fun k => CallPu Tryz.env 261 [t104] s10 k) fun t105 s11 =>
  Gd (wantV t101 true) s11 (fun k => Bnd (bn .gtr 3 t103 t105) fun v => k v s11) fun t106 s12 =>
  Bnd (pickV t101 t106 (.bool false)) fun t107 =>
  IfP t107
  (Bnd (slc 9 t0 (some t96) none none (adv s12 6)) fun t110 =>
  CallPu Tryz.env 262 [t110, t1] (adv s12 6) fun t112 s13 =>
  Bnd (bn .geq 3 t112 (.int .i64 0)) fun t114 =>
  IfP t114
  (Bnd (bn .add 3 t112 t96) fun t117 =>
  Q t117 (adv s13 6))
  (Q (.int .i64 (-1)) (adv s13 3)))
  (Bnd (ld 1 false (gl 4) (adv s12 15)) fun t119 =>
  Bnd (bn .gtr 3 t5 t119) fun t120 =>
  Gd (wantV t120 true) (adv s12 15) (fun k => k t98 (adv s12 15)) fun t122 s14 =>
  Gd (wantV t120 true) s14 (fun k => k t96 s14) fun t123 s15 =>
  Gd (wantV t120 true) s15 (fun k => Bnd (bn .shr 3 t123 (.int .u64 4)) fun v => k v s15) fun t124 s16 =>
  Gd (wantV t120 true) s16 (fun k => Bnd (bn .add 3 (.int .i64 4) t124) fun v => k v s16) fun t125 s17 =>
  Gd (wantV t120 true) s17 (fun k => Bnd (bn .geq 3 t122 t125) fun v => k v s17) fun t126 s18 =>
  Bnd (pickV t120 t126 (.bool false)) fun t127 =>
  Gd (wantV t127 true) s18 (fun k => k t96 s18) fun t129 s19 =>
  Gd (wantV t127 true) s19 (fun k => k t9 s19) fun t130 s20 =>
  Gd (wantV t127 true) s20 (fun k => Bnd (bn .lss 3 t129 t130) fun v => k v s20) fun t131 s21 =>
  Bnd (pickV t127 t131 (.bool false)) fun t132 =>
  IfP t132
  (Bnd (slc 9 t0 (some t96) none none (adv s21 6)) fun t135 =>
  CallPu Tryz.env 284 [t135, t1] (adv s21 6) fun t137 s22 =>
  Bnd (bn .lss 3 t137 (.int .i64 0)) fun t139 =>
  IfP t139
  (Q (.int .i64 (-1)) (adv s22 3))
  (Bnd (bn .add 3 t96 t137) fun t142 =>
  Q t142 (adv s22 6)))
  (ih1 t0 t1 t5 t6 t7 t96 t9 t98 s21)))
noncomputable def f268l1s (Q : AV → St → Prop) (ih1 : AV → AV → AV → AV → AV → AV → AV → AV → St → Prop) (t0 t1 t5 t6 t7 t8 t9 t10 : AV) (s : St) : Prop :=
  Bnd (bn .lss 3 t8 t9) fun t59 =>
  IfP t59
  (Bnd (ixa 9 t0 t8) fun t62 =>
  Bnd (bn .neq 5 t62 t6) fun t64 =>
  IfP t64
  (Bnd (bn .add 3 t8 (.int .i64 1)) fun t67 =>
  Bnd (slc 9 t0 (some t67) (some t9) none (adv s 16)) fun t69 =>
  CallPu Tryz.env 269 [t69, t6] (adv s 16) fun t71 s1 =>
  Bnd (bn .lss 3 t71 (.int .i64 0)) fun t73 =>
  IfP t73
  (Q (.int .i64 (-1)) (adv s1 3))
  (Bnd (bn .add 3 t71 (.int .i64 1)) fun t76 =>
  Bnd (bn .add 3 t8 t76) fun t77 =>
  f268j3 Q ih1 t0 t77 t7 t5 t1 t10 t9 t6 (adv s1 7)))
  (f268j3 Q ih1 t0 t8 t7 t5 t1 t10 t9 t6 (adv s 8)))
  (f268j2 Q (adv s 3))
noncomputable def f268l1 (Q : AV → St → Prop) (n : Nat) : AV → AV → AV → AV → AV → AV → AV → AV → St → Prop := Nat.rec (motive := fun _ => AV → AV → AV → AV → AV → AV → AV → AV → St → Prop) (fun _ _ _ _ _ _ _ _ _ => False) (fun _ ih => f268l1s Q ih) n
noncomputable def f268j1 (Q : AV → St → Prop) (t1 t0 t5 : AV) (s : St) : Prop :=
  Bnd (ixa 9 t1 (.int .i64 0)) fun t49 =>
  Bnd (ixa 9 t1 (.int .i64 1)) fun t51 =>
  Bnd (bt .len #[9] [t0] (s.nx + 8) (adv s 13)) fun r53 =>
  Bnd (bn .sub 3 r53.1 t5) fun t55 =>
  Bnd (bn .add 3 t55 (.int .i64 1)) fun t56 =>
  ∃ n, f268l1 Q n t0 t1 t5 t49 t51 (.int .i64 0) t56 (.int .i64 0) (adv r53.2 1)
theorem f268j2_eq (Q : AV → St → Prop) : f268C (sub f268B [true, true, true, true, true, true, true, true, true]) (f268R Q) (fun _ _ _ => False) (f268R Q) = (fun g s => f268j2 Q s) :=
  Eq.trans rfl (by kernel_rfl)
theorem f268j3_eq (Q : AV → St → Prop) (n1 : Nat) : f268C (sub f268B [true, true, true, true, true, true, true, true, false, false, false, true, false, true]) (fun g s => (fun (n : Nat) (g : Gf) (s : St) => f268l1 Q n (g 0) (g 1) (g 5) (g 6) (g 7) (g 8) (g 9) (g 10) s) n1 (fun k => cond (bitOf (Tryz.env.kp 268) k) (g k) .undef) s) (fun i => cond (Nat.beq i 2) (fun g s => (fun (n : Nat) (g : Gf) (s : St) => f268l1 Q n (g 0) (g 1) (g 5) (g 6) (g 7) (g 8) (g 9) (g 10) s) n1 (fun k => cond (bitOf (Tryz.env.kp 268) k) (g k) .undef) s) ((fun i => cond (Nat.beq i 1) (fun g s => f268j2 Q s) ((fun _ _ _ => False) i)) i)) (f268R Q) = (fun g s => f268j3 Q (f268l1 Q n1) (g 0) (g 8) (g 7) (g 5) (g 1) (g 10) (g 9) (g 6) s) :=
  Eq.trans rfl (by kernel_rfl)
theorem f268l1_eq (Q : AV → St → Prop) (kN : Kt) : f268C (sub f268B [true, true, true, true, true, true, true, true, false, false]) kN (fun i => cond (Nat.beq i 1) (fun g s => f268j2 Q s) ((fun _ _ _ => False) i)) (f268R Q) = fun g s => ∃ n, (fun (n : Nat) (g : Gf) (s : St) => f268l1 Q n (g 0) (g 1) (g 5) (g 6) (g 7) (g 8) (g 9) (g 10) s) n g s :=
  loop_eq (L := fun (n : Nat) (g : Gf) (s : St) => f268l1 Q n (g 0) (g 1) (g 5) (g 6) (g 7) (g 8) (g 9) (g 10) s) (by kernel_rfl : (sub f268B [true, true, true, true, true, true, true, true, false, false]) = .loop (sub f268B [true, true, true, true, true, true, true, true, false, false, false])) (by kernel_rfl) (fun n1 => Eq.trans (seq_eq (by kernel_rfl : (sub f268B [true, true, true, true, true, true, true, true, false, false, false]) = .seq (sub f268B [true, true, true, true, true, true, true, true, false, false, false, false]) (sub f268B [true, true, true, true, true, true, true, true, false, false, false, true])) (block_eq (by kernel_rfl : (sub f268B [true, true, true, true, true, true, true, true, false, false, false, true]) = .block 2 (sub f268B [true, true, true, true, true, true, true, true, false, false, false, true, false])) (seq_eq (by kernel_rfl : (sub f268B [true, true, true, true, true, true, true, true, false, false, false, true, false]) = .seq (sub f268B [true, true, true, true, true, true, true, true, false, false, false, true, false, false]) (sub f268B [true, true, true, true, true, true, true, true, false, false, false, true, false, true])) (f268j3_eq Q n1) rfl)) rfl) (by kernel_rfl))
theorem f268j1_eq (Q : AV → St → Prop) : f268C (sub f268B [true, true, true]) (f268R Q) (fun _ _ _ => False) (f268R Q) = (fun g s => f268j1 Q (g 1) (g 0) (g 5) s) :=
  Eq.trans (seq_eq (by kernel_rfl : (sub f268B [true, true, true]) = .seq (sub f268B [true, true, true, false]) (sub f268B [true, true, true, true])) (seq_eq (by kernel_rfl : (sub f268B [true, true, true, true]) = .seq (sub f268B [true, true, true, true, false]) (sub f268B [true, true, true, true, true])) (seq_eq (by kernel_rfl : (sub f268B [true, true, true, true, true]) = .seq (sub f268B [true, true, true, true, true, false]) (sub f268B [true, true, true, true, true, true])) (seq_eq (by kernel_rfl : (sub f268B [true, true, true, true, true, true]) = .seq (sub f268B [true, true, true, true, true, true, false]) (sub f268B [true, true, true, true, true, true, true])) (seq_eq (by kernel_rfl : (sub f268B [true, true, true, true, true, true, true]) = .seq (sub f268B [true, true, true, true, true, true, true, false]) (sub f268B [true, true, true, true, true, true, true, true])) (seq_eq (by kernel_rfl : (sub f268B [true, true, true, true, true, true, true, true]) = .seq (sub f268B [true, true, true, true, true, true, true, true, false]) (sub f268B [true, true, true, true, true, true, true, true, true])) (f268j2_eq Q) (block_eq (by kernel_rfl : (sub f268B [true, true, true, true, true, true, true, true, false]) = .block 1 (sub f268B [true, true, true, true, true, true, true, true, false, false])) (f268l1_eq Q _))) rfl) rfl) rfl) rfl) rfl) (by kernel_rfl)
noncomputable def f268 (Q : AV → St → Prop) (t0 t1 : AV) (s : St) : Prop :=
  Bnd (bt .len #[9] [t1] (s.nx + 2) (adv s 4)) fun r15 =>
  Bnd (bn .eql 3 r15.1 (.int .i64 0)) fun t18 =>
  Gd (wantV t18 false) (adv r15.2 8) (fun k => k t1 (adv r15.2 8)) fun t20 s1 =>
  Gd (wantV t18 false) s1 (fun k => k t0 s1) fun t21 s2 =>
  Gd (wantV t18 false) s2 (fun k => Bnd (bn .eql 9 t20 t21) fun v => k v s2) fun t22 s3 =>
  Bnd (pickV t18 (.bool true) t22) fun t23 =>
  IfP t23
  (Q (.int .i64 0) (adv s3 1))
  (Bnd (bn .eql 3 r15.1 (.int .i64 1)) fun t26 =>
  IfP t26
  (Bnd (ixa 9 t1 (.int .i64 0)) fun t29 =>
  CallPu Tryz.env 269 [t0, t29] (adv s3 8) fun t30 s4 =>
  Q t30 s4)
  (Bnd (bt .len #[9] [t0] (s3.nx + 5) (adv s3 8)) fun r34 =>
  Bnd (bn .geq 3 r15.1 r34.1) fun t35 =>
  IfP t35
  (Q (.int .i64 (-1)) (adv r34.2 1))
  (Bnd (ld 1 false (gl 4) (adv r34.2 9)) fun t38 =>
  Bnd (bn .leq 3 r15.1 t38) fun t39 =>
  Gd (wantV t39 true) (adv r34.2 9) (fun k => k t0 (adv r34.2 9)) fun t41 s5 =>
  Gd (wantV t39 true) s5 (fun k => Bnd (bt .len #[9] [t41] (r34.2.nx + 5) s5) fun r => k r.1 r.2) fun t42 s6 =>
  Gd (wantV t39 true) s6 (fun k => Bnd (bn .leq 3 t42 (.int .i64 64)) fun v => k v s6) fun t43 s7 =>
  Bnd (pickV t39 t43 (.bool false)) fun t44 =>
  IfP t44
  (CallPu Tryz.env 262 [t0, t1] (adv s7 4) fun t47 s8 =>
  Q t47 s8)
  (f268j1 Q t1 t0 r15.1 s7))))
theorem f268_run (t0 t1 : AV) (s : St) {Q : AV → St → Prop} (h : f268 Q t0 t1 s) : ∃ r s', WideC Tryz.env 268 [t0, t1] s r s' ∧ Q r s' :=
  wide_of (h := 268) (fn := Tryz.f268) (c := sub f268B []) (by kernel_rfl) (by kernel_rfl) (by kernel_rfl) (by kernel_rfl) (of_decide_eq_true (by kernel_rfl))
    (Eq.mp (Eq.trans (by kernel_rfl) (congrFun (congrFun (show f268C (sub f268B []) (f268R Q) (fun _ _ _ => False) (f268R Q) = _ from (seq_eq (by kernel_rfl : (sub f268B []) = .seq (sub f268B [false]) (sub f268B [true])) (seq_eq (by kernel_rfl : (sub f268B [true]) = .seq (sub f268B [true, false]) (sub f268B [true, true])) (seq_eq (by kernel_rfl : (sub f268B [true, true]) = .seq (sub f268B [true, true, false]) (sub f268B [true, true, true])) (f268j1_eq Q) (block_eq (by kernel_rfl : (sub f268B [true, true, false]) = .block 0 (sub f268B [true, true, false, false])) rfl)) rfl) rfl)).symm (gt (frame Tryz.f268 [t0, t1]))) s)) h)
/-! 269 internal/stringslite.IndexByte -/
noncomputable abbrev f269B : Code := bodyOf Tryz.f269
noncomputable abbrev f269R (Q : AV → St → Prop) : Kt := fun g s => RetP (result Tryz.ty Tryz.f269 g s) fun v => Q v s
noncomputable abbrev f269C : Code → Kt → (Nat → Kt) → Kt → Kt := codeP Tryz.env 269 (Tryz.env.kp 269)
noncomputable def f269 (Q : AV → St → Prop) (t0 t1 : AV) (s : St) : Prop :=
  CallPu Tryz.env 285 [t0, t1] (adv s 5) fun t7 s1 =>
  Q t7 s1
theorem f269_run (t0 t1 : AV) (s : St) {Q : AV → St → Prop} (h : f269 Q t0 t1 s) : ∃ r s', WideC Tryz.env 269 [t0, t1] s r s' ∧ Q r s' :=
  wide_of (h := 269) (fn := Tryz.f269) (c := sub f269B []) (by kernel_rfl) (by kernel_rfl) (by kernel_rfl) (by kernel_rfl) (of_decide_eq_true (by kernel_rfl))
    (Eq.mp (Eq.trans (by kernel_rfl) (congrFun (congrFun (show f269C (sub f269B []) (f269R Q) (fun _ _ _ => False) (f269R Q) = _ from rfl).symm (gt (frame Tryz.f269 [t0, t1]))) s)) h)
/-! 182 gudgeon/lit.escaped -/
noncomputable abbrev f182B : Code := bodyOf Tryz.f182
noncomputable abbrev f182R (Q : AV → St → Prop) : Kt := fun g s => RetP (result Tryz.ty Tryz.f182 g s) fun v => Q v s
noncomputable abbrev f182C : Code → Kt → (Nat → Kt) → Kt → Kt := codeP Tryz.env 182 (Tryz.env.kp 182)
noncomputable def f182 (Q : AV → St → Prop) (t0 : AV) (s : St) : Prop :=
  CallPu Tryz.env 215 [t0, (.str [92, 117])] (adv s 9) fun t13 s1 =>
  Bnd (extr t13 0) fun t14 =>
  Bnd (extr t13 1) fun t15 =>
  Bnd (un .not t15) fun t17 =>
  IfP t17
  (Q (.tup [(.int .i64 (-1)), (.int .i64 0)]) (adv s1 4))
  (CallPu Tryz.env 215 [t14, (.str [123])] (adv s1 9) fun t20 s2 =>
  Bnd (extr t20 0) fun t21 =>
  Bnd (extr t20 1) fun t22 =>
  IfP t22
  (CallPu Tryz.env 216 [t21, (.str [125])] (adv s2 10) fun t26 s3 =>
  Bnd (extr t26 0) fun t27 =>
  Bnd (extr t26 1) fun t28 =>
  Bnd (extr t26 2) fun t29 =>
  Bnd (un .not t29) fun t31 =>
  Gd (wantV t31 false) (adv s3 7) (fun k => k t27 (adv s3 7)) fun t33 s4 =>
  Gd (wantV t31 false) s4 (fun k => Bnd (bt .len #[9] [t33] (s3.nx + 4) s4) fun r => k r.1 r.2) fun t34 s5 =>
  Gd (wantV t31 false) s5 (fun k => Bnd (bn .gtr 3 t34 (.int .i64 5)) fun v => k v s5) fun t35 s6 =>
  Bnd (pickV t31 (.bool true) t35) fun t36 =>
  IfP t36
  (Q (.tup [(.int .i64 (-1)), (.int .i64 0)]) (adv s6 2))
  (CallPu Tryz.env 217 [t27] (adv s6 7) fun t38 s7 =>
  Bnd (bt .len #[9] [t27] (s6.nx + 3) s7) fun r40 =>
  Bnd (bn .add 3 r40.1 (.int .i64 4)) fun t41 =>
  Q (.tup [t38, t41]) r40.2))
  (Bnd (bt .len #[9] [t14] (s2.nx + 2) (adv s2 4)) fun r43 =>
  Bnd (bn .lss 3 r43.1 (.int .i64 4)) fun t44 =>
  IfP t44
  (Q (.tup [(.int .i64 (-1)), (.int .i64 0)]) (adv r43.2 2))
  (Bnd (slc 9 t14 none (some (.int .i64 4)) none (adv r43.2 5)) fun t46 =>
  CallPu Tryz.env 217 [t46] (adv r43.2 5) fun t47 s8 =>
  Q (.tup [t47, (.int .i64 6)]) s8)))
theorem f182_run (t0 : AV) (s : St) {Q : AV → St → Prop} (h : f182 Q t0 s) : ∃ r s', WideC Tryz.env 182 [t0] s r s' ∧ Q r s' :=
  wide_of (h := 182) (fn := Tryz.f182) (c := sub f182B []) (by kernel_rfl) (by kernel_rfl) (by kernel_rfl) (by kernel_rfl) (of_decide_eq_true (by kernel_rfl))
    (Eq.mp (Eq.trans (by kernel_rfl) (congrFun (congrFun (show f182C (sub f182B []) (f182R Q) (fun _ _ _ => False) (f182R Q) = _ from rfl).symm (gt (frame Tryz.f182 [t0]))) s)) h)
/-! 129 gudgeon/lit.Points -/
noncomputable abbrev f129B : Code := bodyOf Tryz.f129
noncomputable abbrev f129R (Q : AV → St → Prop) : Kt := fun g s => RetP (result Tryz.ty Tryz.f129 g s) fun v => Q v s
noncomputable abbrev f129C : Code → Kt → (Nat → Kt) → Kt → Kt := codeP Tryz.env 129 (Tryz.env.kp 129)
noncomputable def f129j1 (Q : AV → St → Prop) (t3 : AV) (s : St) : Prop :=
  Q t3 (adv s 2)
noncomputable def f129j2 (Q : AV → St → Prop) (ih1 : AV → AV → AV → St → Prop) (t3 t5 t4 t6 t0 : AV) (s : St) : Prop :=
  Bnd (bsl 72 1 [(0, t5)]) fun t26 =>
  Bnd (bt .append #[72, 72] [t3, t26] (s.nx + 3) (adv s 5)) fun r27 =>
  Bnd (bn .add 3 t4 t6) fun t30 =>
  ih1 t0 r27.1 t30 (adv r27.2 4)
noncomputable def f129l1s (Q : AV → St → Prop) (ih1 : AV → AV → AV → St → Prop) (t0 t3 t4 : AV) (s : St) : Prop :=
  Bnd (bt .len #[9] [t0] (s.nx + 2) (adv s 4)) fun r9 =>
  Bnd (bn .geq 3 t4 r9.1) fun t10 =>
  IfP t10
  (f129j1 Q t3 r9.2)
  (Bnd (slc 9 t0 (some t4) none none (adv r9.2 9)) fun t14 =>
  CallPu Tryz.env 182 [t14] (adv r9.2 9) fun t15 s1 =>
  Bnd (extr t15 0) fun t16 =>
  Bnd (extr t15 1) fun t17 =>
  Bnd (bn .lss 3 t16 (.int .i64 0)) fun t19 =>
  IfP t19
  (Bnd (ixa 9 t0 t4) fun t22 =>
  Bnd (cv 5 3 t22 (adv s1 8)) fun t23 =>
  f129j2 Q ih1 t3 t23 t4 (.int .i64 1) t0 (adv s1 8))
  (f129j2 Q ih1 t3 t16 t4 t17 t0 (adv s1 2)))
noncomputable def f129l1 (Q : AV → St → Prop) (n : Nat) : AV → AV → AV → St → Prop := Nat.rec (motive := fun _ => AV → AV → AV → St → Prop) (fun _ _ _ _ => False) (fun _ ih => f129l1s Q ih) n
theorem f129j1_eq (Q : AV → St → Prop) : f129C (sub f129B [true, false, true, true, true, true]) (f129R Q) (fun _ _ _ => False) (f129R Q) = (fun g s => f129j1 Q (g 3) s) :=
  Eq.trans rfl (by kernel_rfl)
theorem f129j2_eq (Q : AV → St → Prop) (n1 : Nat) : f129C (sub f129B [true, false, true, true, true, false, false, false, false, true, true, true]) (fun g s => (fun (n : Nat) (g : Gf) (s : St) => f129l1 Q n (g 0) (g 3) (g 4) s) n1 (fun k => cond (bitOf (Tryz.env.kp 129) k) (g k) .undef) s) (fun i => cond (Nat.beq i 1) (fun g s => (fun (n : Nat) (g : Gf) (s : St) => f129l1 Q n (g 0) (g 3) (g 4) s) n1 (fun k => cond (bitOf (Tryz.env.kp 129) k) (g k) .undef) s) ((fun i => cond (Nat.beq i 0) (fun g s => f129j1 Q (g 3) s) ((fun _ _ _ => False) i)) i)) (f129R Q) = (fun g s => f129j2 Q (f129l1 Q n1) (g 3) (g 5) (g 4) (g 6) (g 0) s) :=
  Eq.trans rfl (by kernel_rfl)
theorem f129l1_eq (Q : AV → St → Prop) (kN : Kt) : f129C (sub f129B [true, false, true, true, true, false, false]) kN (fun i => cond (Nat.beq i 0) (fun g s => f129j1 Q (g 3) s) ((fun _ _ _ => False) i)) (f129R Q) = fun g s => ∃ n, (fun (n : Nat) (g : Gf) (s : St) => f129l1 Q n (g 0) (g 3) (g 4) s) n g s :=
  loop_eq (L := fun (n : Nat) (g : Gf) (s : St) => f129l1 Q n (g 0) (g 3) (g 4) s) (by kernel_rfl : (sub f129B [true, false, true, true, true, false, false]) = .loop (sub f129B [true, false, true, true, true, false, false, false])) (by kernel_rfl) (fun n1 => Eq.trans (block_eq (by kernel_rfl : (sub f129B [true, false, true, true, true, false, false, false]) = .block 1 (sub f129B [true, false, true, true, true, false, false, false, false])) (seq_eq (by kernel_rfl : (sub f129B [true, false, true, true, true, false, false, false, false]) = .seq (sub f129B [true, false, true, true, true, false, false, false, false, false]) (sub f129B [true, false, true, true, true, false, false, false, false, true])) (seq_eq (by kernel_rfl : (sub f129B [true, false, true, true, true, false, false, false, false, true]) = .seq (sub f129B [true, false, true, true, true, false, false, false, false, true, false]) (sub f129B [true, false, true, true, true, false, false, false, false, true, true])) (seq_eq (by kernel_rfl : (sub f129B [true, false, true, true, true, false, false, false, false, true, true]) = .seq (sub f129B [true, false, true, true, true, false, false, false, false, true, true, false]) (sub f129B [true, false, true, true, true, false, false, false, false, true, true, true])) (f129j2_eq Q n1) rfl) rfl) rfl)) (by kernel_rfl))
noncomputable def f129 (Q : AV → St → Prop) (t0 : AV) (s : St) : Prop :=
  ∃ n, f129l1 Q n t0 .nils (.int .i64 0) (adv s 3)
theorem f129_run (t0 : AV) (s : St) {Q : AV → St → Prop} (h : f129 Q t0 s) : ∃ r s', WideC Tryz.env 129 [t0] s r s' ∧ Q r s' :=
  wide_of (h := 129) (fn := Tryz.f129) (c := sub f129B []) (by kernel_rfl) (by kernel_rfl) (by kernel_rfl) (by kernel_rfl) (of_decide_eq_true (by kernel_rfl))
    (Eq.mp (Eq.trans (by kernel_rfl) (congrFun (congrFun (show f129C (sub f129B []) (f129R Q) (fun _ _ _ => False) (f129R Q) = _ from (seq_eq (by kernel_rfl : (sub f129B []) = .seq (sub f129B [false]) (sub f129B [true])) (scope_eq (by kernel_rfl : (sub f129B [true]) = .scope (sub f129B [true, false])) (seq_eq (by kernel_rfl : (sub f129B [true, false]) = .seq (sub f129B [true, false, false]) (sub f129B [true, false, true])) (seq_eq (by kernel_rfl : (sub f129B [true, false, true]) = .seq (sub f129B [true, false, true, false]) (sub f129B [true, false, true, true])) (seq_eq (by kernel_rfl : (sub f129B [true, false, true, true]) = .seq (sub f129B [true, false, true, true, false]) (sub f129B [true, false, true, true, true])) (seq_eq (by kernel_rfl : (sub f129B [true, false, true, true, true]) = .seq (sub f129B [true, false, true, true, true, false]) (sub f129B [true, false, true, true, true, true])) (f129j1_eq Q) (block_eq (by kernel_rfl : (sub f129B [true, false, true, true, true, false]) = .block 0 (sub f129B [true, false, true, true, true, false, false])) (f129l1_eq Q _))) rfl) rfl) rfl)) rfl)).symm (gt (frame Tryz.f129 [t0]))) s)) h)
/-! 128 gudgeon/lit.Runs -/
noncomputable abbrev f128B : Code := bodyOf Tryz.f128
noncomputable abbrev f128R (Q : AV → St → Prop) : Kt := fun g s => RetP (result Tryz.ty Tryz.f128 g s) fun v => Q v s
noncomputable abbrev f128C : Code → Kt → (Nat → Kt) → Kt → Kt := codeP Tryz.env 128 (Tryz.env.kp 128)
noncomputable def f128j1 (Q : AV → St → Prop) (t4 : AV) (s : St) : Prop :=
  Bnd (bt .len #[25] [t4] (s.nx + 1) (adv s 3)) fun r46 =>
  Bnd (bn .gtr 3 r46.1 (.int .i64 65536)) fun t47 =>
  IfP t47
  (Q (.tup [.nils, (.int .i64 2)]) (adv r46.2 2))
  (Q (.tup [t4, (.int .i64 0)]) (adv r46.2 3))
noncomputable def f128j2 (Q : AV → St → Prop) (ih1 : AV → AV → AV → AV → St → Prop) (t10 t4 t8 t9 : AV) (s : St) : Prop :=
  Bnd (bn .add 3 t10 (.int .i64 1)) fun t44 =>
  ih1 t4 t8 t9 t44 (adv s 2)
noncomputable def f128l1s (Q : AV → St → Prop) (ih1 : AV → AV → AV → AV → St → Prop) (t4 t8 t9 t10 : AV) (s : St) : Prop :=
  Bnd (bn .lss 3 t10 t9) fun t11 =>
  IfP t11
  (Bnd (ixS 1 t8 t10) fun t12 =>
  Bnd (ld 1 false t12 (adv s 4)) fun t13 =>
  CallPu Tryz.env 181 [t13] (adv s 7) fun t15 s1 =>
  Bnd (un .not t15) fun t16 =>
  IfP t16
  (Q (.tup [.nils, (.int .i64 1)]) (adv s1 2))
  (Bnd (bt .len #[25] [t4] (s1.nx + 1) (adv s1 4)) fun r18 =>
  Bnd (bn .sub 3 r18.1 (.int .i64 1)) fun t19 =>
  Bnd (bn .geq 3 t19 (.int .i64 0)) fun t21 =>
  Gd (wantV t21 true) (adv r18.2 11) (fun k => k t4 (adv r18.2 11)) fun t23 s2 =>
  Gd (wantV t21 true) s2 (fun k => k t19 s2) fun t24 s3 =>
  Gd (wantV t21 true) s3 (fun k => Bnd (ixS 2 t23 t24) fun v => k v s3) fun t25 s4 =>
  Gd (wantV t21 true) s4 (fun k => Bnd (shiftP 0 t25) fun v => k v s4) fun t26 s5 =>
  Gd (wantV t21 true) s5 (fun k => Bnd (ld 1 false t26 s5) fun v => k v s5) fun t27 s6 =>
  Gd (wantV t21 true) s6 (fun k => k t13 s6) fun t28 s7 =>
  Gd (wantV t21 true) s7 (fun k => Bnd (bn .eql 3 t27 t28) fun v => k v s7) fun t29 s8 =>
  Bnd (pickV t21 t29 (.bool false)) fun t30 =>
  IfP t30
  (Bnd (ixS 2 t4 t19) fun t33 =>
  Bnd (shiftP 1 t33) fun t34 =>
  Bnd (ld 1 false t34 (adv s8 9)) fun t35 =>
  Bnd (bn .add 3 t35 (.int .i64 1)) fun t36 =>
  Bnd (ixS 2 t4 t19) fun t37 =>
  Bnd (shiftP 1 t37) fun t38 =>
  Bnd (sto 1 t38 t36 (adv s8 9)) fun s9 =>
  f128j2 Q ih1 t10 t4 t8 t9 s9)
  (Bnd (bld 109 [(0, t13), (1, (.int .i64 1))]) fun t41 =>
  Bnd (bsl 25 1 [(0, t41)]) fun t42 =>
  Bnd (bt .append #[25, 25] [t4, t42] (s8.nx + 4) (adv s8 6)) fun r43 =>
  f128j2 Q ih1 t10 r43.1 t8 t9 r43.2)))
  (f128j1 Q t4 (adv s 1))
noncomputable def f128l1 (Q : AV → St → Prop) (n : Nat) : AV → AV → AV → AV → St → Prop := Nat.rec (motive := fun _ => AV → AV → AV → AV → St → Prop) (fun _ _ _ _ _ => False) (fun _ ih => f128l1s Q ih) n
theorem f128j1_eq (Q : AV → St → Prop) : f128C (sub f128B [true, true, true]) (f128R Q) (fun _ _ _ => False) (f128R Q) = (fun g s => f128j1 Q (g 4) s) :=
  Eq.trans rfl (by kernel_rfl)
theorem f128j2_eq (Q : AV → St → Prop) (n1 : Nat) : f128C (sub f128B [true, true, false, true, false, false, true, true, true]) (fun g s => (fun (n : Nat) (g : Gf) (s : St) => f128l1 Q n (g 4) (g 8) (g 9) (g 10) s) n1 (fun k => cond (bitOf (Tryz.env.kp 128) k) (g k) .undef) s) (fun i => cond (Nat.beq i 0) (fun g s => f128j1 Q (g 4) s) ((fun _ _ _ => False) i)) (f128R Q) = (fun g s => f128j2 Q (f128l1 Q n1) (g 10) (g 4) (g 8) (g 9) s) :=
  Eq.trans rfl (by kernel_rfl)
theorem f128l1_eq (Q : AV → St → Prop) (kN : Kt) : f128C (sub f128B [true, true, false, true, false]) kN (fun i => cond (Nat.beq i 0) (fun g s => f128j1 Q (g 4) s) ((fun _ _ _ => False) i)) (f128R Q) = fun g s => ∃ n, (fun (n : Nat) (g : Gf) (s : St) => f128l1 Q n (g 4) (g 8) (g 9) (g 10) s) n g s :=
  loop_eq (L := fun (n : Nat) (g : Gf) (s : St) => f128l1 Q n (g 4) (g 8) (g 9) (g 10) s) (by kernel_rfl : (sub f128B [true, true, false, true, false]) = .loop (sub f128B [true, true, false, true, false, false])) (by kernel_rfl) (fun n1 => Eq.trans (seq_eq (by kernel_rfl : (sub f128B [true, true, false, true, false, false]) = .seq (sub f128B [true, true, false, true, false, false, false]) (sub f128B [true, true, false, true, false, false, true])) (seq_eq (by kernel_rfl : (sub f128B [true, true, false, true, false, false, true]) = .seq (sub f128B [true, true, false, true, false, false, true, false]) (sub f128B [true, true, false, true, false, false, true, true])) (seq_eq (by kernel_rfl : (sub f128B [true, true, false, true, false, false, true, true]) = .seq (sub f128B [true, true, false, true, false, false, true, true, false]) (sub f128B [true, true, false, true, false, false, true, true, true])) (f128j2_eq Q n1) (block_eq (by kernel_rfl : (sub f128B [true, true, false, true, false, false, true, true, false]) = .block 1 (sub f128B [true, true, false, true, false, false, true, true, false, false])) rfl)) rfl) rfl) (by kernel_rfl))
noncomputable def f128 (Q : AV → St → Prop) (t0 : AV) (s : St) : Prop :=
  Bnd (bt .len #[72] [t0] (s.nx + 4) (adv s 6)) fun r9 =>
  ∃ n, f128l1 Q n .nils t0 r9.1 (.int .i64 0) r9.2
theorem f128_run (t0 : AV) (s : St) {Q : AV → St → Prop} (h : f128 Q t0 s) : ∃ r s', WideC Tryz.env 128 [t0] s r s' ∧ Q r s' :=
  wide_of (h := 128) (fn := Tryz.f128) (c := sub f128B []) (by kernel_rfl) (by kernel_rfl) (by kernel_rfl) (by kernel_rfl) (of_decide_eq_true (by kernel_rfl))
    (Eq.mp (Eq.trans (by kernel_rfl) (congrFun (congrFun (show f128C (sub f128B []) (f128R Q) (fun _ _ _ => False) (f128R Q) = _ from (seq_eq (by kernel_rfl : (sub f128B []) = .seq (sub f128B [false]) (sub f128B [true])) (seq_eq (by kernel_rfl : (sub f128B [true]) = .seq (sub f128B [true, false]) (sub f128B [true, true])) (seq_eq (by kernel_rfl : (sub f128B [true, true]) = .seq (sub f128B [true, true, false]) (sub f128B [true, true, true])) (f128j1_eq Q) (seq_eq (by kernel_rfl : (sub f128B [true, true, false]) = .seq (sub f128B [true, true, false, false]) (sub f128B [true, true, false, true])) (block_eq (by kernel_rfl : (sub f128B [true, true, false, true]) = .block 0 (sub f128B [true, true, false, true, false])) (f128l1_eq Q _)) rfl)) rfl) rfl)).symm (gt (frame Tryz.f128 [t0]))) s)) h)
end Go.Proofs.YtdehdahimkcakaaGreatDoor
