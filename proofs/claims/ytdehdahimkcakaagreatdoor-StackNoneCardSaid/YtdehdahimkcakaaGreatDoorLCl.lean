/- PRINTED BY wip/tools/lift.py out of the translation: functions as statements, and that they are so. -/
import Derived.Test.YtdehdahimkcakaaGreatDoorWords
set_option linter.unusedVariables false
namespace Go.Proofs.YtdehdahimkcakaaGreatDoor
open Go Ai
/-! 43 gudgeon/gudgeonlaw23.few -/
noncomputable abbrev f43B : Code := bodyOf Tryz.f43
noncomputable abbrev f43R (Q : AV → St → Prop) : Kt := fun g s => RetP (result Tryz.ty Tryz.f43 g s) fun v => Q v s
noncomputable abbrev f43C : Code → Kt → (Nat → Kt) → Kt → Kt := codeP Tryz.env 43 (Tryz.env.kp 43)
noncomputable def f43j1 (Q : AV → St → Prop) (t3 : AV) (s : St) : Prop :=
  Bnd (bld 33 []) fun t57 =>
  CallPu Tryz.env 93 [t3, t57] (adv s 5) fun t58 s1 =>
  Bnd (bn .eql 3 t58 (.int .i64 0)) fun t59 =>
  Q t59 s1
noncomputable def f43j2 (Q : AV → St → Prop) (ih1 : AV → AV → AV → St → Prop) (t4 t0 t3 : AV) (s : St) : Prop :=
  Bnd (bn .add 3 t4 (.int .i64 1)) fun t14 =>
  ih1 t0 t3 t14 (adv s 3)
noncomputable def f43l1s (Q : AV → St → Prop) (ih1 : AV → AV → AV → St → Prop) (t0 t3 t4 : AV) (s : St) : Prop :=
  Bnd (bt .len #[79] [t0] (s.nx + 2) (adv s 4)) fun r11 =>
  Bnd (bn .lss 3 t4 r11.1) fun t12 =>
  IfP t12
  (Bnd (ixS 18 t0 t4) fun t17 =>
  Bnd (ld 18 true t17 (adv r11.2 6)) fun t18 =>
  Bnd (zr 93) fun z5 =>
  Bnd (sto 18 (.ptr (r11.2.nx + 4) 0) t18 ((adv r11.2 6).set (r11.2.nx + 4) (some (.cells z5.cells 93 true true)))) fun s1 =>
  Bnd (shiftP 12 (.ptr (r11.2.nx + 4) 0)) fun t19 =>
  Bnd (ld 6 true t19 (adv s1 24)) fun t20 =>
  CallPu Tryz.env 33 [t20] (adv s1 24) fun t21 s2 =>
  Bnd (bn .gtr 3 t21 (.int .i64 60)) fun t22 =>
  Gd (wantV t22 false) s2 (fun k => Bnd (shiftP 12 (.ptr (r11.2.nx + 4) 0)) fun v => k v s2) fun t24 s3 =>
  Gd (wantV t22 false) s3 (fun k => Bnd (ld 6 true t24 s3) fun v => k v s3) fun t25 s4 =>
  Gd (wantV t22 false) s4 (fun k => CallPu Tryz.env 74 [t25] s4 k) fun t26 s5 =>
  Gd (wantV t22 false) s5 (fun k => Bnd (bn .gtr 3 t26 (.int .i64 64)) fun v => k v s5) fun t27 s6 =>
  Bnd (pickV t22 (.bool true) t27) fun t28 =>
  Gd (wantV t28 false) s6 (fun k => Bnd (shiftP 2 (.ptr (r11.2.nx + 4) 0)) fun v => k v s6) fun t30 s7 =>
  Gd (wantV t28 false) s7 (fun k => Bnd (shiftP 4 t30) fun v => k v s7) fun t31 s8 =>
  Gd (wantV t28 false) s8 (fun k => Bnd (ld 6 true t31 s8) fun v => k v s8) fun t32 s9 =>
  Gd (wantV t28 false) s9 (fun k => CallPu Tryz.env 33 [t32] s9 k) fun t33 s10 =>
  Gd (wantV t28 false) s10 (fun k => Bnd (bn .gtr 3 t33 (.int .i64 60)) fun v => k v s10) fun t34 s11 =>
  Bnd (pickV t28 (.bool true) t34) fun t35 =>
  Gd (wantV t35 false) s11 (fun k => Bnd (shiftP 2 (.ptr (r11.2.nx + 4) 0)) fun v => k v s11) fun t37 s12 =>
  Gd (wantV t35 false) s12 (fun k => Bnd (shiftP 0 t37) fun v => k v s12) fun t38 s13 =>
  Gd (wantV t35 false) s13 (fun k => Bnd (ld 1 false t38 s13) fun v => k v s13) fun t39 s14 =>
  Gd (wantV t35 false) s14 (fun k => Bnd (bt .len #[9] [t39] (s1.nx + 21) s14) fun r => k r.1 r.2) fun t40 s15 =>
  Gd (wantV t35 false) s15 (fun k => Bnd (bn .gtr 3 t40 (.int .i64 200)) fun v => k v s15) fun t41 s16 =>
  Bnd (pickV t35 (.bool true) t41) fun t42 =>
  IfP t42
  (Q (.bool false) (adv s16 1))
  (Bnd (shiftP 0 (.ptr (r11.2.nx + 4) 0)) fun t43 =>
  Bnd (ld 1 false t43 (adv s16 8)) fun t44 =>
  Bnd (bn .eql 3 t44 (.int .i64 0)) fun t45 =>
  Gd (wantV t45 false) (adv s16 8) (fun k => Bnd (shiftP 0 (.ptr (r11.2.nx + 4) 0)) fun v => k v (adv s16 8)) fun t47 s17 =>
  Gd (wantV t45 false) s17 (fun k => Bnd (ld 1 false t47 s17) fun v => k v s17) fun t48 s18 =>
  Gd (wantV t45 false) s18 (fun k => Bnd (bn .eql 3 t48 (.int .i64 1)) fun v => k v s18) fun t49 s19 =>
  Bnd (pickV t45 (.bool true) t49) fun t50 =>
  IfP t50
  (Bnd (shiftP 2 (.ptr (r11.2.nx + 4) 0)) fun t52 =>
  Bnd (ld 10 true t52 (adv s19 6)) fun t53 =>
  Bnd (bsl 49 1 [(0, t53)]) fun t54 =>
  Bnd (bt .append #[49, 49] [t3, t54] (s19.nx + 4) (adv s19 6)) fun r55 =>
  f43j2 Q ih1 t4 t0 r55.1 r55.2)
  (f43j2 Q ih1 t4 t0 t3 s19)))
  (f43j1 Q t3 r11.2)
noncomputable def f43l1 (Q : AV → St → Prop) (n : Nat) : AV → AV → AV → St → Prop := Nat.rec (motive := fun _ => AV → AV → AV → St → Prop) (fun _ _ _ _ => False) (fun _ ih => f43l1s Q ih) n
theorem f43j1_eq (Q : AV → St → Prop) : f43C (sub f43B [true, true, true, true]) (f43R Q) (fun _ _ _ => False) (f43R Q) = (fun g s => f43j1 Q (g 3) s) :=
  Eq.trans rfl (by kernel_rfl)
theorem f43j2_eq (Q : AV → St → Prop) (n1 : Nat) : f43C (sub f43B [true, true, true, false, true, false, false, true, true]) (fun g s => (fun (n : Nat) (g : Gf) (s : St) => f43l1 Q n (g 0) (g 3) (g 4) s) n1 (fun k => cond (bitOf (Tryz.env.kp 43) k) (g k) .undef) s) (fun i => cond (Nat.beq i 0) (fun g s => f43j1 Q (g 3) s) ((fun _ _ _ => False) i)) (f43R Q) = (fun g s => f43j2 Q (f43l1 Q n1) (g 4) (g 0) (g 3) s) :=
  Eq.trans rfl (by kernel_rfl)
theorem f43l1_eq (Q : AV → St → Prop) (kN : Kt) : f43C (sub f43B [true, true, true, false, true, false]) kN (fun i => cond (Nat.beq i 0) (fun g s => f43j1 Q (g 3) s) ((fun _ _ _ => False) i)) (f43R Q) = fun g s => ∃ n, (fun (n : Nat) (g : Gf) (s : St) => f43l1 Q n (g 0) (g 3) (g 4) s) n g s :=
  loop_eq (L := fun (n : Nat) (g : Gf) (s : St) => f43l1 Q n (g 0) (g 3) (g 4) s) (by kernel_rfl : (sub f43B [true, true, true, false, true, false]) = .loop (sub f43B [true, true, true, false, true, false, false])) (by kernel_rfl) (fun n1 => Eq.trans (seq_eq (by kernel_rfl : (sub f43B [true, true, true, false, true, false, false]) = .seq (sub f43B [true, true, true, false, true, false, false, false]) (sub f43B [true, true, true, false, true, false, false, true])) (seq_eq (by kernel_rfl : (sub f43B [true, true, true, false, true, false, false, true]) = .seq (sub f43B [true, true, true, false, true, false, false, true, false]) (sub f43B [true, true, true, false, true, false, false, true, true])) (f43j2_eq Q n1) (block_eq (by kernel_rfl : (sub f43B [true, true, true, false, true, false, false, true, false]) = .block 1 (sub f43B [true, true, true, false, true, false, false, true, false, false])) rfl)) rfl) (by kernel_rfl))
noncomputable def f43 (Q : AV → St → Prop) (t0 : AV) (s : St) : Prop :=
  Bnd (bt .len #[79] [t0] (s.nx + 2) (adv s 4)) fun r7 =>
  Bnd (bn .gtr 3 r7.1 (.int .i64 60)) fun t8 =>
  IfP t8
  (Q (.bool false) (adv r7.2 1))
  (∃ n, f43l1 Q n t0 .nils (.int .i64 0) (adv r7.2 2))
theorem f43_run (t0 : AV) (s : St) {Q : AV → St → Prop} (h : f43 Q t0 s) : ∃ r s', WideC Tryz.env 43 [t0] s r s' ∧ Q r s' :=
  wide_of (h := 43) (fn := Tryz.f43) (c := sub f43B []) (by kernel_rfl) (by kernel_rfl) (by kernel_rfl) (by kernel_rfl) (of_decide_eq_true (by kernel_rfl))
    (Eq.mp (Eq.trans (by kernel_rfl) (congrFun (congrFun (show f43C (sub f43B []) (f43R Q) (fun _ _ _ => False) (f43R Q) = _ from (seq_eq (by kernel_rfl : (sub f43B []) = .seq (sub f43B [false]) (sub f43B [true])) (seq_eq (by kernel_rfl : (sub f43B [true]) = .seq (sub f43B [true, false]) (sub f43B [true, true])) (seq_eq (by kernel_rfl : (sub f43B [true, true]) = .seq (sub f43B [true, true, false]) (sub f43B [true, true, true])) (seq_eq (by kernel_rfl : (sub f43B [true, true, true]) = .seq (sub f43B [true, true, true, false]) (sub f43B [true, true, true, true])) (f43j1_eq Q) (seq_eq (by kernel_rfl : (sub f43B [true, true, true, false]) = .seq (sub f43B [true, true, true, false, false]) (sub f43B [true, true, true, false, true])) (block_eq (by kernel_rfl : (sub f43B [true, true, true, false, true]) = .block 0 (sub f43B [true, true, true, false, true, false])) (f43l1_eq Q _)) rfl)) rfl) rfl) rfl)).symm (gt (frame Tryz.f43 [t0]))) s)) h)
end Go.Proofs.YtdehdahimkcakaaGreatDoor
