/- Texts joined by wip/tools/pack.py: LRp. -/
import Derived.Test.YtdehdahimkcakaaGreatDoorYm
section
set_option linter.unusedVariables false
set_option maxRecDepth 1000000
namespace Go.Proofs.YtdehdahimkcakaaGreatDoor
open Go Ai
noncomputable abbrev f120B : Code := bodyOf Tryz.f120
noncomputable abbrev f120R (Q : AV → St → Prop) : Kt := fun g s => RetP (result Tryz.ty Tryz.f120 g s) fun v => Q v s
noncomputable abbrev f120C : Code → Kt → (Nat → Kt) → Kt → Kt := codeP Tryz.env 120 (Tryz.env.kp 120)
noncomputable def f120j2 (Q : AV → St → Prop) (t9 t10 t6 : AV) (s : St) : Prop :=
  Bnd (ld 6 true t9 (adv s 6)) fun t81 =>
  (clear 2 ⟨2, true, rch (adv s 6) [(.fn 65 [] []), (.str [115, 116, 114, 46, 43, 43]), t10], some (adv s 6).nx⟩ [⟨1, false, [], none⟩, ⟨0, false, idOf t9, none⟩] = true ∧ CallWiD Tryz.env 65 [(.str [115, 116, 114, 46, 43, 43]), t10] (rch (adv s 6) [(.fn 65 [] []), (.str [115, 116, 114, 46, 43, 43]), t10]) (adv s 6) fun t83 s1 =>
  Bnd (bsl 31 2 [(0, t81), (1, t83)]) fun t84 =>
  CallWiD Tryz.env 65 [(.str [108, 101, 116]), t84] (rch s1 [(.fn 65 [] []), (.str [108, 101, 116]), t84]) s1 fun t85 s2 =>
  (s2.h (s.nx + 5) = none ∧ Bnd (sto 6 t6 t85 s2) fun s3 =>
  RetP ((resC [ld 6 true t6 s3]).map tupV) fun v => Q v s3))
noncomputable def f120j3 (Q : AV → St → Prop) (ih1 : AV → AV → AV → AV → AV → AV → St → Prop) (t12 t2 t6 t9 t10 t11 : AV) (s : St) : Prop :=
  Bnd (bn .sub 3 t12 (.int .i64 1)) fun t67 =>
  ih1 t2 t6 t9 t10 t11 t67 (adv s 3)
noncomputable def f120j4 (Q : AV → St → Prop) (ih1 : AV → AV → AV → AV → AV → AV → St → Prop) (t2 t12 t6 t9 t10 t11 : AV) (s : St) : Prop :=
  Bnd (bn .quo 3 t2 (.int .i64 2)) fun t80 =>
  f120j3 Q ih1 t12 t80 t6 t9 t10 t11 (adv s 3)
noncomputable def f120l1s (Q : AV → St → Prop) (ih1 : AV → AV → AV → AV → AV → AV → St → Prop) (t2 t6 t9 t10 t11 t12 : AV) (s : St) : Prop :=
  Bnd (bn .geq 3 t12 (.int .i64 0)) fun t65 =>
  IfP t65
  (Bnd (bn .geq 3 t11 t2) fun t70 =>
  IfP t70
  (CallPu Tryz.env 169 [t12] (adv s 11) fun t73 s1 =>
  Bnd (bsl 31 1 [(0, t73)]) fun t74 =>
  Bnd (bt .append #[31, 31] [t10, t74] (s.nx + 9) s1) fun r75 =>
  Bnd (bn .sub 3 t11 t2) fun t78 =>
  f120j4 Q ih1 t2 t12 t6 t9 r75.1 t78 (adv r75.2 4))
  (f120j4 Q ih1 t2 t12 t6 t9 t10 t11 (adv s 5)))
  (f120j2 Q t9 t10 t6 (adv s 2))
noncomputable def f120l1 (Q : AV → St → Prop) (n : Nat) : AV → AV → AV → AV → AV → AV → St → Prop := Nat.rec (motive := fun _ => AV → AV → AV → AV → AV → AV → St → Prop) (fun _ _ _ _ _ _ _ => False) (fun _ ih => f120l1s Q ih) n
noncomputable def f120j1 (Q : AV → St → Prop) (t1 t7 t2 t3 t6 : AV) (s : St) : Prop :=
  CallPuD Tryz.env 169 [t1] (rch (adv s 9) [(.fn 169 [] []), t1]) (adv s 9) fun t32 s1 =>
  Bnd (ld 6 true t7 s1) fun t33 =>
  Bnd (bsl 31 2 [(0, t32), (1, t33)]) fun t34 =>
  Bnd (bld 33 [(0, (.bool true)), (3, t34)]) fun t35 =>
  Bnd (bsl 31 1 [(0, t35)]) fun t36 =>
  Bnd (bld 33 [(0, (.bool true)), (3, t36)]) fun t37 =>
  (clear 0 ⟨7, true, (s.nx + 7) :: [], none⟩ [⟨6, false, [], none⟩, ⟨5, false, [], none⟩, ⟨4, false, [], none⟩, ⟨3, false, [], none⟩, ⟨2, false, idOf t7, none⟩, ⟨1, false, rch (adv s 9) [(.fn 169 [] []), t1], none⟩, ⟨0, false, [], none⟩] = true ∧ s1.h (s.nx + 7) = none ∧ Bnd (zr 33) fun z9 =>
  ((s1.set (s.nx + 7) (some (.cells z9.cells 33 true true))).h (s.nx + 8) = none ∧ Bnd (sto 6 (.ptr (s.nx + 7) 0) t37 (s1.set (s.nx + 7) (some (.cells z9.cells 33 true true)))) fun s2 =>
  Bnd (bn .mul 3 (.int .i64 2) t2) fun t39 =>
  Bnd (shiftP 1 t3) fun t40 =>
  Bnd (ld 1 false t40 (adv s2 5)) fun t41 =>
  Bnd (bn .leq 3 t39 t41) fun t42 =>
  IfP t42
  (Bnd (ld 6 true (.ptr (s.nx + 7) 0) (adv s2 15)) fun t43 =>
  Bnd (ld 2 true t3 (adv s2 15)) fun t44 =>
  Bnd (bn .add 3 t1 (.int .i64 1)) fun t46 =>
  Bnd (bn .mul 3 (.int .i64 2) t2) fun t48 =>
  CallPuD Tryz.env 120 [t44, t46, t48] (rch (adv s2 15) [(.fn 120 [] []), t44, t46, t48]) (adv s2 15) fun t49 s3 =>
  Bnd (bsl 31 2 [(0, t43), (1, t49)]) fun t50 =>
  CallWiD Tryz.env 65 [(.str [108, 101, 116]), t50] (rch s3 [(.fn 65 [] []), (.str [108, 101, 116]), t50]) s3 fun t51 s4 =>
  (s4.h (s2.nx + 14) = none ∧ Bnd (sto 6 t6 t51 s4) fun s5 =>
  RetP ((resC [ld 6 true t6 s5]).map tupV) fun v => Q v s5))
  (Bnd (shiftP 1 t3) fun t53 =>
  Bnd (ld 1 false t53 (adv s2 9)) fun t54 =>
  Bnd (bn .eql 3 t2 t54) fun t55 =>
  IfP t55
  (Bnd (ld 6 true (.ptr (s.nx + 7) 0) (adv s2 15)) fun t56 =>
  CallPuD Tryz.env 169 [t1] (rch (adv s2 15) [(.fn 169 [] []), t1]) (adv s2 15) fun t58 s6 =>
  Bnd (bsl 31 2 [(0, t56), (1, t58)]) fun t59 =>
  CallWiD Tryz.env 65 [(.str [108, 101, 116]), t59] (rch s6 [(.fn 65 [] []), (.str [108, 101, 116]), t59]) s6 fun t60 s7 =>
  (s7.h (s2.nx + 14) = none ∧ Bnd (sto 6 t6 t60 s7) fun s8 =>
  RetP ((resC [ld 6 true t6 s8]).map tupV) fun v => Q v s8))
  (Bnd (shiftP 1 t3) fun t61 =>
  Bnd (ld 1 false t61 (adv s2 13)) fun t62 =>
  ∃ n, f120l1 Q n t2 t6 (.ptr (s.nx + 7) 0) .nils t62 t1 (adv s2 15)))))
theorem f120j2_eq (Q : AV → St → Prop) : f120C (sub f120B [true, true, true, true, true, true, true, true, true]) (f120R Q) (fun _ _ _ => False) (f120R Q) = (fun g s => f120j2 Q (g 9) (g 10) (g 6) s) :=
  Eq.trans rfl (by kernel_rfl)
theorem f120j3_eq (Q : AV → St → Prop) (n1 : Nat) : f120C (sub f120B [true, true, true, true, true, true, true, true, false, true, false, false, true, true]) (fun g s => (fun (n : Nat) (g : Gf) (s : St) => f120l1 Q n (g 2) (g 6) (g 9) (g 10) (g 11) (g 12) s) n1 (fun k => cond (bitOf (Tryz.env.kp 120) k) (g k) .undef) s) (fun i => cond (Nat.beq i 0) (fun g s => f120j2 Q (g 9) (g 10) (g 6) s) ((fun _ _ _ => False) i)) (f120R Q) = (fun g s => f120j3 Q (f120l1 Q n1) (g 12) (g 2) (g 6) (g 9) (g 10) (g 11) s) :=
  Eq.trans rfl (by kernel_rfl)
theorem f120j4_eq (Q : AV → St → Prop) (n1 : Nat) : f120C (sub f120B [true, true, true, true, true, true, true, true, false, true, false, false, true, false, false, true]) (fun g s => f120j3 Q (f120l1 Q n1) (g 12) (g 2) (g 6) (g 9) (g 10) (g 11) s) (fun i => cond (Nat.beq i 1) (fun g s => f120j3 Q (f120l1 Q n1) (g 12) (g 2) (g 6) (g 9) (g 10) (g 11) s) ((fun i => cond (Nat.beq i 0) (fun g s => f120j2 Q (g 9) (g 10) (g 6) s) ((fun _ _ _ => False) i)) i)) (f120R Q) = (fun g s => f120j4 Q (f120l1 Q n1) (g 2) (g 12) (g 6) (g 9) (g 10) (g 11) s) :=
  Eq.trans rfl (by kernel_rfl)
theorem f120l1_eq (Q : AV → St → Prop) (kN : Kt) : f120C (sub f120B [true, true, true, true, true, true, true, true, false, true, false]) kN (fun i => cond (Nat.beq i 0) (fun g s => f120j2 Q (g 9) (g 10) (g 6) s) ((fun _ _ _ => False) i)) (f120R Q) = fun g s => ∃ n, (fun (n : Nat) (g : Gf) (s : St) => f120l1 Q n (g 2) (g 6) (g 9) (g 10) (g 11) (g 12) s) n g s :=
  loop_eq (L := fun (n : Nat) (g : Gf) (s : St) => f120l1 Q n (g 2) (g 6) (g 9) (g 10) (g 11) (g 12) s) (by kernel_rfl : (sub f120B [true, true, true, true, true, true, true, true, false, true, false]) = .loop (sub f120B [true, true, true, true, true, true, true, true, false, true, false, false])) (by kernel_rfl) (fun n1 => Eq.trans (seq_eq (by kernel_rfl : (sub f120B [true, true, true, true, true, true, true, true, false, true, false, false]) = .seq (sub f120B [true, true, true, true, true, true, true, true, false, true, false, false, false]) (sub f120B [true, true, true, true, true, true, true, true, false, true, false, false, true])) (seq_eq (by kernel_rfl : (sub f120B [true, true, true, true, true, true, true, true, false, true, false, false, true]) = .seq (sub f120B [true, true, true, true, true, true, true, true, false, true, false, false, true, false]) (sub f120B [true, true, true, true, true, true, true, true, false, true, false, false, true, true])) (f120j3_eq Q n1) (block_eq (by kernel_rfl : (sub f120B [true, true, true, true, true, true, true, true, false, true, false, false, true, false]) = .block 1 (sub f120B [true, true, true, true, true, true, true, true, false, true, false, false, true, false, false])) (seq_eq (by kernel_rfl : (sub f120B [true, true, true, true, true, true, true, true, false, true, false, false, true, false, false]) = .seq (sub f120B [true, true, true, true, true, true, true, true, false, true, false, false, true, false, false, false]) (sub f120B [true, true, true, true, true, true, true, true, false, true, false, false, true, false, false, true])) (f120j4_eq Q n1) rfl))) rfl) (by kernel_rfl))
theorem f120j1_eq (Q : AV → St → Prop) : f120C (sub f120B [true, true, true]) (f120R Q) (fun _ _ _ => False) (f120R Q) = (fun g s => f120j1 Q (g 1) (g 7) (g 2) (g 3) (g 6) s) :=
  Eq.trans (seq_eq (by kernel_rfl : (sub f120B [true, true, true]) = .seq (sub f120B [true, true, true, false]) (sub f120B [true, true, true, true])) (seq_eq (by kernel_rfl : (sub f120B [true, true, true, true]) = .seq (sub f120B [true, true, true, true, false]) (sub f120B [true, true, true, true, true])) (seq_eq (by kernel_rfl : (sub f120B [true, true, true, true, true]) = .seq (sub f120B [true, true, true, true, true, false]) (sub f120B [true, true, true, true, true, true])) (seq_eq (by kernel_rfl : (sub f120B [true, true, true, true, true, true]) = .seq (sub f120B [true, true, true, true, true, true, false]) (sub f120B [true, true, true, true, true, true, true])) (seq_eq (by kernel_rfl : (sub f120B [true, true, true, true, true, true, true]) = .seq (sub f120B [true, true, true, true, true, true, true, false]) (sub f120B [true, true, true, true, true, true, true, true])) (seq_eq (by kernel_rfl : (sub f120B [true, true, true, true, true, true, true, true]) = .seq (sub f120B [true, true, true, true, true, true, true, true, false]) (sub f120B [true, true, true, true, true, true, true, true, true])) (f120j2_eq Q) (seq_eq (by kernel_rfl : (sub f120B [true, true, true, true, true, true, true, true, false]) = .seq (sub f120B [true, true, true, true, true, true, true, true, false, false]) (sub f120B [true, true, true, true, true, true, true, true, false, true])) (block_eq (by kernel_rfl : (sub f120B [true, true, true, true, true, true, true, true, false, true]) = .block 0 (sub f120B [true, true, true, true, true, true, true, true, false, true, false])) (f120l1_eq Q _)) rfl)) rfl) rfl) rfl) rfl) rfl) (by kernel_rfl)
noncomputable def f120 (Q : AV → St → Prop) (t0 t1 t2 : AV) (s : St) : Prop :=
  (t0.cells.all AV.one = true ∧
  Bnd (zr 33) fun z6 =>
  Bnd (shiftP 0 (.ptr s.nx 0)) fun t14 =>
  Bnd (ld 1 false t14 (adv (((adv s 2).set s.nx (some (.cells t0.cells 109 true true))).set (s.nx + 1) (some (.cells z6.cells 33 true true))) 11)) fun t15 =>
  Bnd (bld 109 [(0, t15), (1, (.int .i64 1))]) fun t16 =>
  Bnd (bsl 25 1 [(0, t16)]) fun t17 =>
  CallPu Tryz.env 121 [t17] (adv (((adv s 2).set s.nx (some (.cells t0.cells 109 true true))).set (s.nx + 1) (some (.cells z6.cells 33 true true))) 11) fun t18 s1 =>
  Bnd (extr t18 0) fun t19 =>
  Bnd (extr t18 1) fun t20 =>
  Bnd (zr 33) fun z7 =>
  Bnd (sto 6 (.ptr ((((adv s 2).set s.nx (some (.cells t0.cells 109 true true))).set (s.nx + 1) (some (.cells z6.cells 33 true true))).nx + 8) 0) t19 (s1.set ((((adv s 2).set s.nx (some (.cells t0.cells 109 true true))).set (s.nx + 1) (some (.cells z6.cells 33 true true))).nx + 8) (some (.cells z7.cells 33 true true)))) fun s2 =>
  Bnd (bn .gtr 3 t1 (.int .i64 0)) fun t22 =>
  IfP t22
  (Bnd (bn .sub 3 t1 (.int .i64 1)) fun t24 =>
  CallPu Tryz.env 169 [t24] (adv s2 11) fun t25 s3 =>
  Bnd (bn .sub 3 t1 (.int .i64 1)) fun t27 =>
  CallPu Tryz.env 169 [t27] s3 fun t28 s4 =>
  Bnd (bsl 31 2 [(0, t25), (1, t28)]) fun t29 =>
  CallWi Tryz.env 65 [(.str [115, 116, 114, 46, 43, 43]), t29] s4 fun t30 s5 =>
  Bnd (sto 6 (.ptr ((((adv s 2).set s.nx (some (.cells t0.cells 109 true true))).set (s.nx + 1) (some (.cells z6.cells 33 true true))).nx + 8) 0) t30 s5) fun s6 =>
  f120j1 Q t1 (.ptr ((((adv s 2).set s.nx (some (.cells t0.cells 109 true true))).set (s.nx + 1) (some (.cells z6.cells 33 true true))).nx + 8) 0) t2 (.ptr s.nx 0) (.ptr (s.nx + 1) 0) s6)
  (f120j1 Q t1 (.ptr ((((adv s 2).set s.nx (some (.cells t0.cells 109 true true))).set (s.nx + 1) (some (.cells z6.cells 33 true true))).nx + 8) 0) t2 (.ptr s.nx 0) (.ptr (s.nx + 1) 0) (adv s2 2)))
theorem f120_run (t0 t1 t2 : AV) (s : St) {Q : AV → St → Prop} (h : f120 Q t0 t1 t2 s) : ∃ r s', WideC Tryz.env 120 [t0, t1, t2] s r s' ∧ Q r s' :=
  wide_of (h := 120) (fn := Tryz.f120) (c := sub f120B []) (by kernel_rfl) (by kernel_rfl) (by kernel_rfl) (by kernel_rfl) (of_decide_eq_true (by kernel_rfl))
    (Eq.mp (Eq.trans (by kernel_rfl) (congrFun (congrFun (show f120C (sub f120B []) (f120R Q) (fun _ _ _ => False) (f120R Q) = _ from (seq_eq (by kernel_rfl : (sub f120B []) = .seq (sub f120B [false]) (sub f120B [true])) (seq_eq (by kernel_rfl : (sub f120B [true]) = .seq (sub f120B [true, false]) (sub f120B [true, true])) (seq_eq (by kernel_rfl : (sub f120B [true, true]) = .seq (sub f120B [true, true, false]) (sub f120B [true, true, true])) (f120j1_eq Q) rfl) rfl) rfl)).symm (gt (frame Tryz.f120 [t0, t1, t2]))) s)) h)
noncomputable abbrev f65B : Code := bodyOf Tryz.f65
noncomputable abbrev f65R (Q : AV → St → Prop) : Kt := fun g s => RetP (result Tryz.ty Tryz.f65 g s) fun v => Q v s
noncomputable abbrev f65C : Code → Kt → (Nat → Kt) → Kt → Kt := codeP Tryz.env 65 (Tryz.env.kp 65)
noncomputable def f65 (Q : AV → St → Prop) (t0 t1 : AV) (s : St) : Prop :=
  Bnd (zr 33) fun z4 =>
  CallPu Tryz.env 62 [(.int .i64 3), t0] (adv ((adv s 1).set s.nx (some (.cells z4.cells 33 true true))) 4) fun t7 s1 =>
  Bnd (bsl 31 1 [(0, t7)]) fun t8 =>
  Bnd (bt .append #[31, 31] [t8, t1] (s1.nx + 2) (adv s1 5)) fun r11 =>
  Bnd (bld 33 [(0, (.bool true)), (3, r11.1)]) fun t12 =>
  Bnd (sto 6 (.ptr s.nx 0) t12 r11.2) fun s2 =>
  RetP ((resC [ld 6 true (.ptr s.nx 0) s2]).map tupV) fun v => Q v s2
theorem f65_run (t0 t1 : AV) (s : St) {Q : AV → St → Prop} (h : f65 Q t0 t1 s) : ∃ r s', WideC Tryz.env 65 [t0, t1] s r s' ∧ Q r s' :=
  wide_of (h := 65) (fn := Tryz.f65) (c := sub f65B []) (by kernel_rfl) (by kernel_rfl) (by kernel_rfl) (by kernel_rfl) (of_decide_eq_true (by kernel_rfl))
    (Eq.mp (Eq.trans (by kernel_rfl) (congrFun (congrFun (show f65C (sub f65B []) (f65R Q) (fun _ _ _ => False) (f65R Q) = _ from rfl).symm (gt (frame Tryz.f65 [t0, t1]))) s)) h)
noncomputable abbrev f169B : Code := bodyOf Tryz.f169
noncomputable abbrev f169R (Q : AV → St → Prop) : Kt := fun g s => RetP (result Tryz.ty Tryz.f169 g s) fun v => Q v s
noncomputable abbrev f169C : Code → Kt → (Nat → Kt) → Kt → Kt := codeP Tryz.env 169 (Tryz.env.kp 169)
noncomputable def f169 (Q : AV → St → Prop) (t0 : AV) (s : St) : Prop :=
  Bnd (zr 33) fun z2 =>
  Bnd (cv 3 211 t0 (adv ((adv s 1).set s.nx (some (.cells z2.cells 33 true true))) 7)) fun t4 =>
  Bnd (bsl 22 1 [(0, t4)]) fun t5 =>
  CallPu Tryz.env 63 [t5] (adv ((adv s 1).set s.nx (some (.cells z2.cells 33 true true))) 7) fun t6 s1 =>
  Bnd (bn .add 9 (.str [100]) t6) fun t7 =>
  CallPu Tryz.env 62 [(.int .i64 3), t7] s1 fun t8 s2 =>
  Bnd (sto 6 (.ptr s.nx 0) t8 s2) fun s3 =>
  RetP ((resC [ld 6 true (.ptr s.nx 0) s3]).map tupV) fun v => Q v s3
theorem f169_run (t0 : AV) (s : St) {Q : AV → St → Prop} (h : f169 Q t0 s) : ∃ r s', WideC Tryz.env 169 [t0] s r s' ∧ Q r s' :=
  wide_of (h := 169) (fn := Tryz.f169) (c := sub f169B []) (by kernel_rfl) (by kernel_rfl) (by kernel_rfl) (by kernel_rfl) (of_decide_eq_true (by kernel_rfl))
    (Eq.mp (Eq.trans (by kernel_rfl) (congrFun (congrFun (show f169C (sub f169B []) (f169R Q) (fun _ _ _ => False) (f169R Q) = _ from rfl).symm (gt (frame Tryz.f169 [t0]))) s)) h)
noncomputable abbrev f67B : Code := bodyOf Tryz.f67
noncomputable abbrev f67R (Q : AV → St → Prop) : Kt := fun g s => RetP (result Tryz.ty Tryz.f67 g s) fun v => Q v s
noncomputable abbrev f67C : Code → Kt → (Nat → Kt) → Kt → Kt := codeP Tryz.env 67 (Tryz.env.kp 67)
noncomputable def f67j1 (Q : AV → St → Prop) (t3 : AV) (s : St) : Prop :=
  Q t3 (adv s 2)
noncomputable def f67j2 (Q : AV → St → Prop) (ih1 : AV → AV → AV → St → Prop) (t0 t4 t6 t3 : AV) (s : St) : Prop :=
  Bnd (slc 25 t0 (some t4) (some t6) none (adv s 11)) fun t57 =>
  CallPu Tryz.env 121 [t57] (adv s 11) fun t58 s1 =>
  Bnd (extr t58 0) fun t59 =>
  Bnd (extr t58 1) fun t60 =>
  Bnd (zr 33) fun z7 =>
  Bnd (sto 6 (.ptr (s.nx + 8) 0) t59 (s1.set (s.nx + 8) (some (.cells z7.cells 33 true true)))) fun s2 =>
  Bnd (ld 6 true (.ptr (s.nx + 8) 0) (adv s2 5)) fun t62 =>
  Bnd (bsl 31 1 [(0, t62)]) fun t63 =>
  Bnd (bt .append #[31, 31] [t3, t63] (s2.nx + 3) (adv s2 5)) fun r64 =>
  ih1 t0 r64.1 t6 (adv r64.2 2)
noncomputable def f67l2s (Q : AV → St → Prop) (ih1 : AV → AV → AV → St → Prop) (ih2 : AV → AV → AV → AV → AV → St → Prop) (t0 t3 t4 t5 t6 : AV) (s : St) : Prop :=
  Bnd (bt .len #[25] [t0] (s.nx + 2) (adv s 14)) fun r32 =>
  Bnd (bn .lss 3 t6 r32.1) fun t33 =>
  Gd (wantV t33 true) r32.2 (fun k => k t5 r32.2) fun t35 s1 =>
  Gd (wantV t33 true) s1 (fun k => k t0 s1) fun t36 s2 =>
  Gd (wantV t33 true) s2 (fun k => k t6 s2) fun t37 s3 =>
  Gd (wantV t33 true) s3 (fun k => Bnd (ixS 2 t36 t37) fun v => k v s3) fun t38 s4 =>
  Gd (wantV t33 true) s4 (fun k => Bnd (shiftP 1 t38) fun v => k v s4) fun t39 s5 =>
  Gd (wantV t33 true) s5 (fun k => Bnd (ld 1 false t39 s5) fun v => k v s5) fun t40 s6 =>
  Gd (wantV t33 true) s6 (fun k => Bnd (bn .add 3 t35 t40) fun v => k v s6) fun t41 s7 =>
  Gd (wantV t33 true) s7 (fun k => Bnd (bn .leq 3 t41 (.int .i64 1000)) fun v => k v s7) fun t42 s8 =>
  Bnd (pickV t33 t42 (.bool false)) fun t43 =>
  IfP t43
  (Bnd (ixS 2 t0 t6) fun t47 =>
  Bnd (shiftP 1 t47) fun t48 =>
  Bnd (ld 1 false t48 (adv s8 8)) fun t49 =>
  Bnd (bn .add 3 t5 t49) fun t50 =>
  Bnd (bn .add 3 t6 (.int .i64 1)) fun t52 =>
  ih2 t0 t3 t4 t50 t52 (adv s8 11))
  (f67j2 Q ih1 t0 t4 t6 t3 s8)
noncomputable def f67l2 (Q : AV → St → Prop) (ih1 : AV → AV → AV → St → Prop) (n : Nat) : AV → AV → AV → AV → AV → St → Prop := Nat.rec (motive := fun _ => AV → AV → AV → AV → AV → St → Prop) (fun _ _ _ _ _ _ => False) (fun _ ih => f67l2s Q ih1 ih) n
noncomputable def f67l1s (Q : AV → St → Prop) (ih1 : AV → AV → AV → St → Prop) (t0 t3 t4 : AV) (s : St) : Prop :=
  Bnd (bt .len #[25] [t0] (s.nx + 2) (adv s 4)) fun r11 =>
  Bnd (bn .lss 3 t4 r11.1) fun t12 =>
  IfP t12
  (Bnd (ixS 2 t0 t4) fun t15 =>
  Bnd (shiftP 1 t15) fun t16 =>
  Bnd (ld 1 false t16 (adv r11.2 6)) fun t17 =>
  Bnd (bn .gtr 3 t17 (.int .i64 1000)) fun t18 =>
  IfP t18
  (Bnd (ixS 2 t0 t4) fun t22 =>
  Bnd (ld 2 true t22 (adv r11.2 15)) fun t23 =>
  CallPu Tryz.env 120 [t23, (.int .i64 0), (.int .i64 1)] (adv r11.2 15) fun t24 s1 =>
  Bnd (bsl 31 1 [(0, t24)]) fun t25 =>
  Bnd (bt .append #[31, 31] [t3, t25] (r11.2.nx + 13) s1) fun r26 =>
  Bnd (bn .add 3 t4 (.int .i64 1)) fun t28 =>
  ih1 t0 r26.1 t28 (adv r26.2 3))
  (∃ n, f67l2 Q ih1 n t0 t3 t4 (.int .i64 0) t4 (adv r11.2 9)))
  (f67j1 Q t3 r11.2)
noncomputable def f67l1 (Q : AV → St → Prop) (n : Nat) : AV → AV → AV → St → Prop := Nat.rec (motive := fun _ => AV → AV → AV → St → Prop) (fun _ _ _ _ => False) (fun _ ih => f67l1s Q ih) n
theorem f67j1_eq (Q : AV → St → Prop) : f67C (sub f67B [true, true, true, true]) (f67R Q) (fun _ _ _ => False) (f67R Q) = (fun g s => f67j1 Q (g 3) s) :=
  Eq.trans rfl (by kernel_rfl)
theorem f67j2_eq (Q : AV → St → Prop) (n1 : Nat) : f67C (sub f67B [true, true, true, false, false, false, true, false, true, true, true, true]) (fun g s => (fun (n : Nat) (g : Gf) (s : St) => f67l1 Q n (g 0) (g 3) (g 4) s) n1 (fun k => cond (bitOf (Tryz.env.kp 67) k) (g k) .undef) s) (fun i => cond (Nat.beq i 1) (fun g s => (fun (n : Nat) (g : Gf) (s : St) => f67l1 Q n (g 0) (g 3) (g 4) s) n1 (fun k => cond (bitOf (Tryz.env.kp 67) k) (g k) .undef) s) ((fun i => cond (Nat.beq i 0) (fun g s => f67j1 Q (g 3) s) ((fun _ _ _ => False) i)) i)) (f67R Q) = (fun g s => f67j2 Q (f67l1 Q n1) (g 0) (g 4) (g 6) (g 3) s) :=
  Eq.trans rfl (by kernel_rfl)
theorem f67l2_eq (Q : AV → St → Prop) (n1 : Nat) (kN : Kt) : f67C (sub f67B [true, true, true, false, false, false, true, false, true, true, true, false, false]) kN (fun i => cond (Nat.beq i 2) (fun g s => f67j2 Q (f67l1 Q n1) (g 0) (g 4) (g 6) (g 3) s) ((fun i => cond (Nat.beq i 1) (fun g s => (fun (n : Nat) (g : Gf) (s : St) => f67l1 Q n (g 0) (g 3) (g 4) s) n1 (fun k => cond (bitOf (Tryz.env.kp 67) k) (g k) .undef) s) ((fun i => cond (Nat.beq i 0) (fun g s => f67j1 Q (g 3) s) ((fun _ _ _ => False) i)) i)) i)) (f67R Q) = fun g s => ∃ n, (fun (n : Nat) (g : Gf) (s : St) => f67l2 Q (f67l1 Q n1) n (g 0) (g 3) (g 4) (g 5) (g 6) s) n g s :=
  loop_eq (L := fun (n : Nat) (g : Gf) (s : St) => f67l2 Q (f67l1 Q n1) n (g 0) (g 3) (g 4) (g 5) (g 6) s) (by kernel_rfl : (sub f67B [true, true, true, false, false, false, true, false, true, true, true, false, false]) = .loop (sub f67B [true, true, true, false, false, false, true, false, true, true, true, false, false, false])) (by kernel_rfl) (fun n2 => Eq.trans (seq_eq (by kernel_rfl : (sub f67B [true, true, true, false, false, false, true, false, true, true, true, false, false, false]) = .seq (sub f67B [true, true, true, false, false, false, true, false, true, true, true, false, false, false, false]) (sub f67B [true, true, true, false, false, false, true, false, true, true, true, false, false, false, true])) (block_eq (by kernel_rfl : (sub f67B [true, true, true, false, false, false, true, false, true, true, true, false, false, false, true]) = .block 3 (sub f67B [true, true, true, false, false, false, true, false, true, true, true, false, false, false, true, false])) rfl) rfl) (by kernel_rfl))
theorem f67l1_eq (Q : AV → St → Prop) (kN : Kt) : f67C (sub f67B [true, true, true, false, false]) kN (fun i => cond (Nat.beq i 0) (fun g s => f67j1 Q (g 3) s) ((fun _ _ _ => False) i)) (f67R Q) = fun g s => ∃ n, (fun (n : Nat) (g : Gf) (s : St) => f67l1 Q n (g 0) (g 3) (g 4) s) n g s :=
  loop_eq (L := fun (n : Nat) (g : Gf) (s : St) => f67l1 Q n (g 0) (g 3) (g 4) s) (by kernel_rfl : (sub f67B [true, true, true, false, false]) = .loop (sub f67B [true, true, true, false, false, false])) (by kernel_rfl) (fun n1 => Eq.trans (seq_eq (by kernel_rfl : (sub f67B [true, true, true, false, false, false]) = .seq (sub f67B [true, true, true, false, false, false, false]) (sub f67B [true, true, true, false, false, false, true])) (block_eq (by kernel_rfl : (sub f67B [true, true, true, false, false, false, true]) = .block 1 (sub f67B [true, true, true, false, false, false, true, false])) (seq_eq (by kernel_rfl : (sub f67B [true, true, true, false, false, false, true, false]) = .seq (sub f67B [true, true, true, false, false, false, true, false, false]) (sub f67B [true, true, true, false, false, false, true, false, true])) (seq_eq (by kernel_rfl : (sub f67B [true, true, true, false, false, false, true, false, true]) = .seq (sub f67B [true, true, true, false, false, false, true, false, true, false]) (sub f67B [true, true, true, false, false, false, true, false, true, true])) (seq_eq (by kernel_rfl : (sub f67B [true, true, true, false, false, false, true, false, true, true]) = .seq (sub f67B [true, true, true, false, false, false, true, false, true, true, false]) (sub f67B [true, true, true, false, false, false, true, false, true, true, true])) (seq_eq (by kernel_rfl : (sub f67B [true, true, true, false, false, false, true, false, true, true, true]) = .seq (sub f67B [true, true, true, false, false, false, true, false, true, true, true, false]) (sub f67B [true, true, true, false, false, false, true, false, true, true, true, true])) (f67j2_eq Q n1) (block_eq (by kernel_rfl : (sub f67B [true, true, true, false, false, false, true, false, true, true, true, false]) = .block 2 (sub f67B [true, true, true, false, false, false, true, false, true, true, true, false, false])) (f67l2_eq Q n1 _))) rfl) rfl) rfl)) rfl) (by kernel_rfl))
noncomputable def f67 (Q : AV → St → Prop) (t0 : AV) (s : St) : Prop :=
  ∃ n, f67l1 Q n t0 .nils (.int .i64 0) (adv s 3)
theorem f67_run (t0 : AV) (s : St) {Q : AV → St → Prop} (h : f67 Q t0 s) : ∃ r s', WideC Tryz.env 67 [t0] s r s' ∧ Q r s' :=
  wide_of (h := 67) (fn := Tryz.f67) (c := sub f67B []) (by kernel_rfl) (by kernel_rfl) (by kernel_rfl) (by kernel_rfl) (of_decide_eq_true (by kernel_rfl))
    (Eq.mp (Eq.trans (by kernel_rfl) (congrFun (congrFun (show f67C (sub f67B []) (f67R Q) (fun _ _ _ => False) (f67R Q) = _ from (seq_eq (by kernel_rfl : (sub f67B []) = .seq (sub f67B [false]) (sub f67B [true])) (seq_eq (by kernel_rfl : (sub f67B [true]) = .seq (sub f67B [true, false]) (sub f67B [true, true])) (seq_eq (by kernel_rfl : (sub f67B [true, true]) = .seq (sub f67B [true, true, false]) (sub f67B [true, true, true])) (seq_eq (by kernel_rfl : (sub f67B [true, true, true]) = .seq (sub f67B [true, true, true, false]) (sub f67B [true, true, true, true])) (f67j1_eq Q) (block_eq (by kernel_rfl : (sub f67B [true, true, true, false]) = .block 0 (sub f67B [true, true, true, false, false])) (f67l1_eq Q _))) rfl) rfl) rfl)).symm (gt (frame Tryz.f67 [t0]))) s)) h)
noncomputable abbrev f17B : Code := bodyOf Tryz.f17
noncomputable abbrev f17R (Q : AV → St → Prop) : Kt := fun g s => RetP (result Tryz.ty Tryz.f17 g s) fun v => Q v s
noncomputable abbrev f17C : Code → Kt → (Nat → Kt) → Kt → Kt := codeP Tryz.env 17 (Tryz.env.kp 17)
noncomputable def f17j1 (Q : AV → St → Prop) (t2 : AV) (s : St) : Prop :=
  Bnd (bld 33 []) fun t64 =>
  Bnd (sto 6 t2 t64 (adv s 3)) fun s1 =>
  RetP ((resC [ld 6 true t2 s1, some (.int .i64 1)]).map tupV) fun v => Q v s1
theorem f17j1_eq (Q : AV → St → Prop) : f17C (sub f17B [true, true]) (f17R Q) (fun _ _ _ => False) (f17R Q) = (fun g s => f17j1 Q (g 2) s) :=
  Eq.trans rfl (by kernel_rfl)
noncomputable def f17 (Q : AV → St → Prop) (t0 : AV) (s : St) : Prop :=
  (t0.cells.all AV.one = true ∧
  Bnd (zr 33) fun z2 =>
  Bnd (shiftP 0 (.ptr s.nx 0)) fun t8 =>
  Bnd (ld 1 false t8 (adv (((adv s 3).set s.nx (some (.cells t0.cells 27 true true))).set (s.nx + 1) (some (.cells z2.cells 33 true true))) 2)) fun t9 =>
  Bnd (bn .eql 3 t9 (.int .i64 1)) fun t11 =>
  IfP t11
  (Bnd (shiftP 1 (.ptr s.nx 0)) fun t12 =>
  Bnd (ld 1 false t12 (adv (((adv s 3).set s.nx (some (.cells t0.cells 27 true true))).set (s.nx + 1) (some (.cells z2.cells 33 true true))) 6)) fun t13 =>
  IfP t13
  (CallPu Tryz.env 62 [(.int .i64 3), (.str [116, 114, 117, 101])] (adv (((adv s 3).set s.nx (some (.cells t0.cells 27 true true))).set (s.nx + 1) (some (.cells z2.cells 33 true true))) 9) fun t14 s1 =>
  Bnd (sto 6 (.ptr (s.nx + 1) 0) t14 s1) fun s2 =>
  RetP ((resC [ld 6 true (.ptr (s.nx + 1) 0) s2, some (.int .i64 0)]).map tupV) fun v => Q v s2)
  (CallPu Tryz.env 62 [(.int .i64 3), (.str [102, 97, 108, 115, 101])] (adv (((adv s 3).set s.nx (some (.cells t0.cells 27 true true))).set (s.nx + 1) (some (.cells z2.cells 33 true true))) 9) fun t15 s3 =>
  Bnd (sto 6 (.ptr (s.nx + 1) 0) t15 s3) fun s4 =>
  RetP ((resC [ld 6 true (.ptr (s.nx + 1) 0) s4, some (.int .i64 0)]).map tupV) fun v => Q v s4))
  (Bnd (bn .eql 3 t9 (.int .i64 2)) fun t17 =>
  IfP t17
  (Bnd (shiftP 2 (.ptr s.nx 0)) fun t18 =>
  Bnd (shiftP 1 t18) fun t19 =>
  Bnd (ld 1 false t19 (adv (((adv s 3).set s.nx (some (.cells t0.cells 27 true true))).set (s.nx + 1) (some (.cells z2.cells 33 true true))) 13)) fun t20 =>
  CallPu Tryz.env 63 [t20] (adv (((adv s 3).set s.nx (some (.cells t0.cells 27 true true))).set (s.nx + 1) (some (.cells z2.cells 33 true true))) 13) fun t21 s5 =>
  CallPu Tryz.env 62 [(.int .i64 4), t21] s5 fun t22 s6 =>
  Bnd (zr 33) fun z4 =>
  Bnd (sto 6 (.ptr ((((adv s 3).set s.nx (some (.cells t0.cells 27 true true))).set (s.nx + 1) (some (.cells z2.cells 33 true true))).nx + 11) 0) t22 (s6.set ((((adv s 3).set s.nx (some (.cells t0.cells 27 true true))).set (s.nx + 1) (some (.cells z2.cells 33 true true))).nx + 11) (some (.cells z4.cells 33 true true)))) fun s7 =>
  Bnd (shiftP 2 (.ptr s.nx 0)) fun t23 =>
  Bnd (ld 2 true t23 (adv s7 4)) fun t24 =>
  CallPu Tryz.env 64 [t24] (adv s7 4) fun t25 s8 =>
  Bnd (bn .lss 3 t25 (.int .i64 0)) fun t26 =>
  IfP t26
  (Bnd (ld 6 true (.ptr ((((adv s 3).set s.nx (some (.cells t0.cells 27 true true))).set (s.nx + 1) (some (.cells z2.cells 33 true true))).nx + 11) 0) (adv s8 5)) fun t27 =>
  Bnd (bsl 31 1 [(0, t27)]) fun t28 =>
  CallPu Tryz.env 65 [(.str [45]), t28] (adv s8 5) fun t29 s9 =>
  Bnd (sto 6 (.ptr (s.nx + 1) 0) t29 s9) fun s10 =>
  RetP ((resC [ld 6 true (.ptr (s.nx + 1) 0) s10, some (.int .i64 0)]).map tupV) fun v => Q v s10)
  (Bnd (ld 6 true (.ptr ((((adv s 3).set s.nx (some (.cells t0.cells 27 true true))).set (s.nx + 1) (some (.cells z2.cells 33 true true))).nx + 11) 0) (adv s8 3)) fun t30 =>
  Bnd (sto 6 (.ptr (s.nx + 1) 0) t30 (adv s8 3)) fun s11 =>
  RetP ((resC [ld 6 true (.ptr (s.nx + 1) 0) s11, some (.int .i64 0)]).map tupV) fun v => Q v s11))
  (Bnd (bn .eql 3 t9 (.int .i64 3)) fun t32 =>
  IfP t32
  (Bnd (shiftP 4 (.ptr s.nx 0)) fun t33 =>
  Bnd (ld 1 false t33 (adv (((adv s 3).set s.nx (some (.cells t0.cells 27 true true))).set (s.nx + 1) (some (.cells z2.cells 33 true true))) 12)) fun t34 =>
  CallPu Tryz.env 66 [t34] (adv (((adv s 3).set s.nx (some (.cells t0.cells 27 true true))).set (s.nx + 1) (some (.cells z2.cells 33 true true))) 12) fun t35 s12 =>
  Bnd (un .not t35) fun t37 =>
  IfP t37
  (Bnd (bld 33 []) fun t38 =>
  Bnd (sto 6 (.ptr (s.nx + 1) 0) t38 (adv s12 5)) fun s13 =>
  RetP ((resC [ld 6 true (.ptr (s.nx + 1) 0) s13, some (.int .i64 1)]).map tupV) fun v => Q v s13)
  (Bnd (shiftP 4 (.ptr s.nx 0)) fun t39 =>
  Bnd (ld 1 false t39 (adv s12 6)) fun t40 =>
  CallPu Tryz.env 67 [t40] (adv s12 6) fun t41 s14 =>
  Bnd (bt .len #[31] [t41] (s14.nx + 1) (adv s14 3)) fun r43 =>
  Bnd (bn .eql 3 r43.1 (.int .i64 0)) fun t44 =>
  IfP t44
  (CallPu Tryz.env 62 [(.int .i64 6), (.str [])] (adv r43.2 3) fun t45 s15 =>
  Bnd (sto 6 (.ptr (s.nx + 1) 0) t45 s15) fun s16 =>
  RetP ((resC [ld 6 true (.ptr (s.nx + 1) 0) s16, some (.int .i64 0)]).map tupV) fun v => Q v s16)
  (Bnd (bt .len #[31] [t41] (r43.2.nx + 1) (adv r43.2 3)) fun r47 =>
  Bnd (bn .eql 3 r47.1 (.int .i64 1)) fun t48 =>
  IfP t48
  (Bnd (ixS 6 t41 (.int .i64 0)) fun t50 =>
  Bnd (ld 6 true t50 (adv r47.2 5)) fun t51 =>
  Bnd (sto 6 (.ptr (s.nx + 1) 0) t51 (adv r47.2 5)) fun s17 =>
  RetP ((resC [ld 6 true (.ptr (s.nx + 1) 0) s17, some (.int .i64 0)]).map tupV) fun v => Q v s17)
  (CallPu Tryz.env 65 [(.str [115, 116, 114, 46, 43, 43]), t41] (adv r47.2 4) fun t53 s18 =>
  Bnd (zr 33) fun z7 =>
  Bnd (sto 6 (.ptr (r47.2.nx + 2) 0) t53 (s18.set (r47.2.nx + 2) (some (.cells z7.cells 33 true true)))) fun s19 =>
  Bnd (bt .len #[31] [t41] (s19.nx + 1) (adv s19 8)) fun r55 =>
  Bnd (bn .gtr 3 r55.1 (.int .i64 200)) fun t56 =>
  Gd (wantV t56 false) r55.2 (fun k => Bnd (ld 6 true (.ptr (r47.2.nx + 2) 0) r55.2) fun v => k v r55.2) fun t58 s20 =>
  Gd (wantV t56 false) s20 (fun k => CallPu Tryz.env 33 [t58] s20 k) fun t59 s21 =>
  Gd (wantV t56 false) s21 (fun k => Bnd (bn .gtr 3 t59 (.int .i64 2000)) fun v => k v s21) fun t60 s22 =>
  Bnd (pickV t56 (.bool true) t60) fun t61 =>
  IfP t61
  (Bnd (bld 33 []) fun t62 =>
  Bnd (sto 6 (.ptr (s.nx + 1) 0) t62 (adv s22 3)) fun s23 =>
  RetP ((resC [ld 6 true (.ptr (s.nx + 1) 0) s23, some (.int .i64 2)]).map tupV) fun v => Q v s23)
  (Bnd (ld 6 true (.ptr (r47.2.nx + 2) 0) (adv s22 3)) fun t63 =>
  Bnd (sto 6 (.ptr (s.nx + 1) 0) t63 (adv s22 3)) fun s24 =>
  RetP ((resC [ld 6 true (.ptr (s.nx + 1) 0) s24, some (.int .i64 0)]).map tupV) fun v => Q v s24)))))
  (f17j1 Q (.ptr (s.nx + 1) 0) (adv (((adv s 3).set s.nx (some (.cells t0.cells 27 true true))).set (s.nx + 1) (some (.cells z2.cells 33 true true))) 8)))))
theorem f17_run (t0 : AV) (s : St) {Q : AV → St → Prop} (h : f17 Q t0 s) : ∃ r s', WideC Tryz.env 17 [t0] s r s' ∧ Q r s' :=
  wide_of (h := 17) (fn := Tryz.f17) (c := sub f17B []) (by kernel_rfl) (by kernel_rfl) (by kernel_rfl) (by kernel_rfl) (of_decide_eq_true (by kernel_rfl))
    (Eq.mp (Eq.trans (by kernel_rfl) (congrFun (congrFun (show f17C (sub f17B []) (f17R Q) (fun _ _ _ => False) (f17R Q) = _ from (seq_eq (by kernel_rfl : (sub f17B []) = .seq (sub f17B [false]) (sub f17B [true])) (seq_eq (by kernel_rfl : (sub f17B [true]) = .seq (sub f17B [true, false]) (sub f17B [true, true])) (f17j1_eq Q) (seq_eq (by kernel_rfl : (sub f17B [true, false]) = .seq (sub f17B [true, false, false]) (sub f17B [true, false, true])) (block_eq (by kernel_rfl : (sub f17B [true, false, true]) = .block 0 (sub f17B [true, false, true, false])) rfl) rfl)) rfl)).symm (gt (frame Tryz.f17 [t0]))) s)) h)
noncomputable abbrev f18B : Code := bodyOf Tryz.f18
noncomputable abbrev f18R (Q : AV → St → Prop) : Kt := fun g s => RetP (result Tryz.ty Tryz.f18 g s) fun v => Q v s
noncomputable abbrev f18C : Code → Kt → (Nat → Kt) → Kt → Kt := codeP Tryz.env 18 (Tryz.env.kp 18)
noncomputable def f18j1 (Q : AV → St → Prop) (s : St) : Prop :=
  Q (.bool true) (adv s 1)
noncomputable def f18j2 (Q : AV → St → Prop) (ih1 : AV → AV → AV → AV → St → Prop) (t7 t2 t3 t4 : AV) (s : St) : Prop :=
  Bnd (bn .add 3 t7 (.int .i64 1)) fun t71 =>
  ih1 t2 t3 t4 t71 (adv s 3)
noncomputable def f18l1s (Q : AV → St → Prop) (ih1 : AV → AV → AV → AV → St → Prop) (t2 t3 t4 t7 : AV) (s : St) : Prop :=
  Bnd (shiftP 5 t3) fun t66 =>
  Bnd (ld 1 false t66 (adv s 5)) fun t67 =>
  Bnd (bt .len #[31] [t67] (s.nx + 3) (adv s 5)) fun r68 =>
  Bnd (bn .lss 3 t7 r68.1) fun t69 =>
  IfP t69
  (Bnd (shiftP 5 t3) fun t72 =>
  Bnd (ld 1 false t72 (adv r68.2 13)) fun t73 =>
  Bnd (ixS 6 t73 t7) fun t75 =>
  Bnd (ld 6 true t75 (adv r68.2 13)) fun t76 =>
  Bnd (shiftP 5 t4) fun t77 =>
  Bnd (ld 1 false t77 (adv r68.2 13)) fun t78 =>
  Bnd (ixS 6 t78 t7) fun t80 =>
  Bnd (ld 6 true t80 (adv r68.2 13)) fun t81 =>
  CallPuD Tryz.env 18 [t76, t81, t2] (rch (adv r68.2 13) [(.fn 18 [] []), t76, t81, t2]) (adv r68.2 13) fun t83 s1 =>
  Bnd (un .not t83) fun t85 =>
  IfP t85
  (Q (.bool false) (adv s1 3))
  (f18j2 Q ih1 t7 t2 t3 t4 (adv s1 2)))
  (f18j1 Q r68.2)
noncomputable def f18l1 (Q : AV → St → Prop) (n : Nat) : AV → AV → AV → AV → St → Prop := Nat.rec (motive := fun _ => AV → AV → AV → AV → St → Prop) (fun _ _ _ _ _ => False) (fun _ ih => f18l1s Q ih) n
theorem f18j1_eq (Q : AV → St → Prop) : f18C (sub f18B [true, true, true, true]) (f18R Q) (fun _ _ _ => False) (f18R Q) = (fun g s => f18j1 Q s) :=
  Eq.trans rfl (by kernel_rfl)
theorem f18j2_eq (Q : AV → St → Prop) (n1 : Nat) : f18C (sub f18B [true, true, true, false, true, false, false, true, true]) (fun g s => (fun (n : Nat) (g : Gf) (s : St) => f18l1 Q n (g 2) (g 3) (g 4) (g 7) s) n1 (fun k => cond (bitOf (Tryz.env.kp 18) k) (g k) .undef) s) (fun i => cond (Nat.beq i 0) (fun g s => f18j1 Q s) ((fun _ _ _ => False) i)) (f18R Q) = (fun g s => f18j2 Q (f18l1 Q n1) (g 7) (g 2) (g 3) (g 4) s) :=
  Eq.trans rfl (by kernel_rfl)
theorem f18l1_eq (Q : AV → St → Prop) (kN : Kt) : f18C (sub f18B [true, true, true, false, true, false]) kN (fun i => cond (Nat.beq i 0) (fun g s => f18j1 Q s) ((fun _ _ _ => False) i)) (f18R Q) = fun g s => ∃ n, (fun (n : Nat) (g : Gf) (s : St) => f18l1 Q n (g 2) (g 3) (g 4) (g 7) s) n g s :=
  loop_eq (L := fun (n : Nat) (g : Gf) (s : St) => f18l1 Q n (g 2) (g 3) (g 4) (g 7) s) (by kernel_rfl : (sub f18B [true, true, true, false, true, false]) = .loop (sub f18B [true, true, true, false, true, false, false])) (by kernel_rfl) (fun n1 => Eq.trans (seq_eq (by kernel_rfl : (sub f18B [true, true, true, false, true, false, false]) = .seq (sub f18B [true, true, true, false, true, false, false, false]) (sub f18B [true, true, true, false, true, false, false, true])) (seq_eq (by kernel_rfl : (sub f18B [true, true, true, false, true, false, false, true]) = .seq (sub f18B [true, true, true, false, true, false, false, true, false]) (sub f18B [true, true, true, false, true, false, false, true, true])) (f18j2_eq Q n1) (block_eq (by kernel_rfl : (sub f18B [true, true, true, false, true, false, false, true, false]) = .block 1 (sub f18B [true, true, true, false, true, false, false, true, false, false])) rfl)) rfl) (by kernel_rfl))
noncomputable def f18 (Q : AV → St → Prop) (t0 t1 t2 : AV) (s : St) : Prop :=
  (t0.cells.all AV.one = true ∧
  (t1.cells.all AV.one = true ∧
  Bnd (shiftP 0 (.ptr s.nx 0)) fun t9 =>
  Bnd (ld 1 false t9 (adv (((adv s 3).set s.nx (some (.cells t0.cells 33 true true))).set (s.nx + 1) (some (.cells t1.cells 33 true true))) 24)) fun t10 =>
  Bnd (shiftP 0 (.ptr (s.nx + 1) 0)) fun t11 =>
  Bnd (ld 1 false t11 (adv (((adv s 3).set s.nx (some (.cells t0.cells 33 true true))).set (s.nx + 1) (some (.cells t1.cells 33 true true))) 24)) fun t12 =>
  Bnd (bn .neq 4 t10 t12) fun t13 =>
  Gd (wantV t13 false) (adv (((adv s 3).set s.nx (some (.cells t0.cells 33 true true))).set (s.nx + 1) (some (.cells t1.cells 33 true true))) 24) (fun k => k t2 (adv (((adv s 3).set s.nx (some (.cells t0.cells 33 true true))).set (s.nx + 1) (some (.cells t1.cells 33 true true))) 24)) fun t15 s1 =>
  Gd (wantV t13 false) s1 (fun k => k t15 s1) fun t16 s2 =>
  Gd (wantV t16 true) s2 (fun k => Bnd (shiftP 4 (.ptr s.nx 0)) fun v => k v s2) fun t17 s3 =>
  Gd (wantV t16 true) s3 (fun k => Bnd (ld 1 false t17 s3) fun v => k v s3) fun t18 s4 =>
  Gd (wantV t16 true) s4 (fun k => Bnd (shiftP 4 (.ptr (s.nx + 1) 0)) fun v => k v s4) fun t19 s5 =>
  Gd (wantV t16 true) s5 (fun k => Bnd (ld 1 false t19 s5) fun v => k v s5) fun t20 s6 =>
  Gd (wantV t16 true) s6 (fun k => Bnd (bn .neq 3 t18 t20) fun v => k v s6) fun t21 s7 =>
  Gd (wantV t13 false) s7 (fun k => Bnd (pickV t16 t21 (.bool false)) fun v => k v s7) fun t22 s8 =>
  Bnd (pickV t13 (.bool true) t22) fun t23 =>
  Gd (wantV t23 false) s8 (fun k => Bnd (shiftP 5 (.ptr s.nx 0)) fun v => k v s8) fun t25 s9 =>
  Gd (wantV t23 false) s9 (fun k => Bnd (ld 1 false t25 s9) fun v => k v s9) fun t26 s10 =>
  Gd (wantV t23 false) s10 (fun k => Bnd (bt .len #[31] [t26] ((((adv s 3).set s.nx (some (.cells t0.cells 33 true true))).set (s.nx + 1) (some (.cells t1.cells 33 true true))).nx + 18) s10) fun r => k r.1 r.2) fun t27 s11 =>
  Gd (wantV t23 false) s11 (fun k => Bnd (shiftP 5 (.ptr (s.nx + 1) 0)) fun v => k v s11) fun t28 s12 =>
  Gd (wantV t23 false) s12 (fun k => Bnd (ld 1 false t28 s12) fun v => k v s12) fun t29 s13 =>
  Gd (wantV t23 false) s13 (fun k => Bnd (bt .len #[31] [t29] ((((adv s 3).set s.nx (some (.cells t0.cells 33 true true))).set (s.nx + 1) (some (.cells t1.cells 33 true true))).nx + 21) s13) fun r => k r.1 r.2) fun t30 s14 =>
  Gd (wantV t23 false) s14 (fun k => Bnd (bn .neq 3 t27 t30) fun v => k v s14) fun t31 s15 =>
  Bnd (pickV t23 (.bool true) t31) fun t32 =>
  IfP t32
  (Q (.bool false) (adv s15 1))
  (Bnd (shiftP 0 (.ptr s.nx 0)) fun t33 =>
  Bnd (ld 1 false t33 (adv s15 3)) fun t34 =>
  Bnd (un .not t34) fun t35 =>
  IfP t35
  (Bnd (shiftP 1 (.ptr s.nx 0)) fun t36 =>
  Bnd (shiftP 0 t36) fun t37 =>
  Bnd (ld 1 false t37 (adv s15 33)) fun t38 =>
  Bnd (shiftP 1 (.ptr (s.nx + 1) 0)) fun t39 =>
  Bnd (shiftP 0 t39) fun t40 =>
  Bnd (ld 1 false t40 (adv s15 33)) fun t41 =>
  Bnd (bn .eql 3 t38 t41) fun t42 =>
  Gd (wantV t42 true) (adv s15 33) (fun k => Bnd (shiftP 1 (.ptr s.nx 0)) fun v => k v (adv s15 33)) fun t44 s16 =>
  Gd (wantV t42 true) s16 (fun k => Bnd (shiftP 1 t44) fun v => k v s16) fun t45 s17 =>
  Gd (wantV t42 true) s17 (fun k => Bnd (ld 1 false t45 s17) fun v => k v s17) fun t46 s18 =>
  Gd (wantV t42 true) s18 (fun k => Bnd (shiftP 1 (.ptr (s.nx + 1) 0)) fun v => k v s18) fun t47 s19 =>
  Gd (wantV t42 true) s19 (fun k => Bnd (shiftP 1 t47) fun v => k v s19) fun t48 s20 =>
  Gd (wantV t42 true) s20 (fun k => Bnd (ld 1 false t48 s20) fun v => k v s20) fun t49 s21 =>
  Gd (wantV t42 true) s21 (fun k => Bnd (bn .eql 9 t46 t49) fun v => k v s21) fun t50 s22 =>
  Bnd (pickV t42 t50 (.bool false)) fun t51 =>
  Gd (wantV t51 true) s22 (fun k => k t2 s22) fun t53 s23 =>
  Gd (wantV t51 true) s23 (fun k => Bnd (un .not t53) fun v => k v s23) fun t54 s24 =>
  Gd (wantV t51 true) s24 (fun k => k t54 s24) fun t55 s25 =>
  Gd (wantV t55 false) s25 (fun k => Bnd (shiftP 1 (.ptr s.nx 0)) fun v => k v s25) fun t56 s26 =>
  Gd (wantV t55 false) s26 (fun k => Bnd (shiftP 2 t56) fun v => k v s26) fun t57 s27 =>
  Gd (wantV t55 false) s27 (fun k => Bnd (ld 1 false t57 s27) fun v => k v s27) fun t58 s28 =>
  Gd (wantV t55 false) s28 (fun k => Bnd (shiftP 1 (.ptr (s.nx + 1) 0)) fun v => k v s28) fun t59 s29 =>
  Gd (wantV t55 false) s29 (fun k => Bnd (shiftP 2 t59) fun v => k v s29) fun t60 s30 =>
  Gd (wantV t55 false) s30 (fun k => Bnd (ld 1 false t60 s30) fun v => k v s30) fun t61 s31 =>
  Gd (wantV t55 false) s31 (fun k => Bnd (bn .eql 3 t58 t61) fun v => k v s31) fun t62 s32 =>
  Gd (wantV t51 true) s32 (fun k => Bnd (pickV t55 (.bool true) t62) fun v => k v s32) fun t63 s33 =>
  Bnd (pickV t51 t63 (.bool false)) fun t64 =>
  Q t64 s33)
  (∃ n, f18l1 Q n t2 (.ptr s.nx 0) (.ptr (s.nx + 1) 0) (.int .i64 0) (adv s15 4)))))
theorem f18_run (t0 t1 t2 : AV) (s : St) {Q : AV → St → Prop} (h : f18 Q t0 t1 t2 s) : ∃ r s', WideC Tryz.env 18 [t0, t1, t2] s r s' ∧ Q r s' :=
  wide_of (h := 18) (fn := Tryz.f18) (c := sub f18B []) (by kernel_rfl) (by kernel_rfl) (by kernel_rfl) (by kernel_rfl) (of_decide_eq_true (by kernel_rfl))
    (Eq.mp (Eq.trans (by kernel_rfl) (congrFun (congrFun (show f18C (sub f18B []) (f18R Q) (fun _ _ _ => False) (f18R Q) = _ from (seq_eq (by kernel_rfl : (sub f18B []) = .seq (sub f18B [false]) (sub f18B [true])) (seq_eq (by kernel_rfl : (sub f18B [true]) = .seq (sub f18B [true, false]) (sub f18B [true, true])) (seq_eq (by kernel_rfl : (sub f18B [true, true]) = .seq (sub f18B [true, true, false]) (sub f18B [true, true, true])) (seq_eq (by kernel_rfl : (sub f18B [true, true, true]) = .seq (sub f18B [true, true, true, false]) (sub f18B [true, true, true, true])) (f18j1_eq Q) (seq_eq (by kernel_rfl : (sub f18B [true, true, true, false]) = .seq (sub f18B [true, true, true, false, false]) (sub f18B [true, true, true, false, true])) (block_eq (by kernel_rfl : (sub f18B [true, true, true, false, true]) = .block 0 (sub f18B [true, true, true, false, true, false])) (f18l1_eq Q _)) rfl)) rfl) rfl) rfl)).symm (gt (frame Tryz.f18 [t0, t1, t2]))) s)) h)
noncomputable abbrev f3B : Code := bodyOf Tryz.f3
noncomputable abbrev f3R (Q : AV → St → Prop) : Kt := fun g s => RetP (result Tryz.ty Tryz.f3 g s) fun v => Q v s
noncomputable abbrev f3C : Code → Kt → (Nat → Kt) → Kt → Kt := codeP Tryz.env 3 (Tryz.env.kp 3)
noncomputable def f3 (Q : AV → St → Prop) (t0 : AV) (s : St) : Prop :=
  (t0.cells.all AV.one = true ∧
  CallPu Tryz.env 15 [] (adv ((adv s 2).set s.nx (some (.cells t0.cells 27 true true))) 2) fun t9 s1 =>
  Bnd (un .not t9) fun t11 =>
  Gd (wantV t11 false) (adv s1 15) (fun k => Bnd (shiftP 4 (.ptr s.nx 0)) fun v => k v (adv s1 15)) fun t13 s2 =>
  Gd (wantV t11 false) s2 (fun k => Bnd (ld 1 false t13 s2) fun v => k v s2) fun t14 s3 =>
  Gd (wantV t11 false) s3 (fun k => Bnd (bt .len #[25] [t14] (s1.nx + 5) s3) fun r => k r.1 r.2) fun t15 s4 =>
  Gd (wantV t11 false) s4 (fun k => Bnd (bn .gtr 3 t15 (.int .i64 300)) fun v => k v s4) fun t16 s5 =>
  Bnd (pickV t11 (.bool true) t16) fun t17 =>
  Gd (wantV t17 false) s5 (fun k => Bnd (shiftP 2 (.ptr s.nx 0)) fun v => k v s5) fun t19 s6 =>
  Gd (wantV t17 false) s6 (fun k => Bnd (shiftP 1 t19) fun v => k v s6) fun t20 s7 =>
  Gd (wantV t17 false) s7 (fun k => Bnd (ld 1 false t20 s7) fun v => k v s7) fun t21 s8 =>
  Gd (wantV t17 false) s8 (fun k => Bnd (bt .len #[22] [t21] (s1.nx + 12) s8) fun r => k r.1 r.2) fun t22 s9 =>
  Gd (wantV t17 false) s9 (fun k => Bnd (bn .gtr 3 t22 (.int .i64 30)) fun v => k v s9) fun t23 s10 =>
  Bnd (pickV t17 (.bool true) t23) fun t24 =>
  IfP t24
  (Q t9 (adv s10 2))
  (Bnd (ld 5 true (.ptr s.nx 0) (adv s10 8)) fun t27 =>
  CallPu Tryz.env 16 [t27] (adv s10 8) fun t28 s11 =>
  Bnd (extr t28 0) fun t29 =>
  Bnd (extr t28 1) fun t30 =>
  Bnd (zr 33) fun z4 =>
  Bnd (sto 6 (.ptr (s10.nx + 5) 0) t29 (s11.set (s10.nx + 5) (some (.cells z4.cells 33 true true)))) fun s12 =>
  Bnd (ld 5 true (.ptr s.nx 0) (adv s12 8)) fun t32 =>
  CallPu Tryz.env 17 [t32] (adv s12 8) fun t33 s13 =>
  Bnd (extr t33 0) fun t34 =>
  Bnd (extr t33 1) fun t35 =>
  Bnd (zr 33) fun z6 =>
  Bnd (sto 6 (.ptr (s12.nx + 5) 0) t34 (s13.set (s12.nx + 5) (some (.cells z6.cells 33 true true)))) fun s14 =>
  Bnd (ld 6 true (.ptr (s10.nx + 5) 0) (adv s14 4)) fun t36 =>
  Bnd (ld 6 true (.ptr (s12.nx + 5) 0) (adv s14 4)) fun t37 =>
  CallPu Tryz.env 18 [t36, t37, (.bool true)] (adv s14 4) fun t38 s15 =>
  Gd (wantV t38 true) (adv s15 7) (fun k => k t30 (adv s15 7)) fun t41 s16 =>
  Gd (wantV t38 true) s16 (fun k => k t35 s16) fun t42 s17 =>
  Gd (wantV t38 true) s17 (fun k => Bnd (bn .eql 34 t41 t42) fun v => k v s17) fun t43 s18 =>
  Bnd (pickV t38 t43 (.bool false)) fun t44 =>
  Q t44 s18))
theorem f3_run (t0 : AV) (s : St) {Q : AV → St → Prop} (h : f3 Q t0 s) : ∃ r s', WideC Tryz.env 3 [t0] s r s' ∧ Q r s' :=
  wide_of (h := 3) (fn := Tryz.f3) (c := sub f3B []) (by kernel_rfl) (by kernel_rfl) (by kernel_rfl) (by kernel_rfl) (of_decide_eq_true (by kernel_rfl))
    (Eq.mp (Eq.trans (by kernel_rfl) (congrFun (congrFun (show f3C (sub f3B []) (f3R Q) (fun _ _ _ => False) (f3R Q) = _ from rfl).symm (gt (frame Tryz.f3 [t0]))) s)) h)
end Go.Proofs.YtdehdahimkcakaaGreatDoor
end
