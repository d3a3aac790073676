/- PRINTED BY wip/tools/lift.py out of the translation: functions as statements, and that they are so. -/
import Derived.Test.YtdehdahimkcakaaGreatDoorWords
set_option linter.unusedVariables false
set_option maxRecDepth 1000000
namespace Go.Proofs.YtdehdahimkcakaaGreatDoor
open Go Ai
/-! 15 gudgeon/gudgeonlaw12.awake -/
noncomputable abbrev f15B : Code := bodyOf Tryz.f15
noncomputable abbrev f15R (Q : AV → St → Prop) : Kt := fun g s => RetP (result Tryz.ty Tryz.f15 g s) fun v => Q v s
noncomputable abbrev f15C : Code → Kt → (Nat → Kt) → Kt → Kt := codeP Tryz.env 15 (Tryz.env.kp 15)
noncomputable def f15 (Q : AV → St → Prop) (s : St) : Prop :=
  CallPu Tryz.env 54 [(.int .i64 (-5))] (adv s 10) fun t10 s1 =>
  Bnd (bld 27 [(0, (.int .i64 2)), (2, t10)]) fun t11 =>
  CallPu Tryz.env 16 [t11] s1 fun t12 s2 =>
  Bnd (extr t12 0) fun t13 =>
  Bnd (extr t12 1) fun t14 =>
  Bnd (zr 33) fun z1 =>
  Bnd (sto 6 (.ptr (s.nx + 7) 0) t13 (s2.set (s.nx + 7) (some (.cells z1.cells 33 true true)))) fun s3 =>
  Bnd (ld 6 true (.ptr (s.nx + 7) 0) (adv s3 7)) fun t16 =>
  CallPu Tryz.env 55 [t16] (adv s3 7) fun t17 s4 =>
  Bnd (extr t17 0) fun t18 =>
  Bnd (extr t17 1) fun t19 =>
  Bnd (bld 109 [(0, (.int .i64 97)), (1, (.int .i64 1000))]) fun t21 =>
  Bnd (bld 109 [(0, (.int .i64 98)), (1, (.int .i64 1))]) fun t22 =>
  Bnd (bsl 25 2 [(0, t21), (1, t22)]) fun t23 =>
  Bnd (bld 27 [(0, (.int .i64 3)), (3, t23)]) fun t24 =>
  CallPu Tryz.env 16 [t24] (adv s4 11) fun t25 s5 =>
  Bnd (extr t25 0) fun t26 =>
  Bnd (extr t25 1) fun t27 =>
  Bnd (zr 33) fun z5 =>
  Bnd (sto 6 (.ptr (s4.nx + 8) 0) t26 (s5.set (s4.nx + 8) (some (.cells z5.cells 33 true true)))) fun s6 =>
  Bnd (bld 109 [(0, (.int .i64 97)), (1, (.int .i64 1001))]) fun t29 =>
  Bnd (bsl 25 1 [(0, t29)]) fun t30 =>
  Bnd (bld 27 [(0, (.int .i64 3)), (3, t30)]) fun t31 =>
  CallPu Tryz.env 16 [t31] (adv s6 10) fun t32 s7 =>
  Bnd (extr t32 0) fun t33 =>
  Bnd (extr t32 1) fun t34 =>
  Bnd (zr 33) fun z7 =>
  Bnd (sto 6 (.ptr (s6.nx + 7) 0) t33 (s7.set (s6.nx + 7) (some (.cells z7.cells 33 true true)))) fun s8 =>
  Bnd (bn .eql 34 t14 (.int .i64 0)) fun t36 =>
  Gd (wantV t36 true) (adv s8 34) (fun k => k t19 (adv s8 34)) fun t38 s9 =>
  Gd (wantV t36 true) s9 (fun k => Bnd (bn .eql 34 t38 (.int .i64 0)) fun v => k v s9) fun t39 s10 =>
  Bnd (pickV t36 t39 (.bool false)) fun t40 =>
  Gd (wantV t40 true) s10 (fun k => k t27 s10) fun t42 s11 =>
  Gd (wantV t40 true) s11 (fun k => Bnd (bn .eql 34 t42 (.int .i64 0)) fun v => k v s11) fun t43 s12 =>
  Bnd (pickV t40 t43 (.bool false)) fun t44 =>
  Gd (wantV t44 true) s12 (fun k => k t34 s12) fun t46 s13 =>
  Gd (wantV t44 true) s13 (fun k => Bnd (bn .eql 34 t46 (.int .i64 0)) fun v => k v s13) fun t47 s14 =>
  Bnd (pickV t44 t47 (.bool false)) fun t48 =>
  Gd (wantV t48 true) s14 (fun k => k t18 s14) fun t50 s15 =>
  Gd (wantV t48 true) s15 (fun k => Bnd (bn .eql 9 t50 (.str [40, 45, 32, 53, 41])) fun v => k v s15) fun t51 s16 =>
  Bnd (pickV t48 t51 (.bool false)) fun t52 =>
  Gd (wantV t52 true) s16 (fun k => Bnd (shiftP 5 (.ptr (s4.nx + 8) 0)) fun v => k v s16) fun t54 s17 =>
  Gd (wantV t52 true) s17 (fun k => Bnd (ld 1 false t54 s17) fun v => k v s17) fun t55 s18 =>
  Gd (wantV t52 true) s18 (fun k => Bnd (bt .len #[31] [t55] (s8.nx + 21) s18) fun r => k r.1 r.2) fun t56 s19 =>
  Gd (wantV t52 true) s19 (fun k => Bnd (bn .eql 3 t56 (.int .i64 3)) fun v => k v s19) fun t57 s20 =>
  Bnd (pickV t52 t57 (.bool false)) fun t58 =>
  Gd (wantV t58 true) s20 (fun k => Bnd (ld 6 true (.ptr (s6.nx + 7) 0) s20) fun v => k v s20) fun t60 s21 =>
  Gd (wantV t58 true) s21 (fun k => CallPu Tryz.env 21 [t60] s21 k) fun t61 s22 =>
  Gd (wantV t58 true) s22 (fun k => Bnd (bn .eql 3 t61 (.int .i64 13)) fun v => k v s22) fun t62 s23 =>
  Bnd (pickV t58 t62 (.bool false)) fun t63 =>
  Gd (wantV t63 true) s23 (fun k => CallPu Tryz.env 22 [(.int .i64 22)] s23 k) fun t65 s24 =>
  Gd (wantV t63 true) s24 (fun k => Bnd (bn .eql 9 t65 (.str [115, 116, 114, 46, 43, 43])) fun v => k v s24) fun t66 s25 =>
  Bnd (pickV t63 t66 (.bool false)) fun t67 =>
  Q t67 s25
theorem f15_run (s : St) {Q : AV → St → Prop} (h : f15 Q s) : ∃ r s', WideC Tryz.env 15 [] s r s' ∧ Q r s' :=
  wide_of (h := 15) (fn := Tryz.f15) (c := sub f15B []) (by kernel_rfl) (by kernel_rfl) (by kernel_rfl) (by kernel_rfl) (of_decide_eq_true (by kernel_rfl))
    (Eq.mp (Eq.trans (by kernel_rfl) (congrFun (congrFun (show f15C (sub f15B []) (f15R Q) (fun _ _ _ => False) (f15R Q) = _ from rfl).symm (gt (frame Tryz.f15 []))) s)) h)
/-! 16 gudgeon/show.Value -/
noncomputable abbrev f16B : Code := bodyOf Tryz.f16
noncomputable abbrev f16R (Q : AV → St → Prop) : Kt := fun g s => RetP (result Tryz.ty Tryz.f16 g s) fun v => Q v s
noncomputable abbrev f16C : Code → Kt → (Nat → Kt) → Kt → Kt := codeP Tryz.env 16 (Tryz.env.kp 16)
noncomputable def f16j1 (Q : AV → St → Prop) (t2 : AV) (s : St) : Prop :=
  Bnd (bld 33 []) fun t58 =>
  Bnd (sto 6 t2 t58 (adv s 3)) fun s1 =>
  RetP ((resC [ld 6 true t2 s1, some (.int .i64 1)]).map tupV) fun v => Q v s1
theorem f16j1_eq (Q : AV → St → Prop) : f16C (sub f16B [true, true]) (f16R Q) (fun _ _ _ => False) (f16R Q) = (fun g s => f16j1 Q (g 2) s) :=
  Eq.trans rfl (by kernel_rfl)
noncomputable def f16 (Q : AV → St → Prop) (t0 : AV) (s : St) : Prop :=
  (t0.cells.all AV.one = true ∧
  Bnd (zr 33) fun z2 =>
  Bnd (shiftP 0 (.ptr s.nx 0)) fun t5 =>
  Bnd (ld 1 false t5 (adv (((adv s 3).set s.nx (some (.cells t0.cells 27 true true))).set (s.nx + 1) (some (.cells z2.cells 33 true true))) 8)) fun t6 =>
  Bnd (bn .eql 3 t6 (.int .i64 1)) fun t7 =>
  Gd (wantV t7 true) (adv (((adv s 3).set s.nx (some (.cells t0.cells 27 true true))).set (s.nx + 1) (some (.cells z2.cells 33 true true))) 8) (fun k => Bnd (shiftP 1 (.ptr s.nx 0)) fun v => k v (adv (((adv s 3).set s.nx (some (.cells t0.cells 27 true true))).set (s.nx + 1) (some (.cells z2.cells 33 true true))) 8)) fun t9 s1 =>
  Gd (wantV t7 true) s1 (fun k => Bnd (ld 1 false t9 s1) fun v => k v s1) fun t10 s2 =>
  Bnd (pickV t7 t10 (.bool false)) fun t11 =>
  IfP t11
  (CallPu Tryz.env 56 [(.str [116, 114, 117, 101])] (adv s2 3) fun t12 s3 =>
  Bnd (sto 6 (.ptr (s.nx + 1) 0) t12 s3) fun s4 =>
  RetP ((resC [ld 6 true (.ptr (s.nx + 1) 0) s4, some (.int .i64 0)]).map tupV) fun v => Q v s4)
  (Bnd (shiftP 0 (.ptr s.nx 0)) fun t14 =>
  Bnd (ld 1 false t14 (adv s2 4)) fun t15 =>
  Bnd (bn .eql 3 t15 (.int .i64 1)) fun t16 =>
  IfP t16
  (CallPu Tryz.env 56 [(.str [102, 97, 108, 115, 101])] (adv s2 7) fun t17 s5 =>
  Bnd (sto 6 (.ptr (s.nx + 1) 0) t17 s5) fun s6 =>
  RetP ((resC [ld 6 true (.ptr (s.nx + 1) 0) s6, some (.int .i64 0)]).map tupV) fun v => Q v s6)
  (Bnd (shiftP 0 (.ptr s.nx 0)) fun t19 =>
  Bnd (ld 1 false t19 (adv s2 14)) fun t20 =>
  Bnd (bn .eql 3 t20 (.int .i64 2)) fun t21 =>
  Gd (wantV t21 true) (adv s2 14) (fun k => Bnd (shiftP 2 (.ptr s.nx 0)) fun v => k v (adv s2 14)) fun t23 s7 =>
  Gd (wantV t21 true) s7 (fun k => Bnd (ld 2 true t23 s7) fun v => k v s7) fun t24 s8 =>
  Gd (wantV t21 true) s8 (fun k => CallPu Tryz.env 20 [t24] s8 k) fun t25 s9 =>
  Gd (wantV t21 true) s9 (fun k => Bnd (bn .lss 3 t25 (.int .i64 0)) fun v => k v s9) fun t26 s10 =>
  Bnd (pickV t21 t26 (.bool false)) fun t27 =>
  IfP t27
  (Bnd (shiftP 2 (.ptr s.nx 0)) fun t28 =>
  Bnd (shiftP 1 t28) fun t29 =>
  Bnd (ld 1 false t29 (adv s10 9)) fun t30 =>
  CallPu Tryz.env 59 [t30] (adv s10 9) fun t31 s11 =>
  CallPu Tryz.env 58 [(.int .i64 4), t31] s11 fun t32 s12 =>
  Bnd (bsl 31 1 [(0, t32)]) fun t33 =>
  CallWi Tryz.env 57 [(.str [45]), t33] s12 fun t34 s13 =>
  Bnd (sto 6 (.ptr (s.nx + 1) 0) t34 s13) fun s14 =>
  RetP ((resC [ld 6 true (.ptr (s.nx + 1) 0) s14, some (.int .i64 0)]).map tupV) fun v => Q v s14)
  (Bnd (shiftP 0 (.ptr s.nx 0)) fun t36 =>
  Bnd (ld 1 false t36 (adv s10 4)) fun t37 =>
  Bnd (bn .eql 3 t37 (.int .i64 2)) fun t38 =>
  IfP t38
  (Bnd (shiftP 2 (.ptr s.nx 0)) fun t39 =>
  Bnd (shiftP 1 t39) fun t40 =>
  Bnd (ld 1 false t40 (adv s10 11)) fun t41 =>
  CallPu Tryz.env 59 [t41] (adv s10 11) fun t42 s15 =>
  CallPu Tryz.env 58 [(.int .i64 4), t42] s15 fun t43 s16 =>
  Bnd (sto 6 (.ptr (s.nx + 1) 0) t43 s16) fun s17 =>
  RetP ((resC [ld 6 true (.ptr (s.nx + 1) 0) s17, some (.int .i64 0)]).map tupV) fun v => Q v s17)
  (Bnd (shiftP 0 (.ptr s.nx 0)) fun t45 =>
  Bnd (ld 1 false t45 (adv s10 13)) fun t46 =>
  Bnd (bn .eql 3 t46 (.int .i64 3)) fun t47 =>
  Gd (wantV t47 true) (adv s10 13) (fun k => Bnd (shiftP 4 (.ptr s.nx 0)) fun v => k v (adv s10 13)) fun t49 s18 =>
  Gd (wantV t47 true) s18 (fun k => Bnd (ld 1 false t49 s18) fun v => k v s18) fun t50 s19 =>
  Gd (wantV t47 true) s19 (fun k => CallPu Tryz.env 60 [t50] s19 k) fun t51 s20 =>
  Bnd (pickV t47 t51 (.bool false)) fun t52 =>
  IfP t52
  (Bnd (shiftP 4 (.ptr s.nx 0)) fun t53 =>
  Bnd (ld 1 false t53 (adv s20 7)) fun t54 =>
  CallPu Tryz.env 61 [t54] (adv s20 7) fun t55 s21 =>
  Bnd (extr t55 0) fun t56 =>
  Bnd (extr t55 1) fun t57 =>
  Bnd (sto 6 (.ptr (s.nx + 1) 0) t56 s21) fun s22 =>
  RetP ((resC [ld 6 true (.ptr (s.nx + 1) 0) s22, some t57]).map tupV) fun v => Q v s22)
  (f16j1 Q (.ptr (s.nx + 1) 0) s20))))))
theorem f16_run (t0 : AV) (s : St) {Q : AV → St → Prop} (h : f16 Q t0 s) : ∃ r s', WideC Tryz.env 16 [t0] s r s' ∧ Q r s' :=
  wide_of (h := 16) (fn := Tryz.f16) (c := sub f16B []) (by kernel_rfl) (by kernel_rfl) (by kernel_rfl) (by kernel_rfl) (of_decide_eq_true (by kernel_rfl))
    (Eq.mp (Eq.trans (by kernel_rfl) (congrFun (congrFun (show f16C (sub f16B []) (f16R Q) (fun _ _ _ => False) (f16R Q) = _ from (seq_eq (by kernel_rfl : (sub f16B []) = .seq (sub f16B [false]) (sub f16B [true])) (seq_eq (by kernel_rfl : (sub f16B [true]) = .seq (sub f16B [true, false]) (sub f16B [true, true])) (f16j1_eq Q) (block_eq (by kernel_rfl : (sub f16B [true, false]) = .block 0 (sub f16B [true, false, false])) rfl)) rfl)).symm (gt (frame Tryz.f16 [t0]))) s)) h)
/-! 61 gudgeon/show.text -/
noncomputable abbrev f61B : Code := bodyOf Tryz.f61
noncomputable abbrev f61R (Q : AV → St → Prop) : Kt := fun g s => RetP (result Tryz.ty Tryz.f61 g s) fun v => Q v s
noncomputable abbrev f61C : Code → Kt → (Nat → Kt) → Kt → Kt := codeP Tryz.env 61 (Tryz.env.kp 61)
noncomputable def f61j2 (Q : AV → St → Prop) (t4 t2 : AV) (s : St) : Prop :=
  CallWi Tryz.env 57 [(.str [115, 116, 114, 46, 43, 43]), t4] (adv s 4) fun t79 s1 =>
  Bnd (zr 33) fun z9 =>
  Bnd (sto 6 (.ptr (s.nx + 2) 0) t79 (s1.set (s.nx + 2) (some (.cells z9.cells 33 true true)))) fun s2 =>
  Bnd (ld 6 true (.ptr (s.nx + 2) 0) (adv s2 3)) fun t80 =>
  CallPu Tryz.env 116 [t80] (adv s2 3) fun t81 s3 =>
  Bnd (bn .gtr 3 t81 (.int .i64 2000)) fun t82 =>
  IfP t82
  (Bnd (bld 33 []) fun t83 =>
  Bnd (sto 6 t2 t83 (adv s3 3)) fun s4 =>
  RetP ((resC [ld 6 true t2 s4, some (.int .i64 2)]).map tupV) fun v => Q v s4)
  (Bnd (ld 6 true (.ptr (s.nx + 2) 0) (adv s3 3)) fun t84 =>
  Bnd (sto 6 t2 t84 (adv s3 3)) fun s5 =>
  RetP ((resC [ld 6 true t2 s5, some (.int .i64 0)]).map tupV) fun v => Q v s5)
noncomputable def f61j1 (Q : AV → St → Prop) (t4 t2 : AV) (s : St) : Prop :=
  Bnd (bt .len #[31] [t4] (s.nx + 1) (adv s 4)) fun r63 =>
  Bnd (bn .eql 3 r63.1 (.int .i64 0)) fun t64 =>
  IfP t64
  (CallPu Tryz.env 58 [(.int .i64 6), (.str [])] (adv r63.2 3) fun t65 s1 =>
  Bnd (sto 6 t2 t65 s1) fun s2 =>
  RetP ((resC [ld 6 true t2 s2, some (.int .i64 0)]).map tupV) fun v => Q v s2)
  (Bnd (bt .len #[31] [t4] (r63.2.nx + 1) (adv r63.2 4)) fun r68 =>
  Bnd (bn .gtr 3 r68.1 (.int .i64 200)) fun t69 =>
  IfP t69
  (Bnd (bld 33 []) fun t70 =>
  Bnd (sto 6 t2 t70 (adv r68.2 3)) fun s3 =>
  RetP ((resC [ld 6 true t2 s3, some (.int .i64 2)]).map tupV) fun v => Q v s3)
  (Bnd (bt .len #[31] [t4] (r68.2.nx + 1) (adv r68.2 4)) fun r73 =>
  Bnd (bn .eql 3 r73.1 (.int .i64 1)) fun t74 =>
  IfP t74
  (Bnd (ixS 6 t4 (.int .i64 0)) fun t76 =>
  Bnd (ld 6 true t76 (adv r73.2 5)) fun t77 =>
  Bnd (sto 6 t2 t77 (adv r73.2 5)) fun s4 =>
  RetP ((resC [ld 6 true t2 s4, some (.int .i64 0)]).map tupV) fun v => Q v s4)
  (f61j2 Q t4 t2 r73.2)))
noncomputable def f61j3 (Q : AV → St → Prop) (ih1 : AV → AV → AV → St → Prop) (t6 t4 t0 t2 : AV) (s : St) : Prop :=
  Bnd (bn .eql 3 t6 (.int .i64 0)) fun t37 =>
  IfP t37
  (Bnd (ixS 2 t0 (.int .i64 0)) fun t40 =>
  Bnd (ld 2 true t40 (adv s 13)) fun t41 =>
  CallPuD Tryz.env 114 [t41] (rch (adv s 13) [(.fn 114 [] []), t41]) (adv s 13) fun t42 s1 =>
  Bnd (bsl 31 1 [(0, t42)]) fun t43 =>
  (s1.h (s.nx + 8) = none ∧ Bnd (bt .append #[31, 31] [t4, t43] (s.nx + 8) s1) fun r44 =>
  (clear 128 ⟨8, false, idOf t0, none⟩ [⟨7, false, [], none⟩, ⟨6, true, (s.nx + 8) :: ([t4, t43]).flatMap idOf, none⟩, ⟨5, false, [], none⟩, ⟨4, false, rch (adv s 13) [(.fn 114 [] []), t41], none⟩, ⟨3, false, idOf t40, none⟩, ⟨2, false, [], none⟩, ⟨1, false, [], none⟩, ⟨0, false, [], none⟩] = true ∧ Bnd (slc 25 t0 (some (.int .i64 1)) none none r44.2) fun t46 =>
  ih1 t46 t2 r44.1 r44.2)))
  (Bnd (slc 25 t0 none (some t6) none (adv s 12)) fun t50 =>
  CallPu Tryz.env 115 [t50] (adv s 12) fun t51 s2 =>
  Bnd (extr t51 0) fun t52 =>
  Bnd (extr t51 1) fun t53 =>
  Bnd (zr 33) fun z7 =>
  Bnd (sto 6 (.ptr (s.nx + 9) 0) t52 (s2.set (s.nx + 9) (some (.cells z7.cells 33 true true)))) fun s3 =>
  Bnd (ld 6 true (.ptr (s.nx + 9) 0) (adv s3 9)) fun t55 =>
  Bnd (bsl 31 1 [(0, t55)]) fun t56 =>
  ((adv s3 9).h (s3.nx + 3) = none ∧ Bnd (bt .append #[31, 31] [t4, t56] (s3.nx + 3) (adv s3 9)) fun r57 =>
  (clear 48 ⟨6, false, idOf t0, none⟩ [⟨5, false, [], none⟩, ⟨4, false, [], none⟩, ⟨3, true, (s3.nx + 3) :: ([t4, t56]).flatMap idOf, none⟩, ⟨2, false, [], none⟩, ⟨1, false, idOf (.ptr (s.nx + 9) 0), none⟩, ⟨0, false, [], none⟩] = true ∧ Bnd (slc 25 t0 (some t6) none none r57.2) fun t60 =>
  ih1 t60 t2 r57.1 r57.2)))
noncomputable def f61l2s (Q : AV → St → Prop) (ih1 : AV → AV → AV → St → Prop) (ih2 : AV → AV → AV → AV → AV → St → Prop) (t0 t2 t4 t5 t6 : AV) (s : St) : Prop :=
  Bnd (bt .len #[25] [t0] (s.nx + 2) (adv s 14)) fun r15 =>
  Bnd (bn .lss 3 t6 r15.1) fun t16 =>
  Gd (wantV t16 true) r15.2 (fun k => k t5 r15.2) fun t18 s1 =>
  Gd (wantV t16 true) s1 (fun k => k t0 s1) fun t19 s2 =>
  Gd (wantV t16 true) s2 (fun k => k t6 s2) fun t20 s3 =>
  Gd (wantV t16 true) s3 (fun k => Bnd (ixS 2 t19 t20) fun v => k v s3) fun t21 s4 =>
  Gd (wantV t16 true) s4 (fun k => Bnd (shiftP 1 t21) fun v => k v s4) fun t22 s5 =>
  Gd (wantV t16 true) s5 (fun k => Bnd (ld 1 false t22 s5) fun v => k v s5) fun t23 s6 =>
  Gd (wantV t16 true) s6 (fun k => Bnd (bn .add 3 t18 t23) fun v => k v s6) fun t24 s7 =>
  Gd (wantV t16 true) s7 (fun k => Bnd (bn .leq 3 t24 (.int .i64 1000)) fun v => k v s7) fun t25 s8 =>
  Bnd (pickV t16 t25 (.bool false)) fun t26 =>
  IfP t26
  (Bnd (ixS 2 t0 t6) fun t30 =>
  Bnd (shiftP 1 t30) fun t31 =>
  Bnd (ld 1 false t31 (adv s8 8)) fun t32 =>
  Bnd (bn .add 3 t5 t32) fun t33 =>
  Bnd (bn .add 3 t6 (.int .i64 1)) fun t35 =>
  ih2 t0 t2 t4 t33 t35 (adv s8 11))
  (f61j3 Q ih1 t6 t4 t0 t2 s8)
noncomputable def f61l2 (Q : AV → St → Prop) (ih1 : AV → AV → AV → St → Prop) (n : Nat) : AV → AV → AV → AV → AV → St → Prop := Nat.rec (motive := fun _ => AV → AV → AV → AV → AV → St → Prop) (fun _ _ _ _ _ _ => False) (fun _ ih => f61l2s Q ih1 ih) n
noncomputable def f61l1s (Q : AV → St → Prop) (ih1 : AV → AV → AV → St → Prop) (t0 t2 t4 : AV) (s : St) : Prop :=
  Bnd (bt .len #[25] [t0] (s.nx + 1) (adv s 3)) fun r11 =>
  Bnd (bn .gtr 3 r11.1 (.int .i64 0)) fun t12 =>
  IfP t12
  (∃ n, f61l2 Q ih1 n t0 t2 t4 (.int .i64 0) (.int .i64 0) (adv r11.2 2))
  (f61j1 Q t4 t2 r11.2)
noncomputable def f61l1 (Q : AV → St → Prop) (n : Nat) : AV → AV → AV → St → Prop := Nat.rec (motive := fun _ => AV → AV → AV → St → Prop) (fun _ _ _ _ => False) (fun _ ih => f61l1s Q ih) n
theorem f61j2_eq (Q : AV → St → Prop) : f61C (sub f61B [true, true, true, true]) (f61R Q) (fun _ _ _ => False) (f61R Q) = (fun g s => f61j2 Q (g 4) (g 2) s) :=
  Eq.trans rfl (by kernel_rfl)
theorem f61j1_eq (Q : AV → St → Prop) : f61C (sub f61B [true, true, true]) (f61R Q) (fun _ _ _ => False) (f61R Q) = (fun g s => f61j1 Q (g 4) (g 2) s) :=
  Eq.trans (seq_eq (by kernel_rfl : (sub f61B [true, true, true]) = .seq (sub f61B [true, true, true, false]) (sub f61B [true, true, true, true])) (f61j2_eq Q) (block_eq (by kernel_rfl : (sub f61B [true, true, true, false]) = .block 4 (sub f61B [true, true, true, false, false])) rfl)) (by kernel_rfl)
theorem f61j3_eq (Q : AV → St → Prop) (n1 : Nat) : f61C (sub f61B [true, true, false, false, false, true, false, true, true]) (fun g s => (fun (n : Nat) (g : Gf) (s : St) => f61l1 Q n (g 0) (g 2) (g 4) s) n1 (fun k => cond (bitOf (Tryz.env.kp 61) k) (g k) .undef) s) (fun i => cond (Nat.beq i 1) (fun g s => (fun (n : Nat) (g : Gf) (s : St) => f61l1 Q n (g 0) (g 2) (g 4) s) n1 (fun k => cond (bitOf (Tryz.env.kp 61) k) (g k) .undef) s) ((fun i => cond (Nat.beq i 0) (fun g s => f61j1 Q (g 4) (g 2) s) ((fun _ _ _ => False) i)) i)) (f61R Q) = (fun g s => f61j3 Q (f61l1 Q n1) (g 6) (g 4) (g 0) (g 2) s) :=
  Eq.trans rfl (by kernel_rfl)
theorem f61l2_eq (Q : AV → St → Prop) (n1 : Nat) (kN : Kt) : f61C (sub f61B [true, true, false, false, false, true, false, true, false, false]) kN (fun i => cond (Nat.beq i 2) (fun g s => f61j3 Q (f61l1 Q n1) (g 6) (g 4) (g 0) (g 2) s) ((fun i => cond (Nat.beq i 1) (fun g s => (fun (n : Nat) (g : Gf) (s : St) => f61l1 Q n (g 0) (g 2) (g 4) s) n1 (fun k => cond (bitOf (Tryz.env.kp 61) k) (g k) .undef) s) ((fun i => cond (Nat.beq i 0) (fun g s => f61j1 Q (g 4) (g 2) s) ((fun _ _ _ => False) i)) i)) i)) (f61R Q) = fun g s => ∃ n, (fun (n : Nat) (g : Gf) (s : St) => f61l2 Q (f61l1 Q n1) n (g 0) (g 2) (g 4) (g 5) (g 6) s) n g s :=
  loop_eq (L := fun (n : Nat) (g : Gf) (s : St) => f61l2 Q (f61l1 Q n1) n (g 0) (g 2) (g 4) (g 5) (g 6) s) (by kernel_rfl : (sub f61B [true, true, false, false, false, true, false, true, false, false]) = .loop (sub f61B [true, true, false, false, false, true, false, true, false, false, false])) (by kernel_rfl) (fun n2 => Eq.trans (seq_eq (by kernel_rfl : (sub f61B [true, true, false, false, false, true, false, true, false, false, false]) = .seq (sub f61B [true, true, false, false, false, true, false, true, false, false, false, false]) (sub f61B [true, true, false, false, false, true, false, true, false, false, false, true])) (block_eq (by kernel_rfl : (sub f61B [true, true, false, false, false, true, false, true, false, false, false, true]) = .block 3 (sub f61B [true, true, false, false, false, true, false, true, false, false, false, true, false])) rfl) rfl) (by kernel_rfl))
theorem f61l1_eq (Q : AV → St → Prop) (kN : Kt) : f61C (sub f61B [true, true, false, false]) kN (fun i => cond (Nat.beq i 0) (fun g s => f61j1 Q (g 4) (g 2) s) ((fun _ _ _ => False) i)) (f61R Q) = fun g s => ∃ n, (fun (n : Nat) (g : Gf) (s : St) => f61l1 Q n (g 0) (g 2) (g 4) s) n g s :=
  loop_eq (L := fun (n : Nat) (g : Gf) (s : St) => f61l1 Q n (g 0) (g 2) (g 4) s) (by kernel_rfl : (sub f61B [true, true, false, false]) = .loop (sub f61B [true, true, false, false, false])) (by kernel_rfl) (fun n1 => Eq.trans (seq_eq (by kernel_rfl : (sub f61B [true, true, false, false, false]) = .seq (sub f61B [true, true, false, false, false, false]) (sub f61B [true, true, false, false, false, true])) (block_eq (by kernel_rfl : (sub f61B [true, true, false, false, false, true]) = .block 1 (sub f61B [true, true, false, false, false, true, false])) (seq_eq (by kernel_rfl : (sub f61B [true, true, false, false, false, true, false]) = .seq (sub f61B [true, true, false, false, false, true, false, false]) (sub f61B [true, true, false, false, false, true, false, true])) (seq_eq (by kernel_rfl : (sub f61B [true, true, false, false, false, true, false, true]) = .seq (sub f61B [true, true, false, false, false, true, false, true, false]) (sub f61B [true, true, false, false, false, true, false, true, true])) (f61j3_eq Q n1) (block_eq (by kernel_rfl : (sub f61B [true, true, false, false, false, true, false, true, false]) = .block 2 (sub f61B [true, true, false, false, false, true, false, true, false, false])) (f61l2_eq Q n1 _))) rfl)) rfl) (by kernel_rfl))
noncomputable def f61 (Q : AV → St → Prop) (t0 : AV) (s : St) : Prop :=
  Bnd (zr 33) fun z2 =>
  ∃ n, f61l1 Q n t0 (.ptr s.nx 0) .nils (adv ((adv s 2).set s.nx (some (.cells z2.cells 33 true true))) 1)
theorem f61_run (t0 : AV) (s : St) {Q : AV → St → Prop} (h : f61 Q t0 s) : ∃ r s', WideC Tryz.env 61 [t0] s r s' ∧ Q r s' :=
  wide_of (h := 61) (fn := Tryz.f61) (c := sub f61B []) (by kernel_rfl) (by kernel_rfl) (by kernel_rfl) (by kernel_rfl) (of_decide_eq_true (by kernel_rfl))
    (Eq.mp (Eq.trans (by kernel_rfl) (congrFun (congrFun (show f61C (sub f61B []) (f61R Q) (fun _ _ _ => False) (f61R Q) = _ from (seq_eq (by kernel_rfl : (sub f61B []) = .seq (sub f61B [false]) (sub f61B [true])) (seq_eq (by kernel_rfl : (sub f61B [true]) = .seq (sub f61B [true, false]) (sub f61B [true, true])) (seq_eq (by kernel_rfl : (sub f61B [true, true]) = .seq (sub f61B [true, true, false]) (sub f61B [true, true, true])) (f61j1_eq Q) (block_eq (by kernel_rfl : (sub f61B [true, true, false]) = .block 0 (sub f61B [true, true, false, false])) (f61l1_eq Q _))) rfl) rfl)).symm (gt (frame Tryz.f61 [t0]))) s)) h)
/-! 116 gudgeon/show.size -/
noncomputable abbrev f116B : Code := bodyOf Tryz.f116
noncomputable abbrev f116R (Q : AV → St → Prop) : Kt := fun g s => RetP (result Tryz.ty Tryz.f116 g s) fun v => Q v s
noncomputable abbrev f116C : Code → Kt → (Nat → Kt) → Kt → Kt := codeP Tryz.env 116 (Tryz.env.kp 116)
noncomputable def f116j1 (Q : AV → St → Prop) (t3 : AV) (s : St) : Prop :=
  Q t3 (adv s 2)
noncomputable def f116j2 (Q : AV → St → Prop) (ih1 : AV → AV → AV → AV → St → Prop) (t9 t3 t7 t8 : AV) (s : St) : Prop :=
  Bnd (bn .add 3 t9 (.int .i64 1)) fun t17 =>
  ih1 t3 t7 t8 t17 (adv s 2)
noncomputable def f116l1s (Q : AV → St → Prop) (ih1 : AV → AV → AV → AV → St → Prop) (t3 t7 t8 t9 : AV) (s : St) : Prop :=
  Bnd (bn .lss 3 t9 t8) fun t10 =>
  IfP t10
  (Bnd (ixS 6 t7 t9) fun t11 =>
  Bnd (ld 6 true t11 (adv s 5)) fun t12 =>
  Bnd (zr 33) fun z5 =>
  Bnd (sto 6 (.ptr (s.nx + 3) 0) t12 ((adv s 5).set (s.nx + 3) (some (.cells z5.cells 33 true true)))) fun s1 =>
  Bnd (ld 6 true (.ptr (s.nx + 3) 0) (adv s1 5)) fun t14 =>
  CallPu Tryz.env 116 [t14] (adv s1 5) fun t15 s2 =>
  Bnd (bn .add 3 t3 t15) fun t16 =>
  f116j2 Q ih1 t9 t16 t7 t8 s2)
  (f116j1 Q t3 (adv s 1))
noncomputable def f116l1 (Q : AV → St → Prop) (n : Nat) : AV → AV → AV → AV → St → Prop := Nat.rec (motive := fun _ => AV → AV → AV → AV → St → Prop) (fun _ _ _ _ _ => False) (fun _ ih => f116l1s Q ih) n
theorem f116j1_eq (Q : AV → St → Prop) : f116C (sub f116B [true, true, true]) (f116R Q) (fun _ _ _ => False) (f116R Q) = (fun g s => f116j1 Q (g 3) s) :=
  Eq.trans rfl (by kernel_rfl)
theorem f116j2_eq (Q : AV → St → Prop) (n1 : Nat) : f116C (sub f116B [true, true, false, true, false, false, true, true, true]) (fun g s => (fun (n : Nat) (g : Gf) (s : St) => f116l1 Q n (g 3) (g 7) (g 8) (g 9) s) n1 (fun k => cond (bitOf (Tryz.env.kp 116) k) (g k) .undef) s) (fun i => cond (Nat.beq i 0) (fun g s => f116j1 Q (g 3) s) ((fun _ _ _ => False) i)) (f116R Q) = (fun g s => f116j2 Q (f116l1 Q n1) (g 9) (g 3) (g 7) (g 8) s) :=
  Eq.trans rfl (by kernel_rfl)
theorem f116l1_eq (Q : AV → St → Prop) (kN : Kt) : f116C (sub f116B [true, true, false, true, false]) kN (fun i => cond (Nat.beq i 0) (fun g s => f116j1 Q (g 3) s) ((fun _ _ _ => False) i)) (f116R Q) = fun g s => ∃ n, (fun (n : Nat) (g : Gf) (s : St) => f116l1 Q n (g 3) (g 7) (g 8) (g 9) s) n g s :=
  loop_eq (L := fun (n : Nat) (g : Gf) (s : St) => f116l1 Q n (g 3) (g 7) (g 8) (g 9) s) (by kernel_rfl : (sub f116B [true, true, false, true, false]) = .loop (sub f116B [true, true, false, true, false, false])) (by kernel_rfl) (fun n1 => Eq.trans (seq_eq (by kernel_rfl : (sub f116B [true, true, false, true, false, false]) = .seq (sub f116B [true, true, false, true, false, false, false]) (sub f116B [true, true, false, true, false, false, true])) (seq_eq (by kernel_rfl : (sub f116B [true, true, false, true, false, false, true]) = .seq (sub f116B [true, true, false, true, false, false, true, false]) (sub f116B [true, true, false, true, false, false, true, true])) (seq_eq (by kernel_rfl : (sub f116B [true, true, false, true, false, false, true, true]) = .seq (sub f116B [true, true, false, true, false, false, true, true, false]) (sub f116B [true, true, false, true, false, false, true, true, true])) (f116j2_eq Q n1) (block_eq (by kernel_rfl : (sub f116B [true, true, false, true, false, false, true, true, false]) = .block 1 (sub f116B [true, true, false, true, false, false, true, true, false, false])) rfl)) rfl) rfl) (by kernel_rfl))
noncomputable def f116 (Q : AV → St → Prop) (t0 : AV) (s : St) : Prop :=
  (t0.cells.all AV.one = true ∧
  Bnd (shiftP 5 (.ptr s.nx 0)) fun t6 =>
  Bnd (ld 1 false t6 (adv ((adv s 2).set s.nx (some (.cells t0.cells 33 true true))) 5)) fun t7 =>
  Bnd (bt .len #[31] [t7] (((adv s 2).set s.nx (some (.cells t0.cells 33 true true))).nx + 3) (adv ((adv s 2).set s.nx (some (.cells t0.cells 33 true true))) 5)) fun r8 =>
  ∃ n, f116l1 Q n (.int .i64 1) t7 r8.1 (.int .i64 0) r8.2)
theorem f116_run (t0 : AV) (s : St) {Q : AV → St → Prop} (h : f116 Q t0 s) : ∃ r s', WideC Tryz.env 116 [t0] s r s' ∧ Q r s' :=
  wide_of (h := 116) (fn := Tryz.f116) (c := sub f116B []) (by kernel_rfl) (by kernel_rfl) (by kernel_rfl) (by kernel_rfl) (of_decide_eq_true (by kernel_rfl))
    (Eq.mp (Eq.trans (by kernel_rfl) (congrFun (congrFun (show f116C (sub f116B []) (f116R Q) (fun _ _ _ => False) (f116R Q) = _ from (seq_eq (by kernel_rfl : (sub f116B []) = .seq (sub f116B [false]) (sub f116B [true])) (seq_eq (by kernel_rfl : (sub f116B [true]) = .seq (sub f116B [true, false]) (sub f116B [true, true])) (seq_eq (by kernel_rfl : (sub f116B [true, true]) = .seq (sub f116B [true, true, false]) (sub f116B [true, true, true])) (f116j1_eq Q) (seq_eq (by kernel_rfl : (sub f116B [true, true, false]) = .seq (sub f116B [true, true, false, false]) (sub f116B [true, true, false, true])) (block_eq (by kernel_rfl : (sub f116B [true, true, false, true]) = .block 0 (sub f116B [true, true, false, true, false])) (f116l1_eq Q _)) rfl)) rfl) rfl)).symm (gt (frame Tryz.f116 [t0]))) s)) h)
/-! 22 gudgeon/show.Name -/
noncomputable abbrev f22B : Code := bodyOf Tryz.f22
noncomputable abbrev f22R (Q : AV → St → Prop) : Kt := fun g s => RetP (result Tryz.ty Tryz.f22 g s) fun v => Q v s
noncomputable abbrev f22C : Code → Kt → (Nat → Kt) → Kt → Kt := codeP Tryz.env 22 (Tryz.env.kp 22)
noncomputable def f22 (Q : AV → St → Prop) (t0 : AV) (s : St) : Prop :=
  Bnd (bn .lss 3 t0 (.int .i64 0)) fun t4 =>
  Gd (wantV t4 false) (adv s 7) (fun k => k t0 (adv s 7)) fun t6 s1 =>
  Gd (wantV t4 false) s1 (fun k => Bnd (bn .geq 3 t6 (.int .i64 31)) fun v => k v s1) fun t7 s2 =>
  Bnd (pickV t4 (.bool true) t7) fun t8 =>
  IfP t8
  (Q (.str []) (adv s2 1))
  (Bnd (ixA 31 1 (gl 0) t0) fun t10 =>
  Bnd (ld 1 false t10 (adv s2 4)) fun t11 =>
  Q t11 (adv s2 4))
theorem f22_run (t0 : AV) (s : St) {Q : AV → St → Prop} (h : f22 Q t0 s) : ∃ r s', WideC Tryz.env 22 [t0] s r s' ∧ Q r s' :=
  wide_of (h := 22) (fn := Tryz.f22) (c := sub f22B []) (by kernel_rfl) (by kernel_rfl) (by kernel_rfl) (by kernel_rfl) (of_decide_eq_true (by kernel_rfl))
    (Eq.mp (Eq.trans (by kernel_rfl) (congrFun (congrFun (show f22C (sub f22B []) (f22R Q) (fun _ _ _ => False) (f22R Q) = _ from rfl).symm (gt (frame Tryz.f22 [t0]))) s)) h)
/-! 5 gudgeon/gudgeonlaw12.ShowNames -/
noncomputable abbrev f5B : Code := bodyOf Tryz.f5
noncomputable abbrev f5R (Q : AV → St → Prop) : Kt := fun g s => RetP (result Tryz.ty Tryz.f5 g s) fun v => Q v s
noncomputable abbrev f5C : Code → Kt → (Nat → Kt) → Kt → Kt := codeP Tryz.env 5 (Tryz.env.kp 5)
noncomputable def f5j1 (Q : AV → St → Prop) (t0 t1 t6 t8 t7 : AV) (s : St) : Prop :=
  Bnd (bn .eql 3 t0 (.int .i64 14)) fun t25 =>
  Gd (wantV t25 false) (adv s 15) (fun k => k t0 (adv s 15)) fun t27 s1 =>
  Gd (wantV t25 false) s1 (fun k => Bnd (bn .eql 3 t27 (.int .i64 16)) fun v => k v s1) fun t28 s2 =>
  Bnd (pickV t25 (.bool true) t28) fun t29 =>
  Gd (wantV t29 true) s2 (fun k => k t1 s2) fun t31 s3 =>
  Gd (wantV t29 true) s3 (fun k => Bnd (bn .eql 3 t31 (.int .i64 14)) fun v => k v s3) fun t32 s4 =>
  Gd (wantV t29 true) s4 (fun k => k t32 s4) fun t33 s5 =>
  Gd (wantV t33 false) s5 (fun k => k t1 s5) fun t34 s6 =>
  Gd (wantV t33 false) s6 (fun k => Bnd (bn .eql 3 t34 (.int .i64 16)) fun v => k v s6) fun t35 s7 =>
  Gd (wantV t29 true) s7 (fun k => Bnd (pickV t33 (.bool true) t35) fun v => k v s7) fun t36 s8 =>
  Bnd (pickV t29 t36 (.bool false)) fun t37 =>
  CallPu Tryz.env 23 [t6, t8] (adv s8 23) fun t40 s9 =>
  Bnd (bn .eql 3 t40 t0) fun t42 =>
  Gd (wantV t42 true) s9 (fun k => k t6 s9) fun t44 s10 =>
  Gd (wantV t42 true) s10 (fun k => CallPu Tryz.env 24 [t44] s10 k) fun t45 s11 =>
  Bnd (pickV t42 t45 (.bool false)) fun t46 =>
  Gd (wantV t46 true) s11 (fun k => k t0 s11) fun t48 s12 =>
  Gd (wantV t46 true) s12 (fun k => k t1 s12) fun t49 s13 =>
  Gd (wantV t46 true) s13 (fun k => Bnd (bn .eql 3 t48 t49) fun v => k v s13) fun t50 s14 =>
  Gd (wantV t46 true) s14 (fun k => k t50 s14) fun t51 s15 =>
  Gd (wantV t51 false) s15 (fun k => k t6 s15) fun t52 s16 =>
  Gd (wantV t51 false) s16 (fun k => k t7 s16) fun t53 s17 =>
  Gd (wantV t51 false) s17 (fun k => Bnd (bn .neq 9 t52 t53) fun v => k v s17) fun t54 s18 =>
  Gd (wantV t46 true) s18 (fun k => Bnd (pickV t51 (.bool true) t54) fun v => k v s18) fun t55 s19 =>
  Gd (wantV t46 true) s19 (fun k => k t55 s19) fun t56 s20 =>
  Gd (wantV t56 false) s20 (fun k => k t37 s20) fun t57 s21 =>
  Gd (wantV t46 true) s21 (fun k => Bnd (pickV t56 (.bool true) t57) fun v => k v s21) fun t58 s22 =>
  Bnd (pickV t46 t58 (.bool false)) fun t59 =>
  Q t59 s22
theorem f5j1_eq (Q : AV → St → Prop) : f5C (sub f5B [true, true, true, true, true, true, true]) (f5R Q) (fun _ _ _ => False) (f5R Q) = (fun g s => f5j1 Q (g 0) (g 1) (g 6) (g 8) (g 7) s) :=
  Eq.trans rfl (by kernel_rfl)
noncomputable def f5 (Q : AV → St → Prop) (t0 t1 : AV) (s : St) : Prop :=
  CallPu Tryz.env 15 [] (adv s 3) fun t10 s1 =>
  CallPu Tryz.env 22 [t0] (adv s1 3) fun t12 s2 =>
  CallPu Tryz.env 22 [t1] (adv s2 3) fun t14 s3 =>
  Bnd (un .not t10) fun t16 =>
  Gd (wantV t16 false) (adv s3 6) (fun k => k t12 (adv s3 6)) fun t18 s4 =>
  Gd (wantV t16 false) s4 (fun k => Bnd (bn .eql 9 t18 (.str [])) fun v => k v s4) fun t19 s5 =>
  Bnd (pickV t16 (.bool true) t19) fun t20 =>
  IfP t20
  (Q t10 (adv s5 2))
  (Bnd (bn .eql 3 t0 (.int .i64 14)) fun t23 =>
  IfP t23
  (f5j1 Q t0 t1 t12 (.int .i64 1) t14 (adv s5 4))
  (f5j1 Q t0 t1 t12 (.int .i64 2) t14 (adv s5 3)))
theorem f5_run (t0 t1 : AV) (s : St) {Q : AV → St → Prop} (h : f5 Q t0 t1 s) : ∃ r s', WideC Tryz.env 5 [t0, t1] s r s' ∧ Q r s' :=
  wide_of (h := 5) (fn := Tryz.f5) (c := sub f5B []) (by kernel_rfl) (by kernel_rfl) (by kernel_rfl) (by kernel_rfl) (of_decide_eq_true (by kernel_rfl))
    (Eq.mp (Eq.trans (by kernel_rfl) (congrFun (congrFun (show f5C (sub f5B []) (f5R Q) (fun _ _ _ => False) (f5R Q) = _ from (seq_eq (by kernel_rfl : (sub f5B []) = .seq (sub f5B [false]) (sub f5B [true])) (seq_eq (by kernel_rfl : (sub f5B [true]) = .seq (sub f5B [true, false]) (sub f5B [true, true])) (seq_eq (by kernel_rfl : (sub f5B [true, true]) = .seq (sub f5B [true, true, false]) (sub f5B [true, true, true])) (seq_eq (by kernel_rfl : (sub f5B [true, true, true]) = .seq (sub f5B [true, true, true, false]) (sub f5B [true, true, true, true])) (seq_eq (by kernel_rfl : (sub f5B [true, true, true, true]) = .seq (sub f5B [true, true, true, true, false]) (sub f5B [true, true, true, true, true])) (seq_eq (by kernel_rfl : (sub f5B [true, true, true, true, true]) = .seq (sub f5B [true, true, true, true, true, false]) (sub f5B [true, true, true, true, true, true])) (seq_eq (by kernel_rfl : (sub f5B [true, true, true, true, true, true]) = .seq (sub f5B [true, true, true, true, true, true, false]) (sub f5B [true, true, true, true, true, true, true])) (f5j1_eq Q) rfl) rfl) rfl) rfl) rfl) rfl) rfl)).symm (gt (frame Tryz.f5 [t0, t1]))) s)) h)
end Go.Proofs.YtdehdahimkcakaaGreatDoor
