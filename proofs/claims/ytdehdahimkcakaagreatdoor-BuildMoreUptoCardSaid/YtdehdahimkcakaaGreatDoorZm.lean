/- Texts joined by wip/tools/pack.py: LBn,Run,Bn,LBd,LTm,LBt. -/
import Derived.Test.YtdehdahimkcakaaGreatDoorZl
set_option linter.unusedSimpArgs false
set_option linter.unusedVariables false
namespace Go.Proofs.YtdehdahimkcakaaGreatDoor
open Go Ai
noncomputable section
set_option maxRecDepth 1000000
def f6 (Q:AV→St→Prop) (t0 t1:AV) (s:St):Prop :=
 (t0.cells.all AV.one = true ∧
 CallPu Tryz.env 25 [] (adv ((adv s 2).set s.nx (some (.cells t0.cells 33 true true))) 2) fun t10 s1 =>
 Bnd (un .not t10) fun t12 =>
 Gd (wantV t12 false) (adv s1 14) (fun k=>k t1 (adv s1 14)) fun t14 s2 =>
 Gd (wantV t12 false) s2 (fun k=>Bnd (bt .len #[9] [t14] (s1.nx + 4) s2) fun r=>k r.1 r.2) fun t15 s3 =>
 Gd (wantV t12 false) s3 (fun k=>Bnd (bn .gtr 3 t15 (.int .i64 200)) fun v=>k v s3) fun t16 s4 =>
 Bnd (pickV t12 (.bool true) t16) fun t17 =>
 Gd (wantV t17 false) s4 (fun k=>Bnd (shiftP 1 (.ptr s.nx 0)) fun v=>k v s4) fun t19 s5 =>
 Gd (wantV t17 false) s5 (fun k=>Bnd (shiftP 1 t19) fun v=>k v s5) fun t20 s6 =>
 Gd (wantV t17 false) s6 (fun k=>Bnd (ld 1 false t20 s6) fun v=>k v s6) fun t21 s7 =>
 Gd (wantV t17 false) s7 (fun k=>Bnd (bt .len #[9] [t21] (s1.nx + 11) s7) fun r=>k r.1 r.2) fun t22 s8 =>
 Gd (wantV t17 false) s8 (fun k=>Bnd (bn .gtr 3 t22 (.int .i64 200)) fun v=>k v s8) fun t23 s9 =>
 Bnd (pickV t17 (.bool true) t23) fun t24 =>
 IfP t24
 (Q t10 (adv s9 2))
 (Bnd (ld 6 true (.ptr s.nx 0) (adv s9 7)) fun t27 =>
 CallPu Tryz.env 26 [t27] (adv s9 7) fun t28 s10 =>
 Bnd (extr t28 0) fun t29 =>
 Bnd (extr t28 1) fun t30 =>
 Bnd (ld 6 true (.ptr s.nx 0) (adv s10 7)) fun t32 =>
 CallPu Tryz.env 27 [t32] (adv s10 7) fun t33 s11 =>
 Bnd (extr t33 0) fun t34 =>
 Bnd (extr t33 1) fun t35 =>
 Bnd (bn .eql 3 t29 t34) fun t38 =>
 Gd (wantV t38 true) (adv s11 16) (fun k=>k t30 (adv s11 16)) fun t40 s12 =>
 Gd (wantV t38 true) s12 (fun k=>k t35 s12) fun t41 s13 =>
 Gd (wantV t38 true) s13 (fun k=>Bnd (bn .eql 34 t40 t41) fun v=>k v s13) fun t42 s14 =>
 Bnd (pickV t38 t42 (.bool false)) fun t43 =>
 Gd (wantV t43 true) s14 (fun k=>k t1 s14) fun t45 s15 =>
 Gd (wantV t43 true) s15 (fun k=>CallPu Tryz.env 24 [t45] s15 k) fun t46 s16 =>
 Gd (wantV t43 true) s16 (fun k=>k t1 s16) fun t47 s17 =>
 Gd (wantV t43 true) s17 (fun k=>CallPu Tryz.env 28 [t47] s17 k) fun t48 s18 =>
 Gd (wantV t43 true) s18 (fun k=>Bnd (bn .eql 4 t46 t48) fun v=>k v s18) fun t49 s19 =>
 Bnd (pickV t43 t49 (.bool false)) fun t50 =>
 Q t50 s19))
def f26j1 (Q:AV→St→Prop) (s:St):Prop :=
 Q (.tup [(.int .i64 0),(.int .i64 101)]) (adv s 2)
def f26 (Q:AV→St→Prop) (t0:AV) (s:St):Prop :=
 (t0.cells.all AV.one = true ∧
 Bnd (shiftP 0 (.ptr s.nx 0)) fun t4 =>
 Bnd (ld 1 false t4 (adv ((adv s 3).set s.nx (some (.cells t0.cells 33 true true))) 9)) fun t5 =>
 Bnd (un .not t5) fun t6 =>
 Gd (wantV t6 true) (adv ((adv s 3).set s.nx (some (.cells t0.cells 33 true true))) 9) (fun k=>Bnd (shiftP 1 (.ptr s.nx 0)) fun v=>k v (adv ((adv s 3).set s.nx (some (.cells t0.cells 33 true true))) 9)) fun t8 s1 =>
 Gd (wantV t6 true) s1 (fun k=>Bnd (shiftP 0 t8) fun v=>k v s1) fun t9 s2 =>
 Gd (wantV t6 true) s2 (fun k=>Bnd (ld 1 false t9 s2) fun v=>k v s2) fun t10 s3 =>
 Gd (wantV t6 true) s3 (fun k=>Bnd (bn .eql 3 t10 (.int .i64 3)) fun v=>k v s3) fun t11 s4 =>
 Bnd (pickV t6 t11 (.bool false)) fun t12 =>
 IfP t12
 (Bnd (shiftP 1 (.ptr s.nx 0)) fun t13 =>
 Bnd (shiftP 1 t13) fun t14 =>
 Bnd (ld 1 false t14 (adv s4 3)) fun t15 =>
 Bnd (bn .eql 9 t15 (.str [66,111,111,108])) fun t17 =>
 IfP t17
 (Q (.tup [(.int .i64 1),(.int .i64 0)]) (adv s4 7))
 (Bnd (bn .eql 9 t15 (.str [73,110,116])) fun t19 =>
 IfP t19
 (Q (.tup [(.int .i64 2),(.int .i64 0)]) (adv s4 9))
 (Bnd (bn .eql 9 t15 (.str [83,116,114,105,110,103])) fun t21 =>
 IfP t21
 (Q (.tup [(.int .i64 3),(.int .i64 0)]) (adv s4 11))
 (f26j1 Q (adv s4 9)))))
 (f26j1 Q s4))
def f27j1 (Q:AV→St→Prop) (s:St):Prop :=
 Q (.tup [(.int .i64 0),(.int .i64 101)]) (adv s 2)
def f27j2 (Q:AV→St→Prop) (ih1:AV→AV→AV→St→Prop) (t5 t1 t4:AV) (s:St):Prop :=
 Bnd (bn .add 3 t5 (.int .i64 1)) fun t10 =>
 ih1 t1 t4 t10 (adv s 3)
def f27l1s (Q:AV→St→Prop) (ih1:AV→AV→AV→St→Prop) (t1 t4 t5:AV) (s:St):Prop :=
 Bnd (bn .lss 3 t5 (.int .i64 3)) fun t8 =>
 IfP t8
 (Bnd (shiftP 0 t1) fun t11 =>
 Bnd (ld 1 false t11 (adv s 21)) fun t12 =>
 Bnd (un .not t12) fun t13 =>
 Gd (wantV t13 true) (adv s 21) (fun k=>Bnd (shiftP 1 t1) fun v=>k v (adv s 21)) fun t15 s1 =>
 Gd (wantV t13 true) s1 (fun k=>Bnd (shiftP 0 t15) fun v=>k v s1) fun t16 s2 =>
 Gd (wantV t13 true) s2 (fun k=>Bnd (ld 1 false t16 s2) fun v=>k v s2) fun t17 s3 =>
 Gd (wantV t13 true) s3 (fun k=>Bnd (bn .eql 3 t17 (.int .i64 3)) fun v=>k v s3) fun t18 s4 =>
 Bnd (pickV t13 t18 (.bool false)) fun t19 =>
 Gd (wantV t19 true) s4 (fun k=>Bnd (shiftP 1 t1) fun v=>k v s4) fun t21 s5 =>
 Gd (wantV t19 true) s5 (fun k=>Bnd (shiftP 1 t21) fun v=>k v s5) fun t22 s6 =>
 Gd (wantV t19 true) s6 (fun k=>Bnd (ld 1 false t22 s6) fun v=>k v s6) fun t23 s7 =>
 Gd (wantV t19 true) s7 (fun k=>k t4 s7) fun t24 s8 =>
 Gd (wantV t19 true) s8 (fun k=>k t5 s8) fun t25 s9 =>
 Gd (wantV t19 true) s9 (fun k=>Bnd (ixS 1 t24 t25) fun v=>k v s9) fun t26 s10 =>
 Gd (wantV t19 true) s10 (fun k=>Bnd (ld 1 false t26 s10) fun v=>k v s10) fun t27 s11 =>
 Gd (wantV t19 true) s11 (fun k=>Bnd (bn .eql 9 t23 t27) fun v=>k v s11) fun t28 s12 =>
 Bnd (pickV t19 t28 (.bool false)) fun t29 =>
 IfP t29
 (Bnd (bn .add 3 t5 (.int .i64 1)) fun t31 =>
 Q (.tup [t31,(.int .i64 0)]) (adv s12 4))
 (f27j2 Q ih1 t5 t1 t4 s12))
 (f27j1 Q (adv s 2))
def f27l1 (Q:AV→St→Prop) (n:Nat):AV→AV→AV→St→Prop:=Nat.rec (motive:=fun _=>AV→AV→AV→St→Prop) (fun _ _ _ _=>False) (fun _ ih=>f27l1s Q ih) n
def f27 (Q:AV→St→Prop) (t0:AV) (s:St):Prop :=
 (t0.cells.all AV.one = true ∧
 Bnd (bsl 52 3 [(0,(.str [66,111,111,108])),(1,(.str [73,110,116])),(2,(.str [83,116,114,105,110,103]))]) fun t6 =>
 ∃ n,f27l1 Q n (.ptr s.nx 0) t6 (.int .i64 0) (adv ((adv s 3).set s.nx (some (.cells t0.cells 33 true true))) 3))
abbrev f24B:Code:=bodyOf Tryz.f24
abbrev f24R:=rK Tryz.f24
abbrev f24C:=codeP Tryz.env 24 (Tryz.env.kp 24)
def f24j1 (Q:AV→St→Prop) (t0:AV) (s:St):Prop :=
 CallPu Tryz.env 71 [t0,(.int .i64 2)] (adv s 12) fun t19 s1 =>
 Bnd (bn .neq 3 t19 (.int .i64 0)) fun t20 =>
 Gd (wantV t20 false) s1 (fun k=>k t0 s1) fun t22 s2 =>
 Gd (wantV t20 false) s2 (fun k=>CallPu Tryz.env 72 [t22,(.str [115,116,114,46])] s2 k) fun t23 s3 =>
 Bnd (pickV t20 (.bool true) t23) fun t24 =>
 Gd (wantV t24 false) s3 (fun k=>k t0 s3) fun t26 s4 =>
 Gd (wantV t24 false) s4 (fun k=>CallPu Tryz.env 72 [t26,(.str [114,101,46])] s4 k) fun t27 s5 =>
 Bnd (pickV t24 (.bool true) t27) fun t28 =>
 Q t28 s5
def f24j2 (Q:AV→St→Prop) (t4 t0:AV) (s:St):Prop :=
 IfP t4
 (Q (.bool true) (adv s 1))
 (f24j1 Q t0 s)
theorem f24j1_eq (Q:AV→St→Prop):f24C (sub f24B [Y,Y]) (f24R Q) (fun _ _ _=>False) (f24R Q) = (fun g s=>f24j1 Q (g 0) s) :=
 Eq.trans rfl (by kernel_rfl)
theorem f24j2_eq (Q:AV→St→Prop):f24C (sub f24B [Y,N,Y,N,Y]) (fun g s=>f24j1 Q (g 0) s) (fun i=>cond (Nat.beq i 0) (fun g s=>f24j1 Q (g 0) s) ((fun _ _ _=>False) i)) (f24R Q) = (fun g s=>f24j2 Q (g 4) (g 0) s) :=
 Eq.trans rfl (by kernel_rfl)
def f24 (Q:AV→St→Prop) (t0:AV) (s:St):Prop :=
 Bnd (bn .eql 9 t0 (.str [116,114,117,101])) fun t5 =>
 IfP t5
 (f24j2 Q t5 t0 (adv s 4))
 (Bnd (bn .eql 9 t0 (.str [102,97,108,115,101])) fun t6 =>
 IfP t6
 (f24j2 Q t6 t0 (adv s 6))
 (Bnd (bn .eql 9 t0 (.str [108,101,116])) fun t7 =>
 IfP t7
 (f24j2 Q t7 t0 (adv s 8))
 (Bnd (bn .eql 9 t0 (.str [102,111,114,97,108,108])) fun t8 =>
 IfP t8
 (f24j2 Q t8 t0 (adv s 10))
 (Bnd (bn .eql 9 t0 (.str [101,120,105,115,116,115])) fun t9 =>
 IfP t9
 (f24j2 Q t9 t0 (adv s 12))
 (Bnd (bn .eql 9 t0 (.str [109,97,116,99,104])) fun t10 =>
 IfP t10
 (f24j2 Q t10 t0 (adv s 14))
 (Bnd (bn .eql 9 t0 (.str [112,97,114])) fun t11 =>
 IfP t11
 (f24j2 Q t11 t0 (adv s 16))
 (Bnd (bn .eql 9 t0 (.str [33])) fun t12 =>
 IfP t12
 (f24j2 Q t12 t0 (adv s 18))
 (Bnd (bn .eql 9 t0 (.str [95])) fun t13 =>
 IfP t13
 (f24j2 Q t13 t0 (adv s 20))
 (Bnd (bn .eql 9 t0 (.str [97,115])) fun t14 =>
 IfP t14
 (f24j2 Q t14 t0 (adv s 22))
 (Bnd (bn .eql 9 t0 (.str [100,105,118])) fun t15 =>
 IfP t15
 (f24j2 Q t15 t0 (adv s 24))
 (Bnd (bn .eql 9 t0 (.str [109,111,100])) fun t16 =>
 IfP t16
 (f24j2 Q t16 t0 (adv s 26))
 (Bnd (bn .eql 9 t0 (.str [97,98,115])) fun t17 =>
 f24j2 Q t17 t0 (adv s 28)))))))))))))
theorem f24_run (t0:AV) (s:St) {Q:AV→St→Prop} (h:f24 Q t0 s):∃ r s',WideC Tryz.env 24 [t0] s r s'∧Q r s' :=
 wide_ofA (h:=24) (fn:=Tryz.f24) (c:=sub f24B []) (show f24C (sub f24B []) (f24R Q) (fun _ _ _=>False) (f24R Q) = _ from (seq_eq (by kernel_rfl:(sub f24B []) = .seq (sub f24B [N]) (sub f24B [Y])) (seq_eq (by kernel_rfl:(sub f24B [Y]) = .seq (sub f24B [Y,N]) (sub f24B [Y,Y])) (f24j1_eq Q) (seq_eq (by kernel_rfl:(sub f24B [Y,N]) = .seq (sub f24B [Y,N,N]) (sub f24B [Y,N,Y])) (block_eq (by kernel_rfl:(sub f24B [Y,N,Y]) = .block 0 (sub f24B [Y,N,Y,N])) (seq_eq (by kernel_rfl:(sub f24B [Y,N,Y,N]) = .seq (sub f24B [Y,N,Y,N,N]) (sub f24B [Y,N,Y,N,Y])) (f24j2_eq Q) rfl)) rfl)) rfl)) h
def f28j1 (Q:AV→St→Prop) (t0:AV) (s:St):Prop :=
 Bnd (bt .len #[9] [t0] (s.nx + 1) (adv s 9)) fun r21 =>
 Bnd (bn .geq 3 r21.1 (.int .i64 4)) fun t22 =>
 Gd (wantV t22 true) r21.2 (fun k=>k t0 r21.2) fun t24 s1 =>
 Gd (wantV t22 true) s1 (fun k=>Bnd (slc 9 t24 none (some (.int .i64 4)) none s1) fun v=>k v s1) fun t25 s2 =>
 Gd (wantV t22 true) s2 (fun k=>Bnd (bn .eql 9 t25 (.str [115,116,114,46])) fun v=>k v s2) fun t26 s3 =>
 Bnd (pickV t22 t26 (.bool false)) fun t27 =>
 Bnd (bt .len #[9] [t0] (s3.nx + 1) (adv s3 9)) fun r29 =>
 Bnd (bn .geq 3 r29.1 (.int .i64 3)) fun t30 =>
 Gd (wantV t30 true) r29.2 (fun k=>k t0 r29.2) fun t32 s4 =>
 Gd (wantV t30 true) s4 (fun k=>Bnd (slc 9 t32 none (some (.int .i64 3)) none s4) fun v=>k v s4) fun t33 s5 =>
 Gd (wantV t30 true) s5 (fun k=>Bnd (bn .eql 9 t33 (.str [114,101,46])) fun v=>k v s5) fun t34 s6 =>
 Bnd (pickV t30 t34 (.bool false)) fun t35 =>
 Gd (wantV t27 false) (adv s6 10) (fun k=>k t35 (adv s6 10)) fun t38 s7 =>
 Bnd (pickV t27 (.bool true) t38) fun t39 =>
 Gd (wantV t39 false) s7 (fun k=>k t0 s7) fun t41 s8 =>
 Gd (wantV t39 false) s8 (fun k=>CallPu Tryz.env 23 [t41,(.int .i64 2)] s8 k) fun t42 s9 =>
 Gd (wantV t39 false) s9 (fun k=>Bnd (bn .neq 3 t42 (.int .i64 0)) fun v=>k v s9) fun t43 s10 =>
 Bnd (pickV t39 (.bool true) t43) fun t44 =>
 Q t44 s10
def f28j2 (Q:AV→St→Prop) (ih1:AV→AV→AV→St→Prop) (t4 t0 t3:AV) (s:St):Prop :=
 Bnd (bn .add 3 t4 (.int .i64 1)) fun t13 =>
 ih1 t0 t3 t13 (adv s 3)
def f28l1s (Q:AV→St→Prop) (ih1:AV→AV→AV→St→Prop) (t0 t3 t4:AV) (s:St):Prop :=
 Bnd (bt .len #[52] [t3] (s.nx + 2) (adv s 4)) fun r10 =>
 Bnd (bn .lss 3 t4 r10.1) fun t11 =>
 IfP t11
 (Bnd (ixS 1 t3 t4) fun t16 =>
 Bnd (ld 1 false t16 (adv r10.2 6)) fun t17 =>
 Bnd (bn .eql 9 t17 t0) fun t19 =>
 IfP t19
 (Q (.bool true) (adv r10.2 7))
 (f28j2 Q ih1 t4 t0 t3 (adv r10.2 6)))
 (f28j1 Q t0 r10.2)
def f28l1 (Q:AV→St→Prop) (n:Nat):AV→AV→AV→St→Prop:=Nat.rec (motive:=fun _=>AV→AV→AV→St→Prop) (fun _ _ _ _=>False) (fun _ ih=>f28l1s Q ih) n
def f28 (Q:AV→St→Prop) (t0:AV) (s:St):Prop :=
 Bnd (bsl 52 13 [(0,(.str [116,114,117,101])),(1,(.str [102,97,108,115,101])),(2,(.str [108,101,116])),(3,(.str [102,111,114,97,108,108])),(4,(.str [101,120,105,115,116,115])),(5,(.str [109,97,116,99,104])),(6,(.str [112,97,114])),(7,(.str [33])),(8,(.str [95])),(9,(.str [97,115])),(10,(.str [100,105,118])),(11,(.str [109,111,100])),(12,(.str [97,98,115]))]) fun t7 =>
 ∃ n,f28l1 Q n t0 t7 (.int .i64 0) (adv s 4)
abbrev f71B:Code:=bodyOf Tryz.f71
abbrev f71R:=rK Tryz.f71
abbrev f71C:=codeP Tryz.env 71 (Tryz.env.kp 71)
def f71j1 (Q:AV→St→Prop) (t0:AV) (s:St):Prop :=
 CallPu Tryz.env 122 [t0] (adv s 3) fun t39 s1 =>
 Q t39 s1
theorem f71j1_eq (Q:AV→St→Prop):f71C (sub f71B [Y,Y]) (f71R Q) (fun _ _ _=>False) (f71R Q) = (fun g s=>f71j1 Q (g 0) s) :=
 Eq.trans rfl (by kernel_rfl)
def f71 (Q:AV→St→Prop) (t0 t1:AV) (s:St):Prop :=
 Bnd (bn .eql 9 t0 (.str [110,111,116])) fun t7 =>
 IfP t7
 (Q (.int .i64 6) (adv s 5))
 (Bnd (bn .eql 9 t0 (.str [97,110,100])) fun t9 =>
 IfP t9
 (Q (.int .i64 7) (adv s 7))
 (Bnd (bn .eql 9 t0 (.str [111,114])) fun t11 =>
 IfP t11
 (Q (.int .i64 8) (adv s 9))
 (Bnd (bn .eql 9 t0 (.str [61,62])) fun t13 =>
 IfP t13
 (Q (.int .i64 9) (adv s 11))
 (Bnd (bn .eql 9 t0 (.str [120,111,114])) fun t15 =>
 IfP t15
 (Q (.int .i64 10) (adv s 13))
 (Bnd (bn .eql 9 t0 (.str [61])) fun t17 =>
 IfP t17
 (Q (.int .i64 11) (adv s 15))
 (Bnd (bn .eql 9 t0 (.str [100,105,115,116,105,110,99,116])) fun t19 =>
 IfP t19
 (Q (.int .i64 12) (adv s 17))
 (Bnd (bn .eql 9 t0 (.str [105,116,101])) fun t21 =>
 IfP t21
 (Q (.int .i64 13) (adv s 19))
 (Bnd (bn .eql 9 t0 (.str [43])) fun t23 =>
 IfP t23
 (Q (.int .i64 15) (adv s 21))
 (Bnd (bn .eql 9 t0 (.str [45])) fun t25 =>
 IfP t25
 (Bnd (bn .eql 3 t1 (.int .i64 1)) fun t27 =>
 IfP t27
 (Q (.int .i64 14) (adv s 25))
 (Q (.int .i64 16) (adv s 25)))
 (Bnd (bn .eql 9 t0 (.str [42])) fun t29 =>
 IfP t29
 (Q (.int .i64 17) (adv s 25))
 (Bnd (bn .eql 9 t0 (.str [60,61])) fun t31 =>
 IfP t31
 (Q (.int .i64 18) (adv s 27))
 (Bnd (bn .eql 9 t0 (.str [60])) fun t33 =>
 IfP t33
 (Q (.int .i64 19) (adv s 29))
 (Bnd (bn .eql 9 t0 (.str [62,61])) fun t35 =>
 IfP t35
 (Q (.int .i64 20) (adv s 31))
 (Bnd (bn .eql 9 t0 (.str [62])) fun t37 =>
 IfP t37
 (Q (.int .i64 21) (adv s 33))
 (f71j1 Q t0 (adv s 32))))))))))))))))
theorem f71_run (t0 t1:AV) (s:St) {Q:AV→St→Prop} (h:f71 Q t0 t1 s):∃ r s',WideC Tryz.env 71 [t0,t1] s r s'∧Q r s' :=
 wide_ofA (h:=71) (fn:=Tryz.f71) (c:=sub f71B []) (show f71C (sub f71B []) (f71R Q) (fun _ _ _=>False) (f71R Q) = _ from (seq_eq (by kernel_rfl:(sub f71B []) = .seq (sub f71B [N]) (sub f71B [Y])) (seq_eq (by kernel_rfl:(sub f71B [Y]) = .seq (sub f71B [Y,N]) (sub f71B [Y,Y])) (f71j1_eq Q) (seq_eq (by kernel_rfl:(sub f71B [Y,N]) = .seq (sub f71B [Y,N,N]) (sub f71B [Y,N,Y])) (block_eq (by kernel_rfl:(sub f71B [Y,N,Y]) = .block 0 (sub f71B [Y,N,Y,N])) rfl) rfl)) rfl)) h
abbrev f122B:Code:=bodyOf Tryz.f122
abbrev f122R:=rK Tryz.f122
abbrev f122C:=codeP Tryz.env 122 (Tryz.env.kp 122)
def f122j1 (Q:AV→St→Prop) (s:St):Prop :=
 Q (.int .i64 0) (adv s 1)
theorem f122j1_eq (Q:AV→St→Prop):f122C (sub f122B [Y,Y]) (f122R Q) (fun _ _ _=>False) (f122R Q) = (fun g s=>f122j1 Q s) :=
 Eq.trans rfl (by kernel_rfl)
def f122 (Q:AV→St→Prop) (t0:AV) (s:St):Prop :=
 Bnd (bn .eql 9 t0 (.str [115,116,114,46,43,43])) fun t5 =>
 IfP t5
 (Q (.int .i64 22) (adv s 5))
 (Bnd (bn .eql 9 t0 (.str [115,116,114,46,108,101,110])) fun t7 =>
 IfP t7
 (Q (.int .i64 23) (adv s 7))
 (Bnd (bn .eql 9 t0 (.str [115,116,114,46,97,116])) fun t9 =>
 IfP t9
 (Q (.int .i64 24) (adv s 9))
 (Bnd (bn .eql 9 t0 (.str [115,116,114,46,115,117,98,115,116,114])) fun t11 =>
 IfP t11
 (Q (.int .i64 25) (adv s 11))
 (Bnd (bn .eql 9 t0 (.str [115,116,114,46,112,114,101,102,105,120,111,102])) fun t13 =>
 IfP t13
 (Q (.int .i64 26) (adv s 13))
 (Bnd (bn .eql 9 t0 (.str [115,116,114,46,115,117,102,102,105,120,111,102])) fun t15 =>
 IfP t15
 (Q (.int .i64 27) (adv s 15))
 (Bnd (bn .eql 9 t0 (.str [115,116,114,46,99,111,110,116,97,105,110,115])) fun t17 =>
 IfP t17
 (Q (.int .i64 28) (adv s 17))
 (Bnd (bn .eql 9 t0 (.str [115,116,114,46,105,110,100,101,120,111,102])) fun t19 =>
 IfP t19
 (Q (.int .i64 29) (adv s 19))
 (Bnd (bn .eql 9 t0 (.str [115,116,114,46,114,101,112,108,97,99,101])) fun t21 =>
 IfP t21
 (Q (.int .i64 30) (adv s 21))
 (f122j1 Q (adv s 20))))))))))
theorem f122_run (t0:AV) (s:St) {Q:AV→St→Prop} (h:f122 Q t0 s):∃ r s',WideC Tryz.env 122 [t0] s r s'∧Q r s' :=
 wide_ofA (h:=122) (fn:=Tryz.f122) (c:=sub f122B []) (show f122C (sub f122B []) (f122R Q) (fun _ _ _=>False) (f122R Q) = _ from (seq_eq (by kernel_rfl:(sub f122B []) = .seq (sub f122B [N]) (sub f122B [Y])) (seq_eq (by kernel_rfl:(sub f122B [Y]) = .seq (sub f122B [Y,N]) (sub f122B [Y,Y])) (f122j1_eq Q) (seq_eq (by kernel_rfl:(sub f122B [Y,N]) = .seq (sub f122B [Y,N,N]) (sub f122B [Y,N,Y])) (block_eq (by kernel_rfl:(sub f122B [Y,N,Y]) = .block 0 (sub f122B [Y,N,Y,N])) rfl) rfl)) rfl)) h
abbrev f72B:Code:=bodyOf Tryz.f72
abbrev f72R:=rK Tryz.f72
abbrev f72C:=codeP Tryz.env 72 (Tryz.env.kp 72)
def f72 (Q:AV→St→Prop) (t0 t1:AV) (s:St):Prop :=
 CallPu Tryz.env 123 [t0,t1] (adv s 5) fun t7 s1 =>
 Q t7 s1
theorem f72_run (t0 t1:AV) (s:St) {Q:AV→St→Prop} (h:f72 Q t0 t1 s):∃ r s',WideC Tryz.env 72 [t0,t1] s r s'∧Q r s' :=
 wide_ofA (h:=72) (fn:=Tryz.f72) (c:=sub f72B []) (show f72C (sub f72B []) (f72R Q) (fun _ _ _=>False) (f72R Q) = _ from rfl) h
abbrev f123B:Code:=bodyOf Tryz.f123
abbrev f123R:=rK Tryz.f123
abbrev f123C:=codeP Tryz.env 123 (Tryz.env.kp 123)
def f123 (Q:AV→St→Prop) (t0 t1:AV) (s:St):Prop :=
 Bnd (bt .len #[9] [t0] (s.nx + 2) (adv s 15)) fun r6 =>
 Bnd (bt .len #[9] [t1] (s.nx + 4) r6.2) fun r8 =>
 Bnd (bn .geq 3 r6.1 r8.1) fun t9 =>
 Gd (wantV t9 true) r8.2 (fun k=>k t0 r8.2) fun t11 s1 =>
 Gd (wantV t9 true) s1 (fun k=>k t1 s1) fun t12 s2 =>
 Gd (wantV t9 true) s2 (fun k=>Bnd (bt .len #[9] [t12] (s.nx + 9) s2) fun r=>k r.1 r.2) fun t13 s3 =>
 Gd (wantV t9 true) s3 (fun k=>Bnd (slc 9 t11 none (some t13) none s3) fun v=>k v s3) fun t14 s4 =>
 Gd (wantV t9 true) s4 (fun k=>k t1 s4) fun t15 s5 =>
 Gd (wantV t9 true) s5 (fun k=>Bnd (bn .eql 9 t14 t15) fun v=>k v s5) fun t16 s6 =>
 Bnd (pickV t9 t16 (.bool false)) fun t17 =>
 Q t17 s6
theorem f123_run (t0 t1:AV) (s:St) {Q:AV→St→Prop} (h:f123 Q t0 t1 s):∃ r s',WideC Tryz.env 123 [t0,t1] s r s'∧Q r s' :=
 wide_ofA (h:=123) (fn:=Tryz.f123) (c:=sub f123B []) (show f123C (sub f123B []) (f123R Q) (fun _ _ _=>False) (f123R Q) = _ from rfl) h
def f23j1 (Q:AV→St→Prop) (s:St):Prop :=
 Q (.int .i64 0) (adv s 1)
def f23j2 (Q:AV→St→Prop) (ih1:AV→AV→AV→St→Prop) (t6 t0 t5:AV) (s:St):Prop :=
 Bnd (bn .add 3 t6 (.int .i64 1)) fun t19 =>
 ih1 t0 t5 t19 (adv s 3)
def f23l1s (Q:AV→St→Prop) (ih1:AV→AV→AV→St→Prop) (t0 t5 t6:AV) (s:St):Prop :=
 Bnd (bt .len #[52] [t5] (s.nx + 2) (adv s 4)) fun r16 =>
 Bnd (bn .lss 3 t6 r16.1) fun t17 =>
 IfP t17
 (Bnd (ixS 1 t5 t6) fun t22 =>
 Bnd (ld 1 false t22 (adv r16.2 10)) fun t23 =>
 Bnd (bn .eql 9 t23 t0) fun t25 =>
 Gd (wantV t25 true) (adv r16.2 10) (fun k=>k t0 (adv r16.2 10)) fun t27 s1 =>
 Gd (wantV t25 true) s1 (fun k=>Bnd (bn .neq 9 t27 (.str [])) fun v=>k v s1) fun t28 s2 =>
 Bnd (pickV t25 t28 (.bool false)) fun t29 =>
 IfP t29
 (Bnd (bn .add 3 (.int .i64 6) t6) fun t31 =>
 Q t31 (adv s2 3))
 (f23j2 Q ih1 t6 t0 t5 s2))
 (f23j1 Q r16.2)
def f23l1 (Q:AV→St→Prop) (n:Nat):AV→AV→AV→St→Prop:=Nat.rec (motive:=fun _=>AV→AV→AV→St→Prop) (fun _ _ _ _=>False) (fun _ ih=>f23l1s Q ih) n
def f23 (Q:AV→St→Prop) (t0 t1:AV) (s:St):Prop :=
 Bnd (bn .eql 9 t0 (.str [45])) fun t8 =>
 Gd (wantV t8 true) (adv s 7) (fun k=>k t1 (adv s 7)) fun t10 s1 =>
 Gd (wantV t8 true) s1 (fun k=>Bnd (bn .eql 3 t10 (.int .i64 1)) fun v=>k v s1) fun t11 s2 =>
 Bnd (pickV t8 t11 (.bool false)) fun t12 =>
 IfP t12
 (Q (.int .i64 14) (adv s2 1))
 (Bnd (bsl 52 25 [(0,(.str [110,111,116])),(1,(.str [97,110,100])),(2,(.str [111,114])),(3,(.str [61,62])),(4,(.str [120,111,114])),(5,(.str [61])),(6,(.str [100,105,115,116,105,110,99,116])),(7,(.str [105,116,101])),(8,(.str [])),(9,(.str [43])),(10,(.str [45])),(11,(.str [42])),(12,(.str [60,61])),(13,(.str [60])),(14,(.str [62,61])),(15,(.str [62])),(16,(.str [115,116,114,46,43,43])),(17,(.str [115,116,114,46,108,101,110])),(18,(.str [115,116,114,46,97,116])),(19,(.str [115,116,114,46,115,117,98,115,116,114])),(20,(.str [115,116,114,46,112,114,101,102,105,120,111,102])),(21,(.str [115,116,114,46,115,117,102,102,105,120,111,102])),(22,(.str [115,116,114,46,99,111,110,116,97,105,110,115])),(23,(.str [115,116,114,46,105,110,100,101,120,111,102])),(24,(.str [115,116,114,46,114,101,112,108,97,99,101]))]) fun t13 =>
 ∃ n,f23l1 Q n t0 t13 (.int .i64 0) (adv s2 3))
end
noncomputable section
theorem pure_run {n:Nat} {f:FuncId} {args:List AV} {v:AV} (hv:v.closed = true) (h:((callF Tryz.env n f args St.empty).map Prod.fst) = some v):PureC Tryz.env f args v:=by
 cases hc:callF Tryz.env n f args St.empty with
 | none=>rw [hc] at h; cases h
 | some r =>
  rw [hc] at h
  simp only [Option.map_some,Option.some.injEq] at h
  obtain ⟨r,s'⟩:=r
  simp only at h; subst h
  refine ⟨n,r,s',[],callF_leads _ _ _ _ _ _ hc,?_⟩
  unfold pur
  rw [if_pos hv]
noncomputable def pureF (f:FuncId) (args:List AV):Option AV:=(callF Tryz.env 1000 f args St.empty).bind fun r=>(pur Tryz.env.P r.2 12 r.1).map Prod.fst
theorem pure_f {f:FuncId} {args:List AV} {v:AV} (h:pureF f args = some v):PureC Tryz.env f args v:=by
 unfold pureF at h
 cases hc:callF Tryz.env 1000 f args St.empty with
 | none=>rw [hc] at h; cases h
 | some r =>
  rw [hc] at h
  obtain ⟨r,s'⟩:=r
  simp only [Option.bind_some,Option.map_eq_some_iff] at h
  obtain ⟨⟨w,ids⟩,h1,rfl⟩:=h
  exact ⟨1000,r,s',ids,callF_leads _ _ _ _ _ _ hc,h1⟩
theorem pure_table {f:FuncId} {a:Nat→AV} {v:Nat→AV} {n:Nat} (h:(List.range n).map (fun c=>pureF f [a c]) = (List.range n).map fun c=>some (v c)) {c:Nat} (hc:c < n):PureC Tryz.env f [a c] (v c):=by
 refine pure_f ?_
 have h1:=congrArg (fun l=>l[c]?) h
 simpa [hc] using h1
end
noncomputable section
set_option maxRecDepth 100000
theorem len_str (x:List UInt8) (id:Nat) (s:St):bt .len #[9] [.str x] id s = some (.int .i64 x.length,s):=by kernel_rfl
theorem slc_str (x:List UInt8) (h:Int) (s:St):slc 9 (.str x) none (some (.int .i64 h)) none s = (bounds x.length x.length none (some (.int .i64 h)) none).map fun r=>.str ((x.drop r.1).take (r.2.1 - r.1)):=by kernel_rfl
theorem bounds_hi (n h:Nat):bounds n n none (some (.int .i64 (h:Int))) none = if h≤n then some (0,h,n) else none:=by
 simp [bounds,optI,asI]
def pre (p x:List UInt8):Bool:=decide (p.length≤x.length) && (x.take p.length == p)
theorem c123 (x p:List UInt8):PureC Tryz.env 123 [.str x,.str p] (.bool (pre p x)):=by
 refine pure_closed rfl (f123_run _ _ _ ?_)
 unfold f123
 simp only [len_str,Bnd_some,bin_geq,wantV_bool,Gd_some,pickV_bool]
 by_cases h:p.length≤x.length
 ·simp [h,Gd_some,slc_str,bounds_hi,Bnd_some,bin_seql,pre]
 ·have h':¬ ((p.length:Int)≤(x.length:Int)):=by omega
  simp [h,h',pre]
theorem c72 (x p:List UInt8):PureC Tryz.env 72 [.str x,.str p] (.bool (pre p x)):=by
 refine pure_closed rfl (f72_run _ _ _ ?_)
 exact callPu (c123 x p) (by simp [AV.closed]) rfl
def hit:List (List UInt8 × Int)→List UInt8→Option Int
 | [],_=>none
 | (p,v) :: l,x=>if (x == p) = true then some v else hit l x
def HitP:List (List UInt8 × Int)→List UInt8→(Int→Prop)→Prop→Prop
 | [],_,_,d=>d
 | (p,v) :: l,x,c,d=>if (x == p) = true then c v else HitP l x c d
theorem hitP {l:List (List UInt8 × Int)} {x:List UInt8} {c:Int→Prop} {d:Prop} (h1:∀ v,hit l x = some v→c v) (h2:hit l x = none→d):HitP l x c d:=by
 induction l with
 | nil=>exact h2 rfl
 | cons p l ih =>
  obtain ⟨p,v⟩:=p
  simp only [HitP]
  by_cases h:(x == p) = true
  ·rw [if_pos h]; exact h1 v (by simp only [hit,if_pos h])
  ·rw [if_neg h]; exact ih (fun v hv=>h1 v (by simp only [hit,if_neg h]; exact hv)) (fun hv=>h2 (by simp only [hit,if_neg h]; exact hv))
def txL:List (List UInt8 × Int):=[([115,116,114,46,43,43],22),([115,116,114,46,108,101,110],23),([115,116,114,46,97,116],24),([115,116,114,46,115,117,98,115,116,114],25),([115,116,114,46,112,114,101,102,105,120,111,102],26),([115,116,114,46,115,117,102,102,105,120,111,102],27),([115,116,114,46,99,111,110,116,97,105,110,115],28),([115,116,114,46,105,110,100,101,120,111,102],29),([115,116,114,46,114,101,112,108,97,99,101],30)]
def opL:List (List UInt8 × Int):=[([110,111,116],6),([97,110,100],7),([111,114],8),([61,62],9),([120,111,114],10),([61],11),([100,105,115,116,105,110,99,116],12),([105,116,101],13),([43],15),([45],16),([42],17),([60,61],18),([60],19),([62,61],20),([62],21)]
def resL:List (List UInt8):=[[116,114,117,101],[102,97,108,115,101],[108,101,116],[102,111,114,97,108,108],[101,120,105,115,116,115],[109,97,116,99,104],[112,97,114],[33],[95],[97,115],[100,105,118],[109,111,100],[97,98,115]]
theorem c122 (x:List UInt8):PureC Tryz.env 122 [.str x] (.int .i64 ((hit txL x).getD 0)):=by
 refine pure_closed rfl (f122_run _ _ ?_)
 unfold f122 f122j1
 simp only [Bnd_some,bin_seql,IfP_bool]
 exact hitP (l:=txL) (c:=fun v=>AV.int .i64 v = .int .i64 ((hit txL x).getD 0)) (fun v h=>by rw [h]; rfl) (fun h=>by rw [h]; rfl)
def opN (x:List UInt8):Int:=(hit opL x).getD ((hit txL x).getD 0)
theorem c71 (x:List UInt8):PureC Tryz.env 71 [.str x,.int .i64 2] (.int .i64 (opN x)):=by
 refine pure_closed rfl (f71_run _ _ _ ?_)
 unfold f71
 simp only [Bnd_some,bin_seql,bin_eql,IfP_bool]
 refine hitP (l:=opL) (c:=fun v=>AV.int .i64 v = .int .i64 (opN x)) (d:=f71j1 (fun r s'=>r = .int .i64 (opN x)) (.str x) _) (fun v h=>by simp only [opN,h]; rfl) (fun h=>?_)
 exact callPu (c122 x) (by simp [AV.closed]) (by simp only [opN,h]; rfl)
theorem dupIf {c a b d:Prop} [Decidable c]:(if c then (if c then a else b) else d) = (if c then a else d):=by by_cases h:c <;> simp [h]
def resN:List (List UInt8 × Int):=resL.map fun p=>(p,1)
theorem c24 (x:List UInt8):PureC Tryz.env 24 [.str x] (.bool ((hit resN x).isSome || (opN x != 0) || pre [115,116,114,46] x || pre [114,101,46] x)):=by
 refine pure_closed rfl (f24_run _ _ ?_)
 have key:∀ (s:St) (Q:AV→St→Prop),(∀ s',Q (.bool ((opN x != 0) || pre [115,116,114,46] x || pre [114,101,46] x)) s')→f24j1 Q (.str x) s:=by
  intro s Q hQ
  unfold f24j1
  refine callPu (c71 x) (by simp [AV.closed]) ?_
  simp only [Bnd_some,bin_neq,wantV_bool,Gd_some,pickV_bool]
  cases h1:(opN x != 0) with
  | true=>simp [Gd_some,Bnd_some,wantV_bool,pickV_bool,h1] at hQ ⊢; exact hQ _
  | false =>
   simp only [beq_self_eq_true,if_true]
   refine callPu (c72 x _) (by simp [AV.closed]) ?_
   cases h2:pre [115,116,114,46] x with
   | true=>simp [Gd_some,Bnd_some,pickV_bool,wantV_bool,h1,h2] at hQ ⊢; exact hQ _
   | false =>
    simp only [Bnd_some,pickV_bool,wantV_bool,Gd_some,cond_false,beq_self_eq_true,if_true]
    refine callPu (c72 x _) (by simp [AV.closed]) ?_
    simp [Bnd_some,pickV_bool,h1,h2] at hQ ⊢; exact hQ _
 unfold f24 f24j2
 simp only [Bnd_some,bin_seql,IfP_bool]
 simp only [dupIf]
 refine hitP (l:=resN) (c:=fun _=>AV.bool true = .bool ((hit resN x).isSome || (opN x != 0) || pre [115,116,114,46] x || pre [114,101,46] x)) (d:=f24j1 _ (.str x) _) (fun v h=>by simp [h]) (fun h=>?_)
 exact key _ _ fun s'=>by simp [h]
def place (x:List UInt8):List (List UInt8)→Nat→Option Nat
 | [],_=>none
 | p :: l,i=>if (p == x) = true then some i else place x l (i + 1)
end
noncomputable section
set_option maxRecDepth 1000000
def f157 (Q:AV→St→Prop) (t0 t1:AV) (s:St):Prop :=
 CallWi Tryz.env 202 [t0] (adv s 3) fun t6 s1 =>
 (nilOk t0 = true ∧
 Bnd (shiftP 1 t0) fun t10 =>
 Bnd (ld 1 false t10 (adv s1 11)) fun t11 =>
 Bnd (bsl 161 1 [(0,t1)]) fun t13 =>
 Bnd (bt .append #[161,161] [t11,t13] (s1.nx + 7) (adv s1 11)) fun r14 =>
 (nilOk t0 = true ∧
 Bnd (shiftP 1 t0) fun t16 =>
 Bnd (sto 1 t16 r14.1 r14.2) fun s2 =>
 Q .nili (adv s2 1)))
abbrev f156B:Code:=bodyOf Tryz.f156
abbrev f156R:=rK Tryz.f156
abbrev f156C:=codeP Tryz.env 156 (Tryz.env.kp 156)
def f156 (Q:AV→St→Prop) (t0 t1:AV) (s:St):Prop :=
 CallWi Tryz.env 202 [t0] (adv s 4) fun t7 s1 =>
 (nilOk t0 = true ∧
 Bnd (shiftP 1 t0) fun t11 =>
 Bnd (ld 1 false t11 (adv s1 10)) fun t12 =>
 Bnd (bt .append #[161,9] [t12,t1] (s1.nx + 6) (adv s1 10)) fun r14 =>
 (nilOk t0 = true ∧
 Bnd (shiftP 1 t0) fun t16 =>
 Bnd (sto 1 t16 r14.1 r14.2) fun s2 =>
 Bnd (bt .len #[9] [t1] (s2.nx + 1) (adv s2 4)) fun r18 =>
 Q (.tup [r18.1,.nili]) r18.2))
theorem f156_run (t0 t1:AV) (s:St) {Q:AV→St→Prop} (h:f156 Q t0 t1 s):∃ r s',WideC Tryz.env 156 [t0,t1] s r s'∧Q r s' :=
 wide_ofA (h:=156) (fn:=Tryz.f156) (c:=sub f156B []) (show f156C (sub f156B []) (f156R Q) (fun _ _ _=>False) (f156R Q) = _ from rfl) h
abbrev f108B:Code:=bodyOf Tryz.f108
abbrev f108R:=rK Tryz.f108
abbrev f108C:=codeP Tryz.env 108 (Tryz.env.kp 108)
def f108 (Q:AV→St→Prop) (t0:AV) (s:St):Prop :=
 (nilOk t0 = true ∧
 Bnd (shiftP 1 t0) fun t5 =>
 Bnd (ld 1 false t5 (adv s 13)) fun t6 =>
 Bnd (bt .unsafeSliceData #[161] [t6] (s.nx + 5) (adv s 13)) fun r7 =>
 (nilOk t0 = true ∧
 Bnd (shiftP 1 t0) fun t10 =>
 Bnd (ld 1 false t10 r7.2) fun t11 =>
 Bnd (bt .len #[161] [t11] (s.nx + 10) r7.2) fun r12 =>
 (r12.2.h (s.nx + 11) = none∧Bnd (bt .unsafeString #[220,3] [r7.1,r12.1] (s.nx + 11) r12.2) fun r13 =>
 Q r13.1 r13.2)))
theorem f108_run (t0:AV) (s:St) {Q:AV→St→Prop} (h:f108 Q t0 s):∃ r s',WideC Tryz.env 108 [t0] s r s'∧Q r s' :=
 wide_ofA (h:=108) (fn:=Tryz.f108) (c:=sub f108B []) (show f108C (sub f108B []) (f108R Q) (fun _ _ _=>False) (f108R Q) = _ from rfl) h
abbrev f202B:Code:=bodyOf Tryz.f202
abbrev f202R:=rK Tryz.f202
abbrev f202C:=codeP Tryz.env 202 (Tryz.env.kp 202)
def f202 (Q:AV→St→Prop) (t0:AV) (s:St):Prop :=
 (nilOk t0 = true ∧
 Bnd (shiftP 0 t0) fun t4 =>
 Bnd (ld 1 false t4 (adv s 5)) fun t5 =>
 Bnd (bn .eql 160 t5 .nilp) fun t6 =>
 IfP t6
 (Bnd (cv 160 288 t0 (adv s 13)) fun t9 =>
 CallWi Tryz.env 232 [t9] (adv s 13) fun t10 s1 =>
 Bnd (cv 288 160 t10 s1) fun t11 =>
 (nilOk t0 = true ∧
 Bnd (shiftP 0 t0) fun t13 =>
 Bnd (sto 1 t13 t11 s1) fun s2 =>
 Q (.tup []) s2))
 ((nilOk t0 = true ∧
 Bnd (shiftP 0 t0) fun t16 =>
 Bnd (ld 1 false t16 (adv s 11)) fun t17 =>
 Bnd (bn .neq 160 t17 t0) fun t19 =>
 IfP t19
 (False)
 (Q (.tup []) (adv s 11)))))
theorem f202_run (t0:AV) (s:St) {Q:AV→St→Prop} (h:f202 Q t0 s):∃ r s',WideC Tryz.env 202 [t0] s r s'∧Q r s' :=
 wide_ofA (h:=202) (fn:=Tryz.f202) (c:=sub f202B []) (show f202C (sub f202B []) (f202R Q) (fun _ _ _=>False) (f202R Q) = _ from rfl) h
def f167j1 (Q:AV→St→Prop) (t4:AV) (s:St):Prop :=
 CallWi Tryz.env 108 [t4] (adv s 3) fun t37 s1 =>
 Q (.tup [t37,(.int .i64 0)]) s1
def f167j2 (Q:AV→St→Prop) (ih1:AV→AV→AV→AV→St→Prop) (t9 t4 t7 t8:AV) (s:St):Prop :=
 Bnd (bn .add 3 t9 (.int .i64 1)) fun t36 =>
 ih1 t4 t7 t8 t36 (adv s 2)
def f167l1s (Q:AV→St→Prop) (ih1:AV→AV→AV→AV→St→Prop) (t4 t7 t8 t9:AV) (s:St):Prop :=
 Bnd (bn .lss 3 t9 t8) fun t10 =>
 IfP t10
 (Bnd (ixS 1 t7 t9) fun t11 =>
 Bnd (ld 1 false t11 (adv s 4)) fun t12 =>
 CallPu Tryz.env 181 [t12] (adv s 8) fun t20 s1 =>
 Bnd (un .not t20) fun t21 =>
 IfP t21
 (Q (.tup [(.str []),(.int .i64 1)]) (adv s1 2))
 (Bnd (bn .geq 3 t12 (.int .i64 32)) fun t24 =>
 Gd (wantV t24 true) (adv s1 11) (fun k=>k t12 (adv s1 11)) fun t26 s2 =>
 Gd (wantV t24 true) s2 (fun k=>Bnd (bn .leq 3 t26 (.int .i64 126)) fun v=>k v s2) fun t27 s3 =>
 Bnd (pickV t24 t27 (.bool false)) fun t28 =>
 Gd (wantV t28 true) s3 (fun k=>k t12 s3) fun t30 s4 =>
 Gd (wantV t28 true) s4 (fun k=>Bnd (bn .neq 3 t30 (.int .i64 92)) fun v=>k v s4) fun t31 s5 =>
 Bnd (pickV t28 t31 (.bool false)) fun t32 =>
 IfP t32
 (Bnd (cv 3 5 t12 (adv s5 3)) fun t34 =>
 CallWi Tryz.env 157 [t4,t34] (adv s5 3) fun t35 s6 =>
 f167j2 Q ih1 t9 t4 t7 t8 s6)
 (CallPu Tryz.env 207 [t12,(.int .i64 16)] (adv s5 5) fun t14 s7 =>
 Bnd (bn .add 9 (.str [92,117,123]) t14) fun t15 =>
 Bnd (bn .add 9 t15 (.str [125])) fun t16 =>
 CallWi Tryz.env 156 [t4,t16] s7 fun t17 s8 =>
 f167j2 Q ih1 t9 t4 t7 t8 s8)))
 (f167j1 Q t4 (adv s 1))
def f167l1 (Q:AV→St→Prop) (n:Nat):AV→AV→AV→AV→St→Prop:=Nat.rec (motive:=fun _=>AV→AV→AV→AV→St→Prop) (fun _ _ _ _ _=>False) (fun _ ih=>f167l1s Q ih) n
def f167 (Q:AV→St→Prop) (t0:AV) (s:St):Prop :=
 Bnd (zr 163) fun z4 =>
 Bnd (bt .len #[72] [t0] (((adv s 3).set (s.nx + 2) (some (.cells z4.cells 163 true true))).nx + 1) (adv ((adv s 3).set (s.nx + 2) (some (.cells z4.cells 163 true true))) 3)) fun r8 =>
 ∃ n,f167l1 Q n (.ptr (s.nx + 2) 0) t0 r8.1 (.int .i64 0) r8.2
end
noncomputable section
set_option maxRecDepth 1000000
abbrev f104B:Code:=bodyOf Tryz.f104
abbrev f104R:=rK Tryz.f104
abbrev f104C:=codeP Tryz.env 104 (Tryz.env.kp 104)
def f104 (Q:AV→St→Prop) (t0:AV) (s:St):Prop :=
 (t0.cells.all AV.one = true ∧
 Bnd (zr 101) fun z2 =>
 Bnd (shiftP 2 (.ptr s.nx 0)) fun t3 =>
 Bnd (ld 1 false t3 (adv (((adv s 2).set s.nx (some (.cells t0.cells 101 true true))).set (s.nx + 1) (some (.cells z2.cells 101 true true))) 5)) fun t4 =>
 CallPu Tryz.env 152 [t4] (adv (((adv s 2).set s.nx (some (.cells t0.cells 101 true true))).set (s.nx + 1) (some (.cells z2.cells 101 true true))) 5) fun t5 s1 =>
 Bnd (shiftP 2 (.ptr s.nx 0)) fun t6 =>
 Bnd (sto 1 t6 t5 s1) fun s2 =>
 Bnd (shiftP 4 (.ptr s.nx 0)) fun t7 =>
 Bnd (shiftP 1 t7) fun t8 =>
 Bnd (ld 1 false t8 (adv s2 7)) fun t9 =>
 CallPu Tryz.env 153 [t9] (adv s2 7) fun t10 s3 =>
 Bnd (shiftP 4 (.ptr s.nx 0)) fun t11 =>
 Bnd (shiftP 1 t11) fun t12 =>
 Bnd (sto 1 t12 t10 s3) fun s4 =>
 Bnd (shiftP 6 (.ptr s.nx 0)) fun t13 =>
 Bnd (ld 1 false t13 (adv s4 5)) fun t14 =>
 CallPu Tryz.env 154 [t14] (adv s4 5) fun t15 s5 =>
 Bnd (shiftP 6 (.ptr s.nx 0)) fun t16 =>
 Bnd (sto 1 t16 t15 s5) fun s6 =>
 Bnd (ld 7 true (.ptr s.nx 0) (adv s6 2)) fun t17 =>
 Bnd (sto 7 (.ptr (s.nx + 1) 0) t17 (adv s6 2)) fun s7 =>
 RetP ((resC [ld 7 true (.ptr (s.nx + 1) 0) s7]).map tupV) fun v=>Q v s7)
theorem f104_run (t0:AV) (s:St) {Q:AV→St→Prop} (h:f104 Q t0 s):∃ r s',WideC Tryz.env 104 [t0] s r s'∧Q r s' :=
 wide_ofA (h:=104) (fn:=Tryz.f104) (c:=sub f104B []) (show f104C (sub f104B []) (f104R Q) (fun _ _ _=>False) (f104R Q) = _ from rfl) h
abbrev f133B:Code:=bodyOf Tryz.f133
abbrev f133R:=rK Tryz.f133
abbrev f133C:=codeP Tryz.env 133 (Tryz.env.kp 133)
def f133 (Q:AV→St→Prop) (t0 t1:AV) (s:St):Prop :=
 CallWi Tryz.env 186 [t0,t1] (adv s 6) fun t7 s1 =>
 Bnd (bn .geq 3 t7 (.int .i64 0)) fun t8 =>
 Q t8 s1
theorem f133_run (t0 t1:AV) (s:St) {Q:AV→St→Prop} (h:f133 Q t0 t1 s):∃ r s',WideC Tryz.env 133 [t0,t1] s r s'∧Q r s' :=
 wide_ofA (h:=133) (fn:=Tryz.f133) (c:=sub f133B []) (show f133C (sub f133B []) (f133R Q) (fun _ _ _=>False) (f133R Q) = _ from rfl) h
abbrev f186B:Code:=bodyOf Tryz.f186
abbrev f186R:=rK Tryz.f186
abbrev f186C:=codeP Tryz.env 186 (Tryz.env.kp 186)
def f186j1 (Q:AV→St→Prop) (s:St):Prop :=
 Q (.int .i64 (-1)) (adv s 1)
def f186j2 (Q:AV→St→Prop) (ih1:AV→AV→AV→AV→St→Prop) (t8 t0 t1 t7:AV) (s:St):Prop :=
 Bnd (bn .add 3 t8 (.int .i64 1)) fun t18 =>
 ih1 t0 t1 t7 t18 (adv s 2)
def f186l1s (Q:AV→St→Prop) (ih1:AV→AV→AV→AV→St→Prop) (t0 t1 t7 t8:AV) (s:St):Prop :=
 Bnd (bn .lss 3 t8 t7) fun t9 =>
 IfP t9
 (Bnd (ixS 1 t0 t8) fun t14 =>
 Bnd (ld 1 false t14 (adv s 9)) fun t15 =>
 CallV Tryz.env 186 t1 [t15] (adv s 9) fun t16 s1 =>
 IfP t16
 (Q t8 (adv s1 2))
 (f186j2 Q ih1 t8 t0 t1 t7 s1))
 (f186j1 Q (adv s 1))
def f186l1 (Q:AV→St→Prop) (n:Nat):AV→AV→AV→AV→St→Prop:=Nat.rec (motive:=fun _=>AV→AV→AV→AV→St→Prop) (fun _ _ _ _ _=>False) (fun _ ih=>f186l1s Q ih) n
theorem f186j1_eq (Q:AV→St→Prop):f186C (sub f186B [Y,Y]) (f186R Q) (fun _ _ _=>False) (f186R Q) = (fun g s=>f186j1 Q s) :=
 Eq.trans rfl (by kernel_rfl)
theorem f186j2_eq (Q:AV→St→Prop) (n1:Nat):f186C (sub f186B [Y,N,Y,N,N,Y,Y,Y]) (fun g s=>(fun (n:Nat) (g:Gf) (s:St)=>f186l1 Q n (g 0) (g 1) (g 7) (g 8) s) n1 (fun k=>cond (bitOf (Tryz.env.kp 186) k) (g k) .undef) s) (fun i=>cond (Nat.beq i 0) (fun g s=>f186j1 Q s) ((fun _ _ _=>False) i)) (f186R Q) = (fun g s=>f186j2 Q (f186l1 Q n1) (g 8) (g 0) (g 1) (g 7) s) :=
 Eq.trans rfl (by kernel_rfl)
theorem f186l1_eq (Q:AV→St→Prop) (kN:Kt):f186C (sub f186B [Y,N,Y,N]) kN (fun i=>cond (Nat.beq i 0) (fun g s=>f186j1 Q s) ((fun _ _ _=>False) i)) (f186R Q) = fun g s=>∃ n,(fun (n:Nat) (g:Gf) (s:St)=>f186l1 Q n (g 0) (g 1) (g 7) (g 8) s) n g s :=
 loop_eq (L:=fun (n:Nat) (g:Gf) (s:St)=>f186l1 Q n (g 0) (g 1) (g 7) (g 8) s) (by kernel_rfl:(sub f186B [Y,N,Y,N]) = .loop (sub f186B [Y,N,Y,N,N])) (by kernel_rfl) (fun n1=>Eq.trans (seq_eq (by kernel_rfl:(sub f186B [Y,N,Y,N,N]) = .seq (sub f186B [Y,N,Y,N,N,N]) (sub f186B [Y,N,Y,N,N,Y])) (seq_eq (by kernel_rfl:(sub f186B [Y,N,Y,N,N,Y]) = .seq (sub f186B [Y,N,Y,N,N,Y,N]) (sub f186B [Y,N,Y,N,N,Y,Y])) (seq_eq (by kernel_rfl:(sub f186B [Y,N,Y,N,N,Y,Y]) = .seq (sub f186B [Y,N,Y,N,N,Y,Y,N]) (sub f186B [Y,N,Y,N,N,Y,Y,Y])) (f186j2_eq Q n1) (block_eq (by kernel_rfl:(sub f186B [Y,N,Y,N,N,Y,Y,N]) = .block 1 (sub f186B [Y,N,Y,N,N,Y,Y,N,N])) rfl)) rfl) rfl) (by kernel_rfl))
def f186 (Q:AV→St→Prop) (t0 t1:AV) (s:St):Prop :=
 Bnd (bt .len #[72] [t0] (s.nx + 2) (adv s 4)) fun r7 =>
 ∃ n,f186l1 Q n t0 t1 r7.1 (.int .i64 0) r7.2
theorem f186_run (t0 t1:AV) (s:St) {Q:AV→St→Prop} (h:f186 Q t0 t1 s):∃ r s',WideC Tryz.env 186 [t0,t1] s r s'∧Q r s' :=
 wide_ofA (h:=186) (fn:=Tryz.f186) (c:=sub f186B []) (show f186C (sub f186B []) (f186R Q) (fun _ _ _=>False) (f186R Q) = _ from (seq_eq (by kernel_rfl:(sub f186B []) = .seq (sub f186B [N]) (sub f186B [Y])) (seq_eq (by kernel_rfl:(sub f186B [Y]) = .seq (sub f186B [Y,N]) (sub f186B [Y,Y])) (f186j1_eq Q) (seq_eq (by kernel_rfl:(sub f186B [Y,N]) = .seq (sub f186B [Y,N,N]) (sub f186B [Y,N,Y])) (block_eq (by kernel_rfl:(sub f186B [Y,N,Y]) = .block 0 (sub f186B [Y,N,Y,N])) (f186l1_eq Q _)) rfl)) rfl)) h
abbrev f222B:Code:=bodyOf Tryz.f222
abbrev f222R:=rK Tryz.f222
abbrev f222C:=codeP Tryz.env 222 (Tryz.env.kp 222)
def f222j1 (Q:AV→St→Prop) (s:St):Prop :=
 Q (.int .i64 (-1)) (adv s 1)
def f222j2 (Q:AV→St→Prop) (ih1:AV→AV→AV→AV→St→Prop) (t8 t0 t1 t7:AV) (s:St):Prop :=
 Bnd (bn .add 3 t8 (.int .i64 1)) fun t18 =>
 ih1 t0 t1 t7 t18 (adv s 2)
def f222l1s (Q:AV→St→Prop) (ih1:AV→AV→AV→AV→St→Prop) (t0 t1 t7 t8:AV) (s:St):Prop :=
 Bnd (bn .lss 3 t8 t7) fun t9 =>
 IfP t9
 (Bnd (ixS 1 t0 t8) fun t14 =>
 Bnd (ld 1 false t14 (adv s 9)) fun t15 =>
 CallV Tryz.env 222 t1 [t15] (adv s 9) fun t16 s1 =>
 IfP t16
 (Q t8 (adv s1 2))
 (f222j2 Q ih1 t8 t0 t1 t7 s1))
 (f222j1 Q (adv s 1))
def f222l1 (Q:AV→St→Prop) (n:Nat):AV→AV→AV→AV→St→Prop:=Nat.rec (motive:=fun _=>AV→AV→AV→AV→St→Prop) (fun _ _ _ _ _=>False) (fun _ ih=>f222l1s Q ih) n
theorem f222j1_eq (Q:AV→St→Prop):f222C (sub f222B [Y,Y]) (f222R Q) (fun _ _ _=>False) (f222R Q) = (fun g s=>f222j1 Q s) :=
 Eq.trans rfl (by kernel_rfl)
theorem f222j2_eq (Q:AV→St→Prop) (n1:Nat):f222C (sub f222B [Y,N,Y,N,N,Y,Y,Y]) (fun g s=>(fun (n:Nat) (g:Gf) (s:St)=>f222l1 Q n (g 0) (g 1) (g 7) (g 8) s) n1 (fun k=>cond (bitOf (Tryz.env.kp 222) k) (g k) .undef) s) (fun i=>cond (Nat.beq i 0) (fun g s=>f222j1 Q s) ((fun _ _ _=>False) i)) (f222R Q) = (fun g s=>f222j2 Q (f222l1 Q n1) (g 8) (g 0) (g 1) (g 7) s) :=
 Eq.trans rfl (by kernel_rfl)
theorem f222l1_eq (Q:AV→St→Prop) (kN:Kt):f222C (sub f222B [Y,N,Y,N]) kN (fun i=>cond (Nat.beq i 0) (fun g s=>f222j1 Q s) ((fun _ _ _=>False) i)) (f222R Q) = fun g s=>∃ n,(fun (n:Nat) (g:Gf) (s:St)=>f222l1 Q n (g 0) (g 1) (g 7) (g 8) s) n g s :=
 loop_eq (L:=fun (n:Nat) (g:Gf) (s:St)=>f222l1 Q n (g 0) (g 1) (g 7) (g 8) s) (by kernel_rfl:(sub f222B [Y,N,Y,N]) = .loop (sub f222B [Y,N,Y,N,N])) (by kernel_rfl) (fun n1=>Eq.trans (seq_eq (by kernel_rfl:(sub f222B [Y,N,Y,N,N]) = .seq (sub f222B [Y,N,Y,N,N,N]) (sub f222B [Y,N,Y,N,N,Y])) (seq_eq (by kernel_rfl:(sub f222B [Y,N,Y,N,N,Y]) = .seq (sub f222B [Y,N,Y,N,N,Y,N]) (sub f222B [Y,N,Y,N,N,Y,Y])) (seq_eq (by kernel_rfl:(sub f222B [Y,N,Y,N,N,Y,Y]) = .seq (sub f222B [Y,N,Y,N,N,Y,Y,N]) (sub f222B [Y,N,Y,N,N,Y,Y,Y])) (f222j2_eq Q n1) (block_eq (by kernel_rfl:(sub f222B [Y,N,Y,N,N,Y,Y,N]) = .block 1 (sub f222B [Y,N,Y,N,N,Y,Y,N,N])) rfl)) rfl) rfl) (by kernel_rfl))
def f222 (Q:AV→St→Prop) (t0 t1:AV) (s:St):Prop :=
 Bnd (bt .len #[52] [t0] (s.nx + 2) (adv s 4)) fun r7 =>
 ∃ n,f222l1 Q n t0 t1 r7.1 (.int .i64 0) r7.2
theorem f222_run (t0 t1:AV) (s:St) {Q:AV→St→Prop} (h:f222 Q t0 t1 s):∃ r s',WideC Tryz.env 222 [t0,t1] s r s'∧Q r s' :=
 wide_ofA (h:=222) (fn:=Tryz.f222) (c:=sub f222B []) (show f222C (sub f222B []) (f222R Q) (fun _ _ _=>False) (f222R Q) = _ from (seq_eq (by kernel_rfl:(sub f222B []) = .seq (sub f222B [N]) (sub f222B [Y])) (seq_eq (by kernel_rfl:(sub f222B [Y]) = .seq (sub f222B [Y,N]) (sub f222B [Y,Y])) (f222j1_eq Q) (seq_eq (by kernel_rfl:(sub f222B [Y,N]) = .seq (sub f222B [Y,N,N]) (sub f222B [Y,N,Y])) (block_eq (by kernel_rfl:(sub f222B [Y,N,Y]) = .block 0 (sub f222B [Y,N,Y,N])) (f222l1_eq Q _)) rfl)) rfl)) h
abbrev f193B:Code:=bodyOf Tryz.f193
abbrev f193R:=rK Tryz.f193
abbrev f193C:=codeP Tryz.env 193 (Tryz.env.kp 193)
def f193 (Q:AV→St→Prop) (t0 t1:AV) (s:St):Prop :=
 CallWi Tryz.env 222 [t0,t1] (adv s 6) fun t7 s1 =>
 Bnd (bn .geq 3 t7 (.int .i64 0)) fun t8 =>
 Q t8 s1
theorem f193_run (t0 t1:AV) (s:St) {Q:AV→St→Prop} (h:f193 Q t0 t1 s):∃ r s',WideC Tryz.env 193 [t0,t1] s r s'∧Q r s' :=
 wide_ofA (h:=193) (fn:=Tryz.f193) (c:=sub f193B []) (show f193C (sub f193B []) (f193R Q) (fun _ _ _=>False) (f193R Q) = _ from rfl) h
abbrev f31B:Code:=bodyOf Tryz.f31
abbrev f31R:=rK Tryz.f31
abbrev f31C:=codeP Tryz.env 31 (Tryz.env.kp 31)
def f31 (Q:AV→St→Prop) (t0:AV) (s:St):Prop :=
 Bnd (bn .eql 51 t0 .nilp) fun t4 =>
 IfP t4
 (Q (.int .i64 0) (adv s 4))
 ((nilOk t0 = true ∧
 Bnd (shiftP 2 t0) fun t7 =>
 Bnd (ld 1 false t7 (adv s 9)) fun t8 =>
 Bnd (bt .len #[56] [t8] (s.nx + 7) (adv s 9)) fun r9 =>
 Q r9.1 r9.2))
theorem f31_run (t0:AV) (s:St) {Q:AV→St→Prop} (h:f31 Q t0 s):∃ r s',WideC Tryz.env 31 [t0] s r s'∧Q r s' :=
 wide_ofA (h:=31) (fn:=Tryz.f31) (c:=sub f31B []) (show f31C (sub f31B []) (f31R Q) (fun _ _ _=>False) (f31R Q) = _ from rfl) h
abbrev f53B:Code:=bodyOf Tryz.f53
abbrev f53R:=rK Tryz.f53
abbrev f53C:=codeP Tryz.env 53 (Tryz.env.kp 53)
def f53 (Q:AV→St→Prop) (t0 t1:AV) (s:St):Prop :=
 Bnd (zr 101) fun z4 =>
 Bnd (bn .lss 3 t1 (.int .i64 0)) fun t7 =>
 Gd (wantV t7 false) (adv ((adv s 2).set s.nx (some (.cells z4.cells 101 true true))) 8) (fun k=>k t1 (adv ((adv s 2).set s.nx (some (.cells z4.cells 101 true true))) 8)) fun t9 s1 =>
 Gd (wantV t7 false) s1 (fun k=>k t0 s1) fun t10 s2 =>
 Gd (wantV t7 false) s2 (fun k=>CallWi Tryz.env 31 [t10] s2 k) fun t11 s3 =>
 Gd (wantV t7 false) s3 (fun k=>Bnd (bn .geq 3 t9 t11) fun v=>k v s3) fun t12 s4 =>
 Bnd (pickV t7 (.bool true) t12) fun t13 =>
 IfP t13
 (Bnd (bld 101 []) fun t14 =>
 Bnd (sto 7 (.ptr s.nx 0) t14 (adv s4 3)) fun s5 =>
 RetP ((resC [ld 7 true (.ptr s.nx 0) s5,some (.bool false)]).map tupV) fun v=>Q v s5)
 ((nilOk t0 = true ∧
 Bnd (shiftP 2 t0) fun t17 =>
 Bnd (ld 1 false t17 (adv s4 10)) fun t18 =>
 Bnd (ixS 7 t18 t1) fun t20 =>
 Bnd (ld 7 true t20 (adv s4 10)) fun t21 =>
 CallPu Tryz.env 104 [t21] (adv s4 10) fun t22 s6 =>
 Bnd (sto 7 (.ptr s.nx 0) t22 s6) fun s7 =>
 RetP ((resC [ld 7 true (.ptr s.nx 0) s7,some (.bool true)]).map tupV) fun v=>Q v s7))
theorem f53_run (t0 t1:AV) (s:St) {Q:AV→St→Prop} (h:f53 Q t0 t1 s):∃ r s',WideC Tryz.env 53 [t0,t1] s r s'∧Q r s' :=
 wide_ofA (h:=53) (fn:=Tryz.f53) (c:=sub f53B []) (show f53C (sub f53B []) (f53R Q) (fun _ _ _=>False) (f53R Q) = _ from rfl) h
abbrev f184B:Code:=bodyOf Tryz.f184
abbrev f184R:=rK Tryz.f184
abbrev f184C:=codeP Tryz.env 184 (Tryz.env.kp 184)
def f184 (Q:AV→St→Prop) (t0 t1:AV) (s:St):Prop :=
 Bnd (bn .eql 277 t0 .nilp) fun t9 =>
 IfP t9
 (Q (.tup [(.int .i64 0),(.bool false)]) (adv s 6))
 ((nilOk t0 = true ∧
 Bnd (shiftP 1 t0) fun t13 =>
 Bnd (ld 1 false t13 (adv s 15)) fun t14 =>
 Bnd (lookupA Tryz.ty 53 t14 t1 true (adv s 15)) fun t16 =>
 Bnd (extr t16 0) fun t17 =>
 Bnd (extr t16 1) fun t18 =>
 Q (.tup [t17,t18]) (adv s 19)))
theorem f184_run (t0 t1:AV) (s:St) {Q:AV→St→Prop} (h:f184 Q t0 t1 s):∃ r s',WideC Tryz.env 184 [t0,t1] s r s'∧Q r s' :=
 wide_ofA (h:=184) (fn:=Tryz.f184) (c:=sub f184B []) (show f184C (sub f184B []) (f184R Q) (fun _ _ _=>False) (f184R Q) = _ from rfl) h
abbrev f185B:Code:=bodyOf Tryz.f185
abbrev f185R:=rK Tryz.f185
abbrev f185C:=codeP Tryz.env 185 (Tryz.env.kp 185)
def f185j1 (Q:AV→St→Prop) (t0 t1:AV) (s:St):Prop :=
 (nilOk t0 = true ∧
 Bnd (shiftP 1 t0) fun t32 =>
 Bnd (ld 1 false t32 (adv s 11)) fun t33 =>
 (nilOk t0 = true ∧
 Bnd (shiftP 0 t0) fun t37 =>
 Bnd (ld 1 false t37 (adv s 11)) fun t38 =>
 Bnd (bt .len #[52] [t38] (s.nx + 9) (adv s 11)) fun r39 =>
 (r39.2.h (s.nx + 10) = none∧Bnd (mapUpd Tryz.ty 53 t33 t1 r39.1 r39.2) fun s1 =>
 (nilOk t0 = true ∧
 Bnd (shiftP 0 t0) fun t43 =>
 Bnd (ld 1 false t43 (adv s1 11)) fun t44 =>
 Bnd (bsl 52 1 [(0,t1)]) fun t46 =>
 Bnd (bt .append #[52,52] [t44,t46] (s1.nx + 7) (adv s1 11)) fun r47 =>
 (nilOk t0 = true ∧
 Bnd (shiftP 0 t0) fun t49 =>
 Bnd (sto 1 t49 r47.1 r47.2) fun s2 =>
 (nilOk t0 = true ∧
 Bnd (shiftP 0 t0) fun t52 =>
 Bnd (ld 1 false t52 (adv s2 8)) fun t53 =>
 Bnd (bt .len #[52] [t53] (s2.nx + 4) (adv s2 8)) fun r54 =>
 Bnd (bn .sub 3 r54.1 (.int .i64 1)) fun t55 =>
 Q (.tup [t55,(.bool true)]) r54.2))))))
theorem f185j1_eq (Q:AV→St→Prop):f185C (sub f185B [Y,Y,Y,Y]) (f185R Q) (fun _ _ _=>False) (f185R Q) = (fun g s=>f185j1 Q (g 0) (g 1) s) :=
 Eq.trans rfl (by kernel_rfl)
def f185 (Q:AV→St→Prop) (t0 t1:AV) (s:St):Prop :=
 Bnd (bn .eql 277 t0 .nilp) fun t9 =>
 IfP t9
 (Q (.tup [(.int .i64 (-1)),(.bool false)]) (adv s 6))
 ((nilOk t0 = true ∧
 Bnd (shiftP 1 t0) fun t13 =>
 Bnd (ld 1 false t13 (adv s 15)) fun t14 =>
 Bnd (lookupA Tryz.ty 53 t14 t1 true (adv s 15)) fun t16 =>
 Bnd (extr t16 0) fun t17 =>
 Bnd (extr t16 1) fun t18 =>
 IfP t18
 (Q (.tup [t17,(.bool false)]) (adv s 19))
 ((nilOk t0 = true ∧
 Bnd (shiftP 1 t0) fun t23 =>
 Bnd (ld 1 false t23 (adv s 21)) fun t24 =>
 Bnd (bn .eql 53 t24 .nilm) fun t25 =>
 IfP t25
 ((nilOk t0 = true ∧
 Bnd (shiftP 1 t0) fun t29 =>
 Bnd (sto 1 t29 (.map (s.nx + 22)) ((adv s 26).set (s.nx + 22) (some (.map [])))) fun s1 =>
 f185j1 Q t0 t1 s1))
 (f185j1 Q t0 t1 (adv s 21))))))
theorem f185_run (t0 t1:AV) (s:St) {Q:AV→St→Prop} (h:f185 Q t0 t1 s):∃ r s',WideC Tryz.env 185 [t0,t1] s r s'∧Q r s' :=
 wide_ofA (h:=185) (fn:=Tryz.f185) (c:=sub f185B []) (show f185C (sub f185B []) (f185R Q) (fun _ _ _=>False) (f185R Q) = _ from (seq_eq (by kernel_rfl:(sub f185B []) = .seq (sub f185B [N]) (sub f185B [Y])) (seq_eq (by kernel_rfl:(sub f185B [Y]) = .seq (sub f185B [Y,N]) (sub f185B [Y,Y])) (seq_eq (by kernel_rfl:(sub f185B [Y,Y]) = .seq (sub f185B [Y,Y,N]) (sub f185B [Y,Y,Y])) (seq_eq (by kernel_rfl:(sub f185B [Y,Y,Y]) = .seq (sub f185B [Y,Y,Y,N]) (sub f185B [Y,Y,Y,Y])) (f185j1_eq Q) rfl) rfl) rfl) rfl)) h
abbrev f183B:Code:=bodyOf Tryz.f183
abbrev f183R:=rK Tryz.f183
abbrev f183C:=codeP Tryz.env 183 (Tryz.env.kp 183)
def f183j2 (Q:AV→St→Prop) (t3 t1:AV) (s:St):Prop :=
 CallWiD Tryz.env 108 [t3] (rch (adv s 6) [(.fn 108 [] []),t3]) (adv s 6) fun t53 s1 =>
 Bnd (bn .add 9 t53 (.str [61])) fun t54 =>
 Bnd (shiftP 3 t1) fun t55 =>
 (clear 4 ⟨3,false,idOf t55,none⟩ [⟨2,false,[],none⟩,⟨1,false,[],none⟩,⟨0,true,rch (adv s 6) [(.fn 108 [] []),t3],some (adv s 6).nx⟩] = true∧Bnd (ld 1 false t55 s1) fun t56 =>
 Bnd (bn .add 9 t54 t56) fun t57 =>
 Q t57 s1)
def f183j3 (Q:AV→St→Prop) (ih1:AV→AV→AV→AV→AV→St→Prop) (t38 t1 t3 t36 t37:AV) (s:St):Prop :=
 Bnd (bn .add 3 t38 (.int .i64 1)) fun t52 =>
 ih1 t1 t3 t36 t37 t52 (adv s 2)
def f183l1s (Q:AV→St→Prop) (ih1:AV→AV→AV→AV→AV→St→Prop) (t1 t3 t36 t37 t38:AV) (s:St):Prop :=
 Bnd (bn .lss 3 t38 t37) fun t39 =>
 IfP t39
 (Bnd (ixS 2 t36 t38) fun t40 =>
 Bnd (ld 2 true t40 (adv s 5)) fun t41 =>
 Bnd (zr 109) fun z7 =>
 Bnd (sto 2 (.ptr (s.nx + 3) 0) t41 ((adv s 5).set (s.nx + 3) (some (.cells z7.cells 109 true true)))) fun s1 =>
 Bnd (shiftP 0 (.ptr (s.nx + 3) 0)) fun t42 =>
 Bnd (ld 1 false t42 (adv s1 10)) fun t43 =>
 CallPuD Tryz.env 206 [t43] (rch (adv s1 10) [(.fn 206 [] []),t43]) (adv s1 10) fun t44 s2 =>
 Bnd (bn .add 9 (.str [32]) t44) fun t45 =>
 Bnd (bn .add 9 t45 (.str [42])) fun t46 =>
 Bnd (shiftP 1 (.ptr (s.nx + 3) 0)) fun t47 =>
 Bnd (ld 1 false t47 s2) fun t48 =>
 CallPuD Tryz.env 206 [t48] (rch s2 [(.fn 206 [] []),t48]) s2 fun t49 s3 =>
 Bnd (bn .add 9 t46 t49) fun t50 =>
 CallWiD Tryz.env 156 [t3,t50] (rch s3 [(.fn 156 [] []),t3,t50]) s3 fun t51 s4 =>
 f183j3 Q ih1 t38 t1 t3 t36 t37 s4)
 (f183j2 Q t3 t1 (adv s 1))
def f183l1 (Q:AV→St→Prop) (n:Nat):AV→AV→AV→AV→AV→St→Prop:=Nat.rec (motive:=fun _=>AV→AV→AV→AV→AV→St→Prop) (fun _ _ _ _ _ _=>False) (fun _ ih=>f183l1s Q ih) n
def f183j1 (Q:AV→St→Prop) (t1 t3:AV) (s:St):Prop :=
 Bnd (shiftP 4 t1) fun t29 =>
 Bnd (shiftP 1 t29) fun t30 =>
 Bnd (ld 1 false t30 (adv s 6)) fun t31 =>
 CallPu Tryz.env 59 [t31] (adv s 6) fun t32 s1 =>
 Bnd (bn .add 9 (.str [35]) t32) fun t33 =>
 CallWi Tryz.env 156 [t3,t33] s1 fun t34 s2 =>
 Bnd (shiftP 6 t1) fun t35 =>
 Bnd (ld 1 false t35 (adv s2 4)) fun t36 =>
 Bnd (bt .len #[25] [t36] (s2.nx + 2) (adv s2 4)) fun r37 =>
 ∃ n,f183l1 Q n t1 t3 t36 r37.1 (.int .i64 0) r37.2
def f183j4 (Q:AV→St→Prop) (ih2:AV→AV→AV→AV→AV→St→Prop) (t20 t1 t3 t18 t19:AV) (s:St):Prop :=
 Bnd (bn .add 3 t20 (.int .i64 1)) fun t28 =>
 ih2 t1 t3 t18 t19 t28 (adv s 2)
def f183l2s (Q:AV→St→Prop) (ih2:AV→AV→AV→AV→AV→St→Prop) (t1 t3 t18 t19 t20:AV) (s:St):Prop :=
 Bnd (bn .lss 3 t20 t19) fun t21 =>
 IfP t21
 (Bnd (ixS 1 t18 t20) fun t22 =>
 Bnd (ld 1 false t22 (adv s 4)) fun t23 =>
 CallPu Tryz.env 206 [t23] (adv s 8) fun t25 s1 =>
 Bnd (bn .add 9 (.str [32]) t25) fun t26 =>
 CallWi Tryz.env 156 [t3,t26] s1 fun t27 s2 =>
 f183j4 Q ih2 t20 t1 t3 t18 t19 s2)
 (f183j1 Q t1 t3 (adv s 1))
def f183l2 (Q:AV→St→Prop) (n:Nat):AV→AV→AV→AV→AV→St→Prop:=Nat.rec (motive:=fun _=>AV→AV→AV→AV→AV→St→Prop) (fun _ _ _ _ _ _=>False) (fun _ ih=>f183l2s Q ih) n
theorem f183j2_eq (Q:AV→St→Prop):f183C (sub f183B [Y,Y,Y,Y,Y,Y]) (f183R Q) (fun _ _ _=>False) (f183R Q) = (fun g s=>f183j2 Q (g 3) (g 1) s) :=
 Eq.trans rfl (by kernel_rfl)
theorem f183j3_eq (Q:AV→St→Prop) (n1:Nat):f183C (sub f183B [Y,Y,Y,Y,Y,N,Y,N,N,Y,Y,Y]) (fun g s=>(fun (n:Nat) (g:Gf) (s:St)=>f183l1 Q n (g 1) (g 3) (g 36) (g 37) (g 38) s) n1 (fun k=>cond (bitOf (Tryz.env.kp 183) k) (g k) .undef) s) (fun i=>cond (Nat.beq i 2) (fun g s=>f183j2 Q (g 3) (g 1) s) ((fun _ _ _=>False) i)) (f183R Q) = (fun g s=>f183j3 Q (f183l1 Q n1) (g 38) (g 1) (g 3) (g 36) (g 37) s) :=
 Eq.trans rfl (by kernel_rfl)
theorem f183l1_eq (Q:AV→St→Prop) (kN:Kt):f183C (sub f183B [Y,Y,Y,Y,Y,N,Y,N]) kN (fun i=>cond (Nat.beq i 2) (fun g s=>f183j2 Q (g 3) (g 1) s) ((fun _ _ _=>False) i)) (f183R Q) = fun g s=>∃ n,(fun (n:Nat) (g:Gf) (s:St)=>f183l1 Q n (g 1) (g 3) (g 36) (g 37) (g 38) s) n g s :=
 loop_eq (L:=fun (n:Nat) (g:Gf) (s:St)=>f183l1 Q n (g 1) (g 3) (g 36) (g 37) (g 38) s) (by kernel_rfl:(sub f183B [Y,Y,Y,Y,Y,N,Y,N]) = .loop (sub f183B [Y,Y,Y,Y,Y,N,Y,N,N])) (by kernel_rfl) (fun n1=>Eq.trans (seq_eq (by kernel_rfl:(sub f183B [Y,Y,Y,Y,Y,N,Y,N,N]) = .seq (sub f183B [Y,Y,Y,Y,Y,N,Y,N,N,N]) (sub f183B [Y,Y,Y,Y,Y,N,Y,N,N,Y])) (seq_eq (by kernel_rfl:(sub f183B [Y,Y,Y,Y,Y,N,Y,N,N,Y]) = .seq (sub f183B [Y,Y,Y,Y,Y,N,Y,N,N,Y,N]) (sub f183B [Y,Y,Y,Y,Y,N,Y,N,N,Y,Y])) (seq_eq (by kernel_rfl:(sub f183B [Y,Y,Y,Y,Y,N,Y,N,N,Y,Y]) = .seq (sub f183B [Y,Y,Y,Y,Y,N,Y,N,N,Y,Y,N]) (sub f183B [Y,Y,Y,Y,Y,N,Y,N,N,Y,Y,Y])) (f183j3_eq Q n1) (block_eq (by kernel_rfl:(sub f183B [Y,Y,Y,Y,Y,N,Y,N,N,Y,Y,N]) = .block 3 (sub f183B [Y,Y,Y,Y,Y,N,Y,N,N,Y,Y,N,N])) rfl)) rfl) rfl) (by kernel_rfl))
theorem f183j1_eq (Q:AV→St→Prop):f183C (sub f183B [Y,Y,Y,Y]) (f183R Q) (fun _ _ _=>False) (f183R Q) = (fun g s=>f183j1 Q (g 1) (g 3) s) :=
 Eq.trans (seq_eq (by kernel_rfl:(sub f183B [Y,Y,Y,Y]) = .seq (sub f183B [Y,Y,Y,Y,N]) (sub f183B [Y,Y,Y,Y,Y])) (seq_eq (by kernel_rfl:(sub f183B [Y,Y,Y,Y,Y]) = .seq (sub f183B [Y,Y,Y,Y,Y,N]) (sub f183B [Y,Y,Y,Y,Y,Y])) (f183j2_eq Q) (seq_eq (by kernel_rfl:(sub f183B [Y,Y,Y,Y,Y,N]) = .seq (sub f183B [Y,Y,Y,Y,Y,N,N]) (sub f183B [Y,Y,Y,Y,Y,N,Y])) (block_eq (by kernel_rfl:(sub f183B [Y,Y,Y,Y,Y,N,Y]) = .block 2 (sub f183B [Y,Y,Y,Y,Y,N,Y,N])) (f183l1_eq Q _)) rfl)) rfl) (by kernel_rfl)
theorem f183j4_eq (Q:AV→St→Prop) (n2:Nat):f183C (sub f183B [Y,Y,Y,N,Y,N,N,Y,Y,Y]) (fun g s=>(fun (n:Nat) (g:Gf) (s:St)=>f183l2 Q n (g 1) (g 3) (g 18) (g 19) (g 20) s) n2 (fun k=>cond (bitOf (Tryz.env.kp 183) k) (g k) .undef) s) (fun i=>cond (Nat.beq i 0) (fun g s=>f183j1 Q (g 1) (g 3) s) ((fun _ _ _=>False) i)) (f183R Q) = (fun g s=>f183j4 Q (f183l2 Q n2) (g 20) (g 1) (g 3) (g 18) (g 19) s) :=
 Eq.trans rfl (by kernel_rfl)
theorem f183l2_eq (Q:AV→St→Prop) (kN:Kt):f183C (sub f183B [Y,Y,Y,N,Y,N]) kN (fun i=>cond (Nat.beq i 0) (fun g s=>f183j1 Q (g 1) (g 3) s) ((fun _ _ _=>False) i)) (f183R Q) = fun g s=>∃ n,(fun (n:Nat) (g:Gf) (s:St)=>f183l2 Q n (g 1) (g 3) (g 18) (g 19) (g 20) s) n g s :=
 loop_eq (L:=fun (n:Nat) (g:Gf) (s:St)=>f183l2 Q n (g 1) (g 3) (g 18) (g 19) (g 20) s) (by kernel_rfl:(sub f183B [Y,Y,Y,N,Y,N]) = .loop (sub f183B [Y,Y,Y,N,Y,N,N])) (by kernel_rfl) (fun n2=>Eq.trans (seq_eq (by kernel_rfl:(sub f183B [Y,Y,Y,N,Y,N,N]) = .seq (sub f183B [Y,Y,Y,N,Y,N,N,N]) (sub f183B [Y,Y,Y,N,Y,N,N,Y])) (seq_eq (by kernel_rfl:(sub f183B [Y,Y,Y,N,Y,N,N,Y]) = .seq (sub f183B [Y,Y,Y,N,Y,N,N,Y,N]) (sub f183B [Y,Y,Y,N,Y,N,N,Y,Y])) (seq_eq (by kernel_rfl:(sub f183B [Y,Y,Y,N,Y,N,N,Y,Y]) = .seq (sub f183B [Y,Y,Y,N,Y,N,N,Y,Y,N]) (sub f183B [Y,Y,Y,N,Y,N,N,Y,Y,Y])) (f183j4_eq Q n2) (block_eq (by kernel_rfl:(sub f183B [Y,Y,Y,N,Y,N,N,Y,Y,N]) = .block 1 (sub f183B [Y,Y,Y,N,Y,N,N,Y,Y,N,N])) rfl)) rfl) rfl) (by kernel_rfl))
def f183 (Q:AV→St→Prop) (t0:AV) (s:St):Prop :=
 (t0.cells.all AV.one = true ∧
 Bnd (zr 163) fun z3 =>
 Bnd (shiftP 0 (.ptr s.nx 0)) fun t8 =>
 Bnd (ld 1 false t8 (adv ((adv ((adv s 2).set s.nx (some (.cells t0.cells 101 true true))) 1).set ((adv s 2).set s.nx (some (.cells t0.cells 101 true true))).nx (some (.cells z3.cells 163 true true))) 9)) fun t9 =>
 CallPuD Tryz.env 206 [t9] (rch (adv ((adv ((adv s 2).set s.nx (some (.cells t0.cells 101 true true))) 1).set ((adv s 2).set s.nx (some (.cells t0.cells 101 true true))).nx (some (.cells z3.cells 163 true true))) 9) [(.fn 206 [] []),t9]) (adv ((adv ((adv s 2).set s.nx (some (.cells t0.cells 101 true true))) 1).set ((adv s 2).set s.nx (some (.cells t0.cells 101 true true))).nx (some (.cells z3.cells 163 true true))) 9) fun t10 s1 =>
 Bnd (bn .add 9 t10 (.str [58])) fun t11 =>
 Bnd (shiftP 1 (.ptr s.nx 0)) fun t12 =>
 Bnd (ld 1 false t12 s1) fun t13 =>
 CallPuD Tryz.env 206 [t13] (rch s1 [(.fn 206 [] []),t13]) s1 fun t14 s2 =>
 Bnd (bn .add 9 t11 t14) fun t15 =>
 CallWiD Tryz.env 156 [(.ptr ((adv s 2).set s.nx (some (.cells t0.cells 101 true true))).nx 0),t15] (rch s2 [(.fn 156 [] []),(.ptr ((adv s 2).set s.nx (some (.cells t0.cells 101 true true))).nx 0),t15]) s2 fun t16 s3 =>
 Bnd (shiftP 2 (.ptr s.nx 0)) fun t17 =>
 Bnd (ld 1 false t17 (adv s3 4)) fun t18 =>
 Bnd (bt .len #[72] [t18] (s3.nx + 2) (adv s3 4)) fun r19 =>
 ∃ n,f183l2 Q n (.ptr s.nx 0) (.ptr ((adv s 2).set s.nx (some (.cells t0.cells 101 true true))).nx 0) t18 r19.1 (.int .i64 0) r19.2)
theorem f183_run (t0:AV) (s:St) {Q:AV→St→Prop} (h:f183 Q t0 s):∃ r s',WideC Tryz.env 183 [t0] s r s'∧Q r s' :=
 wide_ofA (h:=183) (fn:=Tryz.f183) (c:=sub f183B []) (show f183C (sub f183B []) (f183R Q) (fun _ _ _=>False) (f183R Q) = _ from (seq_eq (by kernel_rfl:(sub f183B []) = .seq (sub f183B [N]) (sub f183B [Y])) (seq_eq (by kernel_rfl:(sub f183B [Y]) = .seq (sub f183B [Y,N]) (sub f183B [Y,Y])) (seq_eq (by kernel_rfl:(sub f183B [Y,Y]) = .seq (sub f183B [Y,Y,N]) (sub f183B [Y,Y,Y])) (seq_eq (by kernel_rfl:(sub f183B [Y,Y,Y]) = .seq (sub f183B [Y,Y,Y,N]) (sub f183B [Y,Y,Y,Y])) (f183j1_eq Q) (seq_eq (by kernel_rfl:(sub f183B [Y,Y,Y,N]) = .seq (sub f183B [Y,Y,Y,N,N]) (sub f183B [Y,Y,Y,N,Y])) (block_eq (by kernel_rfl:(sub f183B [Y,Y,Y,N,Y]) = .block 0 (sub f183B [Y,Y,Y,N,Y,N])) (f183l2_eq Q _)) rfl)) rfl) rfl) rfl)) h
abbrev f131B:Code:=bodyOf Tryz.f131
abbrev f131R:=rK Tryz.f131
abbrev f131C:=codeP Tryz.env 131 (Tryz.env.kp 131)
def f131 (Q:AV→St→Prop) (t0 t1:AV) (s:St):Prop :=
 (t1.cells.all AV.one = true ∧
 Bnd (bn .eql 51 t0 .nilp) fun t12 =>
 IfP t12
 (Q (.tup [(.int .i64 0),(.int .i64 1)]) (adv ((adv s 3).set s.nx (some (.cells t1.cells 101 true true))) 4))
 (Bnd (ld 7 true (.ptr s.nx 0) (adv ((adv s 3).set s.nx (some (.cells t1.cells 101 true true))) 5)) fun t13 =>
 CallPu Tryz.env 183 [t13] (adv ((adv s 3).set s.nx (some (.cells t1.cells 101 true true))) 5) fun t14 s1 =>
 (nilOk t0 = true ∧
 Bnd (shiftP 0 t0) fun t18 =>
 CallWi Tryz.env 184 [t18,t14] (adv s1 10) fun t20 s2 =>
 Bnd (extr t20 0) fun t21 =>
 Bnd (extr t20 1) fun t22 =>
 IfP t22
 (Q (.tup [t21,(.int .i64 0)]) (adv s2 4))
 ((nilOk t0 = true ∧
 Bnd (shiftP 2 t0) fun t27 =>
 Bnd (ld 1 false t27 (adv s2 7)) fun t28 =>
 Bnd (bt .len #[56] [t28] (s2.nx + 5) (adv s2 7)) fun r29 =>
 Bnd (bn .eql 3 r29.1 (.int .i64 20000)) fun t30 =>
 IfP t30
 (Q (.tup [(.int .i64 0),(.int .i64 2)]) (adv r29.2 2))
 ((nilOk t0 = true ∧
 Bnd (shiftP 0 t0) fun t34 =>
 CallWi Tryz.env 185 [t34,t14] (adv r29.2 10) fun t36 s3 =>
 Bnd (extr t36 0) fun t37 =>
 Bnd (extr t36 1) fun t38 =>
 (nilOk t0 = true ∧
 Bnd (shiftP 2 t0) fun t42 =>
 Bnd (ld 1 false t42 (adv s3 12)) fun t43 =>
 Bnd (ld 7 true (.ptr s.nx 0) (adv s3 12)) fun t44 =>
 CallPuD Tryz.env 104 [t44] (rch (adv s3 12) [(.fn 104 [] []),t44]) (adv s3 12) fun t45 s4 =>
 Bnd (bsl 56 1 [(0,t45)]) fun t46 =>
 (s4.h (s3.nx + 8) = none∧Bnd (bt .append #[56,56] [t43,t46] (s3.nx + 8) s4) fun r47 =>
 (nilOk t0 = true ∧
 Bnd (shiftP 2 t0) fun t49 =>
 (r47.2.h (s3.nx + 11) = none∧Bnd (sto 1 t49 r47.1 r47.2) fun s5 =>
 Q (.tup [t37,(.int .i64 0)]) (adv s5 3))))))))))))
theorem f131_run (t0 t1:AV) (s:St) {Q:AV→St→Prop} (h:f131 Q t0 t1 s):∃ r s',WideC Tryz.env 131 [t0,t1] s r s'∧Q r s' :=
 wide_ofA (h:=131) (fn:=Tryz.f131) (c:=sub f131B []) (show f131C (sub f131B []) (f131R Q) (fun _ _ _=>False) (f131R Q) = _ from rfl) h
abbrev f77B:Code:=bodyOf Tryz.f77
abbrev f77R:=rK Tryz.f77
abbrev f77C:=codeP Tryz.env 77 (Tryz.env.kp 77)
def f77 (Q:AV→St→Prop) (t0 t1 t2:AV) (s:St):Prop :=
 Bnd (bn .lss 3 t2 (.int .i64 1)) fun t9 =>
 Gd (wantV t9 false) (adv s 13) (fun k=>k t2 (adv s 13)) fun t11 s1 =>
 Gd (wantV t9 false) s1 (fun k=>Bnd (bn .gtr 3 t11 (.int .i64 3)) fun v=>k v s1) fun t12 s2 =>
 Bnd (pickV t9 (.bool true) t12) fun t13 =>
 Gd (wantV t13 false) s2 (fun k=>k t1 s2) fun t15 s3 =>
 Gd (wantV t13 false) s3 (fun k=>Bnd (bt .len #[9] [t15] (s.nx + 10) s3) fun r=>k r.1 r.2) fun t16 s4 =>
 Gd (wantV t13 false) s4 (fun k=>Bnd (bn .gtr 3 t16 (.int .i64 16384)) fun v=>k v s4) fun t17 s5 =>
 Bnd (pickV t13 (.bool true) t17) fun t18 =>
 IfP t18
 (Q (.tup [(.int .i64 0),(.int .i64 1)]) (adv s5 2))
 (Bnd (bld 101 [(0,(.int .i64 1)),(1,t2),(3,t1)]) fun t22 =>
 CallWi Tryz.env 131 [t0,t22] (adv s5 9) fun t23 s6 =>
 Bnd (extr t23 0) fun t24 =>
 Bnd (extr t23 1) fun t25 =>
 Q (.tup [t24,t25]) s6)
theorem f77_run (t0 t1 t2:AV) (s:St) {Q:AV→St→Prop} (h:f77 Q t0 t1 t2 s):∃ r s',WideC Tryz.env 77 [t0,t1,t2] s r s'∧Q r s' :=
 wide_ofA (h:=77) (fn:=Tryz.f77) (c:=sub f77B []) (show f77C (sub f77B []) (f77R Q) (fun _ _ _=>False) (f77R Q) = _ from rfl) h
abbrev f78B:Code:=bodyOf Tryz.f78
abbrev f78R:=rK Tryz.f78
abbrev f78C:=codeP Tryz.env 78 (Tryz.env.kp 78)
def f78 (Q:AV→St→Prop) (t0 t1:AV) (s:St):Prop :=
 IfP t1
 (Bnd (bld 101 [(0,(.int .i64 2)),(1,(.int .i64 1))]) fun t8 =>
 CallWi Tryz.env 131 [t0,t8] (adv s 10) fun t9 s1 =>
 Bnd (extr t9 0) fun t10 =>
 Bnd (extr t9 1) fun t11 =>
 Q (.tup [t10,t11]) s1)
 (Bnd (bld 101 [(0,(.int .i64 3)),(1,(.int .i64 1))]) fun t13 =>
 CallWi Tryz.env 131 [t0,t13] (adv s 10) fun t14 s2 =>
 Bnd (extr t14 0) fun t15 =>
 Bnd (extr t14 1) fun t16 =>
 Q (.tup [t15,t16]) s2)
theorem f78_run (t0 t1:AV) (s:St) {Q:AV→St→Prop} (h:f78 Q t0 t1 s):∃ r s',WideC Tryz.env 78 [t0,t1] s r s'∧Q r s' :=
 wide_ofA (h:=78) (fn:=Tryz.f78) (c:=sub f78B []) (show f78C (sub f78B []) (f78R Q) (fun _ _ _=>False) (f78R Q) = _ from rfl) h
abbrev f79B:Code:=bodyOf Tryz.f79
abbrev f79R:=rK Tryz.f79
abbrev f79C:=codeP Tryz.env 79 (Tryz.env.kp 79)
def f79 (Q:AV→St→Prop) (t0 t1:AV) (s:St):Prop :=
 (t1.cells.all AV.one = true ∧
 Bnd (ld 2 true (.ptr s.nx 0) (adv ((adv s 3).set s.nx (some (.cells t1.cells 24 true true))) 3)) fun t6 =>
 CallPu Tryz.env 20 [t6] (adv ((adv s 3).set s.nx (some (.cells t1.cells 24 true true))) 3) fun t7 s1 =>
 Bnd (bn .lss 3 t7 (.int .i64 0)) fun t8 =>
 IfP t8
 (Q (.tup [(.int .i64 0),(.int .i64 1)]) (adv s1 2))
 (Bnd (ld 2 true (.ptr s.nx 0) (adv s1 9)) fun t10 =>
 CallPu Tryz.env 69 [t10] (adv s1 9) fun t11 s2 =>
 Bnd (bld 101 [(0,(.int .i64 4)),(1,(.int .i64 2)),(4,t11)]) fun t12 =>
 CallWi Tryz.env 131 [t0,t12] s2 fun t13 s3 =>
 Bnd (extr t13 0) fun t14 =>
 Bnd (extr t13 1) fun t15 =>
 Q (.tup [t14,t15]) s3))
theorem f79_run (t0 t1:AV) (s:St) {Q:AV→St→Prop} (h:f79 Q t0 t1 s):∃ r s',WideC Tryz.env 79 [t0,t1] s r s'∧Q r s' :=
 wide_ofA (h:=79) (fn:=Tryz.f79) (c:=sub f79B []) (show f79C (sub f79B []) (f79R Q) (fun _ _ _=>False) (f79R Q) = _ from rfl) h
abbrev f80B:Code:=bodyOf Tryz.f80
abbrev f80R:=rK Tryz.f80
abbrev f80C:=codeP Tryz.env 80 (Tryz.env.kp 80)
def f80 (Q:AV→St→Prop) (t0 t1:AV) (s:St):Prop :=
 CallPu Tryz.env 60 [t1] (adv s 5) fun t7 s1 =>
 Bnd (un .not t7) fun t8 =>
 IfP t8
 (Q (.tup [(.int .i64 0),(.int .i64 1)]) (adv s1 2))
 (Bnd (bld 101 [(0,(.int .i64 5)),(1,(.int .i64 3)),(5,t1)]) fun t11 =>
 CallWi Tryz.env 131 [t0,t11] (adv s1 8) fun t12 s2 =>
 Bnd (extr t12 0) fun t13 =>
 Bnd (extr t12 1) fun t14 =>
 Q (.tup [t13,t14]) s2)
theorem f80_run (t0 t1:AV) (s:St) {Q:AV→St→Prop} (h:f80 Q t0 t1 s):∃ r s',WideC Tryz.env 80 [t0,t1] s r s'∧Q r s' :=
 wide_ofA (h:=80) (fn:=Tryz.f80) (c:=sub f80B []) (show f80C (sub f80B []) (f80R Q) (fun _ _ _=>False) (f80R Q) = _ from rfl) h
abbrev f187B:Code:=bodyOf Tryz.f187
abbrev f187R:=rK Tryz.f187
abbrev f187C:=codeP Tryz.env 187 (Tryz.env.kp 187)
def f187 (Q:AV→St→Prop) (t0 t1:AV) (s:St):Prop :=
 (nilOk t0 = true ∧
 Bnd (shiftP 2 t0) fun t8 =>
 Bnd (ld 1 false t8 (adv s 10)) fun t9 =>
 Bnd (ixS 7 t9 t1) fun t11 =>
 Bnd (ld 7 true t11 (adv s 10)) fun t12 =>
 Bnd (zr 101) fun z5 =>
 Bnd (sto 7 (.ptr (s.nx + 8) 0) t12 ((adv s 10).set (s.nx + 8) (some (.cells z5.cells 101 true true)))) fun s1 =>
 Bnd (shiftP 0 (.ptr (s.nx + 8) 0)) fun t13 =>
 Bnd (ld 1 false t13 (adv s1 23)) fun t14 =>
 Bnd (bn .eql 3 t14 (.int .i64 4)) fun t15 =>
 Gd (wantV t15 false) (adv s1 23) (fun k=>Bnd (shiftP 0 (.ptr (s.nx + 8) 0)) fun v=>k v (adv s1 23)) fun t17 s2 =>
 Gd (wantV t15 false) s2 (fun k=>Bnd (ld 1 false t17 s2) fun v=>k v s2) fun t18 s3 =>
 Gd (wantV t15 false) s3 (fun k=>Bnd (bn .eql 3 t18 (.int .i64 14)) fun v=>k v s3) fun t19 s4 =>
 Gd (wantV t15 false) s4 (fun k=>k t19 s4) fun t20 s5 =>
 Gd (wantV t20 true) s5 (fun k=>k t0 s5) fun t21 s6 =>
 Gd (wantV t20 true) s6 (fun k=>nilOk t21 = true∧k t21 s6) fun t22 s7 =>
 Gd (wantV t20 true) s7 (fun k=>Bnd (shiftP 2 t22) fun v=>k v s7) fun t23 s8 =>
 Gd (wantV t20 true) s8 (fun k=>Bnd (ld 1 false t23 s8) fun v=>k v s8) fun t24 s9 =>
 Gd (wantV t20 true) s9 (fun k=>Bnd (shiftP 2 (.ptr (s.nx + 8) 0)) fun v=>k v s9) fun t25 s10 =>
 Gd (wantV t20 true) s10 (fun k=>Bnd (ld 1 false t25 s10) fun v=>k v s10) fun t26 s11 =>
 Gd (wantV t20 true) s11 (fun k=>Bnd (ixS 1 t26 (.int .i64 0)) fun v=>k v s11) fun t27 s12 =>
 Gd (wantV t20 true) s12 (fun k=>Bnd (ld 1 false t27 s12) fun v=>k v s12) fun t28 s13 =>
 Gd (wantV t20 true) s13 (fun k=>Bnd (ixS 7 t24 t28) fun v=>k v s13) fun t29 s14 =>
 Gd (wantV t20 true) s14 (fun k=>Bnd (shiftP 0 t29) fun v=>k v s14) fun t30 s15 =>
 Gd (wantV t20 true) s15 (fun k=>Bnd (ld 1 false t30 s15) fun v=>k v s15) fun t31 s16 =>
 Gd (wantV t20 true) s16 (fun k=>Bnd (bn .eql 3 t31 (.int .i64 4)) fun v=>k v s16) fun t32 s17 =>
 Gd (wantV t15 false) s17 (fun k=>Bnd (pickV t20 t32 (.bool false)) fun v=>k v s17) fun t33 s18 =>
 Bnd (pickV t15 (.bool true) t33) fun t34 =>
 Q t34 s18)
theorem f187_run (t0 t1:AV) (s:St) {Q:AV→St→Prop} (h:f187 Q t0 t1 s):∃ r s',WideC Tryz.env 187 [t0,t1] s r s'∧Q r s' :=
 wide_ofA (h:=187) (fn:=Tryz.f187) (c:=sub f187B []) (show f187C (sub f187B []) (f187R Q) (fun _ _ _=>False) (f187R Q) = _ from rfl) h
abbrev f135B:Code:=bodyOf Tryz.f135
abbrev f135R:=rK Tryz.f135
abbrev f135C:=codeP Tryz.env 135 (Tryz.env.kp 135)
def f135j1 (Q:AV→St→Prop) (t5:AV) (s:St):Prop :=
 Bnd (bn .leq 3 t5 (.int .i64 1)) fun t22 =>
 Q t22 (adv s 3)
def f135j2 (Q:AV→St→Prop) (ih1:AV→AV→AV→AV→AV→St→Prop) (t10 t0 t5 t8 t9:AV) (s:St):Prop :=
 Bnd (bn .add 3 t10 (.int .i64 1)) fun t20 =>
 ih1 t0 t5 t8 t9 t20 (adv s 2)
def f135l1s (Q:AV→St→Prop) (ih1:AV→AV→AV→AV→AV→St→Prop) (t0 t5 t8 t9 t10:AV) (s:St):Prop :=
 Bnd (bn .lss 3 t10 t9) fun t11 =>
 IfP t11
 (Bnd (ixS 1 t8 t10) fun t12 =>
 Bnd (ld 1 false t12 (adv s 4)) fun t13 =>
 CallWi Tryz.env 187 [t0,t13] (adv s 8) fun t16 s1 =>
 Bnd (un .not t16) fun t17 =>
 IfP t17
 (Bnd (bn .add 3 t5 (.int .i64 1)) fun t19 =>
 f135j2 Q ih1 t10 t0 t19 t8 t9 (adv s1 3))
 (f135j2 Q ih1 t10 t0 t5 t8 t9 s1))
 (f135j1 Q t5 (adv s 1))
def f135l1 (Q:AV→St→Prop) (n:Nat):AV→AV→AV→AV→AV→St→Prop:=Nat.rec (motive:=fun _=>AV→AV→AV→AV→AV→St→Prop) (fun _ _ _ _ _ _=>False) (fun _ ih=>f135l1s Q ih) n
theorem f135j1_eq (Q:AV→St→Prop):f135C (sub f135B [Y,Y,Y]) (f135R Q) (fun _ _ _=>False) (f135R Q) = (fun g s=>f135j1 Q (g 5) s) :=
 Eq.trans rfl (by kernel_rfl)
theorem f135j2_eq (Q:AV→St→Prop) (n1:Nat):f135C (sub f135B [Y,Y,N,Y,N,N,Y,Y,Y]) (fun g s=>(fun (n:Nat) (g:Gf) (s:St)=>f135l1 Q n (g 0) (g 5) (g 8) (g 9) (g 10) s) n1 (fun k=>cond (bitOf (Tryz.env.kp 135) k) (g k) .undef) s) (fun i=>cond (Nat.beq i 0) (fun g s=>f135j1 Q (g 5) s) ((fun _ _ _=>False) i)) (f135R Q) = (fun g s=>f135j2 Q (f135l1 Q n1) (g 10) (g 0) (g 5) (g 8) (g 9) s) :=
 Eq.trans rfl (by kernel_rfl)
theorem f135l1_eq (Q:AV→St→Prop) (kN:Kt):f135C (sub f135B [Y,Y,N,Y,N]) kN (fun i=>cond (Nat.beq i 0) (fun g s=>f135j1 Q (g 5) s) ((fun _ _ _=>False) i)) (f135R Q) = fun g s=>∃ n,(fun (n:Nat) (g:Gf) (s:St)=>f135l1 Q n (g 0) (g 5) (g 8) (g 9) (g 10) s) n g s :=
 loop_eq (L:=fun (n:Nat) (g:Gf) (s:St)=>f135l1 Q n (g 0) (g 5) (g 8) (g 9) (g 10) s) (by kernel_rfl:(sub f135B [Y,Y,N,Y,N]) = .loop (sub f135B [Y,Y,N,Y,N,N])) (by kernel_rfl) (fun n1=>Eq.trans (seq_eq (by kernel_rfl:(sub f135B [Y,Y,N,Y,N,N]) = .seq (sub f135B [Y,Y,N,Y,N,N,N]) (sub f135B [Y,Y,N,Y,N,N,Y])) (seq_eq (by kernel_rfl:(sub f135B [Y,Y,N,Y,N,N,Y]) = .seq (sub f135B [Y,Y,N,Y,N,N,Y,N]) (sub f135B [Y,Y,N,Y,N,N,Y,Y])) (seq_eq (by kernel_rfl:(sub f135B [Y,Y,N,Y,N,N,Y,Y]) = .seq (sub f135B [Y,Y,N,Y,N,N,Y,Y,N]) (sub f135B [Y,Y,N,Y,N,N,Y,Y,Y])) (f135j2_eq Q n1) (block_eq (by kernel_rfl:(sub f135B [Y,Y,N,Y,N,N,Y,Y,N]) = .block 1 (sub f135B [Y,Y,N,Y,N,N,Y,Y,N,N])) rfl)) rfl) rfl) (by kernel_rfl))
def f135 (Q:AV→St→Prop) (t0 t1:AV) (s:St):Prop :=
 Bnd (bt .len #[72] [t1] (s.nx + 3) (adv s 5)) fun r9 =>
 ∃ n,f135l1 Q n t0 (.int .i64 0) t1 r9.1 (.int .i64 0) r9.2
theorem f135_run (t0 t1:AV) (s:St) {Q:AV→St→Prop} (h:f135 Q t0 t1 s):∃ r s',WideC Tryz.env 135 [t0,t1] s r s'∧Q r s' :=
 wide_ofA (h:=135) (fn:=Tryz.f135) (c:=sub f135B []) (show f135C (sub f135B []) (f135R Q) (fun _ _ _=>False) (f135R Q) = _ from (seq_eq (by kernel_rfl:(sub f135B []) = .seq (sub f135B [N]) (sub f135B [Y])) (seq_eq (by kernel_rfl:(sub f135B [Y]) = .seq (sub f135B [Y,N]) (sub f135B [Y,Y])) (seq_eq (by kernel_rfl:(sub f135B [Y,Y]) = .seq (sub f135B [Y,Y,N]) (sub f135B [Y,Y,Y])) (f135j1_eq Q) (seq_eq (by kernel_rfl:(sub f135B [Y,Y,N]) = .seq (sub f135B [Y,Y,N,N]) (sub f135B [Y,Y,N,Y])) (block_eq (by kernel_rfl:(sub f135B [Y,Y,N,Y]) = .block 0 (sub f135B [Y,Y,N,Y,N])) (f135l1_eq Q _)) rfl)) rfl) rfl)) h
abbrev f134B:Code:=bodyOf Tryz.f134
abbrev f134R:=rK Tryz.f134
abbrev f134C:=codeP Tryz.env 134 (Tryz.env.kp 134)
def f134j1 (Q:AV→St→Prop) (t4 t7:AV) (s:St):Prop :=
 Bnd (shiftP 5 t4) fun t44 =>
 Bnd (ld 1 false t44 (adv s 3)) fun t45 =>
 Bnd (bn .eql 3 t45 (.int .i64 (-1))) fun t46 =>
 IfP t46
 (Q t7 (adv s 5))
 (Bnd (shiftP 5 t4) fun t48 =>
 Bnd (ld 1 false t48 (adv s 6)) fun t49 =>
 Q t49 (adv s 6))
def f134j2 (Q:AV→St→Prop) (ih1:AV→AV→AV→AV→AV→AV→St→Prop) (t14 t0 t4 t7 t12 t13:AV) (s:St):Prop :=
 Bnd (bn .add 3 t14 (.int .i64 1)) fun t43 =>
 ih1 t0 t4 t7 t12 t13 t43 (adv s 2)
def f134j3 (Q:AV→St→Prop) (ih1:AV→AV→AV→AV→AV→AV→St→Prop) (t10 t11 t14 t0 t4 t12 t13:AV) (s:St):Prop :=
 Bnd (bn .neq 3 t10 (.int .i64 (-2))) fun t36 =>
 Gd (wantV t36 true) (adv s 7) (fun k=>k t10 (adv s 7)) fun t38 s1 =>
 Gd (wantV t36 true) s1 (fun k=>k t11 s1) fun t39 s2 =>
 Gd (wantV t36 true) s2 (fun k=>Bnd (bn .neq 3 t38 t39) fun v=>k v s2) fun t40 s3 =>
 Bnd (pickV t36 t40 (.bool false)) fun t41 =>
 IfP t41
 (Q (.int .i64 0) (adv s3 1))
 (f134j2 Q ih1 t14 t0 t4 t11 t12 t13 (adv s3 2))
def f134l1s (Q:AV→St→Prop) (ih1:AV→AV→AV→AV→AV→AV→St→Prop) (t0 t4 t7 t12 t13 t14:AV) (s:St):Prop :=
 Bnd (bn .lss 3 t14 t13) fun t15 =>
 IfP t15
 (Bnd (ixS 1 t12 t14) fun t17 =>
 Bnd (ld 1 false t17 (adv s 6)) fun t18 =>
 Bnd (bt .min #[3,3] [t14,(.int .i64 2)] (s.nx + 7) (adv s 21)) fun r20 =>
 Bnd (shiftP 2 t4) fun t21 =>
 Bnd (ixA 3 1 t21 r20.1) fun t22 =>
 Bnd (ld 1 false t22 r20.2) fun t23 =>
 (nilOk t0 = true ∧
 Bnd (shiftP 2 t0) fun t26 =>
 Bnd (ld 1 false t26 r20.2) fun t27 =>
 Bnd (ixS 7 t27 t18) fun t29 =>
 Bnd (shiftP 1 t29) fun t30 =>
 Bnd (ld 1 false t30 r20.2) fun t31 =>
 Bnd (bn .eql 3 t23 (.int .i64 (-1))) fun t33 =>
 IfP t33
 (f134j3 Q ih1 t7 t31 t14 t0 t4 t12 t13 (adv r20.2 4))
 (f134j3 Q ih1 t23 t31 t14 t0 t4 t12 t13 (adv r20.2 2))))
 (f134j1 Q t4 t7 (adv s 1))
def f134l1 (Q:AV→St→Prop) (n:Nat):AV→AV→AV→AV→AV→AV→St→Prop:=Nat.rec (motive:=fun _=>AV→AV→AV→AV→AV→AV→St→Prop) (fun _ _ _ _ _ _ _=>False) (fun _ ih=>f134l1s Q ih) n
theorem f134j1_eq (Q:AV→St→Prop):f134C (sub f134B [Y,Y,Y]) (f134R Q) (fun _ _ _=>False) (f134R Q) = (fun g s=>f134j1 Q (g 4) (g 7) s) :=
 Eq.trans rfl (by kernel_rfl)
theorem f134j2_eq (Q:AV→St→Prop) (n1:Nat):f134C (sub f134B [Y,Y,N,Y,N,N,Y,Y,Y]) (fun g s=>(fun (n:Nat) (g:Gf) (s:St)=>f134l1 Q n (g 0) (g 4) (g 7) (g 12) (g 13) (g 14) s) n1 (fun k=>cond (bitOf (Tryz.env.kp 134) k) (g k) .undef) s) (fun i=>cond (Nat.beq i 0) (fun g s=>f134j1 Q (g 4) (g 7) s) ((fun _ _ _=>False) i)) (f134R Q) = (fun g s=>f134j2 Q (f134l1 Q n1) (g 14) (g 0) (g 4) (g 7) (g 12) (g 13) s) :=
 Eq.trans rfl (by kernel_rfl)
theorem f134j3_eq (Q:AV→St→Prop) (n1:Nat):f134C (sub f134B [Y,Y,N,Y,N,N,Y,Y,N,N,Y,Y,Y]) (fun g s=>f134j2 Q (f134l1 Q n1) (g 14) (g 0) (g 4) (g 7) (g 12) (g 13) s) (fun i=>cond (Nat.beq i 1) (fun g s=>f134j2 Q (f134l1 Q n1) (g 14) (g 0) (g 4) (g 7) (g 12) (g 13) s) ((fun i=>cond (Nat.beq i 0) (fun g s=>f134j1 Q (g 4) (g 7) s) ((fun _ _ _=>False) i)) i)) (f134R Q) = (fun g s=>f134j3 Q (f134l1 Q n1) (g 10) (g 11) (g 14) (g 0) (g 4) (g 12) (g 13) s) :=
 Eq.trans rfl (by kernel_rfl)
theorem f134l1_eq (Q:AV→St→Prop) (kN:Kt):f134C (sub f134B [Y,Y,N,Y,N]) kN (fun i=>cond (Nat.beq i 0) (fun g s=>f134j1 Q (g 4) (g 7) s) ((fun _ _ _=>False) i)) (f134R Q) = fun g s=>∃ n,(fun (n:Nat) (g:Gf) (s:St)=>f134l1 Q n (g 0) (g 4) (g 7) (g 12) (g 13) (g 14) s) n g s :=
 loop_eq (L:=fun (n:Nat) (g:Gf) (s:St)=>f134l1 Q n (g 0) (g 4) (g 7) (g 12) (g 13) (g 14) s) (by kernel_rfl:(sub f134B [Y,Y,N,Y,N]) = .loop (sub f134B [Y,Y,N,Y,N,N])) (by kernel_rfl) (fun n1=>Eq.trans (seq_eq (by kernel_rfl:(sub f134B [Y,Y,N,Y,N,N]) = .seq (sub f134B [Y,Y,N,Y,N,N,N]) (sub f134B [Y,Y,N,Y,N,N,Y])) (seq_eq (by kernel_rfl:(sub f134B [Y,Y,N,Y,N,N,Y]) = .seq (sub f134B [Y,Y,N,Y,N,N,Y,N]) (sub f134B [Y,Y,N,Y,N,N,Y,Y])) (seq_eq (by kernel_rfl:(sub f134B [Y,Y,N,Y,N,N,Y,Y]) = .seq (sub f134B [Y,Y,N,Y,N,N,Y,Y,N]) (sub f134B [Y,Y,N,Y,N,N,Y,Y,Y])) (f134j2_eq Q n1) (block_eq (by kernel_rfl:(sub f134B [Y,Y,N,Y,N,N,Y,Y,N]) = .block 1 (sub f134B [Y,Y,N,Y,N,N,Y,Y,N,N])) (seq_eq (by kernel_rfl:(sub f134B [Y,Y,N,Y,N,N,Y,Y,N,N]) = .seq (sub f134B [Y,Y,N,Y,N,N,Y,Y,N,N,N]) (sub f134B [Y,Y,N,Y,N,N,Y,Y,N,N,Y])) (seq_eq (by kernel_rfl:(sub f134B [Y,Y,N,Y,N,N,Y,Y,N,N,Y]) = .seq (sub f134B [Y,Y,N,Y,N,N,Y,Y,N,N,Y,N]) (sub f134B [Y,Y,N,Y,N,N,Y,Y,N,N,Y,Y])) (seq_eq (by kernel_rfl:(sub f134B [Y,Y,N,Y,N,N,Y,Y,N,N,Y,Y]) = .seq (sub f134B [Y,Y,N,Y,N,N,Y,Y,N,N,Y,Y,N]) (sub f134B [Y,Y,N,Y,N,N,Y,Y,N,N,Y,Y,Y])) (f134j3_eq Q n1) rfl) rfl) rfl))) rfl) rfl) (by kernel_rfl))
def f134 (Q:AV→St→Prop) (t0 t1 t2:AV) (s:St):Prop :=
 (t1.cells.all AV.one = true ∧
 Bnd (bt .len #[72] [t2] (((adv s 2).set s.nx (some (.cells t1.cells 192 true true))).nx + 2) (adv ((adv s 2).set s.nx (some (.cells t1.cells 192 true true))) 4)) fun r13 =>
 ∃ n,f134l1 Q n t0 (.ptr s.nx 0) (.int .i64 0) t2 r13.1 (.int .i64 0) r13.2)
theorem f134_run (t0 t1 t2:AV) (s:St) {Q:AV→St→Prop} (h:f134 Q t0 t1 t2 s):∃ r s',WideC Tryz.env 134 [t0,t1,t2] s r s'∧Q r s' :=
 wide_ofA (h:=134) (fn:=Tryz.f134) (c:=sub f134B []) (show f134C (sub f134B []) (f134R Q) (fun _ _ _=>False) (f134R Q) = _ from (seq_eq (by kernel_rfl:(sub f134B []) = .seq (sub f134B [N]) (sub f134B [Y])) (seq_eq (by kernel_rfl:(sub f134B [Y]) = .seq (sub f134B [Y,N]) (sub f134B [Y,Y])) (seq_eq (by kernel_rfl:(sub f134B [Y,Y]) = .seq (sub f134B [Y,Y,N]) (sub f134B [Y,Y,Y])) (f134j1_eq Q) (seq_eq (by kernel_rfl:(sub f134B [Y,Y,N]) = .seq (sub f134B [Y,Y,N,N]) (sub f134B [Y,Y,N,Y])) (block_eq (by kernel_rfl:(sub f134B [Y,Y,N,Y]) = .block 0 (sub f134B [Y,Y,N,Y,N])) (f134l1_eq Q _)) rfl)) rfl) rfl)) h
abbrev f132B:Code:=bodyOf Tryz.f132
abbrev f132R:=rK Tryz.f132
abbrev f132C:=codeP Tryz.env 132 (Tryz.env.kp 132)
def f132 (Q:AV→St→Prop) (t0 t1:AV) (s:St):Prop :=
 Bnd (bn .lss 3 t0 (.int .i64 0)) fun t5 =>
 Gd (wantV t5 false) (adv s 10) (fun k=>k t0 (adv s 10)) fun t7 s1 =>
 Gd (wantV t5 false) s1 (fun k=>Bnd (ld 1 false t1 s1) fun v=>k v s1) fun t8 s2 =>
 Gd (wantV t5 false) s2 (fun k=>CallWi Tryz.env 31 [t8] s2 k) fun t9 s3 =>
 Gd (wantV t5 false) s3 (fun k=>Bnd (bn .geq 3 t7 t9) fun v=>k v s3) fun t10 s4 =>
 Bnd (pickV t5 (.bool true) t10) fun t11 =>
 Q t11 s4
theorem f132_run (t0 t1:AV) (s:St) {Q:AV→St→Prop} (h:f132 Q t0 t1 s):∃ r s',WideC Tryz.env 132 [t0,t1] s r s'∧Q r s' :=
 wide_ofA (h:=132) (fn:=Tryz.f132) (c:=sub f132B []) (show f132C (sub f132B []) (f132R Q) (fun _ _ _=>False) (f132R Q) = _ from rfl) h
abbrev f81B:Code:=bodyOf Tryz.f81
abbrev f81R:=rK Tryz.f81
abbrev f81C:=codeP Tryz.env 81 (Tryz.env.kp 81)
def f81j1 (Q:AV→St→Prop) (t3 t1 t10 t2:AV) (s:St):Prop :=
 Bnd (ld 1 false t3 (adv s 10)) fun t71 =>
 Bnd (bld 101 [(0,t1),(1,t10),(2,t2)]) fun t75 =>
 CallWi Tryz.env 131 [t71,t75] (adv s 10) fun t76 s1 =>
 Bnd (extr t76 0) fun t77 =>
 Bnd (extr t76 1) fun t78 =>
 Q (.tup [t77,t78]) s1
theorem f81j1_eq (Q:AV→St→Prop):f81C (sub f81B [Y,Y,Y,Y,Y,Y,Y]) (f81R Q) (fun _ _ _=>False) (f81R Q) = (fun g s=>f81j1 Q (g 3) (g 1) (g 10) (g 2) s) :=
 Eq.trans rfl (by kernel_rfl)
def f81 (Q:AV→St→Prop) (t0 t1 t2:AV) (s:St):Prop :=
 (t0.cells.all AV.one = true ∧
 Bnd (bn .lss 3 t1 (.int .i64 0)) fun t12 =>
 Gd (wantV t12 false) (adv ((adv s 3).set s.nx (some (.cells t0.cells 51 true true))) 13) (fun k=>k t1 (adv ((adv s 3).set s.nx (some (.cells t0.cells 51 true true))) 13)) fun t14 s1 =>
 Gd (wantV t12 false) s1 (fun k=>Bnd (bn .geq 3 t14 (.int .i64 31)) fun v=>k v s1) fun t15 s2 =>
 Bnd (pickV t12 (.bool true) t15) fun t16 =>
 Gd (wantV t16 false) s2 (fun k=>k t1 s2) fun t18 s3 =>
 Gd (wantV t16 false) s3 (fun k=>Bnd (ixA 31 6 (gl 1) t18) fun v=>k v s3) fun t19 s4 =>
 Gd (wantV t16 false) s4 (fun k=>Bnd (shiftP 0 t19) fun v=>k v s4) fun t20 s5 =>
 Gd (wantV t16 false) s5 (fun k=>Bnd (ld 1 false t20 s5) fun v=>k v s5) fun t21 s6 =>
 Gd (wantV t16 false) s6 (fun k=>Bnd (bn .eql 3 t21 (.int .i64 0)) fun v=>k v s6) fun t22 s7 =>
 Bnd (pickV t16 (.bool true) t22) fun t23 =>
 IfP t23
 (Q (.tup [(.int .i64 0),(.int .i64 101)]) (adv s7 2))
 (Bnd (ixA 31 6 (gl 1) t1) fun t25 =>
 Bnd (ld 6 true t25 (adv s7 5)) fun t26 =>
 Bnd (zr 192) fun z8 =>
 Bnd (sto 6 (.ptr (s7.nx + 3) 0) t26 ((adv s7 5).set (s7.nx + 3) (some (.cells z8.cells 192 true true)))) fun s8 =>
 Bnd (bt .len #[72] [t2] (s8.nx + 3) (adv s8 29)) fun r29 =>
 Bnd (shiftP 0 (.ptr (s7.nx + 3) 0)) fun t30 =>
 Bnd (ld 1 false t30 r29.2) fun t31 =>
 Bnd (bn .lss 3 r29.1 t31) fun t32 =>
 Gd (wantV t32 false) r29.2 (fun k=>k t2 r29.2) fun t34 s9 =>
 Gd (wantV t32 false) s9 (fun k=>Bnd (bt .len #[72] [t34] (s8.nx + 9) s9) fun r=>k r.1 r.2) fun t35 s10 =>
 Gd (wantV t32 false) s10 (fun k=>Bnd (shiftP 0 (.ptr (s7.nx + 3) 0)) fun v=>k v s10) fun t36 s11 =>
 Gd (wantV t32 false) s11 (fun k=>Bnd (ld 1 false t36 s11) fun v=>k v s11) fun t37 s12 =>
 Gd (wantV t32 false) s12 (fun k=>Bnd (bn .gtr 3 t35 t37) fun v=>k v s12) fun t38 s13 =>
 Gd (wantV t32 false) s13 (fun k=>k t38 s13) fun t39 s14 =>
 Gd (wantV t39 true) s14 (fun k=>Bnd (shiftP 1 (.ptr (s7.nx + 3) 0)) fun v=>k v s14) fun t40 s15 =>
 Gd (wantV t39 true) s15 (fun k=>Bnd (ld 1 false t40 s15) fun v=>k v s15) fun t41 s16 =>
 Gd (wantV t39 true) s16 (fun k=>Bnd (un .not t41) fun v=>k v s16) fun t42 s17 =>
 Gd (wantV t32 false) s17 (fun k=>Bnd (pickV t39 t42 (.bool false)) fun v=>k v s17) fun t43 s18 =>
 Bnd (pickV t32 (.bool true) t43) fun t44 =>
 Gd (wantV t44 false) s18 (fun k=>k t2 s18) fun t46 s19 =>
 Gd (wantV t44 false) s19 (fun k=>Bnd (bt .len #[72] [t46] (s8.nx + 21) s19) fun r=>k r.1 r.2) fun t47 s20 =>
 Gd (wantV t44 false) s20 (fun k=>Bnd (bn .gtr 3 t47 (.int .i64 200)) fun v=>k v s20) fun t48 s21 =>
 Bnd (pickV t44 (.bool true) t48) fun t49 =>
 Gd (wantV t49 false) s21 (fun k=>k t2 s21) fun t51 s22 =>
 Gd (wantV t49 false) s22 (fun k=>k (.fn 132 [] [(.ptr s.nx 0)]) s22) fun t52 s23 =>
 Gd (wantV t49 false) s23 (fun k=>CallWi Tryz.env 133 [t51,t52] s23 k) fun t53 s24 =>
 Bnd (pickV t49 (.bool true) t53) fun t54 =>
 IfP t54
 (Q (.tup [(.int .i64 0),(.int .i64 1)]) (adv s24 2))
 (Bnd (ld 1 false (.ptr s.nx 0) (adv s24 5)) fun t55 =>
 Bnd (ld 6 true (.ptr (s7.nx + 3) 0) (adv s24 5)) fun t56 =>
 CallWi Tryz.env 134 [t55,t56,t2] (adv s24 5) fun t58 s25 =>
 Bnd (bn .eql 3 t58 (.int .i64 0)) fun t61 =>
 IfP t61
 (Q (.tup [(.int .i64 0),(.int .i64 90)]) (adv s25 5))
 (Bnd (bn .eql 3 t1 (.int .i64 17)) fun t64 =>
 Gd (wantV t64 true) (adv s25 12) (fun k=>Bnd (ld 1 false (.ptr s.nx 0) (adv s25 12)) fun v=>k v (adv s25 12)) fun t66 s26 =>
 Gd (wantV t64 true) s26 (fun k=>k t2 s26) fun t67 s27 =>
 Gd (wantV t64 true) s27 (fun k=>CallWi Tryz.env 135 [t66,t67] s27 k) fun t68 s28 =>
 Gd (wantV t64 true) s28 (fun k=>Bnd (un .not t68) fun v=>k v s28) fun t69 s29 =>
 Bnd (pickV t64 t69 (.bool false)) fun t70 =>
 IfP t70
 (Q (.tup [(.int .i64 0),(.int .i64 101)]) (adv s29 2))
 (f81j1 Q (.ptr s.nx 0) t1 t58 t2 s29)))))
theorem f81_run (t0 t1 t2:AV) (s:St) {Q:AV→St→Prop} (h:f81 Q t0 t1 t2 s):∃ r s',WideC Tryz.env 81 [t0,t1,t2] s r s'∧Q r s' :=
 wide_ofA (h:=81) (fn:=Tryz.f81) (c:=sub f81B []) (show f81C (sub f81B []) (f81R Q) (fun _ _ _=>False) (f81R Q) = _ from (seq_eq (by kernel_rfl:(sub f81B []) = .seq (sub f81B [N]) (sub f81B [Y])) (seq_eq (by kernel_rfl:(sub f81B [Y]) = .seq (sub f81B [Y,N]) (sub f81B [Y,Y])) (seq_eq (by kernel_rfl:(sub f81B [Y,Y]) = .seq (sub f81B [Y,Y,N]) (sub f81B [Y,Y,Y])) (seq_eq (by kernel_rfl:(sub f81B [Y,Y,Y]) = .seq (sub f81B [Y,Y,Y,N]) (sub f81B [Y,Y,Y,Y])) (seq_eq (by kernel_rfl:(sub f81B [Y,Y,Y,Y]) = .seq (sub f81B [Y,Y,Y,Y,N]) (sub f81B [Y,Y,Y,Y,Y])) (seq_eq (by kernel_rfl:(sub f81B [Y,Y,Y,Y,Y]) = .seq (sub f81B [Y,Y,Y,Y,Y,N]) (sub f81B [Y,Y,Y,Y,Y,Y])) (seq_eq (by kernel_rfl:(sub f81B [Y,Y,Y,Y,Y,Y]) = .seq (sub f81B [Y,Y,Y,Y,Y,Y,N]) (sub f81B [Y,Y,Y,Y,Y,Y,Y])) (f81j1_eq Q) (block_eq (by kernel_rfl:(sub f81B [Y,Y,Y,Y,Y,Y,N]) = .block 0 (sub f81B [Y,Y,Y,Y,Y,Y,N,N])) rfl)) rfl) rfl) rfl) rfl) rfl) rfl)) h
abbrev f221B:Code:=bodyOf Tryz.f221
abbrev f221R:=rK Tryz.f221
abbrev f221C:=codeP Tryz.env 221 (Tryz.env.kp 221)
def f221 (Q:AV→St→Prop) (t0 t1:AV) (s:St):Prop :=
 CallPu Tryz.env 248 [t0,t1] (adv s 6) fun t7 s1 =>
 Bnd (bn .geq 3 t7 (.int .i64 0)) fun t8 =>
 Q t8 s1
theorem f221_run (t0 t1:AV) (s:St) {Q:AV→St→Prop} (h:f221 Q t0 t1 s):∃ r s',WideC Tryz.env 221 [t0,t1] s r s'∧Q r s' :=
 wide_ofA (h:=221) (fn:=Tryz.f221) (c:=sub f221B []) (show f221C (sub f221B []) (f221R Q) (fun _ _ _=>False) (f221R Q) = _ from rfl) h
abbrev f248B:Code:=bodyOf Tryz.f248
abbrev f248R:=rK Tryz.f248
abbrev f248C:=codeP Tryz.env 248 (Tryz.env.kp 248)
def f248j1 (Q:AV→St→Prop) (s:St):Prop :=
 Q (.int .i64 (-1)) (adv s 1)
def f248j2 (Q:AV→St→Prop) (ih1:AV→AV→AV→AV→St→Prop) (t8 t0 t1 t7:AV) (s:St):Prop :=
 Bnd (bn .add 3 t8 (.int .i64 1)) fun t18 =>
 ih1 t0 t1 t7 t18 (adv s 2)
def f248l1s (Q:AV→St→Prop) (ih1:AV→AV→AV→AV→St→Prop) (t0 t1 t7 t8:AV) (s:St):Prop :=
 Bnd (bn .lss 3 t8 t7) fun t9 =>
 IfP t9
 (Bnd (ixS 1 t0 t8) fun t14 =>
 Bnd (ld 1 false t14 (adv s 9)) fun t15 =>
 Bnd (bn .eql 9 t1 t15) fun t16 =>
 IfP t16
 (Q t8 (adv s 11))
 (f248j2 Q ih1 t8 t0 t1 t7 (adv s 9)))
 (f248j1 Q (adv s 1))
def f248l1 (Q:AV→St→Prop) (n:Nat):AV→AV→AV→AV→St→Prop:=Nat.rec (motive:=fun _=>AV→AV→AV→AV→St→Prop) (fun _ _ _ _ _=>False) (fun _ ih=>f248l1s Q ih) n
theorem f248j1_eq (Q:AV→St→Prop):f248C (sub f248B [Y,Y]) (f248R Q) (fun _ _ _=>False) (f248R Q) = (fun g s=>f248j1 Q s) :=
 Eq.trans rfl (by kernel_rfl)
theorem f248j2_eq (Q:AV→St→Prop) (n1:Nat):f248C (sub f248B [Y,N,Y,N,N,Y,Y,Y]) (fun g s=>(fun (n:Nat) (g:Gf) (s:St)=>f248l1 Q n (g 0) (g 1) (g 7) (g 8) s) n1 (fun k=>cond (bitOf (Tryz.env.kp 248) k) (g k) .undef) s) (fun i=>cond (Nat.beq i 0) (fun g s=>f248j1 Q s) ((fun _ _ _=>False) i)) (f248R Q) = (fun g s=>f248j2 Q (f248l1 Q n1) (g 8) (g 0) (g 1) (g 7) s) :=
 Eq.trans rfl (by kernel_rfl)
theorem f248l1_eq (Q:AV→St→Prop) (kN:Kt):f248C (sub f248B [Y,N,Y,N]) kN (fun i=>cond (Nat.beq i 0) (fun g s=>f248j1 Q s) ((fun _ _ _=>False) i)) (f248R Q) = fun g s=>∃ n,(fun (n:Nat) (g:Gf) (s:St)=>f248l1 Q n (g 0) (g 1) (g 7) (g 8) s) n g s :=
 loop_eq (L:=fun (n:Nat) (g:Gf) (s:St)=>f248l1 Q n (g 0) (g 1) (g 7) (g 8) s) (by kernel_rfl:(sub f248B [Y,N,Y,N]) = .loop (sub f248B [Y,N,Y,N,N])) (by kernel_rfl) (fun n1=>Eq.trans (seq_eq (by kernel_rfl:(sub f248B [Y,N,Y,N,N]) = .seq (sub f248B [Y,N,Y,N,N,N]) (sub f248B [Y,N,Y,N,N,Y])) (seq_eq (by kernel_rfl:(sub f248B [Y,N,Y,N,N,Y]) = .seq (sub f248B [Y,N,Y,N,N,Y,N]) (sub f248B [Y,N,Y,N,N,Y,Y])) (seq_eq (by kernel_rfl:(sub f248B [Y,N,Y,N,N,Y,Y]) = .seq (sub f248B [Y,N,Y,N,N,Y,Y,N]) (sub f248B [Y,N,Y,N,N,Y,Y,Y])) (f248j2_eq Q n1) (block_eq (by kernel_rfl:(sub f248B [Y,N,Y,N,N,Y,Y,N]) = .block 1 (sub f248B [Y,N,Y,N,N,Y,Y,N,N])) rfl)) rfl) rfl) (by kernel_rfl))
def f248 (Q:AV→St→Prop) (t0 t1:AV) (s:St):Prop :=
 Bnd (bt .len #[52] [t0] (s.nx + 2) (adv s 4)) fun r7 =>
 ∃ n,f248l1 Q n t0 t1 r7.1 (.int .i64 0) r7.2
theorem f248_run (t0 t1:AV) (s:St) {Q:AV→St→Prop} (h:f248 Q t0 t1 s):∃ r s',WideC Tryz.env 248 [t0,t1] s r s'∧Q r s' :=
 wide_ofA (h:=248) (fn:=Tryz.f248) (c:=sub f248B []) (show f248C (sub f248B []) (f248R Q) (fun _ _ _=>False) (f248R Q) = _ from (seq_eq (by kernel_rfl:(sub f248B []) = .seq (sub f248B [N]) (sub f248B [Y])) (seq_eq (by kernel_rfl:(sub f248B [Y]) = .seq (sub f248B [Y,N]) (sub f248B [Y,Y])) (f248j1_eq Q) (seq_eq (by kernel_rfl:(sub f248B [Y,N]) = .seq (sub f248B [Y,N,N]) (sub f248B [Y,N,Y])) (block_eq (by kernel_rfl:(sub f248B [Y,N,Y]) = .block 0 (sub f248B [Y,N,Y,N])) (f248l1_eq Q _)) rfl)) rfl)) h
abbrev f192B:Code:=bodyOf Tryz.f192
abbrev f192R:=rK Tryz.f192
abbrev f192C:=codeP Tryz.env 192 (Tryz.env.kp 192)
def f192j1 (Q:AV→St→Prop) (s:St):Prop :=
 Q (.bool false) (adv s 1)
def f192j2 (Q:AV→St→Prop) (ih1:AV→AV→AV→AV→St→Prop) (t7 t0 t5 t6:AV) (s:St):Prop :=
 Bnd (bn .add 3 t7 (.int .i64 1)) fun t17 =>
 ih1 t0 t5 t6 t17 (adv s 2)
def f192l1s (Q:AV→St→Prop) (ih1:AV→AV→AV→AV→St→Prop) (t0 t5 t6 t7:AV) (s:St):Prop :=
 Bnd (bn .lss 3 t7 t6) fun t8 =>
 IfP t8
 (Bnd (ixS 1 t5 t7) fun t10 =>
 Bnd (ld 1 false t10 (adv s 6)) fun t11 =>
 Bnd (slc 52 t0 none (some t7) none (adv s 11)) fun t14 =>
 CallPu Tryz.env 221 [t14,t11] (adv s 11) fun t16 s1 =>
 IfP t16
 (Q (.bool true) (adv s1 1))
 (f192j2 Q ih1 t7 t0 t5 t6 s1))
 (f192j1 Q (adv s 1))
def f192l1 (Q:AV→St→Prop) (n:Nat):AV→AV→AV→AV→St→Prop:=Nat.rec (motive:=fun _=>AV→AV→AV→AV→St→Prop) (fun _ _ _ _ _=>False) (fun _ ih=>f192l1s Q ih) n
theorem f192j1_eq (Q:AV→St→Prop):f192C (sub f192B [Y,Y]) (f192R Q) (fun _ _ _=>False) (f192R Q) = (fun g s=>f192j1 Q s) :=
 Eq.trans rfl (by kernel_rfl)
theorem f192j2_eq (Q:AV→St→Prop) (n1:Nat):f192C (sub f192B [Y,N,Y,N,N,Y,Y,Y]) (fun g s=>(fun (n:Nat) (g:Gf) (s:St)=>f192l1 Q n (g 0) (g 5) (g 6) (g 7) s) n1 (fun k=>cond (bitOf (Tryz.env.kp 192) k) (g k) .undef) s) (fun i=>cond (Nat.beq i 0) (fun g s=>f192j1 Q s) ((fun _ _ _=>False) i)) (f192R Q) = (fun g s=>f192j2 Q (f192l1 Q n1) (g 7) (g 0) (g 5) (g 6) s) :=
 Eq.trans rfl (by kernel_rfl)
theorem f192l1_eq (Q:AV→St→Prop) (kN:Kt):f192C (sub f192B [Y,N,Y,N]) kN (fun i=>cond (Nat.beq i 0) (fun g s=>f192j1 Q s) ((fun _ _ _=>False) i)) (f192R Q) = fun g s=>∃ n,(fun (n:Nat) (g:Gf) (s:St)=>f192l1 Q n (g 0) (g 5) (g 6) (g 7) s) n g s :=
 loop_eq (L:=fun (n:Nat) (g:Gf) (s:St)=>f192l1 Q n (g 0) (g 5) (g 6) (g 7) s) (by kernel_rfl:(sub f192B [Y,N,Y,N]) = .loop (sub f192B [Y,N,Y,N,N])) (by kernel_rfl) (fun n1=>Eq.trans (seq_eq (by kernel_rfl:(sub f192B [Y,N,Y,N,N]) = .seq (sub f192B [Y,N,Y,N,N,N]) (sub f192B [Y,N,Y,N,N,Y])) (seq_eq (by kernel_rfl:(sub f192B [Y,N,Y,N,N,Y]) = .seq (sub f192B [Y,N,Y,N,N,Y,N]) (sub f192B [Y,N,Y,N,N,Y,Y])) (seq_eq (by kernel_rfl:(sub f192B [Y,N,Y,N,N,Y,Y]) = .seq (sub f192B [Y,N,Y,N,N,Y,Y,N]) (sub f192B [Y,N,Y,N,N,Y,Y,Y])) (f192j2_eq Q n1) (block_eq (by kernel_rfl:(sub f192B [Y,N,Y,N,N,Y,Y,N]) = .block 1 (sub f192B [Y,N,Y,N,N,Y,Y,N,N])) rfl)) rfl) rfl) (by kernel_rfl))
def f192 (Q:AV→St→Prop) (t0:AV) (s:St):Prop :=
 Bnd (bt .len #[52] [t0] (s.nx + 2) (adv s 4)) fun r6 =>
 ∃ n,f192l1 Q n t0 t0 r6.1 (.int .i64 0) r6.2
theorem f192_run (t0:AV) (s:St) {Q:AV→St→Prop} (h:f192 Q t0 s):∃ r s',WideC Tryz.env 192 [t0] s r s'∧Q r s' :=
 wide_ofA (h:=192) (fn:=Tryz.f192) (c:=sub f192B []) (show f192C (sub f192B []) (f192R Q) (fun _ _ _=>False) (f192R Q) = _ from (seq_eq (by kernel_rfl:(sub f192B []) = .seq (sub f192B [N]) (sub f192B [Y])) (seq_eq (by kernel_rfl:(sub f192B [Y]) = .seq (sub f192B [Y,N]) (sub f192B [Y,Y])) (f192j1_eq Q) (seq_eq (by kernel_rfl:(sub f192B [Y,N]) = .seq (sub f192B [Y,N,N]) (sub f192B [Y,N,Y])) (block_eq (by kernel_rfl:(sub f192B [Y,N,Y]) = .block 0 (sub f192B [Y,N,Y,N])) (f192l1_eq Q _)) rfl)) rfl)) h
end
noncomputable section
set_option maxRecDepth 1000000
abbrev f175B:Code:=bodyOf Tryz.f175
abbrev f175R:=rK Tryz.f175
abbrev f175C:=codeP Tryz.env 175 (Tryz.env.kp 175)
def f175j1 (Q:AV→St→Prop) (s:St):Prop :=
 Q (.tup [(.int .i64 0),(.bool false)]) (adv s 2)
def f175j2 (Q:AV→St→Prop) (ih1:AV→AV→AV→St→Prop) (t6 t0 t1:AV) (s:St):Prop :=
 Bnd (bn .sub 3 t6 (.int .i64 1)) fun t17 =>
 ih1 t0 t1 t17 (adv s 3)
def f175j3 (Q:AV→St→Prop) (ih1:AV→AV→AV→St→Prop) (ih2:AV→AV→AV→AV→St→Prop) (t7 t0 t1 t6:AV) (s:St):Prop :=
 Bnd (bn .sub 3 t7 (.int .i64 1)) fun t31 =>
 ih2 t0 t1 t6 t31 (adv s 3)
def f175l2s (Q:AV→St→Prop) (ih1:AV→AV→AV→St→Prop) (ih2:AV→AV→AV→AV→St→Prop) (t0 t1 t6 t7:AV) (s:St):Prop :=
 Bnd (bn .geq 3 t7 (.int .i64 0)) fun t29 =>
 IfP t29
 ((nilOk t0 = true ∧
 Bnd (shiftP 2 t0) fun t34 =>
 Bnd (ld 1 false t34 (adv s 15)) fun t35 =>
 Bnd (ixS 2 t35 t6) fun t37 =>
 Bnd (shiftP 0 t37) fun t38 =>
 Bnd (ld 1 false t38 (adv s 15)) fun t39 =>
 Bnd (ixS 1 t39 t7) fun t41 =>
 Bnd (ld 1 false t41 (adv s 15)) fun t42 =>
 Bnd (bn .eql 9 t42 t1) fun t44 =>
 IfP t44
 ((nilOk t0 = true ∧
 Bnd (shiftP 2 t0) fun t47 =>
 Bnd (ld 1 false t47 (adv s 28)) fun t48 =>
 Bnd (ixS 2 t48 t6) fun t50 =>
 Bnd (shiftP 1 t50) fun t51 =>
 Bnd (ld 1 false t51 (adv s 28)) fun t52 =>
 Bnd (ixS 1 t52 t7) fun t54 =>
 Bnd (ld 1 false t54 (adv s 28)) fun t55 =>
 Q (.tup [t55,(.bool true)]) (adv s 28)))
 (f175j3 Q ih1 ih2 t7 t0 t1 t6 (adv s 15))))
 (f175j2 Q ih1 t6 t0 t1 (adv s 2))
def f175l2 (Q:AV→St→Prop) (ih1:AV→AV→AV→St→Prop) (n:Nat):AV→AV→AV→AV→St→Prop:=Nat.rec (motive:=fun _=>AV→AV→AV→AV→St→Prop) (fun _ _ _ _ _=>False) (fun _ ih=>f175l2s Q ih1 ih) n
def f175l1s (Q:AV→St→Prop) (ih1:AV→AV→AV→St→Prop) (t0 t1 t6:AV) (s:St):Prop :=
 Bnd (bn .geq 3 t6 (.int .i64 0)) fun t15 =>
 IfP t15
 ((nilOk t0 = true ∧
 Bnd (shiftP 2 t0) fun t20 =>
 Bnd (ld 1 false t20 (adv s 13)) fun t21 =>
 Bnd (ixS 2 t21 t6) fun t23 =>
 Bnd (shiftP 0 t23) fun t24 =>
 Bnd (ld 1 false t24 (adv s 13)) fun t25 =>
 Bnd (bt .len #[52] [t25] (s.nx + 10) (adv s 13)) fun r26 =>
 Bnd (bn .sub 3 r26.1 (.int .i64 1)) fun t27 =>
 ∃ n,f175l2 Q ih1 n t0 t1 t6 t27 r26.2))
 (f175j1 Q (adv s 2))
def f175l1 (Q:AV→St→Prop) (n:Nat):AV→AV→AV→St→Prop:=Nat.rec (motive:=fun _=>AV→AV→AV→St→Prop) (fun _ _ _ _=>False) (fun _ ih=>f175l1s Q ih) n
theorem f175j1_eq (Q:AV→St→Prop):f175C (sub f175B [Y,Y]) (f175R Q) (fun _ _ _=>False) (f175R Q) = (fun g s=>f175j1 Q s) :=
 Eq.trans rfl (by kernel_rfl)
theorem f175j2_eq (Q:AV→St→Prop) (n1:Nat):f175C (sub f175B [Y,N,Y,N,N,Y,Y]) (fun g s=>(fun (n:Nat) (g:Gf) (s:St)=>f175l1 Q n (g 0) (g 1) (g 6) s) n1 (fun k=>cond (bitOf (Tryz.env.kp 175) k) (g k) .undef) s) (fun i=>cond (Nat.beq i 0) (fun g s=>f175j1 Q s) ((fun _ _ _=>False) i)) (f175R Q) = (fun g s=>f175j2 Q (f175l1 Q n1) (g 6) (g 0) (g 1) s) :=
 Eq.trans rfl (by kernel_rfl)
theorem f175j3_eq (Q:AV→St→Prop) (n1:Nat) (n2:Nat):f175C (sub f175B [Y,N,Y,N,N,Y,N,N,Y,N,N,Y,Y]) (fun g s=>(fun (n:Nat) (g:Gf) (s:St)=>f175l2 Q (f175l1 Q n1) n (g 0) (g 1) (g 6) (g 7) s) n2 (fun k=>cond (bitOf (Tryz.env.kp 175) k) (g k) .undef) s) (fun i=>cond (Nat.beq i 2) (fun g s=>f175j2 Q (f175l1 Q n1) (g 6) (g 0) (g 1) s) ((fun i=>cond (Nat.beq i 1) (fun g s=>f175j2 Q (f175l1 Q n1) (g 6) (g 0) (g 1) s) ((fun i=>cond (Nat.beq i 0) (fun g s=>f175j1 Q s) ((fun _ _ _=>False) i)) i)) i)) (f175R Q) = (fun g s=>f175j3 Q (f175l1 Q n1) (f175l2 Q (f175l1 Q n1) n2) (g 7) (g 0) (g 1) (g 6) s) :=
 Eq.trans rfl (by kernel_rfl)
theorem f175l2_eq (Q:AV→St→Prop) (n1:Nat) (kN:Kt):f175C (sub f175B [Y,N,Y,N,N,Y,N,N,Y,N]) kN (fun i=>cond (Nat.beq i 2) (fun g s=>f175j2 Q (f175l1 Q n1) (g 6) (g 0) (g 1) s) ((fun i=>cond (Nat.beq i 1) (fun g s=>f175j2 Q (f175l1 Q n1) (g 6) (g 0) (g 1) s) ((fun i=>cond (Nat.beq i 0) (fun g s=>f175j1 Q s) ((fun _ _ _=>False) i)) i)) i)) (f175R Q) = fun g s=>∃ n,(fun (n:Nat) (g:Gf) (s:St)=>f175l2 Q (f175l1 Q n1) n (g 0) (g 1) (g 6) (g 7) s) n g s :=
 loop_eq (L:=fun (n:Nat) (g:Gf) (s:St)=>f175l2 Q (f175l1 Q n1) n (g 0) (g 1) (g 6) (g 7) s) (by kernel_rfl:(sub f175B [Y,N,Y,N,N,Y,N,N,Y,N]) = .loop (sub f175B [Y,N,Y,N,N,Y,N,N,Y,N,N])) (by kernel_rfl) (fun n2=>Eq.trans (seq_eq (by kernel_rfl:(sub f175B [Y,N,Y,N,N,Y,N,N,Y,N,N]) = .seq (sub f175B [Y,N,Y,N,N,Y,N,N,Y,N,N,N]) (sub f175B [Y,N,Y,N,N,Y,N,N,Y,N,N,Y])) (seq_eq (by kernel_rfl:(sub f175B [Y,N,Y,N,N,Y,N,N,Y,N,N,Y]) = .seq (sub f175B [Y,N,Y,N,N,Y,N,N,Y,N,N,Y,N]) (sub f175B [Y,N,Y,N,N,Y,N,N,Y,N,N,Y,Y])) (f175j3_eq Q n1 n2) (block_eq (by kernel_rfl:(sub f175B [Y,N,Y,N,N,Y,N,N,Y,N,N,Y,N]) = .block 3 (sub f175B [Y,N,Y,N,N,Y,N,N,Y,N,N,Y,N,N])) rfl)) rfl) (by kernel_rfl))
theorem f175l1_eq (Q:AV→St→Prop) (kN:Kt):f175C (sub f175B [Y,N,Y,N]) kN (fun i=>cond (Nat.beq i 0) (fun g s=>f175j1 Q s) ((fun _ _ _=>False) i)) (f175R Q) = fun g s=>∃ n,(fun (n:Nat) (g:Gf) (s:St)=>f175l1 Q n (g 0) (g 1) (g 6) s) n g s :=
 loop_eq (L:=fun (n:Nat) (g:Gf) (s:St)=>f175l1 Q n (g 0) (g 1) (g 6) s) (by kernel_rfl:(sub f175B [Y,N,Y,N]) = .loop (sub f175B [Y,N,Y,N,N])) (by kernel_rfl) (fun n1=>Eq.trans (seq_eq (by kernel_rfl:(sub f175B [Y,N,Y,N,N]) = .seq (sub f175B [Y,N,Y,N,N,N]) (sub f175B [Y,N,Y,N,N,Y])) (seq_eq (by kernel_rfl:(sub f175B [Y,N,Y,N,N,Y]) = .seq (sub f175B [Y,N,Y,N,N,Y,N]) (sub f175B [Y,N,Y,N,N,Y,Y])) (f175j2_eq Q n1) (block_eq (by kernel_rfl:(sub f175B [Y,N,Y,N,N,Y,N]) = .block 1 (sub f175B [Y,N,Y,N,N,Y,N,N])) (seq_eq (by kernel_rfl:(sub f175B [Y,N,Y,N,N,Y,N,N]) = .seq (sub f175B [Y,N,Y,N,N,Y,N,N,N]) (sub f175B [Y,N,Y,N,N,Y,N,N,Y])) (block_eq (by kernel_rfl:(sub f175B [Y,N,Y,N,N,Y,N,N,Y]) = .block 2 (sub f175B [Y,N,Y,N,N,Y,N,N,Y,N])) (f175l2_eq Q n1 _)) rfl))) rfl) (by kernel_rfl))
def f175 (Q:AV→St→Prop) (t0 t1:AV) (s:St):Prop :=
 (nilOk t0 = true ∧
 Bnd (shiftP 2 t0) fun t10 =>
 Bnd (ld 1 false t10 (adv s 9)) fun t11 =>
 Bnd (bt .len #[122] [t11] (s.nx + 6) (adv s 9)) fun r12 =>
 Bnd (bn .sub 3 r12.1 (.int .i64 1)) fun t13 =>
 ∃ n,f175l1 Q n t0 t1 t13 r12.2)
theorem f175_run (t0 t1:AV) (s:St) {Q:AV→St→Prop} (h:f175 Q t0 t1 s):∃ r s',WideC Tryz.env 175 [t0,t1] s r s'∧Q r s' :=
 wide_ofA (h:=175) (fn:=Tryz.f175) (c:=sub f175B []) (show f175C (sub f175B []) (f175R Q) (fun _ _ _=>False) (f175R Q) = _ from (seq_eq (by kernel_rfl:(sub f175B []) = .seq (sub f175B [N]) (sub f175B [Y])) (seq_eq (by kernel_rfl:(sub f175B [Y]) = .seq (sub f175B [Y,N]) (sub f175B [Y,Y])) (f175j1_eq Q) (seq_eq (by kernel_rfl:(sub f175B [Y,N]) = .seq (sub f175B [Y,N,N]) (sub f175B [Y,N,Y])) (block_eq (by kernel_rfl:(sub f175B [Y,N,Y]) = .block 0 (sub f175B [Y,N,Y,N])) (f175l1_eq Q _)) rfl)) rfl)) h
abbrev f174B:Code:=bodyOf Tryz.f174
abbrev f174R:=rK Tryz.f174
abbrev f174C:=codeP Tryz.env 174 (Tryz.env.kp 174)
def f174j1 (Q:AV→St→Prop) (s:St):Prop :=
 Q (.int .i64 (-1)) (adv s 1)
def f174j2 (Q:AV→St→Prop) (ih1:AV→AV→AV→St→Prop) (t5 t0 t1:AV) (s:St):Prop :=
 Bnd (bn .sub 3 t5 (.int .i64 1)) fun t15 =>
 ih1 t0 t1 t15 (adv s 3)
def f174l1s (Q:AV→St→Prop) (ih1:AV→AV→AV→St→Prop) (t0 t1 t5:AV) (s:St):Prop :=
 Bnd (bn .geq 3 t5 (.int .i64 0)) fun t13 =>
 IfP t13
 ((nilOk t0 = true ∧
 Bnd (shiftP 1 t0) fun t18 =>
 Bnd (ld 1 false t18 (adv s 12)) fun t19 =>
 Bnd (ixS 10 t19 t5) fun t21 =>
 Bnd (shiftP 0 t21) fun t22 =>
 Bnd (ld 1 false t22 (adv s 12)) fun t23 =>
 Bnd (bn .eql 9 t23 t1) fun t25 =>
 IfP t25
 (Q t5 (adv s 14))
 (f174j2 Q ih1 t5 t0 t1 (adv s 12))))
 (f174j1 Q (adv s 2))
def f174l1 (Q:AV→St→Prop) (n:Nat):AV→AV→AV→St→Prop:=Nat.rec (motive:=fun _=>AV→AV→AV→St→Prop) (fun _ _ _ _=>False) (fun _ ih=>f174l1s Q ih) n
theorem f174j1_eq (Q:AV→St→Prop):f174C (sub f174B [Y,Y]) (f174R Q) (fun _ _ _=>False) (f174R Q) = (fun g s=>f174j1 Q s) :=
 Eq.trans rfl (by kernel_rfl)
theorem f174j2_eq (Q:AV→St→Prop) (n1:Nat):f174C (sub f174B [Y,N,Y,N,N,Y,Y]) (fun g s=>(fun (n:Nat) (g:Gf) (s:St)=>f174l1 Q n (g 0) (g 1) (g 5) s) n1 (fun k=>cond (bitOf (Tryz.env.kp 174) k) (g k) .undef) s) (fun i=>cond (Nat.beq i 0) (fun g s=>f174j1 Q s) ((fun _ _ _=>False) i)) (f174R Q) = (fun g s=>f174j2 Q (f174l1 Q n1) (g 5) (g 0) (g 1) s) :=
 Eq.trans rfl (by kernel_rfl)
theorem f174l1_eq (Q:AV→St→Prop) (kN:Kt):f174C (sub f174B [Y,N,Y,N]) kN (fun i=>cond (Nat.beq i 0) (fun g s=>f174j1 Q s) ((fun _ _ _=>False) i)) (f174R Q) = fun g s=>∃ n,(fun (n:Nat) (g:Gf) (s:St)=>f174l1 Q n (g 0) (g 1) (g 5) s) n g s :=
 loop_eq (L:=fun (n:Nat) (g:Gf) (s:St)=>f174l1 Q n (g 0) (g 1) (g 5) s) (by kernel_rfl:(sub f174B [Y,N,Y,N]) = .loop (sub f174B [Y,N,Y,N,N])) (by kernel_rfl) (fun n1=>Eq.trans (seq_eq (by kernel_rfl:(sub f174B [Y,N,Y,N,N]) = .seq (sub f174B [Y,N,Y,N,N,N]) (sub f174B [Y,N,Y,N,N,Y])) (seq_eq (by kernel_rfl:(sub f174B [Y,N,Y,N,N,Y]) = .seq (sub f174B [Y,N,Y,N,N,Y,N]) (sub f174B [Y,N,Y,N,N,Y,Y])) (f174j2_eq Q n1) (block_eq (by kernel_rfl:(sub f174B [Y,N,Y,N,N,Y,N]) = .block 1 (sub f174B [Y,N,Y,N,N,Y,N,N])) rfl)) rfl) (by kernel_rfl))
def f174 (Q:AV→St→Prop) (t0 t1:AV) (s:St):Prop :=
 (nilOk t0 = true ∧
 Bnd (shiftP 1 t0) fun t8 =>
 Bnd (ld 1 false t8 (adv s 8)) fun t9 =>
 Bnd (bt .len #[49] [t9] (s.nx + 5) (adv s 8)) fun r10 =>
 Bnd (bn .sub 3 r10.1 (.int .i64 1)) fun t11 =>
 ∃ n,f174l1 Q n t0 t1 t11 r10.2)
theorem f174_run (t0 t1:AV) (s:St) {Q:AV→St→Prop} (h:f174 Q t0 t1 s):∃ r s',WideC Tryz.env 174 [t0,t1] s r s'∧Q r s' :=
 wide_ofA (h:=174) (fn:=Tryz.f174) (c:=sub f174B []) (show f174C (sub f174B []) (f174R Q) (fun _ _ _=>False) (f174R Q) = _ from (seq_eq (by kernel_rfl:(sub f174B []) = .seq (sub f174B [N]) (sub f174B [Y])) (seq_eq (by kernel_rfl:(sub f174B [Y]) = .seq (sub f174B [Y,N]) (sub f174B [Y,Y])) (f174j1_eq Q) (seq_eq (by kernel_rfl:(sub f174B [Y,N]) = .seq (sub f174B [Y,N,N]) (sub f174B [Y,N,Y])) (block_eq (by kernel_rfl:(sub f174B [Y,N,Y]) = .block 0 (sub f174B [Y,N,Y,N])) (f174l1_eq Q _)) rfl)) rfl)) h
abbrev f177B:Code:=bodyOf Tryz.f177
abbrev f177R:=rK Tryz.f177
abbrev f177C:=codeP Tryz.env 177 (Tryz.env.kp 177)
def f177j1 (Q:AV→St→Prop) (t6:AV) (s:St):Prop :=
 Q (.tup [t6,(.int .i64 0)]) (adv s 3)
def f177j2 (Q:AV→St→Prop) (ih1:AV→AV→AV→AV→AV→St→Prop) (t13 t1 t6 t11 t12:AV) (s:St):Prop :=
 Bnd (bn .add 3 t13 (.int .i64 1)) fun t30 =>
 ih1 t1 t6 t11 t12 t30 (adv s 2)
def f177l1s (Q:AV→St→Prop) (ih1:AV→AV→AV→AV→AV→St→Prop) (t1 t6 t11 t12 t13:AV) (s:St):Prop :=
 Bnd (bn .lss 3 t13 t12) fun t14 =>
 IfP t14
 (Bnd (ixS 6 t11 t13) fun t15 =>
 Bnd (ld 6 true t15 (adv s 5)) fun t16 =>
 Bnd (zr 33) fun z8 =>
 Bnd (sto 6 (.ptr (s.nx + 3) 0) t16 ((adv s 5).set (s.nx + 3) (some (.cells z8.cells 33 true true)))) fun s1 =>
 Bnd (ld 6 true (.ptr (s.nx + 3) 0) (adv s1 8)) fun t19 =>
 CallV Tryz.env 177 t1 [t19] (adv s1 8) fun t20 s2 =>
 Bnd (extr t20 0) fun t21 =>
 Bnd (extr t20 1) fun t22 =>
 Bnd (bn .neq 34 t22 (.int .i64 0)) fun t24 =>
 IfP t24
 (Q (.tup [.nils,t22]) (adv s2 5))
 (Bnd (bsl 72 1 [(0,t21)]) fun t28 =>
 Bnd (bt .append #[72,72] [t6,t28] (s2.nx + 5) (adv s2 7)) fun r29 =>
 f177j2 Q ih1 t13 t1 r29.1 t11 t12 r29.2))
 (f177j1 Q t6 (adv s 1))
def f177l1 (Q:AV→St→Prop) (n:Nat):AV→AV→AV→AV→AV→St→Prop:=Nat.rec (motive:=fun _=>AV→AV→AV→AV→AV→St→Prop) (fun _ _ _ _ _ _=>False) (fun _ ih=>f177l1s Q ih) n
theorem f177j1_eq (Q:AV→St→Prop):f177C (sub f177B [Y,Y,Y]) (f177R Q) (fun _ _ _=>False) (f177R Q) = (fun g s=>f177j1 Q (g 6) s) :=
 Eq.trans rfl (by kernel_rfl)
theorem f177j2_eq (Q:AV→St→Prop) (n1:Nat):f177C (sub f177B [Y,Y,N,Y,N,N,Y,Y,Y]) (fun g s=>(fun (n:Nat) (g:Gf) (s:St)=>f177l1 Q n (g 1) (g 6) (g 11) (g 12) (g 13) s) n1 (fun k=>cond (bitOf (Tryz.env.kp 177) k) (g k) .undef) s) (fun i=>cond (Nat.beq i 0) (fun g s=>f177j1 Q (g 6) s) ((fun _ _ _=>False) i)) (f177R Q) = (fun g s=>f177j2 Q (f177l1 Q n1) (g 13) (g 1) (g 6) (g 11) (g 12) s) :=
 Eq.trans rfl (by kernel_rfl)
theorem f177l1_eq (Q:AV→St→Prop) (kN:Kt):f177C (sub f177B [Y,Y,N,Y,N]) kN (fun i=>cond (Nat.beq i 0) (fun g s=>f177j1 Q (g 6) s) ((fun _ _ _=>False) i)) (f177R Q) = fun g s=>∃ n,(fun (n:Nat) (g:Gf) (s:St)=>f177l1 Q n (g 1) (g 6) (g 11) (g 12) (g 13) s) n g s :=
 loop_eq (L:=fun (n:Nat) (g:Gf) (s:St)=>f177l1 Q n (g 1) (g 6) (g 11) (g 12) (g 13) s) (by kernel_rfl:(sub f177B [Y,Y,N,Y,N]) = .loop (sub f177B [Y,Y,N,Y,N,N])) (by kernel_rfl) (fun n1=>Eq.trans (seq_eq (by kernel_rfl:(sub f177B [Y,Y,N,Y,N,N]) = .seq (sub f177B [Y,Y,N,Y,N,N,N]) (sub f177B [Y,Y,N,Y,N,N,Y])) (seq_eq (by kernel_rfl:(sub f177B [Y,Y,N,Y,N,N,Y]) = .seq (sub f177B [Y,Y,N,Y,N,N,Y,N]) (sub f177B [Y,Y,N,Y,N,N,Y,Y])) (seq_eq (by kernel_rfl:(sub f177B [Y,Y,N,Y,N,N,Y,Y]) = .seq (sub f177B [Y,Y,N,Y,N,N,Y,Y,N]) (sub f177B [Y,Y,N,Y,N,N,Y,Y,Y])) (f177j2_eq Q n1) (block_eq (by kernel_rfl:(sub f177B [Y,Y,N,Y,N,N,Y,Y,N]) = .block 1 (sub f177B [Y,Y,N,Y,N,N,Y,Y,N,N])) rfl)) rfl) rfl) (by kernel_rfl))
def f177 (Q:AV→St→Prop) (t0 t1:AV) (s:St):Prop :=
 Bnd (bt .len #[31] [t0] (s.nx + 4) (adv s 6)) fun r12 =>
 ∃ n,f177l1 Q n t1 .nils t0 r12.1 (.int .i64 0) r12.2
theorem f177_run (t0 t1:AV) (s:St) {Q:AV→St→Prop} (h:f177 Q t0 t1 s):∃ r s',WideC Tryz.env 177 [t0,t1] s r s'∧Q r s' :=
 wide_ofA (h:=177) (fn:=Tryz.f177) (c:=sub f177B []) (show f177C (sub f177B []) (f177R Q) (fun _ _ _=>False) (f177R Q) = _ from (seq_eq (by kernel_rfl:(sub f177B []) = .seq (sub f177B [N]) (sub f177B [Y])) (seq_eq (by kernel_rfl:(sub f177B [Y]) = .seq (sub f177B [Y,N]) (sub f177B [Y,Y])) (seq_eq (by kernel_rfl:(sub f177B [Y,Y]) = .seq (sub f177B [Y,Y,N]) (sub f177B [Y,Y,Y])) (f177j1_eq Q) (seq_eq (by kernel_rfl:(sub f177B [Y,Y,N]) = .seq (sub f177B [Y,Y,N,N]) (sub f177B [Y,Y,N,Y])) (block_eq (by kernel_rfl:(sub f177B [Y,Y,N,Y]) = .block 0 (sub f177B [Y,Y,N,Y,N])) (f177l1_eq Q _)) rfl)) rfl) rfl)) h
abbrev f178B:Code:=bodyOf Tryz.f178
abbrev f178R:=rK Tryz.f178
abbrev f178C:=codeP Tryz.env 178 (Tryz.env.kp 178)
def f178j2 (Q:AV→St→Prop) (t19 t20:AV) (s:St):Prop :=
 Q (.tup [t19,t20]) (adv s 4)
def f178j1 (Q:AV→St→Prop) (t1 t9 t0 t10 t8:AV) (s:St):Prop :=
 CallPu Tryz.env 206 [t1] (adv s 4) fun t78 s1 =>
 Bnd (bn .add 9 (.str [102]) t78) fun t79 =>
 CallWi Tryz.env 156 [t9,t79] s1 fun t80 s2 =>
 (nilOk t0 = true ∧
 Bnd (shiftP 3 t0) fun t84 =>
 Bnd (ld 1 false t84 (adv s2 11)) fun t85 =>
 (clear 0 ⟨4,true,rch (adv s2 11) [(.fn 108 [] []),t9],some (adv s2 11).nx⟩ [⟨3,false,idOf t84,none⟩,⟨2,false,[],none⟩,⟨1,false,[],none⟩,⟨0,false,[],none⟩] = true∧CallWiD Tryz.env 108 [t9] (rch (adv s2 11) [(.fn 108 [] []),t9]) (adv s2 11) fun t86 s3 =>
 Bnd (lookupA Tryz.ty 53 t85 t86 true s3) fun t87 =>
 Bnd (extr t87 0) fun t88 =>
 Bnd (extr t87 1) fun t89 =>
 IfP t89
 (Q (.tup [t88,(.int .i64 0)]) (adv s3 4))
 ((nilOk t0 = true ∧
 Bnd (shiftP 2 t0) fun t94 =>
 Bnd (ld 1 false t94 (adv s3 11)) fun t95 =>
 (nilOk t0 = true ∧
 Bnd (shiftP 1 t0) fun t98 =>
 Bnd (ld 1 false t98 (adv s3 11)) fun t99 =>
 Bnd (ld 2 true t10 (adv s3 24)) fun t102 =>
 Bnd (bsl 122 1 [(0,t102)]) fun t103 =>
 Bnd (slc 49 t99 none (some t1) none (adv s3 24)) fun t106 =>
 (nilOk t0 = true ∧
 Bnd (shiftP 2 t0) fun t108 =>
 (clear 397 ⟨9,true,(s3.nx + 20) :: idOf t108,none⟩ [⟨8,false,[],none⟩,⟨7,false,[],none⟩,⟨6,false,idOf t99,none⟩,⟨5,false,[],none⟩,⟨4,false,[],none⟩,⟨3,false,[],none⟩,⟨2,false,idOf t10,none⟩,⟨1,false,[],none⟩,⟨0,false,[],none⟩] = true∧(adv s3 24).h (s3.nx + 20) = none∧Bnd (sto 1 t108 t103 (adv s3 24)) fun s4 =>
 (nilOk t0 = true ∧
 Bnd (shiftP 1 t0) fun t110 =>
 (s4.h (s3.nx + 23) = none∧Bnd (sto 1 t110 t106 s4) fun s5 =>
 Bnd (shiftP 4 t8) fun t113 =>
 Bnd (ld 6 true t113 (adv s5 9)) fun t114 =>
 CallWi Tryz.env 75 [t0,t114] (adv s5 9) fun t115 s6 =>
 Bnd (extr t115 0) fun t116 =>
 Bnd (extr t115 1) fun t117 =>
 (nilOk t0 = true ∧
 Bnd (shiftP 2 t0) fun t123 =>
 Bnd (sto 1 t123 t95 (adv s6 10)) fun s7 =>
 (nilOk t0 = true ∧
 Bnd (shiftP 1 t0) fun t125 =>
 Bnd (sto 1 t125 t99 s7) fun s8 =>
 Bnd (bn .eql 34 t117 (.int .i64 0)) fun t127 =>
 IfP t127
 ((nilOk t0 = true ∧
 Bnd (shiftP 3 t0) fun t130 =>
 Bnd (ld 1 false t130 (adv s8 9)) fun t131 =>
 (clear 0 ⟨4,true,rch (adv s8 9) [(.fn 108 [] []),t9],some (adv s8 9).nx⟩ [⟨3,false,idOf t130,none⟩,⟨2,false,[],none⟩,⟨1,false,[],none⟩,⟨0,false,[],none⟩] = true∧CallWiD Tryz.env 108 [t9] (rch (adv s8 9) [(.fn 108 [] []),t9]) (adv s8 9) fun t132 s9 =>
 (s9.h (s8.nx + 8) = none∧Bnd (mapUpd Tryz.ty 53 t131 t132 t116 s9) fun s10 =>
 f178j2 Q t116 t117 s10))))
 (f178j2 Q t116 t117 (adv s8 2)))))))))))))
def f178j3 (Q:AV→St→Prop) (ih1:AV→AV→AV→AV→AV→AV→AV→AV→AV→St→Prop) (t40 t0 t1 t2 t8 t9 t10 t38 t39:AV) (s:St):Prop :=
 Bnd (bn .add 3 t40 (.int .i64 1)) fun t76 =>
 ih1 t0 t1 t2 t8 t9 t10 t38 t39 t76 (adv s 2)
def f178l1s (Q:AV→St→Prop) (ih1:AV→AV→AV→AV→AV→AV→AV→AV→AV→St→Prop) (t0 t1 t2 t8 t9 t10 t38 t39 t40:AV) (s:St):Prop :=
 Bnd (bn .lss 3 t40 t39) fun t41 =>
 IfP t41
 (Bnd (ixS 2 t38 t40) fun t43 =>
 Bnd (ld 2 true t43 (adv s 7)) fun t44 =>
 Bnd (zr 151) fun z12 =>
 Bnd (sto 2 (.ptr (s.nx + 4) 0) t44 ((adv s 7).set (s.nx + 4) (some (.cells z12.cells 151 true true)))) fun s1 =>
 (nilOk t0 = true ∧
 Bnd (shiftP 0 t0) fun t48 =>
 Bnd (ld 1 false t48 (adv s1 15)) fun t49 =>
 Bnd (ixS 1 t2 t40) fun t52 =>
 Bnd (ld 1 false t52 (adv s1 15)) fun t53 =>
 CallWiD Tryz.env 53 [t49,t53] (rch (adv s1 15) [(.fn 53 [] []),t49,t53]) (adv s1 15) fun t54 s2 =>
 Bnd (extr t54 0) fun t55 =>
 Bnd (extr t54 1) fun t56 =>
 (clear 0 ⟨12,true,(s1.nx + 12) :: [],none⟩ [⟨11,false,[],none⟩,⟨10,false,[],none⟩,⟨9,false,[],none⟩,⟨8,true,rch (adv s1 15) [(.fn 53 [] []),t49,t53],some (adv s1 15).nx⟩,⟨7,false,idOf t52,none⟩,⟨6,false,[],none⟩,⟨5,false,[],none⟩,⟨4,false,[],none⟩,⟨3,false,idOf t48,none⟩,⟨2,false,[],none⟩,⟨1,false,[],none⟩,⟨0,false,[],none⟩] = true∧s2.h (s1.nx + 12) = none∧Bnd (zr 101) fun z13 =>
 ((s2.set (s1.nx + 12) (some (.cells z13.cells 101 true true))).h (s1.nx + 13) = none∧Bnd (sto 7 (.ptr (s1.nx + 12) 0) t55 (s2.set (s1.nx + 12) (some (.cells z13.cells 101 true true)))) fun s3 =>
 Bnd (shiftP 1 (.ptr (s1.nx + 12) 0)) fun t57 =>
 Bnd (ld 1 false t57 (adv s3 5)) fun t58 =>
 Bnd (shiftP 1 (.ptr (s.nx + 4) 0)) fun t59 =>
 Bnd (ld 1 false t59 (adv s3 5)) fun t60 =>
 Bnd (bn .neq 3 t58 t60) fun t61 =>
 IfP t61
 (Q (.tup [(.int .i64 0),(.int .i64 90)]) (adv s3 7))
 (Bnd (shiftP 0 t10) fun t62 =>
 Bnd (ld 1 false t62 (adv s3 13)) fun t63 =>
 Bnd (shiftP 0 (.ptr (s.nx + 4) 0)) fun t64 =>
 Bnd (ld 1 false t64 (adv s3 13)) fun t65 =>
 Bnd (bsl 52 1 [(0,t65)]) fun t66 =>
 Bnd (bt .append #[52,52] [t63,t66] (s3.nx + 10) (adv s3 13)) fun r67 =>
 Bnd (shiftP 0 t10) fun t68 =>
 Bnd (sto 1 t68 r67.1 r67.2) fun s4 =>
 Bnd (ixS 1 t2 t40) fun t71 =>
 Bnd (ld 1 false t71 (adv s4 7)) fun t72 =>
 CallPu Tryz.env 206 [t72] (adv s4 7) fun t73 s5 =>
 Bnd (bn .add 9 t73 (.str [32])) fun t74 =>
 CallWi Tryz.env 156 [t9,t74] s5 fun t75 s6 =>
 f178j3 Q ih1 t40 t0 t1 t2 t8 t9 t10 t38 t39 s6)))))
 (f178j1 Q t1 t9 t0 t10 t8 (adv s 1))
def f178l1 (Q:AV→St→Prop) (n:Nat):AV→AV→AV→AV→AV→AV→AV→AV→AV→St→Prop:=Nat.rec (motive:=fun _=>AV→AV→AV→AV→AV→AV→AV→AV→AV→St→Prop) (fun _ _ _ _ _ _ _ _ _ _=>False) (fun _ ih=>f178l1s Q ih) n
theorem f178j2_eq (Q:AV→St→Prop):f178C (sub f178B [Y,Y,Y,Y,Y,Y,Y,Y,Y,Y,Y,Y,Y]) (f178R Q) (fun _ _ _=>False) (f178R Q) = (fun g s=>f178j2 Q (g 19) (g 20) s) :=
 Eq.trans rfl (by kernel_rfl)
theorem f178j1_eq (Q:AV→St→Prop):f178C (sub f178B [Y,Y,Y,Y,Y,Y]) (f178R Q) (fun _ _ _=>False) (f178R Q) = (fun g s=>f178j1 Q (g 1) (g 9) (g 0) (g 10) (g 8) s) :=
 Eq.trans (seq_eq (by kernel_rfl:(sub f178B [Y,Y,Y,Y,Y,Y]) = .seq (sub f178B [Y,Y,Y,Y,Y,Y,N]) (sub f178B [Y,Y,Y,Y,Y,Y,Y])) (seq_eq (by kernel_rfl:(sub f178B [Y,Y,Y,Y,Y,Y,Y]) = .seq (sub f178B [Y,Y,Y,Y,Y,Y,Y,N]) (sub f178B [Y,Y,Y,Y,Y,Y,Y,Y])) (seq_eq (by kernel_rfl:(sub f178B [Y,Y,Y,Y,Y,Y,Y,Y]) = .seq (sub f178B [Y,Y,Y,Y,Y,Y,Y,Y,N]) (sub f178B [Y,Y,Y,Y,Y,Y,Y,Y,Y])) (seq_eq (by kernel_rfl:(sub f178B [Y,Y,Y,Y,Y,Y,Y,Y,Y]) = .seq (sub f178B [Y,Y,Y,Y,Y,Y,Y,Y,Y,N]) (sub f178B [Y,Y,Y,Y,Y,Y,Y,Y,Y,Y])) (seq_eq (by kernel_rfl:(sub f178B [Y,Y,Y,Y,Y,Y,Y,Y,Y,Y]) = .seq (sub f178B [Y,Y,Y,Y,Y,Y,Y,Y,Y,Y,N]) (sub f178B [Y,Y,Y,Y,Y,Y,Y,Y,Y,Y,Y])) (seq_eq (by kernel_rfl:(sub f178B [Y,Y,Y,Y,Y,Y,Y,Y,Y,Y,Y]) = .seq (sub f178B [Y,Y,Y,Y,Y,Y,Y,Y,Y,Y,Y,N]) (sub f178B [Y,Y,Y,Y,Y,Y,Y,Y,Y,Y,Y,Y])) (seq_eq (by kernel_rfl:(sub f178B [Y,Y,Y,Y,Y,Y,Y,Y,Y,Y,Y,Y]) = .seq (sub f178B [Y,Y,Y,Y,Y,Y,Y,Y,Y,Y,Y,Y,N]) (sub f178B [Y,Y,Y,Y,Y,Y,Y,Y,Y,Y,Y,Y,Y])) (f178j2_eq Q) rfl) rfl) rfl) rfl) rfl) rfl) rfl) (by kernel_rfl)
theorem f178j3_eq (Q:AV→St→Prop) (n1:Nat):f178C (sub f178B [Y,Y,Y,Y,Y,N,Y,N,N,Y,Y,Y]) (fun g s=>(fun (n:Nat) (g:Gf) (s:St)=>f178l1 Q n (g 0) (g 1) (g 2) (g 8) (g 9) (g 10) (g 38) (g 39) (g 40) s) n1 (fun k=>cond (bitOf (Tryz.env.kp 178) k) (g k) .undef) s) (fun i=>cond (Nat.beq i 0) (fun g s=>f178j1 Q (g 1) (g 9) (g 0) (g 10) (g 8) s) ((fun _ _ _=>False) i)) (f178R Q) = (fun g s=>f178j3 Q (f178l1 Q n1) (g 40) (g 0) (g 1) (g 2) (g 8) (g 9) (g 10) (g 38) (g 39) s) :=
 Eq.trans rfl (by kernel_rfl)
theorem f178l1_eq (Q:AV→St→Prop) (kN:Kt):f178C (sub f178B [Y,Y,Y,Y,Y,N,Y,N]) kN (fun i=>cond (Nat.beq i 0) (fun g s=>f178j1 Q (g 1) (g 9) (g 0) (g 10) (g 8) s) ((fun _ _ _=>False) i)) (f178R Q) = fun g s=>∃ n,(fun (n:Nat) (g:Gf) (s:St)=>f178l1 Q n (g 0) (g 1) (g 2) (g 8) (g 9) (g 10) (g 38) (g 39) (g 40) s) n g s :=
 loop_eq (L:=fun (n:Nat) (g:Gf) (s:St)=>f178l1 Q n (g 0) (g 1) (g 2) (g 8) (g 9) (g 10) (g 38) (g 39) (g 40) s) (by kernel_rfl:(sub f178B [Y,Y,Y,Y,Y,N,Y,N]) = .loop (sub f178B [Y,Y,Y,Y,Y,N,Y,N,N])) (by kernel_rfl) (fun n1=>Eq.trans (seq_eq (by kernel_rfl:(sub f178B [Y,Y,Y,Y,Y,N,Y,N,N]) = .seq (sub f178B [Y,Y,Y,Y,Y,N,Y,N,N,N]) (sub f178B [Y,Y,Y,Y,Y,N,Y,N,N,Y])) (seq_eq (by kernel_rfl:(sub f178B [Y,Y,Y,Y,Y,N,Y,N,N,Y]) = .seq (sub f178B [Y,Y,Y,Y,Y,N,Y,N,N,Y,N]) (sub f178B [Y,Y,Y,Y,Y,N,Y,N,N,Y,Y])) (seq_eq (by kernel_rfl:(sub f178B [Y,Y,Y,Y,Y,N,Y,N,N,Y,Y]) = .seq (sub f178B [Y,Y,Y,Y,Y,N,Y,N,N,Y,Y,N]) (sub f178B [Y,Y,Y,Y,Y,N,Y,N,N,Y,Y,Y])) (f178j3_eq Q n1) (block_eq (by kernel_rfl:(sub f178B [Y,Y,Y,Y,Y,N,Y,N,N,Y,Y,N]) = .block 1 (sub f178B [Y,Y,Y,Y,Y,N,Y,N,N,Y,Y,N,N])) rfl)) rfl) rfl) (by kernel_rfl))
def f178 (Q:AV→St→Prop) (t0 t1 t2:AV) (s:St):Prop :=
 (nilOk t0 = true ∧
 Bnd (shiftP 1 t0) fun t23 =>
 Bnd (ld 1 false t23 (adv s 11)) fun t24 =>
 Bnd (ixS 10 t24 t1) fun t26 =>
 Bnd (ld 10 true t26 (adv s 11)) fun t27 =>
 Bnd (zr 67) fun z8 =>
 Bnd (sto 10 (.ptr (s.nx + 9) 0) t27 ((adv s 11).set (s.nx + 9) (some (.cells z8.cells 67 true true)))) fun s1 =>
 Bnd (bt .len #[72] [t2] (s1.nx + 1) (adv s1 6)) fun r29 =>
 Bnd (shiftP 3 (.ptr (s.nx + 9) 0)) fun t30 =>
 Bnd (ld 1 false t30 r29.2) fun t31 =>
 Bnd (bt .len #[65] [t31] (s1.nx + 4) r29.2) fun r32 =>
 Bnd (bn .neq 3 r29.1 r32.1) fun t33 =>
 IfP t33
 (Q (.tup [(.int .i64 0),(.int .i64 1)]) (adv r32.2 2))
 (Bnd (bld 163 []) fun t34 =>
 Bnd (zr 163) fun z9 =>
 Bnd (sto 2 (.ptr (r32.2.nx + 1) 0) t34 ((adv r32.2 3).set (r32.2.nx + 1) (some (.cells z9.cells 163 true true)))) fun s2 =>
 Bnd (bld 254 [(1,t2)]) fun t36 =>
 Bnd (zr 254) fun z10 =>
 Bnd (sto 2 (.ptr (s2.nx + 2) 0) t36 ((adv s2 4).set (s2.nx + 2) (some (.cells z10.cells 254 true true)))) fun s3 =>
 Bnd (shiftP 3 (.ptr (s.nx + 9) 0)) fun t37 =>
 Bnd (ld 1 false t37 (adv s3 4)) fun t38 =>
 Bnd (bt .len #[65] [t38] (s3.nx + 2) (adv s3 4)) fun r39 =>
 ∃ n,f178l1 Q n t0 t1 t2 (.ptr (s.nx + 9) 0) (.ptr (r32.2.nx + 1) 0) (.ptr (s2.nx + 2) 0) t38 r39.1 (.int .i64 0) r39.2))
theorem f178_run (t0 t1 t2:AV) (s:St) {Q:AV→St→Prop} (h:f178 Q t0 t1 t2 s):∃ r s',WideC Tryz.env 178 [t0,t1,t2] s r s'∧Q r s' :=
 wide_ofA (h:=178) (fn:=Tryz.f178) (c:=sub f178B []) (show f178C (sub f178B []) (f178R Q) (fun _ _ _=>False) (f178R Q) = _ from (seq_eq (by kernel_rfl:(sub f178B []) = .seq (sub f178B [N]) (sub f178B [Y])) (seq_eq (by kernel_rfl:(sub f178B [Y]) = .seq (sub f178B [Y,N]) (sub f178B [Y,Y])) (seq_eq (by kernel_rfl:(sub f178B [Y,Y]) = .seq (sub f178B [Y,Y,N]) (sub f178B [Y,Y,Y])) (seq_eq (by kernel_rfl:(sub f178B [Y,Y,Y]) = .seq (sub f178B [Y,Y,Y,N]) (sub f178B [Y,Y,Y,Y])) (seq_eq (by kernel_rfl:(sub f178B [Y,Y,Y,Y]) = .seq (sub f178B [Y,Y,Y,Y,N]) (sub f178B [Y,Y,Y,Y,Y])) (seq_eq (by kernel_rfl:(sub f178B [Y,Y,Y,Y,Y]) = .seq (sub f178B [Y,Y,Y,Y,Y,N]) (sub f178B [Y,Y,Y,Y,Y,Y])) (f178j1_eq Q) (seq_eq (by kernel_rfl:(sub f178B [Y,Y,Y,Y,Y,N]) = .seq (sub f178B [Y,Y,Y,Y,Y,N,N]) (sub f178B [Y,Y,Y,Y,Y,N,Y])) (block_eq (by kernel_rfl:(sub f178B [Y,Y,Y,Y,Y,N,Y]) = .block 0 (sub f178B [Y,Y,Y,Y,Y,N,Y,N])) (f178l1_eq Q _)) rfl)) rfl) rfl) rfl) rfl) rfl)) h
abbrev f130B:Code:=bodyOf Tryz.f130
abbrev f130R:=rK Tryz.f130
abbrev f130C:=codeP Tryz.env 130 (Tryz.env.kp 130)
def f130j1 (Q:AV→St→Prop) (t0 t8:AV) (s:St):Prop :=
 CallWi Tryz.env 178 [t0,t8,.nils] (adv s 7) fun t79 s1 =>
 Bnd (extr t79 0) fun t80 =>
 Bnd (extr t79 1) fun t81 =>
 Q (.tup [t80,t81]) s1
theorem f130j1_eq (Q:AV→St→Prop):f130C (sub f130B [Y,Y,Y,Y,Y,Y]) (f130R Q) (fun _ _ _=>False) (f130R Q) = (fun g s=>f130j1 Q (g 0) (g 8) s) :=
 Eq.trans rfl (by kernel_rfl)
def f130 (Q:AV→St→Prop) (t0 t1:AV) (s:St):Prop :=
 Bnd (bn .eql 9 t1 (.str [116,114,117,101])) fun t10 =>
 Gd (wantV t10 false) (adv s 8) (fun k=>k t1 (adv s 8)) fun t12 s1 =>
 Gd (wantV t10 false) s1 (fun k=>Bnd (bn .eql 9 t12 (.str [102,97,108,115,101])) fun v=>k v s1) fun t13 s2 =>
 Bnd (pickV t10 (.bool true) t13) fun t14 =>
 IfP t14
 ((nilOk t0 = true ∧
 Bnd (shiftP 0 t0) fun t17 =>
 Bnd (ld 1 false t17 (adv s2 11)) fun t18 =>
 Bnd (bn .eql 9 t1 (.str [116,114,117,101])) fun t20 =>
 CallWi Tryz.env 78 [t18,t20] (adv s2 11) fun t21 s3 =>
 Bnd (extr t21 0) fun t22 =>
 Bnd (extr t21 1) fun t23 =>
 Q (.tup [t22,t23]) s3))
 (CallPu Tryz.env 24 [t1] (adv s2 2) fun t25 s4 =>
 IfP t25
 (Q (.tup [(.int .i64 0),(.int .i64 101)]) (adv s4 2))
 (CallWi Tryz.env 175 [t0,t1] (adv s4 8) fun t29 s5 =>
 Bnd (extr t29 0) fun t30 =>
 Bnd (extr t29 1) fun t31 =>
 IfP t31
 (Q (.tup [t30,(.int .i64 0)]) (adv s5 4))
 (CallWi Tryz.env 174 [t0,t1] (adv s5 5) fun t36 s6 =>
 Bnd (bn .lss 3 t36 (.int .i64 0)) fun t39 =>
 IfP t39
 (Q (.tup [(.int .i64 0),(.int .i64 100)]) (adv s6 5))
 ((nilOk t0 = true ∧
 Bnd (shiftP 1 t0) fun t43 =>
 Bnd (ld 1 false t43 (adv s6 13)) fun t44 =>
 Bnd (ixS 10 t44 t36) fun t46 =>
 Bnd (shiftP 2 t46) fun t47 =>
 Bnd (ld 1 false t47 (adv s6 13)) fun t48 =>
 Bnd (un .not t48) fun t49 =>
 IfP t49
 ((nilOk t0 = true ∧
 Bnd (shiftP 0 t0) fun t52 =>
 Bnd (ld 1 false t52 (adv s6 31)) fun t53 =>
 (nilOk t0 = true ∧
 Bnd (shiftP 1 t0) fun t57 =>
 Bnd (ld 1 false t57 (adv s6 31)) fun t58 =>
 Bnd (ixS 10 t58 t36) fun t60 =>
 Bnd (shiftP 1 t60) fun t61 =>
 Bnd (ld 1 false t61 (adv s6 31)) fun t62 =>
 CallWiD Tryz.env 77 [t53,t1,t62] (rch (adv s6 31) [(.fn 77 [] []),t53,t1,t62]) (adv s6 31) fun t63 s7 =>
 Bnd (extr t63 0) fun t64 =>
 Bnd (extr t63 1) fun t65 =>
 Q (.tup [t64,t65]) s7)))
 ((nilOk t0 = true ∧
 Bnd (shiftP 1 t0) fun t69 =>
 Bnd (ld 1 false t69 (adv s6 24)) fun t70 =>
 Bnd (ixS 10 t70 t36) fun t72 =>
 Bnd (shiftP 3 t72) fun t73 =>
 Bnd (ld 1 false t73 (adv s6 24)) fun t74 =>
 Bnd (bt .len #[65] [t74] (s6.nx + 21) (adv s6 24)) fun r75 =>
 Bnd (bn .gtr 3 r75.1 (.int .i64 0)) fun t76 =>
 IfP t76
 (Q (.tup [(.int .i64 0),(.int .i64 1)]) (adv r75.2 2))
 (f130j1 Q t0 t36 r75.2))))))))
theorem f130_run (t0 t1:AV) (s:St) {Q:AV→St→Prop} (h:f130 Q t0 t1 s):∃ r s',WideC Tryz.env 130 [t0,t1] s r s'∧Q r s' :=
 wide_ofA (h:=130) (fn:=Tryz.f130) (c:=sub f130B []) (show f130C (sub f130B []) (f130R Q) (fun _ _ _=>False) (f130R Q) = _ from (seq_eq (by kernel_rfl:(sub f130B []) = .seq (sub f130B [N]) (sub f130B [Y])) (seq_eq (by kernel_rfl:(sub f130B [Y]) = .seq (sub f130B [Y,N]) (sub f130B [Y,Y])) (seq_eq (by kernel_rfl:(sub f130B [Y,Y]) = .seq (sub f130B [Y,Y,N]) (sub f130B [Y,Y,Y])) (seq_eq (by kernel_rfl:(sub f130B [Y,Y,Y]) = .seq (sub f130B [Y,Y,Y,N]) (sub f130B [Y,Y,Y,Y])) (seq_eq (by kernel_rfl:(sub f130B [Y,Y,Y,Y]) = .seq (sub f130B [Y,Y,Y,Y,N]) (sub f130B [Y,Y,Y,Y,Y])) (seq_eq (by kernel_rfl:(sub f130B [Y,Y,Y,Y,Y]) = .seq (sub f130B [Y,Y,Y,Y,Y,N]) (sub f130B [Y,Y,Y,Y,Y,Y])) (f130j1_eq Q) (block_eq (by kernel_rfl:(sub f130B [Y,Y,Y,Y,Y,N]) = .block 0 (sub f130B [Y,Y,Y,Y,Y,N,N])) rfl)) rfl) rfl) rfl) rfl) rfl)) h
abbrev f176B:Code:=bodyOf Tryz.f176
abbrev f176R:=rK Tryz.f176
abbrev f176C:=codeP Tryz.env 176 (Tryz.env.kp 176)
def f176j1 (Q:AV→St→Prop) (t6 t7 t0 t1:AV) (s:St):Prop :=
 Bnd (shiftP 0 t6) fun t75 =>
 Bnd (ld 1 false t75 (adv s 3)) fun t76 =>
 CallWi Tryz.env 193 [t76,(.fn 24 [] [])] (adv s 3) fun t77 s1 =>
 IfP t77
 (Q (.tup [(.int .i64 0),(.int .i64 101)]) (adv s1 2))
 (Bnd (shiftP 0 t6) fun t78 =>
 Bnd (ld 1 false t78 (adv s1 3)) fun t79 =>
 CallPu Tryz.env 192 [t79] (adv s1 3) fun t80 s2 =>
 IfP t80
 (Q (.tup [(.int .i64 0),(.int .i64 4)]) (adv s2 2))
 (CallWi Tryz.env 177 [t7,(.fn 75 [t0] [])] (adv s2 11) fun t85 s3 =>
 Bnd (extr t85 0) fun t86 =>
 Bnd (extr t85 1) fun t87 =>
 Bnd (shiftP 1 t6) fun t88 =>
 Bnd (sto 1 t88 t86 s3) fun s4 =>
 Bnd (bn .neq 34 t87 (.int .i64 0)) fun t90 =>
 IfP t90
 (Q (.tup [(.int .i64 0),t87]) (adv s4 5))
 ((nilOk t0 = true ∧
 Bnd (shiftP 2 t0) fun t95 =>
 Bnd (ld 1 false t95 (adv s4 13)) fun t96 =>
 Bnd (ld 2 true t6 (adv s4 13)) fun t97 =>
 Bnd (bsl 122 1 [(0,t97)]) fun t98 =>
 ((adv s4 13).h (s4.nx + 9) = none∧Bnd (bt .append #[122,122] [t96,t98] (s4.nx + 9) (adv s4 13)) fun r99 =>
 (nilOk t0 = true ∧
 Bnd (shiftP 2 t0) fun t101 =>
 (r99.2.h (s4.nx + 12) = none∧Bnd (sto 1 t101 r99.1 r99.2) fun s5 =>
 Bnd (ixS 6 t1 (.int .i64 1)) fun t105 =>
 Bnd (ld 6 true t105 (adv s5 10)) fun t106 =>
 CallWi Tryz.env 75 [t0,t106] (adv s5 10) fun t107 s6 =>
 Bnd (extr t107 0) fun t108 =>
 Bnd (extr t107 1) fun t109 =>
 (nilOk t0 = true ∧
 Bnd (shiftP 2 t0) fun t113 =>
 Bnd (ld 1 false t113 (adv s6 15)) fun t114 =>
 (nilOk t0 = true ∧
 Bnd (shiftP 2 t0) fun t117 =>
 Bnd (ld 1 false t117 (adv s6 15)) fun t118 =>
 Bnd (bt .len #[122] [t118] (s6.nx + 9) (adv s6 15)) fun r119 =>
 Bnd (bn .sub 3 r119.1 (.int .i64 1)) fun t120 =>
 Bnd (slc 122 t114 none (some t120) none r119.2) fun t121 =>
 (nilOk t0 = true ∧
 Bnd (shiftP 2 t0) fun t123 =>
 (r119.2.h (s6.nx + 14) = none∧Bnd (sto 1 t123 t121 r119.2) fun s7 =>
 Q (.tup [t108,t109]) (adv s7 4))))))))))))
def f176j2 (Q:AV→St→Prop) (ih1:AV→AV→AV→AV→AV→AV→AV→St→Prop) (t27 t0 t1 t6 t7 t25 t26:AV) (s:St):Prop :=
 Bnd (bn .add 3 t27 (.int .i64 1)) fun t74 =>
 ih1 t0 t1 t6 t7 t25 t26 t74 (adv s 2)
def f176l1s (Q:AV→St→Prop) (ih1:AV→AV→AV→AV→AV→AV→AV→St→Prop) (t0 t1 t6 t7 t25 t26 t27:AV) (s:St):Prop :=
 Bnd (bn .lss 3 t27 t26) fun t28 =>
 IfP t28
 (Bnd (ixS 6 t25 t27) fun t29 =>
 Bnd (ld 6 true t29 (adv s 5)) fun t30 =>
 Bnd (zr 33) fun z9 =>
 Bnd (sto 6 (.ptr (s.nx + 3) 0) t30 ((adv s 5).set (s.nx + 3) (some (.cells z9.cells 33 true true)))) fun s1 =>
 Bnd (shiftP 0 (.ptr (s.nx + 3) 0)) fun t31 =>
 Bnd (ld 1 false t31 (adv s1 25)) fun t32 =>
 Bnd (un .not t32) fun t33 =>
 Gd (wantV t33 false) (adv s1 25) (fun k=>Bnd (shiftP 5 (.ptr (s.nx + 3) 0)) fun v=>k v (adv s1 25)) fun t35 s2 =>
 Gd (wantV t33 false) s2 (fun k=>Bnd (ld 1 false t35 s2) fun v=>k v s2) fun t36 s3 =>
 Gd (wantV t33 false) s3 (fun k=>Bnd (bt .len #[31] [t36] (s1.nx + 6) s3) fun r=>k r.1 r.2) fun t37 s4 =>
 Gd (wantV t33 false) s4 (fun k=>Bnd (bn .neq 3 t37 (.int .i64 2)) fun v=>k v s4) fun t38 s5 =>
 Bnd (pickV t33 (.bool true) t38) fun t39 =>
 Gd (wantV t39 false) s5 (fun k=>Bnd (shiftP 5 (.ptr (s.nx + 3) 0)) fun v=>k v s5) fun t41 s6 =>
 Gd (wantV t39 false) s6 (fun k=>Bnd (ld 1 false t41 s6) fun v=>k v s6) fun t42 s7 =>
 Gd (wantV t39 false) s7 (fun k=>Bnd (ixS 6 t42 (.int .i64 0)) fun v=>k v s7) fun t43 s8 =>
 Gd (wantV t39 false) s8 (fun k=>Bnd (shiftP 0 t43) fun v=>k v s8) fun t44 s9 =>
 Gd (wantV t39 false) s9 (fun k=>Bnd (ld 1 false t44 s9) fun v=>k v s9) fun t45 s10 =>
 Bnd (pickV t39 (.bool true) t45) fun t46 =>
 Gd (wantV t46 false) s10 (fun k=>Bnd (shiftP 5 (.ptr (s.nx + 3) 0)) fun v=>k v s10) fun t48 s11 =>
 Gd (wantV t46 false) s11 (fun k=>Bnd (ld 1 false t48 s11) fun v=>k v s11) fun t49 s12 =>
 Gd (wantV t46 false) s12 (fun k=>Bnd (ixS 6 t49 (.int .i64 0)) fun v=>k v s12) fun t50 s13 =>
 Gd (wantV t46 false) s13 (fun k=>Bnd (shiftP 1 t50) fun v=>k v s13) fun t51 s14 =>
 Gd (wantV t46 false) s14 (fun k=>Bnd (shiftP 0 t51) fun v=>k v s14) fun t52 s15 =>
 Gd (wantV t46 false) s15 (fun k=>Bnd (ld 1 false t52 s15) fun v=>k v s15) fun t53 s16 =>
 Gd (wantV t46 false) s16 (fun k=>Bnd (bn .neq 3 t53 (.int .i64 3)) fun v=>k v s16) fun t54 s17 =>
 Bnd (pickV t46 (.bool true) t54) fun t55 =>
 IfP t55
 (Q (.tup [(.int .i64 0),(.int .i64 1)]) (adv s17 2))
 (Bnd (shiftP 0 t6) fun t56 =>
 Bnd (ld 1 false t56 (adv s17 12)) fun t57 =>
 Bnd (shiftP 5 (.ptr (s.nx + 3) 0)) fun t58 =>
 Bnd (ld 1 false t58 (adv s17 12)) fun t59 =>
 Bnd (ixS 6 t59 (.int .i64 0)) fun t60 =>
 Bnd (shiftP 1 t60) fun t61 =>
 Bnd (shiftP 1 t61) fun t62 =>
 Bnd (ld 1 false t62 (adv s17 12)) fun t63 =>
 Bnd (bsl 52 1 [(0,t63)]) fun t64 =>
 ((adv s17 12).h (s17.nx + 9) = none∧Bnd (bt .append #[52,52] [t57,t64] (s17.nx + 9) (adv s17 12)) fun r65 =>
 Bnd (shiftP 0 t6) fun t66 =>
 (r65.2.h (s17.nx + 11) = none∧Bnd (sto 1 t66 r65.1 r65.2) fun s18 =>
 Bnd (shiftP 5 (.ptr (s.nx + 3) 0)) fun t68 =>
 Bnd (ld 1 false t68 (adv s18 8)) fun t69 =>
 Bnd (ixS 6 t69 (.int .i64 1)) fun t70 =>
 Bnd (ld 6 true t70 (adv s18 8)) fun t71 =>
 Bnd (bsl 31 1 [(0,t71)]) fun t72 =>
 Bnd (bt .append #[31,31] [t7,t72] (s18.nx + 6) (adv s18 8)) fun r73 =>
 f176j2 Q ih1 t27 t0 t1 t6 r73.1 t25 t26 r73.2))))
 (f176j1 Q t6 t7 t0 t1 (adv s 1))
def f176l1 (Q:AV→St→Prop) (n:Nat):AV→AV→AV→AV→AV→AV→AV→St→Prop:=Nat.rec (motive:=fun _=>AV→AV→AV→AV→AV→AV→AV→St→Prop) (fun _ _ _ _ _ _ _ _=>False) (fun _ ih=>f176l1s Q ih) n
theorem f176j1_eq (Q:AV→St→Prop):f176C (sub f176B [Y,Y,Y,Y,Y]) (f176R Q) (fun _ _ _=>False) (f176R Q) = (fun g s=>f176j1 Q (g 6) (g 7) (g 0) (g 1) s) :=
 Eq.trans rfl (by kernel_rfl)
theorem f176j2_eq (Q:AV→St→Prop) (n1:Nat):f176C (sub f176B [Y,Y,Y,Y,N,Y,N,N,Y,Y,Y]) (fun g s=>(fun (n:Nat) (g:Gf) (s:St)=>f176l1 Q n (g 0) (g 1) (g 6) (g 7) (g 25) (g 26) (g 27) s) n1 (fun k=>cond (bitOf (Tryz.env.kp 176) k) (g k) .undef) s) (fun i=>cond (Nat.beq i 0) (fun g s=>f176j1 Q (g 6) (g 7) (g 0) (g 1) s) ((fun _ _ _=>False) i)) (f176R Q) = (fun g s=>f176j2 Q (f176l1 Q n1) (g 27) (g 0) (g 1) (g 6) (g 7) (g 25) (g 26) s) :=
 Eq.trans rfl (by kernel_rfl)
theorem f176l1_eq (Q:AV→St→Prop) (kN:Kt):f176C (sub f176B [Y,Y,Y,Y,N,Y,N]) kN (fun i=>cond (Nat.beq i 0) (fun g s=>f176j1 Q (g 6) (g 7) (g 0) (g 1) s) ((fun _ _ _=>False) i)) (f176R Q) = fun g s=>∃ n,(fun (n:Nat) (g:Gf) (s:St)=>f176l1 Q n (g 0) (g 1) (g 6) (g 7) (g 25) (g 26) (g 27) s) n g s :=
 loop_eq (L:=fun (n:Nat) (g:Gf) (s:St)=>f176l1 Q n (g 0) (g 1) (g 6) (g 7) (g 25) (g 26) (g 27) s) (by kernel_rfl:(sub f176B [Y,Y,Y,Y,N,Y,N]) = .loop (sub f176B [Y,Y,Y,Y,N,Y,N,N])) (by kernel_rfl) (fun n1=>Eq.trans (seq_eq (by kernel_rfl:(sub f176B [Y,Y,Y,Y,N,Y,N,N]) = .seq (sub f176B [Y,Y,Y,Y,N,Y,N,N,N]) (sub f176B [Y,Y,Y,Y,N,Y,N,N,Y])) (seq_eq (by kernel_rfl:(sub f176B [Y,Y,Y,Y,N,Y,N,N,Y]) = .seq (sub f176B [Y,Y,Y,Y,N,Y,N,N,Y,N]) (sub f176B [Y,Y,Y,Y,N,Y,N,N,Y,Y])) (seq_eq (by kernel_rfl:(sub f176B [Y,Y,Y,Y,N,Y,N,N,Y,Y]) = .seq (sub f176B [Y,Y,Y,Y,N,Y,N,N,Y,Y,N]) (sub f176B [Y,Y,Y,Y,N,Y,N,N,Y,Y,Y])) (f176j2_eq Q n1) (block_eq (by kernel_rfl:(sub f176B [Y,Y,Y,Y,N,Y,N,N,Y,Y,N]) = .block 1 (sub f176B [Y,Y,Y,Y,N,Y,N,N,Y,Y,N,N])) rfl)) rfl) rfl) (by kernel_rfl))
def f176 (Q:AV→St→Prop) (t0 t1:AV) (s:St):Prop :=
 Bnd (bt .len #[31] [t1] (s.nx + 3) (adv s 12)) fun r13 =>
 Bnd (bn .neq 3 r13.1 (.int .i64 2)) fun t14 =>
 Gd (wantV t14 false) r13.2 (fun k=>k t1 r13.2) fun t16 s1 =>
 Gd (wantV t14 false) s1 (fun k=>Bnd (ixS 6 t16 (.int .i64 0)) fun v=>k v s1) fun t17 s2 =>
 Gd (wantV t14 false) s2 (fun k=>Bnd (shiftP 0 t17) fun v=>k v s2) fun t18 s3 =>
 Gd (wantV t14 false) s3 (fun k=>Bnd (ld 1 false t18 s3) fun v=>k v s3) fun t19 s4 =>
 Gd (wantV t14 false) s4 (fun k=>Bnd (un .not t19) fun v=>k v s4) fun t20 s5 =>
 Bnd (pickV t14 (.bool true) t20) fun t21 =>
 IfP t21
 (Q (.tup [(.int .i64 0),(.int .i64 1)]) (adv s5 2))
 (Bnd (zr 254) fun z6 =>
 Bnd (ixS 6 t1 (.int .i64 0)) fun t23 =>
 Bnd (shiftP 5 t23) fun t24 =>
 Bnd (ld 1 false t24 (adv ((adv s5 1).set s5.nx (some (.cells z6.cells 254 true true))) 7)) fun t25 =>
 Bnd (bt .len #[31] [t25] (((adv s5 1).set s5.nx (some (.cells z6.cells 254 true true))).nx + 5) (adv ((adv s5 1).set s5.nx (some (.cells z6.cells 254 true true))) 7)) fun r26 =>
 ∃ n,f176l1 Q n t0 t1 (.ptr s5.nx 0) .nils t25 r26.1 (.int .i64 0) r26.2)
theorem f176_run (t0 t1:AV) (s:St) {Q:AV→St→Prop} (h:f176 Q t0 t1 s):∃ r s',WideC Tryz.env 176 [t0,t1] s r s'∧Q r s' :=
 wide_ofA (h:=176) (fn:=Tryz.f176) (c:=sub f176B []) (show f176C (sub f176B []) (f176R Q) (fun _ _ _=>False) (f176R Q) = _ from (seq_eq (by kernel_rfl:(sub f176B []) = .seq (sub f176B [N]) (sub f176B [Y])) (seq_eq (by kernel_rfl:(sub f176B [Y]) = .seq (sub f176B [Y,N]) (sub f176B [Y,Y])) (seq_eq (by kernel_rfl:(sub f176B [Y,Y]) = .seq (sub f176B [Y,Y,N]) (sub f176B [Y,Y,Y])) (seq_eq (by kernel_rfl:(sub f176B [Y,Y,Y]) = .seq (sub f176B [Y,Y,Y,N]) (sub f176B [Y,Y,Y,Y])) (seq_eq (by kernel_rfl:(sub f176B [Y,Y,Y,Y]) = .seq (sub f176B [Y,Y,Y,Y,N]) (sub f176B [Y,Y,Y,Y,Y])) (f176j1_eq Q) (seq_eq (by kernel_rfl:(sub f176B [Y,Y,Y,Y,N]) = .seq (sub f176B [Y,Y,Y,Y,N,N]) (sub f176B [Y,Y,Y,Y,N,Y])) (block_eq (by kernel_rfl:(sub f176B [Y,Y,Y,Y,N,Y]) = .block 0 (sub f176B [Y,Y,Y,Y,N,Y,N])) (f176l1_eq Q _)) rfl)) rfl) rfl) rfl) rfl)) h
abbrev f126B:Code:=bodyOf Tryz.f126
abbrev f126R:=rK Tryz.f126
abbrev f126C:=codeP Tryz.env 126 (Tryz.env.kp 126)
def f126j2 (Q:AV→St→Prop) (t7 t0 t8 t9:AV) (s:St):Prop :=
 CallWi Tryz.env 177 [t7,(.fn 75 [t0] [])] (adv s 9) fun t92 s1 =>
 Bnd (extr t92 0) fun t93 =>
 Bnd (extr t92 1) fun t94 =>
 Bnd (bn .neq 34 t94 (.int .i64 0)) fun t96 =>
 IfP t96
 (Q (.tup [(.int .i64 0),t94]) (adv s1 5))
 (Bnd (bn .neq 3 t8 (.int .i64 0)) fun t99 =>
 IfP t99
 ((nilOk t0 = true ∧
 Bnd (shiftP 0 t0) fun t102 =>
 Bnd (ld 1 false t102 (adv s1 15)) fun t103 =>
 CallWi Tryz.env 81 [t103,t8,t93] (adv s1 15) fun t106 s2 =>
 Bnd (extr t106 0) fun t107 =>
 Bnd (extr t106 1) fun t108 =>
 Q (.tup [t107,t108]) s2))
 (CallWi Tryz.env 178 [t0,t9,t93] (adv s1 12) fun t112 s3 =>
 Bnd (extr t112 0) fun t113 =>
 Bnd (extr t112 1) fun t114 =>
 Q (.tup [t113,t114]) s3))
def f126j1 (Q:AV→St→Prop) (t6 t0 t7 t8 t9:AV) (s:St):Prop :=
 Bnd (bn .eql 9 t6 (.str [108,101,116])) fun t57 =>
 IfP t57
 (CallWi Tryz.env 176 [t0,t7] (adv s 10) fun t60 s1 =>
 Bnd (extr t60 0) fun t61 =>
 Bnd (extr t60 1) fun t62 =>
 Q (.tup [t61,t62]) s1)
 (Bnd (bn .eql 3 t8 (.int .i64 0)) fun t65 =>
 Gd (wantV t65 true) (adv s 10) (fun k=>k t6 (adv s 10)) fun t67 s2 =>
 Gd (wantV t65 true) s2 (fun k=>CallPu Tryz.env 24 [t67] s2 k) fun t68 s3 =>
 Bnd (pickV t65 t68 (.bool false)) fun t69 =>
 IfP t69
 (Q (.tup [(.int .i64 0),(.int .i64 101)]) (adv s3 2))
 (Bnd (bn .eql 3 t8 (.int .i64 0)) fun t72 =>
 Gd (wantV t72 true) (adv s3 18) (fun k=>k t9 (adv s3 18)) fun t74 s4 =>
 Gd (wantV t72 true) s4 (fun k=>Bnd (bn .lss 3 t74 (.int .i64 0)) fun v=>k v s4) fun t75 s5 =>
 Gd (wantV t72 true) s5 (fun k=>k t75 s5) fun t76 s6 =>
 Gd (wantV t76 false) s6 (fun k=>k t0 s6) fun t77 s7 =>
 Gd (wantV t76 false) s7 (fun k=>nilOk t77 = true∧k t77 s7) fun t78 s8 =>
 Gd (wantV t76 false) s8 (fun k=>Bnd (shiftP 1 t78) fun v=>k v s8) fun t79 s9 =>
 Gd (wantV t76 false) s9 (fun k=>Bnd (ld 1 false t79 s9) fun v=>k v s9) fun t80 s10 =>
 Gd (wantV t76 false) s10 (fun k=>k t9 s10) fun t81 s11 =>
 Gd (wantV t76 false) s11 (fun k=>Bnd (ixS 10 t80 t81) fun v=>k v s11) fun t82 s12 =>
 Gd (wantV t76 false) s12 (fun k=>Bnd (shiftP 2 t82) fun v=>k v s12) fun t83 s13 =>
 Gd (wantV t76 false) s13 (fun k=>Bnd (ld 1 false t83 s13) fun v=>k v s13) fun t84 s14 =>
 Gd (wantV t76 false) s14 (fun k=>Bnd (un .not t84) fun v=>k v s14) fun t85 s15 =>
 Gd (wantV t72 true) s15 (fun k=>Bnd (pickV t76 (.bool true) t85) fun v=>k v s15) fun t86 s16 =>
 Bnd (pickV t72 t86 (.bool false)) fun t87 =>
 IfP t87
 (Q (.tup [(.int .i64 0),(.int .i64 100)]) (adv s16 2))
 (f126j2 Q t7 t0 t8 t9 s16)))
theorem f126j2_eq (Q:AV→St→Prop):f126C (sub f126B [Y,Y,Y,Y,Y,Y,Y,Y]) (f126R Q) (fun _ _ _=>False) (f126R Q) = (fun g s=>f126j2 Q (g 7) (g 0) (g 8) (g 9) s) :=
 Eq.trans rfl (by kernel_rfl)
theorem f126j1_eq (Q:AV→St→Prop):f126C (sub f126B [Y,Y,Y,Y,Y,Y,Y]) (f126R Q) (fun _ _ _=>False) (f126R Q) = (fun g s=>f126j1 Q (g 6) (g 0) (g 7) (g 8) (g 9) s) :=
 Eq.trans (seq_eq (by kernel_rfl:(sub f126B [Y,Y,Y,Y,Y,Y,Y]) = .seq (sub f126B [Y,Y,Y,Y,Y,Y,Y,N]) (sub f126B [Y,Y,Y,Y,Y,Y,Y,Y])) (f126j2_eq Q) (block_eq (by kernel_rfl:(sub f126B [Y,Y,Y,Y,Y,Y,Y,N]) = .block 0 (sub f126B [Y,Y,Y,Y,Y,Y,Y,N,N])) rfl)) (by kernel_rfl)
def f126 (Q:AV→St→Prop) (t0 t1:AV) (s:St):Prop :=
 (t1.cells.all AV.one = true ∧
 Bnd (shiftP 5 (.ptr s.nx 0)) fun t14 =>
 Bnd (ld 1 false t14 (adv ((adv s 3).set s.nx (some (.cells t1.cells 33 true true))) 4)) fun t15 =>
 Bnd (bt .len #[31] [t15] (((adv s 3).set s.nx (some (.cells t1.cells 33 true true))).nx + 2) (adv ((adv s 3).set s.nx (some (.cells t1.cells 33 true true))) 4)) fun r16 =>
 Bnd (bn .eql 3 r16.1 (.int .i64 0)) fun t17 =>
 IfP t17
 (Q (.tup [(.int .i64 0),(.int .i64 1)]) (adv r16.2 2))
 (Bnd (shiftP 5 (.ptr s.nx 0)) fun t18 =>
 Bnd (ld 1 false t18 (adv r16.2 14)) fun t19 =>
 Bnd (ixS 6 t19 (.int .i64 0)) fun t20 =>
 Bnd (shiftP 0 t20) fun t21 =>
 Bnd (ld 1 false t21 (adv r16.2 14)) fun t22 =>
 Gd (wantV t22 false) (adv r16.2 14) (fun k=>Bnd (shiftP 5 (.ptr s.nx 0)) fun v=>k v (adv r16.2 14)) fun t24 s1 =>
 Gd (wantV t22 false) s1 (fun k=>Bnd (ld 1 false t24 s1) fun v=>k v s1) fun t25 s2 =>
 Gd (wantV t22 false) s2 (fun k=>Bnd (ixS 6 t25 (.int .i64 0)) fun v=>k v s2) fun t26 s3 =>
 Gd (wantV t22 false) s3 (fun k=>Bnd (shiftP 1 t26) fun v=>k v s3) fun t27 s4 =>
 Gd (wantV t22 false) s4 (fun k=>Bnd (shiftP 0 t27) fun v=>k v s4) fun t28 s5 =>
 Gd (wantV t22 false) s5 (fun k=>Bnd (ld 1 false t28 s5) fun v=>k v s5) fun t29 s6 =>
 Gd (wantV t22 false) s6 (fun k=>Bnd (bn .neq 3 t29 (.int .i64 3)) fun v=>k v s6) fun t30 s7 =>
 Bnd (pickV t22 (.bool true) t30) fun t31 =>
 IfP t31
 (Q (.tup [(.int .i64 0),(.int .i64 101)]) (adv s7 2))
 (Bnd (shiftP 5 (.ptr s.nx 0)) fun t32 =>
 Bnd (ld 1 false t32 (adv s7 11)) fun t33 =>
 Bnd (ixS 6 t33 (.int .i64 0)) fun t34 =>
 Bnd (shiftP 1 t34) fun t35 =>
 Bnd (shiftP 1 t35) fun t36 =>
 Bnd (ld 1 false t36 (adv s7 11)) fun t37 =>
 Bnd (shiftP 5 (.ptr s.nx 0)) fun t38 =>
 Bnd (ld 1 false t38 (adv s7 11)) fun t39 =>
 Bnd (slc 31 t39 (some (.int .i64 1)) none none (adv s7 11)) fun t40 =>
 Bnd (bt .len #[31] [t40] (s7.nx + 13) (adv s7 16)) fun r43 =>
 CallPu Tryz.env 71 [t37,r43.1] r43.2 fun t44 s8 =>
 CallWi Tryz.env 174 [t0,t37] (adv s8 4) fun t47 s9 =>
 CallWi Tryz.env 175 [t0,t37] (adv s9 8) fun t51 s10 =>
 Bnd (extr t51 0) fun t52 =>
 Bnd (extr t51 1) fun t53 =>
 IfP t53
 (f126j1 Q t37 t0 t40 t44 (.int .i64 (-1)) (adv s10 2))
 (f126j1 Q t37 t0 t40 t44 t47 (adv s10 1)))))
theorem f126_run (t0 t1:AV) (s:St) {Q:AV→St→Prop} (h:f126 Q t0 t1 s):∃ r s',WideC Tryz.env 126 [t0,t1] s r s'∧Q r s' :=
 wide_ofA (h:=126) (fn:=Tryz.f126) (c:=sub f126B []) (show f126C (sub f126B []) (f126R Q) (fun _ _ _=>False) (f126R Q) = _ from (seq_eq (by kernel_rfl:(sub f126B []) = .seq (sub f126B [N]) (sub f126B [Y])) (seq_eq (by kernel_rfl:(sub f126B [Y]) = .seq (sub f126B [Y,N]) (sub f126B [Y,Y])) (seq_eq (by kernel_rfl:(sub f126B [Y,Y]) = .seq (sub f126B [Y,Y,N]) (sub f126B [Y,Y,Y])) (seq_eq (by kernel_rfl:(sub f126B [Y,Y,Y]) = .seq (sub f126B [Y,Y,Y,N]) (sub f126B [Y,Y,Y,Y])) (seq_eq (by kernel_rfl:(sub f126B [Y,Y,Y,Y]) = .seq (sub f126B [Y,Y,Y,Y,N]) (sub f126B [Y,Y,Y,Y,Y])) (seq_eq (by kernel_rfl:(sub f126B [Y,Y,Y,Y,Y]) = .seq (sub f126B [Y,Y,Y,Y,Y,N]) (sub f126B [Y,Y,Y,Y,Y,Y])) (seq_eq (by kernel_rfl:(sub f126B [Y,Y,Y,Y,Y,Y]) = .seq (sub f126B [Y,Y,Y,Y,Y,Y,N]) (sub f126B [Y,Y,Y,Y,Y,Y,Y])) (f126j1_eq Q) rfl) rfl) rfl) rfl) rfl) rfl) rfl)) h
abbrev f75B:Code:=bodyOf Tryz.f75
abbrev f75R:=rK Tryz.f75
abbrev f75C:=codeP Tryz.env 75 (Tryz.env.kp 75)
def f75j1 (Q:AV→St→Prop) (s:St):Prop :=
 Q (.tup [(.int .i64 0),(.int .i64 101)]) (adv s 2)
theorem f75j1_eq (Q:AV→St→Prop):f75C (sub f75B [Y,Y,Y]) (f75R Q) (fun _ _ _=>False) (f75R Q) = (fun g s=>f75j1 Q s) :=
 Eq.trans rfl (by kernel_rfl)
def f75 (Q:AV→St→Prop) (t0 t1:AV) (s:St):Prop :=
 (t1.cells.all AV.one = true ∧
 Bnd (shiftP 0 (.ptr s.nx 0)) fun t10 =>
 Bnd (ld 1 false t10 (adv ((adv s 3).set s.nx (some (.cells t1.cells 33 true true))) 2)) fun t11 =>
 IfP t11
 (Bnd (ld 6 true (.ptr s.nx 0) (adv ((adv s 3).set s.nx (some (.cells t1.cells 33 true true))) 9)) fun t13 =>
 CallWi Tryz.env 126 [t0,t13] (adv ((adv s 3).set s.nx (some (.cells t1.cells 33 true true))) 9) fun t14 s1 =>
 Bnd (extr t14 0) fun t15 =>
 Bnd (extr t14 1) fun t16 =>
 Q (.tup [t15,t16]) s1)
 (Bnd (shiftP 1 (.ptr s.nx 0)) fun t17 =>
 Bnd (shiftP 0 t17) fun t18 =>
 Bnd (ld 1 false t18 (adv ((adv s 3).set s.nx (some (.cells t1.cells 33 true true))) 5)) fun t19 =>
 Bnd (bn .eql 3 t19 (.int .i64 4)) fun t21 =>
 IfP t21
 (Bnd (shiftP 1 (.ptr s.nx 0)) fun t23 =>
 Bnd (shiftP 1 t23) fun t24 =>
 Bnd (ld 1 false t24 (adv ((adv s 3).set s.nx (some (.cells t1.cells 33 true true))) 16)) fun t25 =>
 CallPu Tryz.env 127 [t25] (adv ((adv s 3).set s.nx (some (.cells t1.cells 33 true true))) 16) fun t26 s2 =>
 Bnd (extr t26 0) fun t27 =>
 Bnd (extr t26 1) fun t28 =>
 Bnd (bn .neq 34 t28 (.int .i64 0)) fun t30 =>
 IfP t30
 (Q (.tup [(.int .i64 0),(.int .i64 101)]) (adv s2 4))
 ((nilOk t0 = true ∧
 Bnd (shiftP 0 t0) fun t33 =>
 Bnd (ld 1 false t33 (adv s2 13)) fun t34 =>
 Bnd (bld 24 [(1,t27)]) fun t36 =>
 CallWi Tryz.env 79 [t34,t36] (adv s2 13) fun t37 s3 =>
 Bnd (extr t37 0) fun t38 =>
 Bnd (extr t37 1) fun t39 =>
 Q (.tup [t38,t39]) s3)))
 (Bnd (bn .eql 3 t19 (.int .i64 6)) fun t41 =>
 IfP t41
 (Bnd (shiftP 1 (.ptr s.nx 0)) fun t43 =>
 Bnd (shiftP 1 t43) fun t44 =>
 Bnd (ld 1 false t44 (adv ((adv s 3).set s.nx (some (.cells t1.cells 33 true true))) 19)) fun t45 =>
 CallPu Tryz.env 129 [t45] (adv ((adv s 3).set s.nx (some (.cells t1.cells 33 true true))) 19) fun t46 s4 =>
 CallPu Tryz.env 128 [t46] s4 fun t47 s5 =>
 Bnd (extr t47 0) fun t48 =>
 Bnd (extr t47 1) fun t49 =>
 (nilOk t0 = true ∧
 Bnd (shiftP 0 t0) fun t52 =>
 Bnd (ld 1 false t52 (adv s5 10)) fun t53 =>
 CallWi Tryz.env 80 [t53,t48] (adv s5 10) fun t55 s6 =>
 Bnd (extr t55 0) fun t56 =>
 Bnd (extr t55 1) fun t57 =>
 Q (.tup [t56,t57]) s6))
 (Bnd (bn .eql 3 t19 (.int .i64 3)) fun t59 =>
 IfP t59
 (Bnd (shiftP 1 (.ptr s.nx 0)) fun t61 =>
 Bnd (shiftP 1 t61) fun t62 =>
 Bnd (ld 1 false t62 (adv ((adv s 3).set s.nx (some (.cells t1.cells 33 true true))) 20)) fun t63 =>
 CallWi Tryz.env 130 [t0,t63] (adv ((adv s 3).set s.nx (some (.cells t1.cells 33 true true))) 20) fun t64 s7 =>
 Bnd (extr t64 0) fun t65 =>
 Bnd (extr t64 1) fun t66 =>
 Q (.tup [t65,t66]) s7)
 (f75j1 Q (adv ((adv s 3).set s.nx (some (.cells t1.cells 33 true true))) 11))))))
theorem f75_run (t0 t1:AV) (s:St) {Q:AV→St→Prop} (h:f75 Q t0 t1 s):∃ r s',WideC Tryz.env 75 [t0,t1] s r s'∧Q r s' :=
 wide_ofA (h:=75) (fn:=Tryz.f75) (c:=sub f75B []) (show f75C (sub f75B []) (f75R Q) (fun _ _ _=>False) (f75R Q) = _ from (seq_eq (by kernel_rfl:(sub f75B []) = .seq (sub f75B [N]) (sub f75B [Y])) (seq_eq (by kernel_rfl:(sub f75B [Y]) = .seq (sub f75B [Y,N]) (sub f75B [Y,Y])) (seq_eq (by kernel_rfl:(sub f75B [Y,Y]) = .seq (sub f75B [Y,Y,N]) (sub f75B [Y,Y,Y])) (f75j1_eq Q) (seq_eq (by kernel_rfl:(sub f75B [Y,Y,N]) = .seq (sub f75B [Y,Y,N,N]) (sub f75B [Y,Y,N,Y])) (block_eq (by kernel_rfl:(sub f75B [Y,Y,N,Y]) = .block 0 (sub f75B [Y,Y,N,Y,N])) rfl) rfl)) rfl) rfl)) h
abbrev f30B:Code:=bodyOf Tryz.f30
abbrev f30R:=rK Tryz.f30
abbrev f30C:=codeP Tryz.env 30 (Tryz.env.kp 30)
def f30 (Q:AV→St→Prop) (t0 t1 t2:AV) (s:St):Prop :=
 (t2.cells.all AV.one = true ∧
 Bnd (bld 124 [(0,t0),(1,t1),(3,(.map (((adv s 3).set s.nx (some (.cells t2.cells 33 true true))).nx + 2)))]) fun t12 =>
 (t12.cells.all AV.one = true ∧
 Bnd (ld 6 true (.ptr s.nx 0) (adv (((adv ((adv s 3).set s.nx (some (.cells t2.cells 33 true true))) 6).set (((adv s 3).set s.nx (some (.cells t2.cells 33 true true))).nx + 2) (some (.map []))).set (((adv s 3).set s.nx (some (.cells t2.cells 33 true true))).nx + 4) (some (.cells t12.cells 124 true true))) 7)) fun t15 =>
 CallWi Tryz.env 75 [(.ptr (((adv s 3).set s.nx (some (.cells t2.cells 33 true true))).nx + 4) 0),t15] (adv (((adv ((adv s 3).set s.nx (some (.cells t2.cells 33 true true))) 6).set (((adv s 3).set s.nx (some (.cells t2.cells 33 true true))).nx + 2) (some (.map []))).set (((adv s 3).set s.nx (some (.cells t2.cells 33 true true))).nx + 4) (some (.cells t12.cells 124 true true))) 7) fun t16 s1 =>
 Bnd (extr t16 0) fun t17 =>
 Bnd (extr t16 1) fun t18 =>
 Q (.tup [t17,t18]) s1))
theorem f30_run (t0 t1 t2:AV) (s:St) {Q:AV→St→Prop} (h:f30 Q t0 t1 t2 s):∃ r s',WideC Tryz.env 30 [t0,t1,t2] s r s'∧Q r s' :=
 wide_ofA (h:=30) (fn:=Tryz.f30) (c:=sub f30B []) (show f30C (sub f30B []) (f30R Q) (fun _ _ _=>False) (f30R Q) = _ from rfl) h
end
end Go.Proofs.YtdehdahimkcakaaGreatDoor
