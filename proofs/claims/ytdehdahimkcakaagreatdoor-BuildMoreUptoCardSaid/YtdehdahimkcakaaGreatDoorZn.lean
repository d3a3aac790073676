/- Texts joined by wip/tools/pack.py: LBw,Awa,LCl. -/
import Derived.Test.YtdehdahimkcakaaGreatDoorZm
set_option linter.unusedVariables false
namespace Go.Proofs.YtdehdahimkcakaaGreatDoor
open Go Ai
noncomputable section
set_option maxRecDepth 1000000
def f7 (Q:AV→St→Prop) (t0 t1:AV) (s:St):Prop :=
 (t1.cells.all AV.one = true ∧
 CallPu Tryz.env 25 [] (adv ((adv s 2).set s.nx (some (.cells t1.cells 33 true true))) 2) fun t13 s1 =>
 Bnd (ld 6 true (.ptr s.nx 0) (adv s1 4)) fun t15 =>
 CallPu Tryz.env 29 [t0,t15] (adv s1 4) fun t16 s2 =>
 Bnd (un .not t13) fun t18 =>
 Gd (wantV t18 false) (adv s2 6) (fun k=>k t16 (adv s2 6)) fun t20 s3 =>
 Gd (wantV t18 false) s3 (fun k=>Bnd (un .not t20) fun v=>k v s3) fun t21 s4 =>
 Bnd (pickV t18 (.bool true) t21) fun t22 =>
 IfP t22
 (Q t13 (adv s4 2))
 (Bnd (bld 58 []) fun t24 =>
 (t24.cells.all AV.one = true ∧
 Bnd (ld 6 true (.ptr s.nx 0) (adv ((adv s4 3).set (s4.nx + 1) (some (.cells t24.cells 58 true true))) 9)) fun t29 =>
 CallWi Tryz.env 30 [(.ptr (s4.nx + 1) 0),t0,t29] (adv ((adv s4 3).set (s4.nx + 1) (some (.cells t24.cells 58 true true))) 9) fun t30 s5 =>
 Bnd (extr t30 0) fun t31 =>
 Bnd (extr t30 1) fun t32 =>
 CallWi Tryz.env 31 [(.ptr (s4.nx + 1) 0)] (adv s5 3) fun t34 s6 =>
 Bnd (ld 6 true (.ptr s.nx 0) (adv s6 9)) fun t38 =>
 CallWi Tryz.env 30 [(.ptr (s4.nx + 1) 0),t0,t38] (adv s6 9) fun t39 s7 =>
 Bnd (extr t39 0) fun t40 =>
 Bnd (extr t39 1) fun t41 =>
 Bnd (bn .neq 34 t32 (.int .i64 0)) fun t43 =>
 IfP t43
 (Bnd (bn .eql 3 t31 (.int .i64 0)) fun t45 =>
 Gd (wantV t45 true) (adv s7 14) (fun k=>k t32 (adv s7 14)) fun t47 s8 =>
 Gd (wantV t45 true) s8 (fun k=>k t41 s8) fun t48 s9 =>
 Gd (wantV t45 true) s9 (fun k=>Bnd (bn .eql 34 t47 t48) fun v=>k v s9) fun t49 s10 =>
 Bnd (pickV t45 t49 (.bool false)) fun t50 =>
 Gd (wantV t50 true) s10 (fun k=>k t40 s10) fun t52 s11 =>
 Gd (wantV t50 true) s11 (fun k=>Bnd (bn .eql 3 t52 (.int .i64 0)) fun v=>k v s11) fun t53 s12 =>
 Bnd (pickV t50 t53 (.bool false)) fun t54 =>
 Q t54 s12)
 (Bnd (bn .eql 34 t41 (.int .i64 0)) fun t56 =>
 Gd (wantV t56 true) (adv s7 25) (fun k=>k t31 (adv s7 25)) fun t58 s13 =>
 Gd (wantV t56 true) s13 (fun k=>k t40 s13) fun t59 s14 =>
 Gd (wantV t56 true) s14 (fun k=>Bnd (bn .eql 3 t58 t59) fun v=>k v s14) fun t60 s15 =>
 Bnd (pickV t56 t60 (.bool false)) fun t61 =>
 Gd (wantV t61 true) s15 (fun k=>k (.ptr (s4.nx + 1) 0) s15) fun t63 s16 =>
 Gd (wantV t61 true) s16 (fun k=>CallWi Tryz.env 31 [t63] s16 k) fun t64 s17 =>
 Gd (wantV t61 true) s17 (fun k=>k t34 s17) fun t65 s18 =>
 Gd (wantV t61 true) s18 (fun k=>Bnd (bn .eql 3 t64 t65) fun v=>k v s18) fun t66 s19 =>
 Bnd (pickV t61 t66 (.bool false)) fun t67 =>
 Gd (wantV t67 true) s19 (fun k=>k t31 s19) fun t69 s20 =>
 Gd (wantV t67 true) s20 (fun k=>k t34 s20) fun t70 s21 =>
 Gd (wantV t67 true) s21 (fun k=>Bnd (bn .lss 3 t69 t70) fun v=>k v s21) fun t71 s22 =>
 Bnd (pickV t67 t71 (.bool false)) fun t72 =>
 Gd (wantV t72 true) s22 (fun k=>k t31 s22) fun t74 s23 =>
 Gd (wantV t72 true) s23 (fun k=>Bnd (bn .geq 3 t74 (.int .i64 0)) fun v=>k v s23) fun t75 s24 =>
 Bnd (pickV t72 t75 (.bool false)) fun t76 =>
 Q t76 s24))))
def f8 (Q:AV→St→Prop) (t0 t1 t2 t3:AV) (s:St):Prop :=
 (t2.cells.all AV.one = true ∧
 (t3.cells.all AV.one = true ∧
 CallPu Tryz.env 25 [] (adv (((adv s 3).set s.nx (some (.cells t2.cells 33 true true))).set (s.nx + 1) (some (.cells t3.cells 33 true true))) 2) fun t23 s1 =>
 Bnd (ld 6 true (.ptr s.nx 0) (adv s1 4)) fun t25 =>
 CallPu Tryz.env 29 [t0,t25] (adv s1 4) fun t26 s2 =>
 Bnd (ld 6 true (.ptr (s.nx + 1) 0) (adv s2 4)) fun t28 =>
 CallPu Tryz.env 29 [t0,t28] (adv s2 4) fun t29 s3 =>
 Bnd (un .not t23) fun t31 =>
 Gd (wantV t31 false) (adv s3 14) (fun k=>k t26 (adv s3 14)) fun t33 s4 =>
 Gd (wantV t31 false) s4 (fun k=>Bnd (un .not t33) fun v=>k v s4) fun t34 s5 =>
 Bnd (pickV t31 (.bool true) t34) fun t35 =>
 Gd (wantV t35 false) s5 (fun k=>k t29 s5) fun t37 s6 =>
 Gd (wantV t35 false) s6 (fun k=>Bnd (un .not t37) fun v=>k v s6) fun t38 s7 =>
 Bnd (pickV t35 (.bool true) t38) fun t39 =>
 Gd (wantV t39 false) s7 (fun k=>k t1 s7) fun t41 s8 =>
 Gd (wantV t39 false) s8 (fun k=>CallPu Tryz.env 24 [t41] s8 k) fun t42 s9 =>
 Bnd (pickV t39 (.bool true) t42) fun t43 =>
 IfP t43
 (Q t23 (adv s9 2))
 (Bnd (ld 6 true (.ptr (s.nx + 1) 0) (adv s9 10)) fun t46 =>
 Bnd (ld 6 true (.ptr s.nx 0) (adv s9 10)) fun t48 =>
 CallPu Tryz.env 32 [t46,t1,t48] (adv s9 10) fun t49 s10 =>
 Bnd (extr t49 0) fun t50 =>
 Bnd (extr t49 1) fun t51 =>
 Bnd (zr 33) fun z12 =>
 Bnd (sto 6 (.ptr (s9.nx + 7) 0) t50 (s10.set (s9.nx + 7) (some (.cells z12.cells 33 true true)))) fun s11 =>
 Bnd (un .not t51) fun t53 =>
 Gd (wantV t53 false) (adv s11 7) (fun k=>Bnd (ld 6 true (.ptr (s9.nx + 7) 0) (adv s11 7)) fun v=>k v (adv s11 7)) fun t55 s12 =>
 Gd (wantV t53 false) s12 (fun k=>CallPu Tryz.env 33 [t55] s12 k) fun t56 s13 =>
 Gd (wantV t53 false) s13 (fun k=>Bnd (bn .gtr 3 t56 (.int .i64 4000)) fun v=>k v s13) fun t57 s14 =>
 Bnd (pickV t53 (.bool true) t57) fun t58 =>
 IfP t58
 (Q (.bool true) (adv s14 1))
 (CallVD Tryz.env 8 (.fn 34 [] []) [t1] (rch (adv s14 11) [(.fn 34 [] []),t1]) (adv s14 11) fun t61 s15 =>
 (clear 0 ⟨3,false,idOf (.ptr s.nx 0),none⟩ [markV Tryz.env 8 2 (.fn 34 [] []) (rch (adv s14 11) [(.fn 34 [] []),t1]) (adv s14 11),⟨1,false,[],none⟩,⟨0,false,[],none⟩] = true∧Bnd (ld 6 true (.ptr s.nx 0) s15) fun t62 =>
 Bnd (bsl 31 2 [(0,t61),(1,t62)]) fun t63 =>
 Bnd (bld 33 [(0,(.bool true)),(3,t63)]) fun t64 =>
 Bnd (bsl 31 1 [(0,t64)]) fun t65 =>
 Bnd (bld 33 [(0,(.bool true)),(3,t65)]) fun t66 =>
 (clear 0 ⟨8,true,(s14.nx + 9) :: [],none⟩ [⟨7,false,[],none⟩,⟨6,false,[],none⟩,⟨5,false,[],none⟩,⟨4,false,[],none⟩,⟨3,false,idOf (.ptr s.nx 0),none⟩,markV Tryz.env 8 2 (.fn 34 [] []) (rch (adv s14 11) [(.fn 34 [] []),t1]) (adv s14 11),⟨1,false,[],none⟩,⟨0,false,[],none⟩] = true∧s15.h (s14.nx + 9) = none∧Bnd (zr 33) fun z15 =>
 ((s15.set (s14.nx + 9) (some (.cells z15.cells 33 true true))).h (s14.nx + 10) = none∧Bnd (sto 6 (.ptr (s14.nx + 9) 0) t66 (s15.set (s14.nx + 9) (some (.cells z15.cells 33 true true)))) fun s16 =>
 Bnd (bld 58 []) fun t67 =>
 (t67.cells.all AV.one = true ∧
 Bnd (ld 6 true (.ptr s.nx 0) (adv ((adv s16 3).set (s16.nx + 1) (some (.cells t67.cells 58 true true))) 9)) fun t72 =>
 CallWi Tryz.env 30 [(.ptr (s16.nx + 1) 0),t0,t72] (adv ((adv s16 3).set (s16.nx + 1) (some (.cells t67.cells 58 true true))) 9) fun t73 s17 =>
 Bnd (extr t73 0) fun t74 =>
 Bnd (extr t73 1) fun t75 =>
 Bnd (bn .neq 34 t75 (.int .i64 0)) fun t77 =>
 IfP t77
 (Bnd (bn .eql 3 t74 (.int .i64 0)) fun t79 =>
 Q t79 (adv s17 5))
 (CallVD Tryz.env 8 (.fn 34 [] []) [(.str [108,101,116])] (rch (adv s17 16) [(.fn 34 [] []),(.str [108,101,116])]) (adv s17 16) fun t84 s18 =>
 (clear 0 ⟨4,false,idOf (.ptr (s14.nx + 9) 0),none⟩ [markV Tryz.env 8 3 (.fn 34 [] []) (rch (adv s17 16) [(.fn 34 [] []),(.str [108,101,116])]) (adv s17 16),⟨2,false,[],none⟩,⟨1,false,[],none⟩,⟨0,false,[],none⟩] = true∧Bnd (ld 6 true (.ptr (s14.nx + 9) 0) s18) fun t85 =>
 (clear 0 ⟨5,false,idOf (.ptr (s.nx + 1) 0),none⟩ [⟨4,false,idOf (.ptr (s14.nx + 9) 0),none⟩,markV Tryz.env 8 3 (.fn 34 [] []) (rch (adv s17 16) [(.fn 34 [] []),(.str [108,101,116])]) (adv s17 16),⟨2,false,[],none⟩,⟨1,false,[],none⟩,⟨0,false,[],none⟩] = true∧Bnd (ld 6 true (.ptr (s.nx + 1) 0) s18) fun t86 =>
 Bnd (bsl 31 3 [(0,t84),(1,t85),(2,t86)]) fun t87 =>
 Bnd (bld 33 [(0,(.bool true)),(3,t87)]) fun t88 =>
 CallWiD Tryz.env 30 [(.ptr (s16.nx + 1) 0),t0,t88] (rch s18 [(.fn 30 [] []),(.ptr (s16.nx + 1) 0),t0,t88]) s18 fun t89 s19 =>
 Bnd (extr t89 0) fun t90 =>
 Bnd (extr t89 1) fun t91 =>
 Bnd (ld 6 true (.ptr (s9.nx + 7) 0) (adv s19 9)) fun t95 =>
 CallWi Tryz.env 30 [(.ptr (s16.nx + 1) 0),t0,t95] (adv s19 9) fun t96 s20 =>
 Bnd (extr t96 0) fun t97 =>
 Bnd (extr t96 1) fun t98 =>
 Bnd (bn .eql 3 t90 t97) fun t101 =>
 Gd (wantV t101 true) (adv s20 9) (fun k=>k t91 (adv s20 9)) fun t103 s21 =>
 Gd (wantV t101 true) s21 (fun k=>k t98 s21) fun t104 s22 =>
 Gd (wantV t101 true) s22 (fun k=>Bnd (bn .eql 34 t103 t104) fun v=>k v s22) fun t105 s23 =>
 Bnd (pickV t101 t105 (.bool false)) fun t106 =>
 Q t106 s23)))))))))))
abbrev f9B:Code:=bodyOf Tryz.f9
abbrev f9R:=rK Tryz.f9
abbrev f9C:=codeP Tryz.env 9 (Tryz.env.kp 9)
def f9j1 (Q:AV→St→Prop) (t0 t5 t8:AV) (s:St):Prop :=
 Bnd (bld 58 []) fun t91 =>
 (t91.cells.all AV.one = true ∧
 Bnd (bld 58 []) fun t93 =>
 (t93.cells.all AV.one = true ∧
 Bnd (ld 6 true t5 (adv ((adv ((adv s 3).set (s.nx + 1) (some (.cells t91.cells 58 true true))) 3).set (((adv s 3).set (s.nx + 1) (some (.cells t91.cells 58 true true))).nx + 1) (some (.cells t93.cells 58 true true))) 9)) fun t98 =>
 CallWi Tryz.env 30 [(.ptr (s.nx + 1) 0),t0,t98] (adv ((adv ((adv s 3).set (s.nx + 1) (some (.cells t91.cells 58 true true))) 3).set (((adv s 3).set (s.nx + 1) (some (.cells t91.cells 58 true true))).nx + 1) (some (.cells t93.cells 58 true true))) 9) fun t99 s1 =>
 Bnd (extr t99 0) fun t100 =>
 Bnd (extr t99 1) fun t101 =>
 Bnd (ld 6 true t5 (adv s1 9)) fun t105 =>
 CallWi Tryz.env 30 [(.ptr (((adv s 3).set (s.nx + 1) (some (.cells t91.cells 58 true true))).nx + 1) 0),t8,t105] (adv s1 9) fun t106 s2 =>
 Bnd (extr t106 0) fun t107 =>
 Bnd (extr t106 1) fun t108 =>
 Bnd (bn .eql 3 t100 t107) fun t111 =>
 Gd (wantV t111 true) (adv s2 16) (fun k=>k t101 (adv s2 16)) fun t113 s3 =>
 Gd (wantV t111 true) s3 (fun k=>k t108 s3) fun t114 s4 =>
 Gd (wantV t111 true) s4 (fun k=>Bnd (bn .eql 34 t113 t114) fun v=>k v s4) fun t115 s5 =>
 Bnd (pickV t111 t115 (.bool false)) fun t116 =>
 Gd (wantV t116 true) s5 (fun k=>k (.ptr (s.nx + 1) 0) s5) fun t118 s6 =>
 Gd (wantV t116 true) s6 (fun k=>CallWi Tryz.env 31 [t118] s6 k) fun t119 s7 =>
 Gd (wantV t116 true) s7 (fun k=>k (.ptr (((adv s 3).set (s.nx + 1) (some (.cells t91.cells 58 true true))).nx + 1) 0) s7) fun t120 s8 =>
 Gd (wantV t116 true) s8 (fun k=>CallWi Tryz.env 31 [t120] s8 k) fun t121 s9 =>
 Gd (wantV t116 true) s9 (fun k=>Bnd (bn .eql 3 t119 t121) fun v=>k v s9) fun t122 s10 =>
 Bnd (pickV t116 t122 (.bool false)) fun t123 =>
 Q t123 s10))
def f9j2 (Q:AV→St→Prop) (ih1:AV→AV→AV→AV→AV→St→Prop) (t11 t0 t1 t5 t8:AV) (s:St):Prop :=
 Bnd (bn .add 3 t11 (.int .i64 1)) fun t48 =>
 ih1 t0 t1 t5 t8 t48 (adv s 3)
def f9j3 (Q:AV→St→Prop) (ih1:AV→AV→AV→AV→AV→St→Prop) (t12 t11 t0 t1 t5 t8:AV) (s:St):Prop :=
 IfP t12
 (Q (.bool true) (adv s 2))
 (f9j2 Q ih1 t11 t0 t1 t5 t8 (adv s 1))
def f9j4 (Q:AV→St→Prop) (ih1:AV→AV→AV→AV→AV→St→Prop) (ih2:AV→AV→AV→AV→AV→AV→AV→St→Prop) (t13 t0 t1 t5 t8 t11 t12:AV) (s:St):Prop :=
 Bnd (bn .add 3 t13 (.int .i64 1)) fun t61 =>
 ih2 t0 t1 t5 t8 t11 t12 t61 (adv s 3)
def f9l2s (Q:AV→St→Prop) (ih1:AV→AV→AV→AV→AV→St→Prop) (ih2:AV→AV→AV→AV→AV→AV→AV→St→Prop) (t0 t1 t5 t8 t11 t12 t13:AV) (s:St):Prop :=
 Bnd (bt .len #[49] [t0] (s.nx + 2) (adv s 4)) fun r58 =>
 Bnd (bn .lss 3 t13 r58.1) fun t59 =>
 IfP t59
 (Bnd (ixS 10 t0 t13) fun t64 =>
 Bnd (shiftP 4 t64) fun t65 =>
 Bnd (ld 6 true t65 (adv r58.2 12)) fun t66 =>
 Bnd (ixS 10 t1 t11) fun t69 =>
 Bnd (shiftP 0 t69) fun t70 =>
 Bnd (ld 1 false t70 (adv r58.2 12)) fun t71 =>
 CallPuD Tryz.env 35 [t66,t71] (rch (adv r58.2 12) [(.fn 35 [] []),t66,t71]) (adv r58.2 12) fun t72 s1 =>
 Gd (wantV t12 false) (adv s1 18) (fun k=>k t72 (adv s1 18)) fun t75 s2 =>
 Bnd (pickV t12 (.bool true) t75) fun t76 =>
 Gd (wantV t76 false) s2 (fun k=>k t0 s2) fun t78 s3 =>
 Gd (wantV t76 false) s3 (fun k=>k t13 s3) fun t79 s4 =>
 Gd (wantV t76 false) s4 (fun k=>Bnd (ixS 10 t78 t79) fun v=>k v s4) fun t80 s5 =>
 Gd (wantV t76 false) s5 (fun k=>Bnd (shiftP 0 t80) fun v=>k v s5) fun t81 s6 =>
 Gd (wantV t76 false) s6 (fun k=>Bnd (ld 1 false t81 s6) fun v=>k v s6) fun t82 s7 =>
 Gd (wantV t76 false) s7 (fun k=>k t1 s7) fun t83 s8 =>
 Gd (wantV t76 false) s8 (fun k=>k t11 s8) fun t84 s9 =>
 Gd (wantV t76 false) s9 (fun k=>Bnd (ixS 10 t83 t84) fun v=>k v s9) fun t85 s10 =>
 Gd (wantV t76 false) s10 (fun k=>Bnd (shiftP 0 t85) fun v=>k v s10) fun t86 s11 =>
 Gd (wantV t76 false) s11 (fun k=>Bnd (ld 1 false t86 s11) fun v=>k v s11) fun t87 s12 =>
 Gd (wantV t76 false) s12 (fun k=>Bnd (bn .eql 9 t82 t87) fun v=>k v s12) fun t88 s13 =>
 Bnd (pickV t76 (.bool true) t88) fun t89 =>
 f9j4 Q ih1 ih2 t13 t0 t1 t5 t8 t11 t89 s13)
 (f9j3 Q ih1 t12 t11 t0 t1 t5 t8 r58.2)
def f9l2 (Q:AV→St→Prop) (ih1:AV→AV→AV→AV→AV→St→Prop) (n:Nat):AV→AV→AV→AV→AV→AV→AV→St→Prop:=Nat.rec (motive:=fun _=>AV→AV→AV→AV→AV→AV→AV→St→Prop) (fun _ _ _ _ _ _ _ _=>False) (fun _ ih=>f9l2s Q ih1 ih) n
def f9l1s (Q:AV→St→Prop) (ih1:AV→AV→AV→AV→AV→St→Prop) (t0 t1 t5 t8 t11:AV) (s:St):Prop :=
 Bnd (bt .len #[49] [t1] (s.nx + 2) (adv s 4)) fun r45 =>
 Bnd (bn .lss 3 t11 r45.1) fun t46 =>
 IfP t46
 (Bnd (ld 6 true t5 (adv r45.2 8)) fun t49 =>
 Bnd (ixS 10 t1 t11) fun t52 =>
 Bnd (shiftP 0 t52) fun t53 =>
 Bnd (ld 1 false t53 (adv r45.2 8)) fun t54 =>
 CallPuD Tryz.env 35 [t49,t54] (rch (adv r45.2 8) [(.fn 35 [] []),t49,t54]) (adv r45.2 8) fun t55 s1 =>
 ∃ n,f9l2 Q ih1 n t0 t1 t5 t8 t11 t55 (.int .i64 0) (adv s1 1))
 (f9j1 Q t0 t5 t8 r45.2)
def f9l1 (Q:AV→St→Prop) (n:Nat):AV→AV→AV→AV→AV→St→Prop:=Nat.rec (motive:=fun _=>AV→AV→AV→AV→AV→St→Prop) (fun _ _ _ _ _ _=>False) (fun _ ih=>f9l1s Q ih) n
theorem f9j1_eq (Q:AV→St→Prop):f9C (sub f9B [Y,Y,Y,Y,Y,Y,Y]) (f9R Q) (fun _ _ _=>False) (f9R Q) = (fun g s=>f9j1 Q (g 0) (g 5) (g 8) s) :=
 Eq.trans rfl (by kernel_rfl)
theorem f9j2_eq (Q:AV→St→Prop) (n1:Nat):f9C (sub f9B [Y,Y,Y,Y,Y,Y,N,Y,N,N,Y,Y]) (fun g s=>(fun (n:Nat) (g:Gf) (s:St)=>f9l1 Q n (g 0) (g 1) (g 5) (g 8) (g 11) s) n1 (fun k=>cond (bitOf (Tryz.env.kp 9) k) (g k) .undef) s) (fun i=>cond (Nat.beq i 0) (fun g s=>f9j1 Q (g 0) (g 5) (g 8) s) ((fun _ _ _=>False) i)) (f9R Q) = (fun g s=>f9j2 Q (f9l1 Q n1) (g 11) (g 0) (g 1) (g 5) (g 8) s) :=
 Eq.trans rfl (by kernel_rfl)
theorem f9j3_eq (Q:AV→St→Prop) (n1:Nat):f9C (sub f9B [Y,Y,Y,Y,Y,Y,N,Y,N,N,Y,N,N,Y,Y]) (fun g s=>f9j2 Q (f9l1 Q n1) (g 11) (g 0) (g 1) (g 5) (g 8) s) (fun i=>cond (Nat.beq i 1) (fun g s=>f9j2 Q (f9l1 Q n1) (g 11) (g 0) (g 1) (g 5) (g 8) s) ((fun i=>cond (Nat.beq i 0) (fun g s=>f9j1 Q (g 0) (g 5) (g 8) s) ((fun _ _ _=>False) i)) i)) (f9R Q) = (fun g s=>f9j3 Q (f9l1 Q n1) (g 12) (g 11) (g 0) (g 1) (g 5) (g 8) s) :=
 Eq.trans rfl (by kernel_rfl)
theorem f9j4_eq (Q:AV→St→Prop) (n1:Nat) (n2:Nat):f9C (sub f9B [Y,Y,Y,Y,Y,Y,N,Y,N,N,Y,N,N,Y,N,Y,N,N,Y,Y]) (fun g s=>(fun (n:Nat) (g:Gf) (s:St)=>f9l2 Q (f9l1 Q n1) n (g 0) (g 1) (g 5) (g 8) (g 11) (g 12) (g 13) s) n2 (fun k=>cond (bitOf (Tryz.env.kp 9) k) (g k) .undef) s) (fun i=>cond (Nat.beq i 2) (fun g s=>f9j3 Q (f9l1 Q n1) (g 12) (g 11) (g 0) (g 1) (g 5) (g 8) s) ((fun i=>cond (Nat.beq i 1) (fun g s=>f9j2 Q (f9l1 Q n1) (g 11) (g 0) (g 1) (g 5) (g 8) s) ((fun i=>cond (Nat.beq i 0) (fun g s=>f9j1 Q (g 0) (g 5) (g 8) s) ((fun _ _ _=>False) i)) i)) i)) (f9R Q) = (fun g s=>f9j4 Q (f9l1 Q n1) (f9l2 Q (f9l1 Q n1) n2) (g 13) (g 0) (g 1) (g 5) (g 8) (g 11) (g 12) s) :=
 Eq.trans rfl (by kernel_rfl)
theorem f9l2_eq (Q:AV→St→Prop) (n1:Nat) (kN:Kt):f9C (sub f9B [Y,Y,Y,Y,Y,Y,N,Y,N,N,Y,N,N,Y,N,Y,N]) kN (fun i=>cond (Nat.beq i 2) (fun g s=>f9j3 Q (f9l1 Q n1) (g 12) (g 11) (g 0) (g 1) (g 5) (g 8) s) ((fun i=>cond (Nat.beq i 1) (fun g s=>f9j2 Q (f9l1 Q n1) (g 11) (g 0) (g 1) (g 5) (g 8) s) ((fun i=>cond (Nat.beq i 0) (fun g s=>f9j1 Q (g 0) (g 5) (g 8) s) ((fun _ _ _=>False) i)) i)) i)) (f9R Q) = fun g s=>∃ n,(fun (n:Nat) (g:Gf) (s:St)=>f9l2 Q (f9l1 Q n1) n (g 0) (g 1) (g 5) (g 8) (g 11) (g 12) (g 13) s) n g s :=
 loop_eq (L:=fun (n:Nat) (g:Gf) (s:St)=>f9l2 Q (f9l1 Q n1) n (g 0) (g 1) (g 5) (g 8) (g 11) (g 12) (g 13) s) (by kernel_rfl:(sub f9B [Y,Y,Y,Y,Y,Y,N,Y,N,N,Y,N,N,Y,N,Y,N]) = .loop (sub f9B [Y,Y,Y,Y,Y,Y,N,Y,N,N,Y,N,N,Y,N,Y,N,N])) (by kernel_rfl) (fun n2=>Eq.trans (seq_eq (by kernel_rfl:(sub f9B [Y,Y,Y,Y,Y,Y,N,Y,N,N,Y,N,N,Y,N,Y,N,N]) = .seq (sub f9B [Y,Y,Y,Y,Y,Y,N,Y,N,N,Y,N,N,Y,N,Y,N,N,N]) (sub f9B [Y,Y,Y,Y,Y,Y,N,Y,N,N,Y,N,N,Y,N,Y,N,N,Y])) (seq_eq (by kernel_rfl:(sub f9B [Y,Y,Y,Y,Y,Y,N,Y,N,N,Y,N,N,Y,N,Y,N,N,Y]) = .seq (sub f9B [Y,Y,Y,Y,Y,Y,N,Y,N,N,Y,N,N,Y,N,Y,N,N,Y,N]) (sub f9B [Y,Y,Y,Y,Y,Y,N,Y,N,N,Y,N,N,Y,N,Y,N,N,Y,Y])) (f9j4_eq Q n1 n2) (block_eq (by kernel_rfl:(sub f9B [Y,Y,Y,Y,Y,Y,N,Y,N,N,Y,N,N,Y,N,Y,N,N,Y,N]) = .block 3 (sub f9B [Y,Y,Y,Y,Y,Y,N,Y,N,N,Y,N,N,Y,N,Y,N,N,Y,N,N])) rfl)) rfl) (by kernel_rfl))
theorem f9l1_eq (Q:AV→St→Prop) (kN:Kt):f9C (sub f9B [Y,Y,Y,Y,Y,Y,N,Y,N]) kN (fun i=>cond (Nat.beq i 0) (fun g s=>f9j1 Q (g 0) (g 5) (g 8) s) ((fun _ _ _=>False) i)) (f9R Q) = fun g s=>∃ n,(fun (n:Nat) (g:Gf) (s:St)=>f9l1 Q n (g 0) (g 1) (g 5) (g 8) (g 11) s) n g s :=
 loop_eq (L:=fun (n:Nat) (g:Gf) (s:St)=>f9l1 Q n (g 0) (g 1) (g 5) (g 8) (g 11) s) (by kernel_rfl:(sub f9B [Y,Y,Y,Y,Y,Y,N,Y,N]) = .loop (sub f9B [Y,Y,Y,Y,Y,Y,N,Y,N,N])) (by kernel_rfl) (fun n1=>Eq.trans (seq_eq (by kernel_rfl:(sub f9B [Y,Y,Y,Y,Y,Y,N,Y,N,N]) = .seq (sub f9B [Y,Y,Y,Y,Y,Y,N,Y,N,N,N]) (sub f9B [Y,Y,Y,Y,Y,Y,N,Y,N,N,Y])) (seq_eq (by kernel_rfl:(sub f9B [Y,Y,Y,Y,Y,Y,N,Y,N,N,Y]) = .seq (sub f9B [Y,Y,Y,Y,Y,Y,N,Y,N,N,Y,N]) (sub f9B [Y,Y,Y,Y,Y,Y,N,Y,N,N,Y,Y])) (f9j2_eq Q n1) (block_eq (by kernel_rfl:(sub f9B [Y,Y,Y,Y,Y,Y,N,Y,N,N,Y,N]) = .block 1 (sub f9B [Y,Y,Y,Y,Y,Y,N,Y,N,N,Y,N,N])) (seq_eq (by kernel_rfl:(sub f9B [Y,Y,Y,Y,Y,Y,N,Y,N,N,Y,N,N]) = .seq (sub f9B [Y,Y,Y,Y,Y,Y,N,Y,N,N,Y,N,N,N]) (sub f9B [Y,Y,Y,Y,Y,Y,N,Y,N,N,Y,N,N,Y])) (seq_eq (by kernel_rfl:(sub f9B [Y,Y,Y,Y,Y,Y,N,Y,N,N,Y,N,N,Y]) = .seq (sub f9B [Y,Y,Y,Y,Y,Y,N,Y,N,N,Y,N,N,Y,N]) (sub f9B [Y,Y,Y,Y,Y,Y,N,Y,N,N,Y,N,N,Y,Y])) (f9j3_eq Q n1) (seq_eq (by kernel_rfl:(sub f9B [Y,Y,Y,Y,Y,Y,N,Y,N,N,Y,N,N,Y,N]) = .seq (sub f9B [Y,Y,Y,Y,Y,Y,N,Y,N,N,Y,N,N,Y,N,N]) (sub f9B [Y,Y,Y,Y,Y,Y,N,Y,N,N,Y,N,N,Y,N,Y])) (block_eq (by kernel_rfl:(sub f9B [Y,Y,Y,Y,Y,Y,N,Y,N,N,Y,N,N,Y,N,Y]) = .block 2 (sub f9B [Y,Y,Y,Y,Y,Y,N,Y,N,N,Y,N,N,Y,N,Y,N])) (f9l2_eq Q n1 _)) rfl)) rfl))) rfl) (by kernel_rfl))
def f9 (Q:AV→St→Prop) (t0 t1 t2:AV) (s:St):Prop :=
 (t2.cells.all AV.one = true ∧
 CallPu Tryz.env 25 [] (adv ((adv s 2).set s.nx (some (.cells t2.cells 33 true true))) 2) fun t21 s1 =>
 Bnd (bt .append #[49,49] [.nils,t1] (s1.nx + 1) (adv s1 5)) fun r23 =>
 Bnd (bt .append #[49,49] [r23.1,t0] (s1.nx + 3) r23.2) fun r25 =>
 Bnd (ld 6 true (.ptr s.nx 0) (adv r25.2 4)) fun t27 =>
 CallPu Tryz.env 29 [t0,t27] (adv r25.2 4) fun t28 s2 =>
 Bnd (ld 6 true (.ptr s.nx 0) (adv s2 4)) fun t30 =>
 CallPu Tryz.env 29 [r25.1,t30] (adv s2 4) fun t31 s3 =>
 Bnd (un .not t21) fun t33 =>
 Gd (wantV t33 false) (adv s3 10) (fun k=>k t28 (adv s3 10)) fun t35 s4 =>
 Gd (wantV t33 false) s4 (fun k=>Bnd (un .not t35) fun v=>k v s4) fun t36 s5 =>
 Bnd (pickV t33 (.bool true) t36) fun t37 =>
 Gd (wantV t37 false) s5 (fun k=>k t31 s5) fun t39 s6 =>
 Gd (wantV t37 false) s6 (fun k=>Bnd (un .not t39) fun v=>k v s6) fun t40 s7 =>
 Bnd (pickV t37 (.bool true) t40) fun t41 =>
 IfP t41
 (Q t21 (adv s7 2))
 (∃ n,f9l1 Q n t0 t1 (.ptr s.nx 0) r25.1 (.int .i64 0) (adv s7 1)))
theorem f9_run (t0 t1 t2:AV) (s:St) {Q:AV→St→Prop} (h:f9 Q t0 t1 t2 s):∃ r s',WideC Tryz.env 9 [t0,t1,t2] s r s'∧Q r s' :=
 wide_ofA (h:=9) (fn:=Tryz.f9) (c:=sub f9B []) (show f9C (sub f9B []) (f9R Q) (fun _ _ _=>False) (f9R Q) = _ from (seq_eq (by kernel_rfl:(sub f9B []) = .seq (sub f9B [N]) (sub f9B [Y])) (seq_eq (by kernel_rfl:(sub f9B [Y]) = .seq (sub f9B [Y,N]) (sub f9B [Y,Y])) (seq_eq (by kernel_rfl:(sub f9B [Y,Y]) = .seq (sub f9B [Y,Y,N]) (sub f9B [Y,Y,Y])) (seq_eq (by kernel_rfl:(sub f9B [Y,Y,Y]) = .seq (sub f9B [Y,Y,Y,N]) (sub f9B [Y,Y,Y,Y])) (seq_eq (by kernel_rfl:(sub f9B [Y,Y,Y,Y]) = .seq (sub f9B [Y,Y,Y,Y,N]) (sub f9B [Y,Y,Y,Y,Y])) (seq_eq (by kernel_rfl:(sub f9B [Y,Y,Y,Y,Y]) = .seq (sub f9B [Y,Y,Y,Y,Y,N]) (sub f9B [Y,Y,Y,Y,Y,Y])) (seq_eq (by kernel_rfl:(sub f9B [Y,Y,Y,Y,Y,Y]) = .seq (sub f9B [Y,Y,Y,Y,Y,Y,N]) (sub f9B [Y,Y,Y,Y,Y,Y,Y])) (f9j1_eq Q) (seq_eq (by kernel_rfl:(sub f9B [Y,Y,Y,Y,Y,Y,N]) = .seq (sub f9B [Y,Y,Y,Y,Y,Y,N,N]) (sub f9B [Y,Y,Y,Y,Y,Y,N,Y])) (block_eq (by kernel_rfl:(sub f9B [Y,Y,Y,Y,Y,Y,N,Y]) = .block 0 (sub f9B [Y,Y,Y,Y,Y,Y,N,Y,N])) (f9l1_eq Q _)) rfl)) rfl) rfl) rfl) rfl) rfl) rfl)) h
def f32j1 (Q:AV→St→Prop) (t8 t6:AV) (s:St):Prop :=
 Bnd (ld 6 true t8 (adv s 3)) fun t81 =>
 Bnd (sto 6 t6 t81 (adv s 3)) fun s1 =>
 RetP ((resC [ld 6 true t6 s1,some (.bool true)]).map tupV) fun v=>Q v s1
def f32j2 (Q:AV→St→Prop) (ih1:AV→AV→AV→AV→AV→AV→St→Prop) (t9 t1 t3 t5 t6 t8:AV) (s:St):Prop :=
 Bnd (bn .add 3 t9 (.int .i64 1)) fun t38 =>
 ih1 t1 t3 t5 t6 t8 t38 (adv s 3)
def f32l1s (Q:AV→St→Prop) (ih1:AV→AV→AV→AV→AV→AV→St→Prop) (t1 t3 t5 t6 t8 t9:AV) (s:St):Prop :=
 Bnd (shiftP 5 t3) fun t33 =>
 Bnd (ld 1 false t33 (adv s 5)) fun t34 =>
 Bnd (bt .len #[31] [t34] (s.nx + 3) (adv s 5)) fun r35 =>
 Bnd (bn .lss 3 t9 r35.1) fun t36 =>
 IfP t36
 (Bnd (shiftP 5 t3) fun t39 =>
 Bnd (ld 1 false t39 (adv r35.2 7)) fun t40 =>
 Bnd (ixS 6 t40 t9) fun t42 =>
 Bnd (ld 6 true t42 (adv r35.2 7)) fun t43 =>
 Bnd (zr 33) fun z10 =>
 Bnd (sto 6 (.ptr (r35.2.nx + 5) 0) t43 ((adv r35.2 7).set (r35.2.nx + 5) (some (.cells z10.cells 33 true true)))) fun s1 =>
 Bnd (bn .eql 3 t9 (.int .i64 0)) fun t45 =>
 Gd (wantV t45 true) (adv s1 20) (fun k=>Bnd (shiftP 0 (.ptr (r35.2.nx + 5) 0)) fun v=>k v (adv s1 20)) fun t47 s2 =>
 Gd (wantV t45 true) s2 (fun k=>Bnd (ld 1 false t47 s2) fun v=>k v s2) fun t48 s3 =>
 Gd (wantV t45 true) s3 (fun k=>Bnd (un .not t48) fun v=>k v s3) fun t49 s4 =>
 Bnd (pickV t45 t49 (.bool false)) fun t50 =>
 Gd (wantV t50 true) s4 (fun k=>Bnd (shiftP 1 (.ptr (r35.2.nx + 5) 0)) fun v=>k v s4) fun t52 s5 =>
 Gd (wantV t50 true) s5 (fun k=>Bnd (shiftP 1 t52) fun v=>k v s5) fun t53 s6 =>
 Gd (wantV t50 true) s6 (fun k=>Bnd (ld 1 false t53 s6) fun v=>k v s6) fun t54 s7 =>
 Gd (wantV t50 true) s7 (fun k=>k t1 s7) fun t55 s8 =>
 Gd (wantV t50 true) s8 (fun k=>Bnd (bn .eql 9 t54 t55) fun v=>k v s8) fun t56 s9 =>
 Gd (wantV t50 true) s9 (fun k=>k t56 s9) fun t57 s10 =>
 Gd (wantV t57 false) s10 (fun k=>Bnd (shiftP 1 (.ptr (r35.2.nx + 5) 0)) fun v=>k v s10) fun t58 s11 =>
 Gd (wantV t57 false) s11 (fun k=>Bnd (shiftP 1 t58) fun v=>k v s11) fun t59 s12 =>
 Gd (wantV t57 false) s12 (fun k=>Bnd (ld 1 false t59 s12) fun v=>k v s12) fun t60 s13 =>
 Gd (wantV t57 false) s13 (fun k=>Bnd (bn .eql 9 t60 (.str [108,101,116])) fun v=>k v s13) fun t61 s14 =>
 Gd (wantV t50 true) s14 (fun k=>Bnd (pickV t57 (.bool true) t61) fun v=>k v s14) fun t62 s15 =>
 Bnd (pickV t50 t62 (.bool false)) fun t63 =>
 IfP t63
 (Bnd (ld 6 true t3 (adv s15 3)) fun t64 =>
 Bnd (sto 6 t6 t64 (adv s15 3)) fun s16 =>
 RetP ((resC [ld 6 true t6 s16,some (.bool false)]).map tupV) fun v=>Q v s16)
 (Bnd (ld 6 true (.ptr (r35.2.nx + 5) 0) (adv s15 10)) fun t66 =>
 Bnd (ld 6 true t5 (adv s15 10)) fun t68 =>
 CallPu Tryz.env 32 [t66,t1,t68] (adv s15 10) fun t69 s17 =>
 Bnd (extr t69 0) fun t70 =>
 Bnd (extr t69 1) fun t71 =>
 Bnd (zr 33) fun z11 =>
 Bnd (sto 6 (.ptr (s15.nx + 7) 0) t70 (s17.set (s15.nx + 7) (some (.cells z11.cells 33 true true)))) fun s18 =>
 Bnd (un .not t71) fun t73 =>
 IfP t73
 (Bnd (ld 6 true t3 (adv s18 5)) fun t74 =>
 Bnd (sto 6 t6 t74 (adv s18 5)) fun s19 =>
 RetP ((resC [ld 6 true t6 s19,some (.bool false)]).map tupV) fun v=>Q v s19)
 (Bnd (shiftP 5 t8) fun t75 =>
 Bnd (ld 1 false t75 (adv s18 9)) fun t76 =>
 Bnd (ld 6 true (.ptr (s15.nx + 7) 0) (adv s18 9)) fun t77 =>
 Bnd (bsl 31 1 [(0,t77)]) fun t78 =>
 Bnd (bt .append #[31,31] [t76,t78] (s18.nx + 6) (adv s18 9)) fun r79 =>
 Bnd (shiftP 5 t8) fun t80 =>
 Bnd (sto 1 t80 r79.1 r79.2) fun s20 =>
 f32j2 Q ih1 t9 t1 t3 t5 t6 t8 s20)))
 (f32j1 Q t8 t6 r35.2)
def f32l1 (Q:AV→St→Prop) (n:Nat):AV→AV→AV→AV→AV→AV→St→Prop:=Nat.rec (motive:=fun _=>AV→AV→AV→AV→AV→AV→St→Prop) (fun _ _ _ _ _ _ _=>False) (fun _ ih=>f32l1s Q ih) n
def f32 (Q:AV→St→Prop) (t0 t1 t2:AV) (s:St):Prop :=
 (t0.cells.all AV.one = true ∧
 (t2.cells.all AV.one = true ∧
 Bnd (zr 33) fun z6 =>
 Bnd (shiftP 0 (.ptr s.nx 0)) fun t13 =>
 Bnd (ld 1 false t13 (adv ((((adv s 4).set s.nx (some (.cells t0.cells 33 true true))).set (s.nx + 1) (some (.cells t2.cells 33 true true))).set (s.nx + 2) (some (.cells z6.cells 33 true true))) 3)) fun t14 =>
 Bnd (un .not t14) fun t15 =>
 IfP t15
 (Bnd (shiftP 1 (.ptr s.nx 0)) fun t16 =>
 Bnd (shiftP 0 t16) fun t17 =>
 Bnd (ld 1 false t17 (adv ((((adv s 4).set s.nx (some (.cells t0.cells 33 true true))).set (s.nx + 1) (some (.cells t2.cells 33 true true))).set (s.nx + 2) (some (.cells z6.cells 33 true true))) 14)) fun t18 =>
 Bnd (bn .eql 3 t18 (.int .i64 3)) fun t19 =>
 Gd (wantV t19 true) (adv ((((adv s 4).set s.nx (some (.cells t0.cells 33 true true))).set (s.nx + 1) (some (.cells t2.cells 33 true true))).set (s.nx + 2) (some (.cells z6.cells 33 true true))) 14) (fun k=>Bnd (shiftP 1 (.ptr s.nx 0)) fun v=>k v (adv ((((adv s 4).set s.nx (some (.cells t0.cells 33 true true))).set (s.nx + 1) (some (.cells t2.cells 33 true true))).set (s.nx + 2) (some (.cells z6.cells 33 true true))) 14)) fun t21 s1 =>
 Gd (wantV t19 true) s1 (fun k=>Bnd (shiftP 1 t21) fun v=>k v s1) fun t22 s2 =>
 Gd (wantV t19 true) s2 (fun k=>Bnd (ld 1 false t22 s2) fun v=>k v s2) fun t23 s3 =>
 Gd (wantV t19 true) s3 (fun k=>k t1 s3) fun t24 s4 =>
 Gd (wantV t19 true) s4 (fun k=>Bnd (bn .eql 9 t23 t24) fun v=>k v s4) fun t25 s5 =>
 Bnd (pickV t19 t25 (.bool false)) fun t26 =>
 IfP t26
 (Bnd (ld 6 true (.ptr (s.nx + 1) 0) (adv s5 3)) fun t27 =>
 Bnd (sto 6 (.ptr (s.nx + 2) 0) t27 (adv s5 3)) fun s6 =>
 RetP ((resC [ld 6 true (.ptr (s.nx + 2) 0) s6,some (.bool true)]).map tupV) fun v=>Q v s6)
 (Bnd (ld 6 true (.ptr s.nx 0) (adv s5 3)) fun t28 =>
 Bnd (sto 6 (.ptr (s.nx + 2) 0) t28 (adv s5 3)) fun s7 =>
 RetP ((resC [ld 6 true (.ptr (s.nx + 2) 0) s7,some (.bool true)]).map tupV) fun v=>Q v s7))
 (Bnd (shiftP 4 (.ptr s.nx 0)) fun t29 =>
 Bnd (ld 1 false t29 (adv ((((adv s 4).set s.nx (some (.cells t0.cells 33 true true))).set (s.nx + 1) (some (.cells t2.cells 33 true true))).set (s.nx + 2) (some (.cells z6.cells 33 true true))) 8)) fun t30 =>
 Bnd (bld 33 [(0,(.bool true)),(2,t30)]) fun t31 =>
 Bnd (zr 33) fun z8 =>
 Bnd (sto 6 (.ptr (((((adv s 4).set s.nx (some (.cells t0.cells 33 true true))).set (s.nx + 1) (some (.cells t2.cells 33 true true))).set (s.nx + 2) (some (.cells z6.cells 33 true true))).nx + 6) 0) t31 ((adv ((((adv s 4).set s.nx (some (.cells t0.cells 33 true true))).set (s.nx + 1) (some (.cells t2.cells 33 true true))).set (s.nx + 2) (some (.cells z6.cells 33 true true))) 8).set (((((adv s 4).set s.nx (some (.cells t0.cells 33 true true))).set (s.nx + 1) (some (.cells t2.cells 33 true true))).set (s.nx + 2) (some (.cells z6.cells 33 true true))).nx + 6) (some (.cells z8.cells 33 true true)))) fun s8 =>
 ∃ n,f32l1 Q n t1 (.ptr s.nx 0) (.ptr (s.nx + 1) 0) (.ptr (s.nx + 2) 0) (.ptr (((((adv s 4).set s.nx (some (.cells t0.cells 33 true true))).set (s.nx + 1) (some (.cells t2.cells 33 true true))).set (s.nx + 2) (some (.cells z6.cells 33 true true))).nx + 6) 0) (.int .i64 0) (adv s8 1))))
def f34 (Q:AV→St→Prop) (t0:AV) (s:St):Prop :=
 Bnd (zr 33) fun z2 =>
 Bnd (bld 30 [(0,(.int .i64 3)),(1,t0)]) fun t4 =>
 Bnd (bld 33 [(1,t4)]) fun t5 =>
 Bnd (sto 6 (.ptr s.nx 0) t5 (adv ((adv s 1).set s.nx (some (.cells z2.cells 33 true true))) 4)) fun s1 =>
 RetP ((resC [ld 6 true (.ptr s.nx 0) s1]).map tupV) fun v=>Q v s1
abbrev f35B:Code:=bodyOf Tryz.f35
abbrev f35R:=rK Tryz.f35
abbrev f35C:=codeP Tryz.env 35 (Tryz.env.kp 35)
def f35j1 (Q:AV→St→Prop) (s:St):Prop :=
 Q (.bool false) (adv s 1)
def f35j2 (Q:AV→St→Prop) (ih1:AV→AV→AV→St→Prop) (t5 t1 t2:AV) (s:St):Prop :=
 Bnd (bn .add 3 t5 (.int .i64 1)) fun t27 =>
 ih1 t1 t2 t27 (adv s 3)
def f35l1s (Q:AV→St→Prop) (ih1:AV→AV→AV→St→Prop) (t1 t2 t5:AV) (s:St):Prop :=
 Bnd (shiftP 5 t2) fun t22 =>
 Bnd (ld 1 false t22 (adv s 5)) fun t23 =>
 Bnd (bt .len #[31] [t23] (s.nx + 3) (adv s 5)) fun r24 =>
 Bnd (bn .lss 3 t5 r24.1) fun t25 =>
 IfP t25
 (Bnd (shiftP 5 t2) fun t28 =>
 Bnd (ld 1 false t28 (adv r24.2 8)) fun t29 =>
 Bnd (ixS 6 t29 t5) fun t31 =>
 Bnd (ld 6 true t31 (adv r24.2 8)) fun t32 =>
 CallPu Tryz.env 35 [t32,t1] (adv r24.2 8) fun t34 s1 =>
 IfP t34
 (Q (.bool true) (adv s1 2))
 (f35j2 Q ih1 t5 t1 t2 (adv s1 1)))
 (f35j1 Q r24.2)
def f35l1 (Q:AV→St→Prop) (n:Nat):AV→AV→AV→St→Prop:=Nat.rec (motive:=fun _=>AV→AV→AV→St→Prop) (fun _ _ _ _=>False) (fun _ ih=>f35l1s Q ih) n
theorem f35j1_eq (Q:AV→St→Prop):f35C (sub f35B [Y,Y,Y]) (f35R Q) (fun _ _ _=>False) (f35R Q) = (fun g s=>f35j1 Q s) :=
 Eq.trans rfl (by kernel_rfl)
theorem f35j2_eq (Q:AV→St→Prop) (n1:Nat):f35C (sub f35B [Y,Y,N,Y,N,N,Y,Y]) (fun g s=>(fun (n:Nat) (g:Gf) (s:St)=>f35l1 Q n (g 1) (g 2) (g 5) s) n1 (fun k=>cond (bitOf (Tryz.env.kp 35) k) (g k) .undef) s) (fun i=>cond (Nat.beq i 0) (fun g s=>f35j1 Q s) ((fun _ _ _=>False) i)) (f35R Q) = (fun g s=>f35j2 Q (f35l1 Q n1) (g 5) (g 1) (g 2) s) :=
 Eq.trans rfl (by kernel_rfl)
theorem f35l1_eq (Q:AV→St→Prop) (kN:Kt):f35C (sub f35B [Y,Y,N,Y,N]) kN (fun i=>cond (Nat.beq i 0) (fun g s=>f35j1 Q s) ((fun _ _ _=>False) i)) (f35R Q) = fun g s=>∃ n,(fun (n:Nat) (g:Gf) (s:St)=>f35l1 Q n (g 1) (g 2) (g 5) s) n g s :=
 loop_eq (L:=fun (n:Nat) (g:Gf) (s:St)=>f35l1 Q n (g 1) (g 2) (g 5) s) (by kernel_rfl:(sub f35B [Y,Y,N,Y,N]) = .loop (sub f35B [Y,Y,N,Y,N,N])) (by kernel_rfl) (fun n1=>Eq.trans (seq_eq (by kernel_rfl:(sub f35B [Y,Y,N,Y,N,N]) = .seq (sub f35B [Y,Y,N,Y,N,N,N]) (sub f35B [Y,Y,N,Y,N,N,Y])) (seq_eq (by kernel_rfl:(sub f35B [Y,Y,N,Y,N,N,Y]) = .seq (sub f35B [Y,Y,N,Y,N,N,Y,N]) (sub f35B [Y,Y,N,Y,N,N,Y,Y])) (f35j2_eq Q n1) (block_eq (by kernel_rfl:(sub f35B [Y,Y,N,Y,N,N,Y,N]) = .block 1 (sub f35B [Y,Y,N,Y,N,N,Y,N,N])) rfl)) rfl) (by kernel_rfl))
def f35 (Q:AV→St→Prop) (t0 t1:AV) (s:St):Prop :=
 (t0.cells.all AV.one = true ∧
 Bnd (shiftP 0 (.ptr s.nx 0)) fun t7 =>
 Bnd (ld 1 false t7 (adv ((adv s 2).set s.nx (some (.cells t0.cells 33 true true))) 3)) fun t8 =>
 Bnd (un .not t8) fun t9 =>
 IfP t9
 (Bnd (shiftP 1 (.ptr s.nx 0)) fun t10 =>
 Bnd (shiftP 0 t10) fun t11 =>
 Bnd (ld 1 false t11 (adv ((adv s 2).set s.nx (some (.cells t0.cells 33 true true))) 15)) fun t12 =>
 Bnd (bn .eql 3 t12 (.int .i64 3)) fun t13 =>
 Gd (wantV t13 true) (adv ((adv s 2).set s.nx (some (.cells t0.cells 33 true true))) 15) (fun k=>Bnd (shiftP 1 (.ptr s.nx 0)) fun v=>k v (adv ((adv s 2).set s.nx (some (.cells t0.cells 33 true true))) 15)) fun t15 s1 =>
 Gd (wantV t13 true) s1 (fun k=>Bnd (shiftP 1 t15) fun v=>k v s1) fun t16 s2 =>
 Gd (wantV t13 true) s2 (fun k=>Bnd (ld 1 false t16 s2) fun v=>k v s2) fun t17 s3 =>
 Gd (wantV t13 true) s3 (fun k=>k t1 s3) fun t18 s4 =>
 Gd (wantV t13 true) s4 (fun k=>Bnd (bn .eql 9 t17 t18) fun v=>k v s4) fun t19 s5 =>
 Bnd (pickV t13 t19 (.bool false)) fun t20 =>
 Q t20 s5)
 (∃ n,f35l1 Q n t1 (.ptr s.nx 0) (.int .i64 0) (adv ((adv s 2).set s.nx (some (.cells t0.cells 33 true true))) 4)))
theorem f35_run (t0 t1:AV) (s:St) {Q:AV→St→Prop} (h:f35 Q t0 t1 s):∃ r s',WideC Tryz.env 35 [t0,t1] s r s'∧Q r s' :=
 wide_ofA (h:=35) (fn:=Tryz.f35) (c:=sub f35B []) (show f35C (sub f35B []) (f35R Q) (fun _ _ _=>False) (f35R Q) = _ from (seq_eq (by kernel_rfl:(sub f35B []) = .seq (sub f35B [N]) (sub f35B [Y])) (seq_eq (by kernel_rfl:(sub f35B [Y]) = .seq (sub f35B [Y,N]) (sub f35B [Y,Y])) (seq_eq (by kernel_rfl:(sub f35B [Y,Y]) = .seq (sub f35B [Y,Y,N]) (sub f35B [Y,Y,Y])) (f35j1_eq Q) (seq_eq (by kernel_rfl:(sub f35B [Y,Y,N]) = .seq (sub f35B [Y,Y,N,N]) (sub f35B [Y,Y,N,Y])) (block_eq (by kernel_rfl:(sub f35B [Y,Y,N,Y]) = .block 0 (sub f35B [Y,Y,N,Y,N])) (f35l1_eq Q _)) rfl)) rfl) rfl)) h
end
noncomputable section
set_option maxRecDepth 100000
theorem run25:((callF Tryz.env 1000 25 [] St.empty).map Prod.fst) = some (.bool true):=by kernel_rfl
theorem awake10:PureC Tryz.env 25 [] (.bool true):=pure_run rfl run25
end
noncomputable section
set_option maxRecDepth 1000000
def f43j1 (Q:AV→St→Prop) (t3:AV) (s:St):Prop :=
 Bnd (bld 33 []) fun t57 =>
 CallPu Tryz.env 93 [t3,t57] (adv s 5) fun t58 s1 =>
 Bnd (bn .eql 3 t58 (.int .i64 0)) fun t59 =>
 Q t59 s1
def f43j2 (Q:AV→St→Prop) (ih1:AV→AV→AV→St→Prop) (t4 t0 t3:AV) (s:St):Prop :=
 Bnd (bn .add 3 t4 (.int .i64 1)) fun t14 =>
 ih1 t0 t3 t14 (adv s 3)
def f43l1s (Q:AV→St→Prop) (ih1:AV→AV→AV→St→Prop) (t0 t3 t4:AV) (s:St):Prop :=
 Bnd (bt .len #[79] [t0] (s.nx + 2) (adv s 4)) fun r11 =>
 Bnd (bn .lss 3 t4 r11.1) fun t12 =>
 IfP t12
 (Bnd (ixS 18 t0 t4) fun t17 =>
 Bnd (ld 18 true t17 (adv r11.2 6)) fun t18 =>
 Bnd (zr 93) fun z5 =>
 Bnd (sto 18 (.ptr (r11.2.nx + 4) 0) t18 ((adv r11.2 6).set (r11.2.nx + 4) (some (.cells z5.cells 93 true true)))) fun s1 =>
 Bnd (shiftP 12 (.ptr (r11.2.nx + 4) 0)) fun t19 =>
 Bnd (ld 6 true t19 (adv s1 24)) fun t20 =>
 CallPu Tryz.env 33 [t20] (adv s1 24) fun t21 s2 =>
 Bnd (bn .gtr 3 t21 (.int .i64 60)) fun t22 =>
 Gd (wantV t22 false) s2 (fun k=>Bnd (shiftP 12 (.ptr (r11.2.nx + 4) 0)) fun v=>k v s2) fun t24 s3 =>
 Gd (wantV t22 false) s3 (fun k=>Bnd (ld 6 true t24 s3) fun v=>k v s3) fun t25 s4 =>
 Gd (wantV t22 false) s4 (fun k=>CallPu Tryz.env 74 [t25] s4 k) fun t26 s5 =>
 Gd (wantV t22 false) s5 (fun k=>Bnd (bn .gtr 3 t26 (.int .i64 64)) fun v=>k v s5) fun t27 s6 =>
 Bnd (pickV t22 (.bool true) t27) fun t28 =>
 Gd (wantV t28 false) s6 (fun k=>Bnd (shiftP 2 (.ptr (r11.2.nx + 4) 0)) fun v=>k v s6) fun t30 s7 =>
 Gd (wantV t28 false) s7 (fun k=>Bnd (shiftP 4 t30) fun v=>k v s7) fun t31 s8 =>
 Gd (wantV t28 false) s8 (fun k=>Bnd (ld 6 true t31 s8) fun v=>k v s8) fun t32 s9 =>
 Gd (wantV t28 false) s9 (fun k=>CallPu Tryz.env 33 [t32] s9 k) fun t33 s10 =>
 Gd (wantV t28 false) s10 (fun k=>Bnd (bn .gtr 3 t33 (.int .i64 60)) fun v=>k v s10) fun t34 s11 =>
 Bnd (pickV t28 (.bool true) t34) fun t35 =>
 Gd (wantV t35 false) s11 (fun k=>Bnd (shiftP 2 (.ptr (r11.2.nx + 4) 0)) fun v=>k v s11) fun t37 s12 =>
 Gd (wantV t35 false) s12 (fun k=>Bnd (shiftP 0 t37) fun v=>k v s12) fun t38 s13 =>
 Gd (wantV t35 false) s13 (fun k=>Bnd (ld 1 false t38 s13) fun v=>k v s13) fun t39 s14 =>
 Gd (wantV t35 false) s14 (fun k=>Bnd (bt .len #[9] [t39] (s1.nx + 21) s14) fun r=>k r.1 r.2) fun t40 s15 =>
 Gd (wantV t35 false) s15 (fun k=>Bnd (bn .gtr 3 t40 (.int .i64 200)) fun v=>k v s15) fun t41 s16 =>
 Bnd (pickV t35 (.bool true) t41) fun t42 =>
 IfP t42
 (Q (.bool false) (adv s16 1))
 (Bnd (shiftP 0 (.ptr (r11.2.nx + 4) 0)) fun t43 =>
 Bnd (ld 1 false t43 (adv s16 8)) fun t44 =>
 Bnd (bn .eql 3 t44 (.int .i64 0)) fun t45 =>
 Gd (wantV t45 false) (adv s16 8) (fun k=>Bnd (shiftP 0 (.ptr (r11.2.nx + 4) 0)) fun v=>k v (adv s16 8)) fun t47 s17 =>
 Gd (wantV t45 false) s17 (fun k=>Bnd (ld 1 false t47 s17) fun v=>k v s17) fun t48 s18 =>
 Gd (wantV t45 false) s18 (fun k=>Bnd (bn .eql 3 t48 (.int .i64 1)) fun v=>k v s18) fun t49 s19 =>
 Bnd (pickV t45 (.bool true) t49) fun t50 =>
 IfP t50
 (Bnd (shiftP 2 (.ptr (r11.2.nx + 4) 0)) fun t52 =>
 Bnd (ld 10 true t52 (adv s19 6)) fun t53 =>
 Bnd (bsl 49 1 [(0,t53)]) fun t54 =>
 Bnd (bt .append #[49,49] [t3,t54] (s19.nx + 4) (adv s19 6)) fun r55 =>
 f43j2 Q ih1 t4 t0 r55.1 r55.2)
 (f43j2 Q ih1 t4 t0 t3 s19)))
 (f43j1 Q t3 r11.2)
def f43l1 (Q:AV→St→Prop) (n:Nat):AV→AV→AV→St→Prop:=Nat.rec (motive:=fun _=>AV→AV→AV→St→Prop) (fun _ _ _ _=>False) (fun _ ih=>f43l1s Q ih) n
def f43 (Q:AV→St→Prop) (t0:AV) (s:St):Prop :=
 Bnd (bt .len #[79] [t0] (s.nx + 2) (adv s 4)) fun r7 =>
 Bnd (bn .gtr 3 r7.1 (.int .i64 60)) fun t8 =>
 IfP t8
 (Q (.bool false) (adv r7.2 1))
 (∃ n,f43l1 Q n t0 .nils (.int .i64 0) (adv r7.2 2))
end
end Go.Proofs.YtdehdahimkcakaaGreatDoor
