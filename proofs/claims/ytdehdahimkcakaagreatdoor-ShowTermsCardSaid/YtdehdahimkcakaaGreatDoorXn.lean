/- Texts joined by wip/tools/pack.py: LRf,LLo,LFi,LSh,LBd,LSw,LCc,LRp. -/
import Derived.Test.YtdehdahimkcakaaGreatDoorXm
open Nat renaming reduceAdd→Z0, reduceEqDiff→Z1
set_option linter.unusedVariables false
set_option maxRecDepth 1000000
namespace Go.Proofs.YtdehdahimkcakaaGreatDoor
open Go Ai
noncomputable section
abbrev bGm:Code:=aN Tryz.f62
abbrev bFc:=rK Tryz.f62
abbrev bPz:=aL mEv 62 (mEv.kp 62)
def f62 (Q:aC) (t0 t1:AV) (s:St):Prop:=aA (zr 33) fun z4=>aA (eE 30 [(0,t0),(1,t1)]) fun t7=>aA (eE 33 [(1,t7)]) fun t8=>aA (bQ 6 (.ptr s.nx 0) t8 (adv ((adv s 1).set s.nx (some (.cells z4.cells 33 true true))) 5)) fun s1=>bT ((bW [ld 6 true (.ptr s.nx 0) s1]).map bY) fun v=>Q v s1
theorem aSp (t0 t1:AV) (s:St) {Q:aC} (h:f62 Q t0 t1 s):eG 62 [t0,t1] s Q:=aH (h:=62) (fn:=Tryz.f62) (c:=sub bGm []) (show bPz (sub bGm []) (bFc Q) aX (bFc Q)=_ from rfl) h
abbrev zU:Code:=aN Tryz.f63
abbrev uD:=rK Tryz.f63
abbrev BA:=aL mEv 63 (mEv.kp 63)
def KR (Q:aC) (t9:AV) (s:St):Prop:=aA (cv 161 9 t9 (adv s 3)) fun t70=>Q t70 (adv s 3)
def aFb (Q:aC) (ih1:AV->AV->aC) (t10 t4 t9:AV) (s:St):Prop:=aA (bn .sub 3 t10 (.int .i64 1)) fun t59=>ih1 t4 t9 t59 (adv s 3)
def EI (Q:aC) (ih1:AV->AV->aC) (t4 t9 t10:AV) (s:St):Prop:=aA (bn .geq 3 t10 (.int .i64 0)) fun t57=>aP t57
 (aA (cA 1 t4 t10) fun t63=>aA (ld 1 false t63 (adv s 12)) fun t64=>aA (bn .add 3 (.int .i64 48) t64) fun t65=>aA (cv 3 5 t65 (adv s 12)) fun t66=>aA (fZ 161 1 [(0,t66)]) fun t67=>aA (bt .append #[161,161] [t9,t67] (s.nx+10) (adv s 12)) fun r68=>aFb Q ih1 t10 t4 r68.1 r68.2)
 (KR Q t9 (adv s 2))
def zF (Q:aC) (n:Nat):AV->AV->aC:=fY (fun _ _ _ _ =>False) (fun ih=>EI Q ih) n
def qB (Q:aC) (t4:AV) (s:St):Prop:=aA (bt .len #[72] [t4] (s.nx+1) (adv s 3)) fun r51=>aA (bn .eql 3 r51.1 (.int .i64 0)) fun t52=>aP t52
 (Q (.str [48]) (adv r51.2 1))
 (aA (bt .len #[72] [t4] (r51.2.nx+2) (adv r51.2 5)) fun r54=>aA (bn .sub 3 r54.1 (.int .i64 1)) fun t55=>∃ n,zF Q n t4 .nils t55 r54.2)
def qM (Q:aC) (ih2:AV->AV->aC) (t5 t3 t4:AV) (s:St):Prop:=aA (bn .sub 3 t5 (.int .i64 1)) fun t19=>ih2 t3 t4 t19 (adv s 3)
def EW (Q:aC) (ih2:AV->AV->aC) (t6 t4 t5 t3:AV) (s:St):Prop:=aA (bn .gtr 3 t6 (.int .i64 0)) fun t45=>aP t45
 (aA (fZ 72 1 [(0,t6)]) fun t48=>aA (bt .append #[72,72] [t4,t48] (s.nx+5) (adv s 7)) fun r49=>qM Q ih2 t5 t3 r49.1 r49.2)
 (qM Q ih2 t5 t3 t4 (adv s 2))
def aMv (Q:aC) (ih2:AV->AV->aC) (ih3:AV->AV->AV->AV->aC) (t7 t3 t4 t5 t6:AV) (s:St):Prop:=aA (bn .add 3 t7 (.int .i64 1)) fun t29=>ih3 t3 t4 t5 t6 t29 (adv s 3)
def tY (Q:aC) (ih2:AV->AV->aC) (ih3:AV->AV->AV->AV->aC) (t3 t4 t5 t6 t7:AV) (s:St):Prop:=aA (bt .len #[72] [t4] (s.nx+2) (adv s 4)) fun r26=>aA (bn .lss 3 t7 r26.1) fun t27=>aP t27
 (aA (cA 1 t4 t7) fun t32=>aA (ld 1 false t32 (adv r26.2 8)) fun t33=>aA (bn .mul 3 (.int .i64 2) t33) fun t34=>aA (bn .add 3 t34 t6) fun t36=>aA (bn .rem 3 t36 (.int .i64 10)) fun t40=>aA (cA 1 t4 t7) fun t41=>aA (bQ 1 t41 t40 (adv r26.2 14)) fun s1=>aA (bn .quo 3 t36 (.int .i64 10)) fun t43=>aMv Q ih2 ih3 t7 t3 t4 t5 t43 (adv s1 3))
 (EW Q ih2 t6 t4 t5 t3 r26.2)
def zL (Q:aC) (ih2:AV->AV->aC) (n:Nat):AV->AV->AV->AV->aC:=fY (fun _ _ _ _ _ _ =>False) (fun ih=>tY Q ih2 ih) n
def NM (Q:aC) (ih2:AV->AV->aC) (t3 t4 t5 t6:AV) (s:St):Prop:=∃ n,zL Q ih2 n t3 t4 t5 t6 (.int .i64 0) (adv s 1)
def xK (Q:aC) (ih2:AV->AV->aC) (t3 t4 t5:AV) (s:St):Prop:=aA (bn .geq 3 t5 (.int .i64 0)) fun t17=>aP t17
 (aA (cA 1 t3 t5) fun t22=>aA (ld 1 false t22 (adv s 7)) fun t23=>aP t23
 (NM Q ih2 t3 t4 t5 (.int .i64 1) (adv s 8))
 (NM Q ih2 t3 t4 t5 (.int .i64 0) (adv s 7)))
 (qB Q t4 (adv s 2))
def eY (Q:aC) (n:Nat):AV->AV->aC:=fY (fun _ _ _ _ =>False) (fun ih=>xK Q ih) n
theorem aKq (Q:aC):BA (sub zU [Y,Y,Y,Y,Y,Y,Y]) (uD Q) aX (uD Q)=(fun g s=>KR Q (g 9) s):=Eq.trans rfl (by kernel_rfl)
theorem aNi (Q:aC) (n1:Nat):BA (sub zU [Y,Y,Y,Y,Y,Y,N,Y,N,N,Y,Y]) (mA (fun n g s=>zF Q n (g 4) (g 9) (g 10) s) 63 n1) (cE 4 (fun g s=>KR Q (g 9) s) aX) (uD Q)=(fun g s=>aFb Q (zF Q n1) (g 10) (g 4) (g 9) s):=Eq.trans rfl (by kernel_rfl)
theorem aKj (Q:aC) (kN:Kt):BA (sub zU [Y,Y,Y,Y,Y,Y,N,Y,N]) kN (cE 4 (fun g s=>KR Q (g 9) s) aX) (uD Q)=fun g s=>∃ n,zF Q n (g 4) (g 9) (g 10) s:=jW (L:=fun n g s=>zF Q n (g 4) (g 9) (g 10) s) (fun n1=>Eq.trans (aO (aO (aNi Q n1) (dI 5 rfl)) rfl) (by kernel_rfl))
theorem aKa (Q:aC):BA (sub zU [Y,Y,Y,Y]) (uD Q) aX (uD Q)=(fun g s=>qB Q (g 4) s):=Eq.trans (aO (aO (aO (aKq Q) (aO (dI 4 (aKj Q _)) rfl)) rfl) rfl) (by kernel_rfl)
theorem aCr (Q:aC) (n2:Nat):BA (sub zU [Y,Y,Y,N,Y,N,N,Y,Y]) (mA (fun n g s=>eY Q n (g 3) (g 4) (g 5) s) 63 n2) (cE 0 (fun g s=>qB Q (g 4) s) aX) (uD Q)=(fun g s=>qM Q (eY Q n2) (g 5) (g 3) (g 4) s):=Eq.trans rfl (by kernel_rfl)
theorem aFz (Q:aC) (n2:Nat):BA (sub zU [Y,Y,Y,N,Y,N,N,Y,N,N,Y,Y,Y]) (fun g s=>qM Q (eY Q n2) (g 5) (g 3) (g 4) s) (cE 1 (fun g s=>qM Q (eY Q n2) (g 5) (g 3) (g 4) s) (cE 0 (fun g s=>qB Q (g 4) s) aX)) (uD Q)=(fun g s=>EW Q (eY Q n2) (g 6) (g 4) (g 5) (g 3) s):=Eq.trans rfl (by kernel_rfl)
theorem aKr (Q:aC) (n2:Nat) (n3:Nat):BA (sub zU [Y,Y,Y,N,Y,N,N,Y,N,N,Y,Y,N,Y,N,N,Y,Y]) (mA (fun n g s=>zL Q (eY Q n2) n (g 3) (g 4) (g 5) (g 6) (g 7) s) 63 n3) (cE 2 (fun g s=>EW Q (eY Q n2) (g 6) (g 4) (g 5) (g 3) s) (cE 1 (fun g s=>qM Q (eY Q n2) (g 5) (g 3) (g 4) s) (cE 0 (fun g s=>qB Q (g 4) s) aX))) (uD Q)=(fun g s=>aMv Q (eY Q n2) (zL Q (eY Q n2) n3) (g 7) (g 3) (g 4) (g 5) (g 6) s):=Eq.trans rfl (by kernel_rfl)
theorem aMq (Q:aC) (n2:Nat) (kN:Kt):BA (sub zU [Y,Y,Y,N,Y,N,N,Y,N,N,Y,Y,N,Y,N]) kN (cE 2 (fun g s=>EW Q (eY Q n2) (g 6) (g 4) (g 5) (g 3) s) (cE 1 (fun g s=>qM Q (eY Q n2) (g 5) (g 3) (g 4) s) (cE 0 (fun g s=>qB Q (g 4) s) aX))) (uD Q)=fun g s=>∃ n,zL Q (eY Q n2) n (g 3) (g 4) (g 5) (g 6) (g 7) s:=jW (L:=fun n g s=>zL Q (eY Q n2) n (g 3) (g 4) (g 5) (g 6) (g 7) s) (fun n3=>Eq.trans (aO (aO (aKr Q n2 n3) (dI 3 rfl)) rfl) (by kernel_rfl))
theorem aFc (Q:aC) (n2:Nat):BA (sub zU [Y,Y,Y,N,Y,N,N,Y,N,N,Y,Y]) (fun g s=>qM Q (eY Q n2) (g 5) (g 3) (g 4) s) (cE 1 (fun g s=>qM Q (eY Q n2) (g 5) (g 3) (g 4) s) (cE 0 (fun g s=>qB Q (g 4) s) aX)) (uD Q)=(fun g s=>NM Q (eY Q n2) (g 3) (g 4) (g 5) (g 6) s):=Eq.trans (aO (aFz Q n2) (aO (dI 2 (aMq Q n2 _)) rfl)) (by kernel_rfl)
theorem aOh (Q:aC) (kN:Kt):BA (sub zU [Y,Y,Y,N,Y,N]) kN (cE 0 (fun g s=>qB Q (g 4) s) aX) (uD Q)=fun g s=>∃ n,eY Q n (g 3) (g 4) (g 5) s:=jW (L:=fun n g s=>eY Q n (g 3) (g 4) (g 5) s) (fun n2=>Eq.trans (aO (aO (aCr Q n2) (dI 1 (aO (aO (aFc Q n2) rfl) rfl))) rfl) (by kernel_rfl))
def f63 (Q:aC) (t0:AV) (s:St):Prop:=aE mEv 117 [t0] (adv s 4) fun t12 s1=>aA (bt .len #[173] [t12] (s1.nx+2) (adv s1 5)) fun r14=>aA (bn .sub 3 r14.1 (.int .i64 1)) fun t15=>∃ n,eY Q n t12 .nils t15 r14.2
theorem aSf (t0:AV) (s:St) {Q:aC} (h:f63 Q t0 s):eG 63 [t0] s Q:=aH (h:=63) (fn:=Tryz.f63) (c:=sub zU []) (show BA (sub zU []) (uD Q) aX (uD Q)=_ from (aO (aO (aO (aO (aKa Q) (aO (dI 0 (aOh Q _)) rfl)) rfl) rfl) rfl)) h
abbrev AU:Code:=aN Tryz.f117
abbrev yS:=rK Tryz.f117
abbrev HE:=aL mEv 117 (mEv.kp 117)
def pW (Q:aC) (t3:AV) (s:St):Prop:=aE mEv 168 [t3] (adv s 3) fun t30 s1=>Q t30 s1
def pE (Q:aC) (ih1:AV->AV->aC) (t4 t0 t3:AV) (s:St):Prop:=aA (bn .add 3 t4 (.int .i64 1)) fun t12=>ih1 t0 t3 t12 (adv s 3)
def RS (Q:aC) (ih1:AV->AV->aC) (ih2:AV->AV->AV->AV->aC) (t6 t0 t3 t4 t5:AV) (s:St):Prop:=aA (bn .add 3 t6 (.int .i64 1)) fun t20=>ih2 t0 t3 t4 t5 t20 (adv s 3)
def vQ (Q:aC) (ih1:AV->AV->aC) (ih2:AV->AV->AV->AV->aC) (t0 t3 t4 t5 t6:AV) (s:St):Prop:=aA (bn .lss 3 t6 (.int .i64 32)) fun t18=>aP t18
 (aA (bn .rem 211 t5 (.int .u32 2)) fun t23=>aA (bn .eql 211 t23 (.int .u32 1)) fun t24=>aA (fZ 173 1 [(0,t24)]) fun t25=>aA (bt .append #[173,173] [t3,t25] (s.nx+7) (adv s 9)) fun r26=>aA (bn .quo 211 t5 (.int .u32 2)) fun t28=>RS Q ih1 ih2 t6 t0 r26.1 t4 t28 (adv r26.2 3))
 (pE Q ih1 t4 t0 t3 (adv s 2))
def qU (Q:aC) (ih1:AV->AV->aC) (n:Nat):AV->AV->AV->AV->aC:=fY (fun _ _ _ _ _ _ =>False) (fun ih=>vQ Q ih1 ih) n
def wC (Q:aC) (ih1:AV->AV->aC) (t0 t3 t4:AV) (s:St):Prop:=aA (bt .len #[22] [t0] (s.nx+2) (adv s 4)) fun r9=>aA (bn .lss 3 t4 r9.1) fun t10=>aP t10
 (aA (cA 1 t0 t4) fun t15=>aA (ld 1 false t15 (adv r9.2 5)) fun t16=>∃ n,qU Q ih1 n t0 t3 t4 t16 (.int .i64 0) (adv r9.2 6))
 (pW Q t3 r9.2)
def gC (Q:aC) (n:Nat):AV->AV->aC:=fY (fun _ _ _ _ =>False) (fun ih=>wC Q ih) n
theorem ZP (Q:aC):HE (sub AU [Y,Y,Y]) (yS Q) aX (yS Q)=(fun g s=>pW Q (g 3) s):=Eq.trans rfl (by kernel_rfl)
theorem XM (Q:aC) (n1:Nat):HE (sub AU [Y,Y,N,Y,N,N,Y,Y]) (mA (fun n g s=>gC Q n (g 0) (g 3) (g 4) s) 117 n1) (cE 0 (fun g s=>pW Q (g 3) s) aX) (yS Q)=(fun g s=>pE Q (gC Q n1) (g 4) (g 0) (g 3) s):=Eq.trans rfl (by kernel_rfl)
theorem WY (Q:aC) (n1:Nat) (n2:Nat):HE (sub AU [Y,Y,N,Y,N,N,Y,N,N,Y,Y,N,N,Y,Y]) (mA (fun n g s=>qU Q (gC Q n1) n (g 0) (g 3) (g 4) (g 5) (g 6) s) 117 n2) (cE 2 (fun g s=>pE Q (gC Q n1) (g 4) (g 0) (g 3) s) (cE 1 (fun g s=>pE Q (gC Q n1) (g 4) (g 0) (g 3) s) (cE 0 (fun g s=>pW Q (g 3) s) aX))) (yS Q)=(fun g s=>RS Q (gC Q n1) (qU Q (gC Q n1) n2) (g 6) (g 0) (g 3) (g 4) (g 5) s):=Eq.trans rfl (by kernel_rfl)
theorem WO (Q:aC) (n1:Nat) (kN:Kt):HE (sub AU [Y,Y,N,Y,N,N,Y,N,N,Y,Y,N]) kN (cE 2 (fun g s=>pE Q (gC Q n1) (g 4) (g 0) (g 3) s) (cE 1 (fun g s=>pE Q (gC Q n1) (g 4) (g 0) (g 3) s) (cE 0 (fun g s=>pW Q (g 3) s) aX))) (yS Q)=fun g s=>∃ n,qU Q (gC Q n1) n (g 0) (g 3) (g 4) (g 5) (g 6) s:=jW (L:=fun n g s=>qU Q (gC Q n1) n (g 0) (g 3) (g 4) (g 5) (g 6) s) (fun n2=>Eq.trans (aO (aO (WY Q n1 n2) (dI 3 rfl)) rfl) (by kernel_rfl))
theorem aAw (Q:aC) (kN:Kt):HE (sub AU [Y,Y,N,Y,N]) kN (cE 0 (fun g s=>pW Q (g 3) s) aX) (yS Q)=fun g s=>∃ n,gC Q n (g 0) (g 3) (g 4) s:=jW (L:=fun n g s=>gC Q n (g 0) (g 3) (g 4) s) (fun n1=>Eq.trans (aO (aO (XM Q n1) (dI 1 (aO (aO (dI 2 (WO Q n1 _)) rfl) rfl))) rfl) (by kernel_rfl))
def f117 (Q:aC) (t0:AV) (s:St):Prop:=∃ n,gC Q n t0 .nils (.int .i64 0) (adv s 3)
theorem aLe (t0:AV) (s:St) {Q:aC} (h:f117 Q t0 s):eG 117 [t0] s Q:=aH (h:=117) (fn:=Tryz.f117) (c:=sub AU []) (show HE (sub AU []) (yS Q) aX (yS Q)=_ from (aO (aO (aO (ZP Q) (aO (dI 0 (aAw Q _)) rfl)) rfl) rfl)) h
abbrev VU:Code:=aN Tryz.f168
abbrev LE:=rK Tryz.f168
abbrev aIi:=aL mEv 168 (mEv.kp 168)
def AY (Q:aC) (t0 t3:AV) (s:St):Prop:=aA (jM 173 t0 none (some t3) none (adv s 5)) fun t20=>aA (bt .append #[173,173] [.nils,t20] (s.nx+3) (adv s 5)) fun r21=>Q r21.1 r21.2
def vT (Q:aC) (ih1:AV->aC) (t0 t3:AV) (s:St):Prop:=aA (bn .gtr 3 t3 (.int .i64 0)) fun t7=>Gd (aB t7 true) (adv s 10) (fun k=>k t0 (adv s 10)) fun t9 s1=>Gd (aB t7 true) s1 (fun k=>k t3 s1) fun t10 s2=>Gd (aB t7 true) s2 (fun k=>aA (bn .sub 3 t10 (.int .i64 1)) fun v=>k v s2) fun t11 s3=>Gd (aB t7 true) s3 (fun k=>aA (cA 1 t9 t11) fun v=>k v s3) fun t12 s4=>Gd (aB t7 true) s4 (fun k=>aA (ld 1 false t12 s4) fun v=>k v s4) fun t13 s5=>Gd (aB t7 true) s5 (fun k=>aA (un .not t13) fun v=>k v s5) fun t14 s6=>aA (aJ t7 t14 (.bool false)) fun t15=>aP t15
 (aA (bn .sub 3 t3 (.int .i64 1)) fun t17=>ih1 t0 t17 (adv s6 3))
 (AY Q t0 t3 s6)
def wY (Q:aC) (n:Nat):AV->aC:=fY (fun _ _ _ =>False) (fun ih=>vT Q ih) n
theorem aAz (Q:aC):aIi (sub VU [Y,Y,Y]) (LE Q) aX (LE Q)=(fun g s=>AY Q (g 0) (g 3) s):=Eq.trans rfl (by kernel_rfl)
theorem XN (Q:aC) (kN:Kt):aIi (sub VU [Y,Y,N,N]) kN (cE 0 (fun g s=>AY Q (g 0) (g 3) s) aX) (LE Q)=fun g s=>∃ n,wY Q n (g 0) (g 3) s:=jW (L:=fun n g s=>wY Q n (g 0) (g 3) s) (fun n1=>Eq.trans (aO (dI 1 rfl) rfl) (by kernel_rfl))
def f168 (Q:aC) (t0:AV) (s:St):Prop:=aA (bt .len #[173] [t0] (s.nx+2) (adv s 4)) fun r5=>∃ n,wY Q n t0 r5.1 r5.2
theorem aKm (t0:AV) (s:St) {Q:aC} (h:f168 Q t0 s):eG 168 [t0] s Q:=aH (h:=168) (fn:=Tryz.f168) (c:=sub VU []) (show aIi (sub VU []) (LE Q) aX (LE Q)=_ from (aO (aO (aO (aAz Q) (dI 0 (XN Q _))) rfl) rfl)) h
abbrev bJy:Code:=aN Tryz.f64
abbrev bEu:=rK Tryz.f64
abbrev bMe:=aL mEv 64 (mEv.kp 64)
def f64 (Q:aC) (t0:AV) (s:St):Prop:=(t0.cells.all AV.one=true /\
 aA (ld 2 true (.ptr s.nx 0) (adv ((adv s 2).set s.nx (some (.cells t0.cells 24 true true))) 4)) fun t4=>aE mEv 118 [t4] (adv ((adv s 2).set s.nx (some (.cells t0.cells 24 true true))) 4) fun t5 s1=>aA (zr 24) fun z3=>aA (bQ 2 (.ptr (((adv s 2).set s.nx (some (.cells t0.cells 24 true true))).nx+2) 0) t5 (s1.set (((adv s 2).set s.nx (some (.cells t0.cells 24 true true))).nx+2) (some (.cells z3.cells 24 true true)))) fun s2=>aA (aD 1 (.ptr (((adv s 2).set s.nx (some (.cells t0.cells 24 true true))).nx+2) 0)) fun t6=>aA (ld 1 false t6 (adv s2 4)) fun t7=>aA (bt .len #[22] [t7] (s2.nx+2) (adv s2 4)) fun r8=>aA (bn .eql 3 r8.1 (.int .i64 0)) fun t9=>aP t9
 (Q (.int .i64 0) (adv r8.2 1))
 (aA (aD 0 (.ptr (((adv s 2).set s.nx (some (.cells t0.cells 24 true true))).nx+2) 0)) fun t10=>aA (ld 1 false t10 (adv r8.2 2)) fun t11=>aP t11
 (Q (.int .i64 (-1)) (adv r8.2 3))
 (Q (.int .i64 1) (adv r8.2 3))))
theorem aRx (t0:AV) (s:St) {Q:aC} (h:f64 Q t0 s):eG 64 [t0] s Q:=aH (h:=64) (fn:=Tryz.f64) (c:=sub bJy []) (show bMe (sub bJy []) (bEu Q) aX (bEu Q)=_ from rfl) h
abbrev aXj:Code:=aN Tryz.f118
abbrev aXb:=rK Tryz.f118
abbrev bFo:=aL mEv 118 (mEv.kp 118)
def f118 (Q:aC) (t0:AV) (s:St):Prop:=(t0.cells.all AV.one=true /\
 aA (zr 24) fun z2=>aA (aD 1 (.ptr s.nx 0)) fun t4=>aA (ld 1 false t4 (adv (((adv s 2).set s.nx (some (.cells t0.cells 24 true true))).set (s.nx+1) (some (.cells z2.cells 24 true true))) 4)) fun t5=>aE mEv 137 [t5] (adv (((adv s 2).set s.nx (some (.cells t0.cells 24 true true))).set (s.nx+1) (some (.cells z2.cells 24 true true))) 4) fun t6 s1=>aA (aD 0 (.ptr s.nx 0)) fun t7=>aA (ld 1 false t7 (adv s1 10)) fun t8=>Gd (aB t8 true) (adv s1 10) (fun k=>k t6 (adv s1 10)) fun t10 s2=>Gd (aB t8 true) s2 (fun k=>aA (bt .len #[22] [t10] (s1.nx+4) s2) fun r=>k r.1 r.2) fun t11 s3=>Gd (aB t8 true) s3 (fun k=>aA (bn .gtr 3 t11 (.int .i64 0)) fun v=>k v s3) fun t12 s4=>aA (aJ t8 t12 (.bool false)) fun t13=>aA (eE 24 [(0,t13),(1,t6)]) fun t15=>aA (bQ 2 (.ptr (s.nx+1) 0) t15 s4) fun s5=>bT ((bW [ld 2 true (.ptr (s.nx+1) 0) s5]).map bY) fun v=>Q v s5)
theorem aLx (t0:AV) (s:St) {Q:aC} (h:f118 Q t0 s):eG 118 [t0] s Q:=aH (h:=118) (fn:=Tryz.f118) (c:=sub aXj []) (show bFo (sub aXj []) (aXb Q) aX (aXb Q)=_ from rfl) h
abbrev aVg:Code:=aN Tryz.f137
abbrev aWj:=rK Tryz.f137
abbrev bGt:=aL mEv 137 (mEv.kp 137)
def f137 (Q:aC) (t0:AV) (s:St):Prop:=aE mEv 117 [t0] (adv s 5) fun t4 s1=>aE mEv 189 [t4] s1 fun t5 s2=>Q t5 s2
theorem aGt (t0:AV) (s:St) {Q:aC} (h:f137 Q t0 s):eG 137 [t0] s Q:=aH (h:=137) (fn:=Tryz.f137) (c:=sub aVg []) (show bGt (sub aVg []) (aWj Q) aX (aWj Q)=_ from rfl) h
abbrev yU:Code:=aN Tryz.f189
abbrev uW:=rK Tryz.f189
abbrev EP:=aL mEv 189 (mEv.kp 189)
def qV (Q:aC) (t3:AV) (s:St):Prop:=Q t3 (adv s 2)
def tW (Q:aC) (ih1:AV->AV->aC) (t4 t0 t3:AV) (s:St):Prop:=aA (bn .add 3 t4 (.int .i64 32)) fun t14=>ih1 t0 t3 t14 (adv s 3)
def yA (Q:aC) (ih1:AV->AV->aC) (t3 t5 t4 t0:AV) (s:St):Prop:=aA (fZ 22 1 [(0,t5)]) fun t38=>aA (bt .append #[22,22] [t3,t38] (s.nx+3) (adv s 5)) fun r39=>tW Q ih1 t4 t0 r39.1 r39.2
def yH (Q:aC) (ih1:AV->AV->aC) (ih2:AV->AV->AV->AV->aC) (t6 t0 t3 t4 t5:AV) (s:St):Prop:=aA (bn .sub 3 t6 (.int .i64 1)) fun t21=>ih2 t0 t3 t4 t5 t21 (adv s 3)
def oQ (Q:aC) (ih1:AV->AV->aC) (ih2:AV->AV->AV->AV->aC) (t0 t3 t4 t5 t6:AV) (s:St):Prop:=aA (bn .geq 3 t6 t4) fun t19=>aP t19
 (aA (bn .mul 211 t5 (.int .u32 2)) fun t23=>aA (bt .len #[173] [t0] (s.nx+8) (adv s 16)) fun r26=>aA (bn .lss 3 t6 r26.1) fun t27=>Gd (aB t27 true) r26.2 (fun k=>k t0 r26.2) fun t29 s1=>Gd (aB t27 true) s1 (fun k=>k t6 s1) fun t30 s2=>Gd (aB t27 true) s2 (fun k=>aA (cA 1 t29 t30) fun v=>k v s2) fun t31 s3=>Gd (aB t27 true) s3 (fun k=>aA (ld 1 false t31 s3) fun v=>k v s3) fun t32 s4=>aA (aJ t27 t32 (.bool false)) fun t33=>aP t33
 (aA (bn .add 211 t23 (.int .u32 1)) fun t35=>yH Q ih1 ih2 t6 t0 t3 t4 t35 (adv s4 3))
 (yH Q ih1 ih2 t6 t0 t3 t4 t23 s4))
 (yA Q ih1 t3 t5 t4 t0 (adv s 3))
def pT (Q:aC) (ih1:AV->AV->aC) (n:Nat):AV->AV->AV->AV->aC:=fY (fun _ _ _ _ _ _ =>False) (fun ih=>oQ Q ih1 ih) n
def rT (Q:aC) (ih1:AV->AV->aC) (t0 t3 t4:AV) (s:St):Prop:=aA (bt .len #[173] [t0] (s.nx+2) (adv s 4)) fun r11=>aA (bn .lss 3 t4 r11.1) fun t12=>aP t12
 (aA (bn .add 3 t4 (.int .i64 31)) fun t16=>∃ n,pT Q ih1 n t0 t3 t4 (.int .u32 0) t16 (adv r11.2 4))
 (qV Q t3 r11.2)
def eM (Q:aC) (n:Nat):AV->AV->aC:=fY (fun _ _ _ _ =>False) (fun ih=>rT Q ih) n
theorem aAy (Q:aC):EP (sub yU [Y,Y,Y,Y]) (uW Q) aX (uW Q)=(fun g s=>qV Q (g 3) s):=Eq.trans rfl (by kernel_rfl)
theorem aCd (Q:aC) (n1:Nat):EP (sub yU [Y,Y,Y,N,Y,N,N,Y,Y]) (mA (fun n g s=>eM Q n (g 0) (g 3) (g 4) s) 189 n1) (cE 0 (fun g s=>qV Q (g 3) s) aX) (uW Q)=(fun g s=>tW Q (eM Q n1) (g 4) (g 0) (g 3) s):=Eq.trans rfl (by kernel_rfl)
theorem WS (Q:aC) (n1:Nat):EP (sub yU [Y,Y,Y,N,Y,N,N,Y,N,N,Y,Y]) (fun g s=>tW Q (eM Q n1) (g 4) (g 0) (g 3) s) (cE 1 (fun g s=>tW Q (eM Q n1) (g 4) (g 0) (g 3) s) (cE 0 (fun g s=>qV Q (g 3) s) aX)) (uW Q)=(fun g s=>yA Q (eM Q n1) (g 3) (g 5) (g 4) (g 0) s):=Eq.trans rfl (by kernel_rfl)
theorem aAa (Q:aC) (n1:Nat) (n2:Nat):EP (sub yU [Y,Y,Y,N,Y,N,N,Y,N,N,Y,N,Y,N,N,Y,Y]) (mA (fun n g s=>pT Q (eM Q n1) n (g 0) (g 3) (g 4) (g 5) (g 6) s) 189 n2) (cE 2 (fun g s=>yA Q (eM Q n1) (g 3) (g 5) (g 4) (g 0) s) (cE 1 (fun g s=>tW Q (eM Q n1) (g 4) (g 0) (g 3) s) (cE 0 (fun g s=>qV Q (g 3) s) aX))) (uW Q)=(fun g s=>yH Q (eM Q n1) (pT Q (eM Q n1) n2) (g 6) (g 0) (g 3) (g 4) (g 5) s):=Eq.trans rfl (by kernel_rfl)
theorem YK (Q:aC) (n1:Nat) (kN:Kt):EP (sub yU [Y,Y,Y,N,Y,N,N,Y,N,N,Y,N,Y,N]) kN (cE 2 (fun g s=>yA Q (eM Q n1) (g 3) (g 5) (g 4) (g 0) s) (cE 1 (fun g s=>tW Q (eM Q n1) (g 4) (g 0) (g 3) s) (cE 0 (fun g s=>qV Q (g 3) s) aX))) (uW Q)=fun g s=>∃ n,pT Q (eM Q n1) n (g 0) (g 3) (g 4) (g 5) (g 6) s:=jW (L:=fun n g s=>pT Q (eM Q n1) n (g 0) (g 3) (g 4) (g 5) (g 6) s) (fun n2=>Eq.trans (aO (aO (aAa Q n1 n2) (dI 3 rfl)) rfl) (by kernel_rfl))
theorem YN (Q:aC) (kN:Kt):EP (sub yU [Y,Y,Y,N,Y,N]) kN (cE 0 (fun g s=>qV Q (g 3) s) aX) (uW Q)=fun g s=>∃ n,eM Q n (g 0) (g 3) (g 4) s:=jW (L:=fun n g s=>eM Q n (g 0) (g 3) (g 4) s) (fun n1=>Eq.trans (aO (aO (aCd Q n1) (dI 1 (aO (aO (WS Q n1) (aO (dI 2 (YK Q n1 _)) rfl)) rfl))) rfl) (by kernel_rfl))
def f189 (Q:aC) (t0:AV) (s:St):Prop:=aE mEv 168 [t0] (adv s 4) fun t8 s1=>∃ n,eM Q n t8 .nils (.int .i64 0) (adv s1 2)
theorem aFa (t0:AV) (s:St) {Q:aC} (h:f189 Q t0 s):eG 189 [t0] s Q:=aH (h:=189) (fn:=Tryz.f189) (c:=sub yU []) (show EP (sub yU []) (uW Q) aX (uW Q)=_ from (aO (aO (aO (aO (aAy Q) (aO (dI 0 (YN Q _)) rfl)) rfl) rfl) rfl)) h
abbrev aJk:Code:=aN Tryz.f66
abbrev aBg:=rK Tryz.f66
abbrev aTe:=aL mEv 66 (mEv.kp 66)
def OA (Q:aC) (s:St):Prop:=Q (.bool true) (adv s 1)
def UQ (Q:aC) (ih1:AV->AV->aC) (t4 t0 t3:AV) (s:St):Prop:=aA (bn .add 3 t4 (.int .i64 1)) fun t14=>ih1 t0 t3 t14 (adv s 3)
def DS (Q:aC) (ih1:AV->AV->aC) (t0 t3 t4:AV) (s:St):Prop:=aA (bt .len #[25] [t0] (s.nx+2) (adv s 4)) fun r11=>aA (bn .lss 3 t4 r11.1) fun t12=>aP t12
 (aA (cA 2 t0 t4) fun t17=>aA (aD 0 t17) fun t18=>aA (ld 1 false t18 (adv r11.2 7)) fun t19=>aE mEv 119 [t19] (adv r11.2 7) fun t20 s1=>aA (un .not t20) fun t22=>Gd (aB t22 false) (adv s1 38) (fun k=>k t0 (adv s1 38)) fun t24 s2=>Gd (aB t22 false) s2 (fun k=>k t4 s2) fun t25 s3=>Gd (aB t22 false) s3 (fun k=>aA (cA 2 t24 t25) fun v=>k v s3) fun t26 s4=>Gd (aB t22 false) s4 (fun k=>aA (aD 1 t26) fun v=>k v s4) fun t27 s5=>Gd (aB t22 false) s5 (fun k=>aA (ld 1 false t27 s5) fun v=>k v s5) fun t28 s6=>Gd (aB t22 false) s6 (fun k=>aA (bn .lss 3 t28 (.int .i64 1)) fun v=>k v s6) fun t29 s7=>aA (aJ t22 (.bool true) t29) fun t30=>Gd (aB t30 false) s7 (fun k=>k t0 s7) fun t32 s8=>Gd (aB t30 false) s8 (fun k=>k t4 s8) fun t33 s9=>Gd (aB t30 false) s9 (fun k=>aA (cA 2 t32 t33) fun v=>k v s9) fun t34 s10=>Gd (aB t30 false) s10 (fun k=>aA (aD 1 t34) fun v=>k v s10) fun t35 s11=>Gd (aB t30 false) s11 (fun k=>aA (ld 1 false t35 s11) fun v=>k v s11) fun t36 s12=>Gd (aB t30 false) s12 (fun k=>k t3 s12) fun t37 s13=>Gd (aB t30 false) s13 (fun k=>aA (bn .sub 3 (.int .i64 1099511627776) t37) fun v=>k v s13) fun t38 s14=>Gd (aB t30 false) s14 (fun k=>aA (bn .gtr 3 t36 t38) fun v=>k v s14) fun t39 s15=>aA (aJ t30 (.bool true) t39) fun t40=>Gd (aB t40 false) s15 (fun k=>k t4 s15) fun t42 s16=>Gd (aB t40 false) s16 (fun k=>aA (bn .gtr 3 t42 (.int .i64 0)) fun v=>k v s16) fun t43 s17=>Gd (aB t40 false) s17 (fun k=>k t43 s17) fun t44 s18 =>
 Gd (aB t44 true) s18 (fun k=>k t0 s18) fun t45 s19=>Gd (aB t44 true) s19 (fun k=>k t4 s19) fun t46 s20=>Gd (aB t44 true) s20 (fun k=>aA (cA 2 t45 t46) fun v=>k v s20) fun t47 s21=>Gd (aB t44 true) s21 (fun k=>aA (aD 0 t47) fun v=>k v s21) fun t48 s22=>Gd (aB t44 true) s22 (fun k=>aA (ld 1 false t48 s22) fun v=>k v s22) fun t49 s23=>Gd (aB t44 true) s23 (fun k=>k t0 s23) fun t50 s24=>Gd (aB t44 true) s24 (fun k=>k t4 s24) fun t51 s25=>Gd (aB t44 true) s25 (fun k=>aA (bn .sub 3 t51 (.int .i64 1)) fun v=>k v s25) fun t52 s26=>Gd (aB t44 true) s26 (fun k=>aA (cA 2 t50 t52) fun v=>k v s26) fun t53 s27=>Gd (aB t44 true) s27 (fun k=>aA (aD 0 t53) fun v=>k v s27) fun t54 s28=>Gd (aB t44 true) s28 (fun k=>aA (ld 1 false t54 s28) fun v=>k v s28) fun t55 s29=>Gd (aB t44 true) s29 (fun k=>aA (bn .eql 3 t49 t55) fun v=>k v s29) fun t56 s30=>Gd (aB t40 false) s30 (fun k=>aA (aJ t44 t56 (.bool false)) fun v=>k v s30) fun t57 s31=>aA (aJ t40 (.bool true) t57) fun t58=>aP t58
 (Q (.bool false) (adv s31 1))
 (aA (cA 2 t0 t4) fun t62=>aA (aD 1 t62) fun t63=>aA (ld 1 false t63 (adv s31 8)) fun t64=>aA (bn .add 3 t3 t64) fun t65=>UQ Q ih1 t4 t0 t65 (adv s31 8)))
 (OA Q r11.2)
def yL (Q:aC) (n:Nat):AV->AV->aC:=fY (fun _ _ _ _ =>False) (fun ih=>DS Q ih) n
theorem aDk (Q:aC):aTe (sub aJk [Y,Y,Y,Y]) (aBg Q) aX (aBg Q)=(fun g s=>OA Q s):=Eq.trans rfl (by kernel_rfl)
theorem aMi (Q:aC) (n1:Nat):aTe (sub aJk [Y,Y,Y,N,Y,N,N,Y,Y]) (mA (fun n g s=>yL Q n (g 0) (g 3) (g 4) s) 66 n1) (cE 0 (fun g s=>OA Q s) aX) (aBg Q)=(fun g s=>UQ Q (yL Q n1) (g 4) (g 0) (g 3) s):=Eq.trans rfl (by kernel_rfl)
theorem aEr (Q:aC) (kN:Kt):aTe (sub aJk [Y,Y,Y,N,Y,N]) kN (cE 0 (fun g s=>OA Q s) aX) (aBg Q)=fun g s=>∃ n,yL Q n (g 0) (g 3) (g 4) s:=jW (L:=fun n g s=>yL Q n (g 0) (g 3) (g 4) s) (fun n1=>Eq.trans (aO (aO (aMi Q n1) (dI 1 rfl)) rfl) (by kernel_rfl))
def f66 (Q:aC) (t0:AV) (s:St):Prop:=aA (bt .len #[25] [t0] (s.nx+2) (adv s 4)) fun r7=>aA (bn .gtr 3 r7.1 (.int .i64 65536)) fun t8=>aP t8
 (Q (.bool false) (adv r7.2 1))
 (∃ n,yL Q n t0 (.int .i64 0) (.int .i64 0) (adv r7.2 2))
theorem aTk (t0:AV) (s:St) {Q:aC} (h:f66 Q t0 s):eG 66 [t0] s Q:=aH (h:=66) (fn:=Tryz.f66) (c:=sub aJk []) (show aTe (sub aJk []) (aBg Q) aX (aBg Q)=_ from (aO (aO (aO (aO (aDk Q) (aO (dI 0 (aEr Q _)) rfl)) rfl) rfl) rfl)) h
abbrev aWm:Code:=aN Tryz.f119
abbrev aUu:=rK Tryz.f119
abbrev bJj:=aL mEv 119 (mEv.kp 119)
def f119 (Q:aC) (t0:AV) (s:St):Prop:=aA (bn .geq 3 t0 (.int .i64 0)) fun t4=>Gd (aB t4 true) (adv s 8) (fun k=>k t0 (adv s 8)) fun t6 s1=>Gd (aB t4 true) s1 (fun k=>aA (bn .lss 3 t6 (.int .i64 196608)) fun v=>k v s1) fun t7 s2=>aA (aJ t4 t7 (.bool false)) fun t8=>Q t8 s2
theorem aLd (t0:AV) (s:St) {Q:aC} (h:f119 Q t0 s):eG 119 [t0] s Q:=aH (h:=119) (fn:=Tryz.f119) (c:=sub aWm []) (show bJj (sub aWm []) (aUu Q) aX (aUu Q)=_ from rfl) h
abbrev aWk:Code:=aN Tryz.f121
abbrev aUp:=rK Tryz.f121
abbrev bIa:=aL mEv 121 (mEv.kp 121)
def f121 (Q:aC) (t0:AV) (s:St):Prop:=aA (zr 33) fun z2=>aE mEv 170 [t0,(.int .i64 1000)] (adv ((adv s 2).set s.nx (some (.cells z2.cells 33 true true))) 7) fun t10 s1=>aA (aQ t10 0) fun t11=>aA (aQ t10 1) fun t12=>aA (bn .neq 34 t12 (.int .i64 0)) fun t14=>aP t14
 (aA (eE 33 []) fun t15=>aA (bQ 6 (.ptr s.nx 0) t15 (adv s1 5)) fun s2=>bT ((bW [ld 6 true (.ptr s.nx 0) s2,some (.bool false)]).map bY) fun v=>Q v s2)
 (aE mEv 171 [t11] (adv s1 9) fun t18 s3=>aA (aQ t18 0) fun t19=>aA (aQ t18 1) fun t20=>aE mEv 62 [(.int .i64 6),t19] (adv s3 4) fun t22 s4=>aA (bQ 6 (.ptr s.nx 0) t22 s4) fun s5=>bT ((bW [ld 6 true (.ptr s.nx 0) s5,some (.bool true)]).map bY) fun v=>Q v s5)
theorem MY (t0:AV) (s:St) {Q:aC} (h:f121 Q t0 s):eG 121 [t0] s Q:=aH (h:=121) (fn:=Tryz.f121) (c:=sub aWk []) (show bIa (sub aWk []) (aUp Q) aX (aUp Q)=_ from rfl) h
abbrev nW:Code:=aN Tryz.f170
abbrev kH:=rK Tryz.f170
abbrev oV:=aL mEv 170 (mEv.kp 170)
def sV (Q:aC) (t10:AV) (s:St):Prop:=Q (.tup [t10,(.int .i64 0)]) (adv s 3)
def tP (Q:aC) (ih1:AV->AV->aC) (t11 t0 t10:AV) (s:St):Prop:=aA (bn .add 3 t11 (.int .i64 1)) fun t63=>ih1 t0 t10 t63 (adv s 3)
def RO (Q:aC) (ih1:AV->AV->aC) (ih2:AV->AV->AV->aC) (t12 t0 t10 t11:AV) (s:St):Prop:=aA (bn .add 3 t12 (.int .i64 1)) fun t72=>ih2 t0 t10 t11 t72 (adv s 3)
def uF (Q:aC) (ih1:AV->AV->aC) (ih2:AV->AV->AV->aC) (t0 t10 t11 t12:AV) (s:St):Prop:=aA (cA 2 t0 t11) fun t67=>aA (aD 1 t67) fun t68=>aA (ld 1 false t68 (adv s 7)) fun t69=>aA (bn .lss 3 t12 t69) fun t70=>aP t70
 (aA (cA 2 t0 t11) fun t76=>aA (aD 0 t76) fun t77=>aA (ld 1 false t77 (adv s 16)) fun t78=>aA (fZ 72 1 [(0,t78)]) fun t79=>aA (bt .append #[72,72] [t10,t79] (s.nx+14) (adv s 16)) fun r80=>RO Q ih1 ih2 t12 t0 r80.1 t11 r80.2)
 (tP Q ih1 t11 t0 t10 (adv s 7))
def qT (Q:aC) (ih1:AV->AV->aC) (n:Nat):AV->AV->AV->aC:=fY (fun _ _ _ _ _ =>False) (fun ih=>uF Q ih1 ih) n
def wD (Q:aC) (ih1:AV->AV->aC) (t0 t10 t11:AV) (s:St):Prop:=aA (bt .len #[25] [t0] (s.nx+2) (adv s 4)) fun r60=>aA (bn .lss 3 t11 r60.1) fun t61=>aP t61
 (∃ n,qT Q ih1 n t0 t10 t11 (.int .i64 0) (adv r60.2 1))
 (sV Q t10 r60.2)
def eH (Q:aC) (n:Nat):AV->AV->aC:=fY (fun _ _ _ _ =>False) (fun ih=>wD Q ih) n
def xT (Q:aC) (t0:AV) (s:St):Prop:=∃ n,eH Q n t0 .nils (.int .i64 0) (adv s 2)
def IM (Q:aC) (ih3:AV->AV->aC) (t9 t0 t8:AV) (s:St):Prop:=aA (bn .add 3 t9 (.int .i64 1)) fun t43=>ih3 t0 t8 t43 (adv s 3)
def mN (Q:aC) (ih3:AV->AV->aC) (t0 t8 t9:AV) (s:St):Prop:=aA (bt .len #[25] [t0] (s.nx+2) (adv s 4)) fun r40=>aA (bn .lss 3 t9 r40.1) fun t41=>aP t41
 (aA (cA 2 t0 t9) fun t46=>aA (aD 1 t46) fun t47=>aA (ld 1 false t47 (adv r40.2 7)) fun t48=>aA (bn .gtr 3 t48 t8) fun t50=>aP t50
 (Q (.tup [.nils,(.int .i64 2)]) (adv r40.2 9))
 (aA (cA 2 t0 t9) fun t54=>aA (aD 1 t54) fun t55=>aA (ld 1 false t55 (adv r40.2 15)) fun t56=>aA (bn .sub 3 t8 t56) fun t57=>IM Q ih3 t9 t0 t57 (adv r40.2 15)))
 (xT Q t0 r40.2)
def mV (Q:aC) (n:Nat):AV->AV->aC:=fY (fun _ _ _ _ =>False) (fun ih=>mN Q ih) n
def tQ (Q:aC) (t1 t0:AV) (s:St):Prop:=aA (bn .lss 3 t1 (.int .i64 0)) fun t36=>aP t36
 (Q (.tup [.nils,(.int .i64 2)]) (adv s 4))
 (∃ n,mV Q n t0 t1 (.int .i64 0) (adv s 5))
def PG (Q:aC) (ih4:AV->AV->aC) (t6 t0 t1:AV) (s:St):Prop:=aA (bn .add 3 t6 (.int .i64 1)) fun t18=>ih4 t0 t1 t18 (adv s 3)
def uA (Q:aC) (ih4:AV->AV->aC) (t0 t1 t6:AV) (s:St):Prop:=aA (bt .len #[25] [t0] (s.nx+2) (adv s 4)) fun r15=>aA (bn .lss 3 t6 r15.1) fun t16=>aP t16
 (aA (cA 2 t0 t6) fun t21=>aA (aD 0 t21) fun t22=>aA (ld 1 false t22 (adv r15.2 7)) fun t23=>aE mEv 119 [t23] (adv r15.2 7) fun t24 s1=>aA (un .not t24) fun t26=>Gd (aB t26 false) (adv s1 10) (fun k=>k t0 (adv s1 10)) fun t28 s2=>Gd (aB t26 false) s2 (fun k=>k t6 s2) fun t29 s3=>Gd (aB t26 false) s3 (fun k=>aA (cA 2 t28 t29) fun v=>k v s3) fun t30 s4=>Gd (aB t26 false) s4 (fun k=>aA (aD 1 t30) fun v=>k v s4) fun t31 s5=>Gd (aB t26 false) s5 (fun k=>aA (ld 1 false t31 s5) fun v=>k v s5) fun t32 s6=>Gd (aB t26 false) s6 (fun k=>aA (bn .lss 3 t32 (.int .i64 1)) fun v=>k v s6) fun t33 s7=>aA (aJ t26 (.bool true) t33) fun t34=>aP t34
 (Q (.tup [.nils,(.int .i64 1)]) (adv s7 2))
 (PG Q ih4 t6 t0 t1 s7))
 (tQ Q t1 t0 r15.2)
def qH (Q:aC) (n:Nat):AV->AV->aC:=fY (fun _ _ _ _ =>False) (fun ih=>uA Q ih) n
theorem XI (Q:aC):oV (sub nW [Y,Y,Y,Y,Y,Y,Y]) (kH Q) aX (kH Q)=(fun g s=>sV Q (g 10) s):=Eq.trans rfl (by kernel_rfl)
theorem aAc (Q:aC) (n1:Nat):oV (sub nW [Y,Y,Y,Y,Y,Y,N,Y,N,N,Y,Y]) (mA (fun n g s=>eH Q n (g 0) (g 10) (g 11) s) 170 n1) (cE 4 (fun g s=>sV Q (g 10) s) aX) (kH Q)=(fun g s=>tP Q (eH Q n1) (g 11) (g 0) (g 10) s):=Eq.trans rfl (by kernel_rfl)
theorem ZI (Q:aC) (n1:Nat) (n2:Nat):oV (sub nW [Y,Y,Y,Y,Y,Y,N,Y,N,N,Y,N,N,Y,N,N,Y,Y]) (mA (fun n g s=>qT Q (eH Q n1) n (g 0) (g 10) (g 11) (g 12) s) 170 n2) (cE 6 (fun g s=>tP Q (eH Q n1) (g 11) (g 0) (g 10) s) (cE 5 (fun g s=>tP Q (eH Q n1) (g 11) (g 0) (g 10) s) (cE 4 (fun g s=>sV Q (g 10) s) aX))) (kH Q)=(fun g s=>RO Q (eH Q n1) (qT Q (eH Q n1) n2) (g 12) (g 0) (g 10) (g 11) s):=Eq.trans rfl (by kernel_rfl)
theorem YA (Q:aC) (n1:Nat) (kN:Kt):oV (sub nW [Y,Y,Y,Y,Y,Y,N,Y,N,N,Y,N,N,Y,N]) kN (cE 6 (fun g s=>tP Q (eH Q n1) (g 11) (g 0) (g 10) s) (cE 5 (fun g s=>tP Q (eH Q n1) (g 11) (g 0) (g 10) s) (cE 4 (fun g s=>sV Q (g 10) s) aX))) (kH Q)=fun g s=>∃ n,qT Q (eH Q n1) n (g 0) (g 10) (g 11) (g 12) s:=jW (L:=fun n g s=>qT Q (eH Q n1) n (g 0) (g 10) (g 11) (g 12) s) (fun n2=>Eq.trans (aO (aO (ZI Q n1 n2) (dI 7 rfl)) rfl) (by kernel_rfl))
theorem aBj (Q:aC) (kN:Kt):oV (sub nW [Y,Y,Y,Y,Y,Y,N,Y,N]) kN (cE 4 (fun g s=>sV Q (g 10) s) aX) (kH Q)=fun g s=>∃ n,eH Q n (g 0) (g 10) (g 11) s:=jW (L:=fun n g s=>eH Q n (g 0) (g 10) (g 11) s) (fun n1=>Eq.trans (aO (aO (aAc Q n1) (dI 5 (aO (dI 6 (YA Q n1 _)) rfl))) rfl) (by kernel_rfl))
theorem ZQ (Q:aC):oV (sub nW [Y,Y,Y,Y,Y]) (kH Q) aX (kH Q)=(fun g s=>xT Q (g 0) s):=Eq.trans (aO (aO (XI Q) (aO (dI 4 (aBj Q _)) rfl)) rfl) (by kernel_rfl)
theorem XQ (Q:aC) (n3:Nat):oV (sub nW [Y,Y,Y,Y,N,Y,N,N,Y,Y]) (mA (fun n g s=>mV Q n (g 0) (g 8) (g 9) s) 170 n3) (cE 2 (fun g s=>xT Q (g 0) s) aX) (kH Q)=(fun g s=>IM Q (mV Q n3) (g 9) (g 0) (g 8) s):=Eq.trans rfl (by kernel_rfl)
theorem aAf (Q:aC) (kN:Kt):oV (sub nW [Y,Y,Y,Y,N,Y,N]) kN (cE 2 (fun g s=>xT Q (g 0) s) aX) (kH Q)=fun g s=>∃ n,mV Q n (g 0) (g 8) (g 9) s:=jW (L:=fun n g s=>mV Q n (g 0) (g 8) (g 9) s) (fun n3=>Eq.trans (aO (aO (XQ Q n3) (dI 3 rfl)) rfl) (by kernel_rfl))
theorem aAm (Q:aC):oV (sub nW [Y,Y]) (kH Q) aX (kH Q)=(fun g s=>tQ Q (g 1) (g 0) s):=Eq.trans (aO (aO (aO (ZQ Q) (aO (dI 2 (aAf Q _)) rfl)) rfl) rfl) (by kernel_rfl)
theorem ZM (Q:aC) (n4:Nat):oV (sub nW [Y,N,Y,N,N,Y,Y]) (mA (fun n g s=>qH Q n (g 0) (g 1) (g 6) s) 170 n4) (cE 0 (fun g s=>tQ Q (g 1) (g 0) s) aX) (kH Q)=(fun g s=>PG Q (qH Q n4) (g 6) (g 0) (g 1) s):=Eq.trans rfl (by kernel_rfl)
theorem YH (Q:aC) (kN:Kt):oV (sub nW [Y,N,Y,N]) kN (cE 0 (fun g s=>tQ Q (g 1) (g 0) s) aX) (kH Q)=fun g s=>∃ n,qH Q n (g 0) (g 1) (g 6) s:=jW (L:=fun n g s=>qH Q n (g 0) (g 1) (g 6) s) (fun n4=>Eq.trans (aO (aO (ZM Q n4) (dI 1 rfl)) rfl) (by kernel_rfl))
def f170 (Q:aC) (t0 t1:AV) (s:St):Prop:=∃ n,qH Q n t0 t1 (.int .i64 0) (adv s 3)
theorem LB (t0 t1:AV) (s:St) {Q:aC} (h:f170 Q t0 t1 s):eG 170 [t0,t1] s Q:=aH (h:=170) (fn:=Tryz.f170) (c:=sub nW []) (show oV (sub nW []) (kH Q) aX (kH Q)=_ from (aO (aO (aAm Q) (aO (dI 0 (YH Q _)) rfl)) rfl)) h
abbrev KK:Code:=aN Tryz.f171
abbrev FS:=rK Tryz.f171
abbrev VD:=aL mEv 171 (mEv.kp 171)
def CU (Q:aC) (t4:AV) (s:St):Prop:=Q (.tup [t4,(.int .i64 0)]) (adv s 3)
def yD (Q:aC) (ih1:AV->AV->aC) (t5 t0 t4:AV) (s:St):Prop:=aA (bn .add 3 t5 (.int .i64 1)) fun t13=>ih1 t0 t4 t13 (adv s 3)
def vK (Q:aC) (ih1:AV->AV->aC) (t0 t4 t5:AV) (s:St):Prop:=aA (bt .len #[72] [t0] (s.nx+2) (adv s 4)) fun r10=>aA (bn .lss 3 t5 r10.1) fun t11=>aP t11
 (aA (cA 1 t0 t5) fun t16=>aA (ld 1 false t16 (adv r10.2 5)) fun t17=>aE mEv 119 [t17] (adv r10.2 8) fun t19 s1=>aA (un .not t19) fun t21=>aP t21
 (Q (.tup [(.str []),(.int .i64 1)]) (adv s1 4))
 (aA (bn .geq 3 t17 (.int .i64 32)) fun t23=>Gd (aB t23 true) (adv s1 12) (fun k=>k t17 (adv s1 12)) fun t25 s2=>Gd (aB t23 true) s2 (fun k=>aA (bn .lss 3 t25 (.int .i64 127)) fun v=>k v s2) fun t26 s3=>aA (aJ t23 t26 (.bool false)) fun t27=>Gd (aB t27 true) s3 (fun k=>k t17 s3) fun t29 s4=>Gd (aB t27 true) s4 (fun k=>aA (bn .neq 3 t29 (.int .i64 92)) fun v=>k v s4) fun t30 s5=>aA (aJ t27 t30 (.bool false)) fun t31=>aP t31
 (aA (cv 3 5 t17 (adv s5 7)) fun t34=>aA (fZ 161 1 [(0,t34)]) fun t35=>aA (cv 161 9 t35 (adv s5 7)) fun t36=>aA (bn .add 9 t4 t36) fun t37=>yD Q ih1 t5 t0 t37 (adv s5 7))
 (aA (bn .add 9 t4 (.str [92,117,123])) fun t39=>aE mEv 208 [t17] (adv s5 7) fun t41 s6=>aA (bn .add 9 t39 t41) fun t42=>aA (bn .add 9 t42 (.str [125])) fun t43=>yD Q ih1 t5 t0 t43 s6)))
 (CU Q t4 r10.2)
def oG (Q:aC) (n:Nat):AV->AV->aC:=fY (fun _ _ _ _ =>False) (fun ih=>vK Q ih) n
theorem ZA (Q:aC):VD (sub KK [Y,Y,Y]) (FS Q) aX (FS Q)=(fun g s=>CU Q (g 4) s):=Eq.trans rfl (by kernel_rfl)
theorem aAg (Q:aC) (n1:Nat):VD (sub KK [Y,Y,N,Y,N,N,Y,Y]) (mA (fun n g s=>oG Q n (g 0) (g 4) (g 5) s) 171 n1) (cE 0 (fun g s=>CU Q (g 4) s) aX) (FS Q)=(fun g s=>yD Q (oG Q n1) (g 5) (g 0) (g 4) s):=Eq.trans rfl (by kernel_rfl)
theorem aCk (Q:aC) (kN:Kt):VD (sub KK [Y,Y,N,Y,N]) kN (cE 0 (fun g s=>CU Q (g 4) s) aX) (FS Q)=fun g s=>∃ n,oG Q n (g 0) (g 4) (g 5) s:=jW (L:=fun n g s=>oG Q n (g 0) (g 4) (g 5) s) (fun n1=>Eq.trans (aO (aO (aAg Q n1) (dI 1 rfl)) rfl) (by kernel_rfl))
def f171 (Q:aC) (t0:AV) (s:St):Prop:=∃ n,oG Q n t0 (.str []) (.int .i64 0) (adv s 4)
theorem aJf (t0:AV) (s:St) {Q:aC} (h:f171 Q t0 s):eG 171 [t0] s Q:=aH (h:=171) (fn:=Tryz.f171) (c:=sub KK []) (show VD (sub KK []) (FS Q) aX (FS Q)=_ from (aO (aO (aO (ZA Q) (aO (dI 0 (aCk Q _)) rfl)) rfl) rfl)) h
abbrev aWu:Code:=aN Tryz.f208
abbrev aXx:=rK Tryz.f208
abbrev bHq:=aL mEv 208 (mEv.kp 208)
def f208 (Q:aC) (t0:AV) (s:St):Prop:=aA (bn .lss 3 t0 (.int .i64 16)) fun t5=>aP t5
 (aA (bn .add 3 t0 (.int .i64 1)) fun t9=>aA (jM 9 (.str [48,49,50,51,52,53,54,55,56,57,97,98,99,100,101,102]) (some t0) (some t9) none (adv s 10)) fun t10=>Q t10 (adv s 10))
 (aA (bn .quo 3 t0 (.int .i64 16)) fun t12=>dW mEv 208 [t12] (rch (adv s 16) [(.fn 208 [] []),t12]) (adv s 16) fun t13 s1=>aA (bn .rem 3 t0 (.int .i64 16)) fun t16=>aA (bn .rem 3 t0 (.int .i64 16)) fun t18=>aA (bn .add 3 t18 (.int .i64 1)) fun t19=>aA (jM 9 (.str [48,49,50,51,52,53,54,55,56,57,97,98,99,100,101,102]) (some t16) (some t19) none s1) fun t20=>aA (bn .add 9 t13 t20) fun t21=>Q t21 s1)
theorem MI (t0:AV) (s:St) {Q:aC} (h:f208 Q t0 s):eG 208 [t0] s Q:=aH (h:=208) (fn:=Tryz.f208) (c:=sub aWu []) (show bHq (sub aWu []) (aXx Q) aX (aXx Q)=_ from rfl) h
end
noncomputable section
def f163 (Q:aC) (t0:AV) (s:St):Prop:=aA (zr 33) fun z2=>aE mEv 206 [t0] (adv ((adv s 1).set s.nx (some (.cells z2.cells 33 true true))) 5) fun t4 s1=>aA (bn .add 9 (.str [100]) t4) fun t5=>aE mEv 56 [t5] s1 fun t6 s2=>aA (bQ 6 (.ptr s.nx 0) t6 s2) fun s3=>bT ((bW [ld 6 true (.ptr s.nx 0) s3]).map bY) fun v=>Q v s3
def bBr (Q:aC) (ih1:AV->AV->aC) (t2 t3 t0:AV) (s:St):Prop:=aA (bn .add 3 t2 (.int .i64 1)) fun t11=>aA (bn .sub 3 t3 (.int .i64 1)) fun t13=>ih1 t0 t11 t13 (adv s 6)
def aSo (Q:aC) (ih1:AV->AV->aC) (t0 t2 t3:AV) (s:St):Prop:=aA (bn .lss 3 t2 t3) fun t9=>aP t9
 (aA (cA 6 t0 t3) fun t20=>aA (ld 6 true t20 (adv s 19)) fun t21=>aA (cA 6 t0 t2) fun t24=>aA (ld 6 true t24 (adv s 19)) fun t25=>aA (cA 6 t0 t2) fun t26=>((adv s 19).h (s.nx+16)=none/\aA (bQ 6 t26 t21 (adv s 19)) fun s1=>aA (cA 6 t0 t3) fun t27=>(s1.h (s.nx+18)=none/\aA (bQ 6 t27 t25 s1) fun s2=>bBr Q ih1 t2 t3 t0 s2)))
 (Q (.tup []) (adv s 3))
def bCj (Q:aC) (n:Nat):AV->AV->aC:=fY (fun _ _ _ _ =>False) (fun ih=>aSo Q ih) n
def f164 (Q:aC) (t0:AV) (s:St):Prop:=aA (bt .len #[31] [t0] (s.nx+1) (adv s 5)) fun r5=>aA (bn .sub 3 r5.1 (.int .i64 1)) fun t6=>∃ n,bCj Q n t0 (.int .i64 0) t6 r5.2
def f165 (Q:aC) (t0 t1 t2:AV) (s:St):Prop:=(t1.cells.all AV.one=true /\
 dW mEv 163 [t0] (rch (adv ((adv s 1).set s.nx (some (.cells t1.cells 33 true true))) 7) [(.fn 163 [] []),t0]) (adv ((adv s 1).set s.nx (some (.cells t1.cells 33 true true))) 7) fun t7 s1=>aA (ld 6 true (.ptr s.nx 0) s1) fun t8=>aA (fZ 31 2 [(0,t7),(1,t8)]) fun t9=>aA (eE 33 [(0,(.bool true)),(3,t9)]) fun t10=>(clear 0 ⟨5,true,(((adv s 1).set s.nx (some (.cells t1.cells 33 true true))).nx+5)::[],none⟩ [⟨4,false,[],none⟩,⟨3,false,[],none⟩,⟨2,false,aS (.ptr s.nx 0),none⟩,⟨1,false,rch (adv ((adv s 1).set s.nx (some (.cells t1.cells 33 true true))) 7) [(.fn 163 [] []),t0],none⟩,⟨0,false,[],none⟩]=true/\s1.h (((adv s 1).set s.nx (some (.cells t1.cells 33 true true))).nx+5)=none/\aA (zr 33) fun z5=>((s1.set (((adv s 1).set s.nx (some (.cells t1.cells 33 true true))).nx+5) (some (.cells z5.cells 33 true true))).h (((adv s 1).set s.nx (some (.cells t1.cells 33 true true))).nx+6)=none/\aA (bQ 6 (.ptr (((adv s 1).set s.nx (some (.cells t1.cells 33 true true))).nx+5) 0) t10 (s1.set (((adv s 1).set s.nx (some (.cells t1.cells 33 true true))).nx+5) (some (.cells z5.cells 33 true true)))) fun s2=>aA (ld 6 true (.ptr (((adv s 1).set s.nx (some (.cells t1.cells 33 true true))).nx+5) 0) (adv s2 7)) fun t11=>aA (fZ 31 1 [(0,t11)]) fun t12=>aA (eE 33 [(0,(.bool true)),(3,t12)]) fun t13=>aA (ld 6 true t2 (adv s2 7)) fun t14=>aA (fZ 31 2 [(0,t13),(1,t14)]) fun t15=>aE mEv 57 [(.str [108,101,116]),t15] (adv s2 7) fun t16 s3=>aA (bQ 6 t2 t16 s3) fun s4=>Q (.tup []) s4)))
def bBj (Q:aC) (t1 t7 t6 t2:AV) (s:St):Prop:=aA (aD 0 t1) fun t58=>aA (ld 1 false t58 (adv s 11)) fun t59=>aA (eE 109 [(0,t59),(1,(.int .i64 1))]) fun t60=>aA (fZ 25 1 [(0,t60)]) fun t61=>aE mEv 115 [t61] (adv s 11) fun t62 s1=>aA (aQ t62 0) fun t63=>aA (aQ t62 1) fun t64=>aA (zr 33) fun z9=>aA (bQ 6 (.ptr (s.nx+8) 0) t63 (s1.set (s.nx+8) (some (.cells z9.cells 33 true true)))) fun s2=>aA (ld 6 true (.ptr (s.nx+8) 0) (adv s2 3)) fun t66=>EH mEv 114 t7 [(.int .i64 0),t66] (adv s2 3) fun t67 s3=>aA (ld 6 true t6 (adv s3 2)) fun t68=>aA (bQ 6 t2 t68 (adv s3 2)) fun s4=>bT ((bW [ld 6 true t2 s4]).map bY) fun v=>Q v s4
def aZw (Q:aC) (ih1:AV->AV->AV->AV->aC) (t8 t1 t2 t6 t7:AV) (s:St):Prop:=aA (bn .sub 3 t8 (.int .i64 1)) fun t45=>ih1 t1 t2 t6 t7 t45 (adv s 3)
def aSs (Q:aC) (ih1:AV->AV->AV->AV->aC) (t1 t2 t6 t7 t8:AV) (s:St):Prop:=aA (bn .gtr 3 t8 (.int .i64 0)) fun t43=>aP t43
 (aA (bn .sub 3 t8 (.int .i64 1)) fun t49=>aE mEv 163 [t49] (adv s 13) fun t50 s1=>aA (bn .sub 3 t8 (.int .i64 1)) fun t52=>aE mEv 163 [t52] s1 fun t53 s2=>aA (fZ 31 2 [(0,t50),(1,t53)]) fun t54=>aE mEv 57 [(.str [115,116,114,46,43,43]),t54] s2 fun t55 s3=>EH mEv 114 t7 [t8,t55] s3 fun t56 s4=>aZw Q ih1 t8 t1 t2 t6 t7 s4)
 (bBj Q t1 t7 t6 t2 (adv s 2))
def bAv (Q:aC) (n:Nat):AV->AV->AV->AV->aC:=fY (fun _ _ _ _ _ _ =>False) (fun ih=>aSs Q ih) n
def aCu (Q:aC) (t6 t4 t1 t2:AV) (s:St):Prop:=∃ n,bAv Q n t1 t2 t6 (.fn 165 [] [t6]) t4 (adv s 4)
def bAp (Q:aC) (t3 t4 t1 t2:AV) (s:St):Prop:=aY mEv 164 [t3] (adv s 2) fun t31 s1=>aA (cA 6 t3 (.int .i64 0)) fun t33=>aA (ld 6 true t33 (adv s1 5)) fun t34=>aA (zr 33) fun z6=>aA (bQ 6 (.ptr (s1.nx+3) 0) t34 ((adv s1 5).set (s1.nx+3) (some (.cells z6.cells 33 true true)))) fun s2=>aA (bt .len #[31] [t3] (s2.nx+1) (adv s2 3)) fun r36=>aA (bn .gtr 3 r36.1 (.int .i64 1)) fun t37=>aP t37
 (aE mEv 57 [(.str [115,116,114,46,43,43]),t3] (adv r36.2 3) fun t39 s3=>aA (bQ 6 (.ptr (s1.nx+3) 0) t39 s3) fun s4=>aCu Q (.ptr (s1.nx+3) 0) t4 t1 t2 s4)
 (aCu Q (.ptr (s1.nx+3) 0) t4 t1 t2 r36.2)
def aNe (Q:aC) (ih2:AV->AV->AV->AV->aC) (t5 t1 t2 t3 t4:AV) (s:St):Prop:=aA (bn .add 3 t5 (.int .i64 1)) fun t17=>ih2 t1 t2 t3 t4 t17 (adv s 3)
def aSq (Q:aC) (ih2:AV->AV->AV->AV->aC) (t1 t2 t3 t4 t5:AV) (s:St):Prop:=aA (bn .shl 3 (.int .i64 1) t5) fun t12=>aA (aD 1 t1) fun t13=>aA (ld 1 false t13 (adv s 5)) fun t14=>aA (bn .leq 3 t12 t14) fun t15=>aP t15
 (aA (aD 1 t1) fun t19=>aA (ld 1 false t19 (adv s 13)) fun t20=>aA (bn .shr 3 t20 t5) fun t22=>aA (bn .and 3 t22 (.int .i64 1)) fun t23=>aA (bn .eql 3 t23 (.int .i64 1)) fun t24=>aP t24
 (aE mEv 163 [t5] (adv s 19) fun t27 s1=>aA (fZ 31 1 [(0,t27)]) fun t28=>aA (bt .append #[31,31] [t3,t28] (s.nx+17) s1) fun r29=>aNe Q ih2 t5 t1 t2 r29.1 t5 r29.2)
 (aNe Q ih2 t5 t1 t2 t3 t5 (adv s 13)))
 (bAp Q t3 t4 t1 t2 (adv s 5))
def aYu (Q:aC) (n:Nat):AV->AV->AV->AV->aC:=fY (fun _ _ _ _ _ _ =>False) (fun ih=>aSq Q ih) n
def f114 (Q:aC) (t0:AV) (s:St):Prop:=(t0.cells.all AV.one=true /\
 aA (zr 33) fun z2=>∃ n,aYu Q n (.ptr s.nx 0) (.ptr (s.nx+1) 0) .nils (.int .i64 0) (.int .i64 0) (adv (((adv s 2).set s.nx (some (.cells t0.cells 109 true true))).set (s.nx+1) (some (.cells z2.cells 33 true true))) 3))
end
noncomputable section
abbrev aUw:Code:=aN Tryz.f207
abbrev aVv:=rK Tryz.f207
abbrev bIy:=aL mEv 207 (mEv.kp 207)
def f207 (Q:aC) (t0 t1:AV) (s:St):Prop:=aE mEv 236 [t0,t1] (adv s 5) fun t7 s1=>Q t7 s1
theorem aNf (t0 t1:AV) (s:St) {Q:aC} (h:f207 Q t0 t1 s):eG 207 [t0,t1] s Q:=aH (h:=207) (fn:=Tryz.f207) (c:=sub aUw []) (show bIy (sub aUw []) (aVv Q) aX (aVv Q)=_ from rfl) h
abbrev TB:Code:=aN Tryz.f236
abbrev ML:=rK Tryz.f236
abbrev aLv:=aL mEv 236 (mEv.kp 236)
def JO (Q:aC) (t0 t1:AV) (s:St):Prop:=aA (cv 2 159 t0 (adv s 11)) fun t46=>aA (bn .lss 2 t0 (.int .i64 0)) fun t49=>aE mEv 266 [.nils,t46,t1,t49,(.bool false)] (adv s 11) fun t50 s1=>aA (aQ t50 0) fun t51=>aA (aQ t50 1) fun t52=>Q t52 (adv s1 2)
def SK (Q:aC) (t6 t5 t0:AV) (s:St):Prop:=aE mEv 264 [t6] (adv s 3) fun t27 s1=>aA (bn .add 3 (.int .i64 1) t27) fun t29=>aA (jM 304 t5 (some (.int .i64 1)) (some t29) none (adv s1 5)) fun t30=>aE mEv 265 [t30,t6] (adv s1 5) fun t32 s2=>aA (bn .lss 2 t0 (.int .i64 0)) fun t34=>aP t34
 (aA (FD 24 1 t5 (.int .i64 0)) fun t35=>aA (bQ 1 t35 (.int .u8 45) (adv s2 4)) fun s3=>aA (bn .add 3 (.int .i64 1) t27) fun t37=>aA (jM 304 t5 none (some t37) none (adv s3 5)) fun t38=>aA (cv 161 9 t38 (adv s3 5)) fun t39=>Q t39 (adv s3 5))
 (aA (bn .add 3 (.int .i64 1) t27) fun t41=>aA (jM 304 t5 (some (.int .i64 1)) (some t41) none (adv s2 7)) fun t42=>aA (cv 161 9 t42 (adv s2 7)) fun t43=>Q t43 (adv s2 7))
theorem aAt (Q:aC):aLv (sub TB [Y,Y]) (ML Q) aX (ML Q)=(fun g s=>JO Q (g 0) (g 1) s):=Eq.trans rfl (by kernel_rfl)
theorem aBl (Q:aC):aLv (sub TB [Y,N,Y,N,Y,Y,Y,Y]) (fun g s=>JO Q (g 0) (g 1) s) aX (ML Q)=(fun g s=>SK Q (g 6) (g 5) (g 0) s):=Eq.trans rfl (by kernel_rfl)
def f236 (Q:aC) (t0 t1:AV) (s:St):Prop:=aA (bn .eql 3 t1 (.int .i64 10)) fun t11=>aP t11
 (aA (bn .leq 2 (.int .i64 0) t0) fun t13=>Gd (aB t13 true) (adv s 9) (fun k=>k t0 (adv s 9)) fun t15 s1=>Gd (aB t13 true) s1 (fun k=>aA (bn .lss 2 t15 (.int .i64 100)) fun v=>k v s1) fun t16 s2=>aA (aJ t13 t16 (.bool false)) fun t17=>aP t17
 (aE mEv 263 [t0] (adv s2 3) fun t19 s3=>Q t19 s3)
 (aA (zr 304) fun z5=>aA (cv 2 159 t0 (adv ((adv s2 1).set s2.nx (some (.cells z5.cells 304 true true))) 3)) fun t21=>aA (bn .lss 2 t0 (.int .i64 0)) fun t23=>aP t23
 (aA (un .neg t21) fun t25=>SK Q t25 (.ptr s2.nx 0) t0 (adv ((adv s2 1).set s2.nx (some (.cells z5.cells 304 true true))) 8))
 (SK Q t21 (.ptr s2.nx 0) t0 (adv ((adv s2 1).set s2.nx (some (.cells z5.cells 304 true true))) 5))))
 (JO Q t0 t1 (adv s 3))
theorem aIq (t0 t1:AV) (s:St) {Q:aC} (h:f236 Q t0 t1 s):eG 236 [t0,t1] s Q:=aH (h:=236) (fn:=Tryz.f236) (c:=sub TB []) (show aLv (sub TB []) (ML Q) aX (ML Q)=_ from (aO (aO (aAt Q) (aO (cdA (.tmp 11) (aO (aO (aO (aO (aBl Q) rfl) rfl) rfl) rfl) rfl) rfl)) rfl)) h
abbrev sE:Code:=aN Tryz.f266
abbrev mJ:=rK Tryz.f266
abbrev uT:=aL mEv 266 (mEv.kp 266)
def JQ (Q:aC) (t4 t0 t13 t12 t11 t10:AV) (s:St):Prop:=aP t4
 (aA (jM 311 t12 (some t13) none none (adv s 6)) fun t97=>aA (bt .append #[161,161] [t0,t97] (s.nx+4) (adv s 6)) fun r98=>Q (.tup [r98.1,t11]) r98.2)
 (aA (jM 311 t12 (some t13) none none (adv s 5)) fun t100=>aA (cv 161 9 t100 (adv s 5)) fun t101=>Q (.tup [t10,t101]) (adv s 5))
def wS (Q:aC) (t3 t13 t12 t4 t0 t11 t10:AV) (s:St):Prop:=aP t3
 (aA (bn .sub 3 t13 (.int .i64 1)) fun t91=>aA (FD 65 1 t12 t91) fun t93=>aA (bQ 1 t93 (.int .u8 45) (adv s 7)) fun s1=>JQ Q t4 t0 t91 t12 t11 t10 s1)
 (JQ Q t4 t0 t13 t12 t11 t10 (adv s 1))
def BJ (Q:aC) (t13 t1 t12 t3 t4 t0 t11 t10:AV) (s:St):Prop:=aA (bn .sub 3 t13 (.int .i64 1)) fun t59=>aA (uK 9 (.str [48,49,50,51,52,53,54,55,56,57,97,98,99,100,101,102,103,104,105,106,107,108,109,110,111,112,113,114,115,116,117,118,119,120,121,122]) t1) fun t62=>aA (FD 65 1 t12 t59) fun t63=>aA (bQ 1 t63 t62 (adv s 8)) fun s1=>wS Q t3 t59 t12 t4 t0 t11 t10 s1
def rH (Q:aC) (ih1:AV->AV->AV->AV->AV->AV->AV->AV->AV->AV->aC) (t0 t1 t3 t4 t10 t11 t12 t13 t14 t15 t16:AV) (s:St):Prop:=aA (bn .geq 159 t1 t15) fun t46=>aP t46
 (aA (bn .sub 3 t13 (.int .i64 1)) fun t48=>aA (bn .and 213 t1 t16) fun t52=>aA (uK 9 (.str [48,49,50,51,52,53,54,55,56,57,97,98,99,100,101,102,103,104,105,106,107,108,109,110,111,112,113,114,115,116,117,118,119,120,121,122]) t52) fun t53=>aA (FD 65 1 t12 t48) fun t54=>aA (bQ 1 t54 t53 (adv s 13)) fun s1=>aA (bn .shr 159 t1 t14) fun t57=>ih1 t0 t57 t3 t4 t10 t11 t12 t48 t14 t15 t16 (adv s1 4))
 (BJ Q t13 t1 t12 t3 t4 t0 t11 t10 (adv s 3))
def xI (Q:aC) (n:Nat):AV->AV->AV->AV->AV->AV->AV->AV->AV->AV->aC:=fY (fun _ _ _ _ _ _ _ _ _ _ _ _ =>False) (fun ih=>rH Q ih) n
def QK (Q:aC) (t13 t1 t12 t3 t4 t0 t11 t10:AV) (s:St):Prop:=aA (bn .sub 3 t13 (.int .i64 1)) fun t84=>aA (uK 9 (.str [48,49,50,51,52,53,54,55,56,57,97,98,99,100,101,102,103,104,105,106,107,108,109,110,111,112,113,114,115,116,117,118,119,120,121,122]) t1) fun t87=>aA (FD 65 1 t12 t84) fun t88=>aA (bQ 1 t88 t87 (adv s 8)) fun s1=>wS Q t3 t84 t12 t4 t0 t11 t10 s1
def aPh (Q:aC) (ih2:AV->AV->AV->AV->AV->AV->AV->AV->aC) (t0 t1 t3 t4 t10 t11 t12 t13 t17:AV) (s:St):Prop:=aA (bn .geq 159 t1 t17) fun t68=>aP t68
 (aA (bn .sub 3 t13 (.int .i64 1)) fun t70=>aA (bn .quo 159 t1 t17) fun t73=>aA (bn .mul 159 t73 t17) fun t78=>aA (bn .sub 159 t1 t78) fun t79=>aA (uK 9 (.str [48,49,50,51,52,53,54,55,56,57,97,98,99,100,101,102,103,104,105,106,107,108,109,110,111,112,113,114,115,116,117,118,119,120,121,122]) t79) fun t80=>aA (FD 65 1 t12 t70) fun t81=>aA (bQ 1 t81 t80 (adv s 19)) fun s1=>ih2 t0 t73 t3 t4 t10 t11 t12 t70 t17 (adv s1 2))
 (QK Q t13 t1 t12 t3 t4 t0 t11 t10 (adv s 3))
def QW (Q:aC) (n:Nat):AV->AV->AV->AV->AV->AV->AV->AV->aC:=fY (fun _ _ _ _ _ _ _ _ _ _ =>False) (fun ih=>aPh Q ih) n
def IX (Q:aC) (t2 t0 t1 t3 t4 t10 t11 t12 t13:AV) (s:St):Prop:=aE mEv 282 [t2] (adv s 2) fun t34 s1=>aP t34
 (aA (cv 3 213 t2 (adv s1 5)) fun t36=>aE mEv 283 [t36] (adv s1 5) fun t37 s2=>aA (cv 3 213 t37 s2) fun t38=>aA (cv 3 159 t2 (adv s2 3)) fun t40=>aA (cv 3 213 t2 (adv s2 7)) fun t42=>aA (bn .sub 213 t42 (.int .u64 1)) fun t43=>∃ n,xI Q n t0 t1 t3 t4 t10 t11 t12 t13 t38 t40 t43 (adv s2 7))
 (aA (cv 3 159 t2 (adv s1 3)) fun t65=>∃ n,QW Q n t0 t1 t3 t4 t10 t11 t12 t13 t65 (adv s1 3))
def JK (Q:aC) (t3 t1 t2 t0 t4 t10 t11:AV) (s:St):Prop:=aA (zr 311) fun z12=>aP t3
 (aA (un .neg t1) fun t32=>IX Q t2 t0 t32 t3 t4 t10 t11 (.ptr s.nx 0) (.int .i64 65) (adv ((adv s 1).set s.nx (some (.cells z12.cells 311 true true))) 5))
 (IX Q t2 t0 t1 t3 t4 t10 t11 (.ptr s.nx 0) (.int .i64 65) (adv ((adv s 1).set s.nx (some (.cells z12.cells 311 true true))) 2))
theorem XK (Q:aC):uT (sub sE [Y,Y,Y,Y,Y,Y,Y]) (mJ Q) aX (mJ Q)=(fun g s=>JQ Q (g 4) (g 0) (g 13) (g 12) (g 11) (g 10) s):=Eq.trans rfl (by kernel_rfl)
theorem WI (Q:aC):uT (sub sE [Y,Y,Y,Y,Y,Y]) (mJ Q) aX (mJ Q)=(fun g s=>wS Q (g 3) (g 13) (g 12) (g 4) (g 0) (g 11) (g 10) s):=Eq.trans (aO (XK Q) rfl) (by kernel_rfl)
theorem XL (Q:aC):uT (sub sE [Y,Y,Y,Y,Y,N,Y,N,Y,Y,Y,Y]) (fun g s=>wS Q (g 3) (g 13) (g 12) (g 4) (g 0) (g 11) (g 10) s) aX (mJ Q)=(fun g s=>BJ Q (g 13) (g 1) (g 12) (g 3) (g 4) (g 0) (g 11) (g 10) s):=Eq.trans rfl (by kernel_rfl)
theorem aBq (Q:aC) (kN:Kt):uT (sub sE [Y,Y,Y,Y,Y,N,Y,N,Y,Y,Y,N,N]) kN (cE 0 (fun g s=>BJ Q (g 13) (g 1) (g 12) (g 3) (g 4) (g 0) (g 11) (g 10) s) aX) (mJ Q)=fun g s=>∃ n,xI Q n (g 0) (g 1) (g 3) (g 4) (g 10) (g 11) (g 12) (g 13) (g 14) (g 15) (g 16) s:=jW (L:=fun n g s=>xI Q n (g 0) (g 1) (g 3) (g 4) (g 10) (g 11) (g 12) (g 13) (g 14) (g 15) (g 16) s) (fun n1=>Eq.trans (aO (dI 1 rfl) rfl) (by kernel_rfl))
theorem aAs (Q:aC):uT (sub sE [Y,Y,Y,Y,Y,N,Y,Y,Y,Y]) (fun g s=>wS Q (g 3) (g 13) (g 12) (g 4) (g 0) (g 11) (g 10) s) aX (mJ Q)=(fun g s=>QK Q (g 13) (g 1) (g 12) (g 3) (g 4) (g 0) (g 11) (g 10) s):=Eq.trans rfl (by kernel_rfl)
theorem aAo (Q:aC) (kN:Kt):uT (sub sE [Y,Y,Y,Y,Y,N,Y,Y,Y,N,N]) kN (cE 2 (fun g s=>QK Q (g 13) (g 1) (g 12) (g 3) (g 4) (g 0) (g 11) (g 10) s) aX) (mJ Q)=fun g s=>∃ n,QW Q n (g 0) (g 1) (g 3) (g 4) (g 10) (g 11) (g 12) (g 13) (g 17) s:=jW (L:=fun n g s=>QW Q n (g 0) (g 1) (g 3) (g 4) (g 10) (g 11) (g 12) (g 13) (g 17) s) (fun n2=>Eq.trans (aO (dI 3 rfl) rfl) (by kernel_rfl))
theorem aBv (Q:aC):uT (sub sE [Y,Y,Y,Y,Y]) (mJ Q) aX (mJ Q)=(fun g s=>IX Q (g 2) (g 0) (g 1) (g 3) (g 4) (g 10) (g 11) (g 12) (g 13) s):=Eq.trans (aO (WI Q) (aO (cdA (.tmp 34) (aO (aO (aO (aO (XL Q) (dI 0 (aBq Q _))) rfl) rfl) rfl) (aO (aO (aAs Q) (dI 2 (aAo Q _))) rfl)) rfl)) (by kernel_rfl)
theorem aBf (Q:aC):uT (sub sE [Y,Y]) (mJ Q) aX (mJ Q)=(fun g s=>JK Q (g 3) (g 1) (g 2) (g 0) (g 4) (g 10) (g 11) s):=Eq.trans (aO (aO (aO (aBv Q) rfl) rfl) rfl) (by kernel_rfl)
def f266 (Q:aC) (t0 t1 t2 t3 t4:AV) (s:St):Prop:=aA (bn .lss 3 t2 (.int .i64 2)) fun t20=>Gd (aB t20 false) (adv s 12) (fun k=>k t2 (adv s 12)) fun t22 s1=>Gd (aB t20 false) s1 (fun k=>aA (bn .eql 3 t22 (.int .i64 10)) fun v=>k v s1) fun t23 s2=>aA (aJ t20 (.bool true) t23) fun t24=>Gd (aB t24 false) s2 (fun k=>k t2 s2) fun t26 s3=>Gd (aB t24 false) s3 (fun k=>aA (bn .gtr 3 t26 (.int .i64 36)) fun v=>k v s3) fun t27 s4=>aA (aJ t24 (.bool true) t27) fun t28=>aP t28
 (aA (mkI Tryz.ty 9 (.str [115,116,114,99,111,110,118,58,32,105,108,108,101,103,97,108,32,65,112,112,101,110,100,73,110,116,47,70,111,114,109,97,116,73,110,116,32,98,97,115,101])) fun t29=>aA (none:Option (AV×St)) fun rNone=>JK Q t3 t1 t2 t0 t4 .nils (.str []) rNone.2)
 (JK Q t3 t1 t2 t0 t4 .nils (.str []) s4)
theorem aEa (t0 t1 t2 t3 t4:AV) (s:St) {Q:aC} (h:f266 Q t0 t1 t2 t3 t4 s):eG 266 [t0,t1,t2,t3,t4] s Q:=aH (h:=266) (fn:=Tryz.f266) (c:=sub sE []) (show uT (sub sE []) (mJ Q) aX (mJ Q)=_ from (aO (aO (aBf Q) rfl) rfl)) h
end
noncomputable section
abbrev aUn:Code:=aN Tryz.f115
abbrev aWx:=rK Tryz.f115
abbrev bJi:=aL mEv 115 (mEv.kp 115)
def f115 (Q:aC) (t0:AV) (s:St):Prop:=aA (zr 33) fun z2=>aE mEv 166 [t0,(.int .i64 1000)] (adv ((adv s 2).set s.nx (some (.cells z2.cells 33 true true))) 7) fun t10 s1=>aA (aQ t10 0) fun t11=>aA (aQ t10 1) fun t12=>aA (bn .neq 34 t12 (.int .i64 0)) fun t14=>aP t14
 (aA (eE 33 []) fun t15=>aA (bQ 6 (.ptr s.nx 0) t15 (adv s1 5)) fun s2=>bT ((bW [ld 6 true (.ptr s.nx 0) s2,some (.int .i64 2)]).map bY) fun v=>Q v s2)
 (aE mEv 167 [t11] (adv s1 9) fun t18 s3=>aA (aQ t18 0) fun t19=>aA (aQ t18 1) fun t20=>aE mEv 58 [(.int .i64 6),t19] (adv s3 4) fun t22 s4=>aA (bQ 6 (.ptr s.nx 0) t22 s4) fun s5=>bT ((bW [ld 6 true (.ptr s.nx 0) s5,some (.int .i64 0)]).map bY) fun v=>Q v s5)
theorem DV (t0:AV) (s:St) {Q:aC} (h:f115 Q t0 s):eG 115 [t0] s Q:=aH (h:=115) (fn:=Tryz.f115) (c:=sub aUn []) (show bJi (sub aUn []) (aWx Q) aX (aWx Q)=_ from rfl) h
abbrev bDu:Code:=aN Tryz.f58
abbrev bLp:=rK Tryz.f58
abbrev bMl:=aL mEv 58 (mEv.kp 58)
def f58 (Q:aC) (t0 t1:AV) (s:St):Prop:=aA (zr 33) fun z4=>aA (eE 30 [(0,t0),(1,t1)]) fun t7=>aA (eE 33 [(1,t7)]) fun t8=>aA (bQ 6 (.ptr s.nx 0) t8 (adv ((adv s 1).set s.nx (some (.cells z4.cells 33 true true))) 5)) fun s1=>bT ((bW [ld 6 true (.ptr s.nx 0) s1]).map bY) fun v=>Q v s1
theorem aTu (t0 t1:AV) (s:St) {Q:aC} (h:f58 Q t0 t1 s):eG 58 [t0,t1] s Q:=aH (h:=58) (fn:=Tryz.f58) (c:=sub bDu []) (show bMl (sub bDu []) (bLp Q) aX (bLp Q)=_ from rfl) h
abbrev bFk:Code:=aN Tryz.f56
abbrev bLa:=rK Tryz.f56
abbrev bNj:=aL mEv 56 (mEv.kp 56)
def f56 (Q:aC) (t0:AV) (s:St):Prop:=aA (zr 33) fun z2=>aE mEv 58 [(.int .i64 3),t0] (adv ((adv s 1).set s.nx (some (.cells z2.cells 33 true true))) 3) fun t4 s1=>aA (bQ 6 (.ptr s.nx 0) t4 s1) fun s2=>bT ((bW [ld 6 true (.ptr s.nx 0) s2]).map bY) fun v=>Q v s2
theorem aQc (t0:AV) (s:St) {Q:aC} (h:f56 Q t0 s):eG 56 [t0] s Q:=aH (h:=56) (fn:=Tryz.f56) (c:=sub bFk []) (show bNj (sub bFk []) (bLa Q) aX (bLa Q)=_ from rfl) h
end
noncomputable section
abbrev aXu:Code:=aN Tryz.f157
abbrev aVp:=rK Tryz.f157
abbrev bIl:=aL mEv 157 (mEv.kp 157)
def f157 (Q:aC) (t0 t1:AV) (s:St):Prop:=aY mEv 202 [t0] (adv s 3) fun t6 s1=>(dE t0=true /\
 aA (aD 1 t0) fun t10=>aA (ld 1 false t10 (adv s1 11)) fun t11=>aA (fZ 161 1 [(0,t1)]) fun t13=>aA (bt .append #[161,161] [t11,t13] (s1.nx+7) (adv s1 11)) fun r14=>(dE t0=true /\
 aA (aD 1 t0) fun t16=>aA (bQ 1 t16 r14.1 r14.2) fun s2=>Q .nili (adv s2 1)))
theorem aKh (t0 t1:AV) (s:St) {Q:aC} (h:f157 Q t0 t1 s):eG 157 [t0,t1] s Q:=aH (h:=157) (fn:=Tryz.f157) (c:=sub aXu []) (show bIl (sub aXu []) (aVp Q) aX (aVp Q)=_ from rfl) h
abbrev aWv:Code:=aN Tryz.f156
abbrev aWl:=rK Tryz.f156
abbrev bEw:=aL mEv 156 (mEv.kp 156)
def f156 (Q:aC) (t0 t1:AV) (s:St):Prop:=aY mEv 202 [t0] (adv s 4) fun t7 s1=>(dE t0=true /\
 aA (aD 1 t0) fun t11=>aA (ld 1 false t11 (adv s1 10)) fun t12=>aA (bt .append #[161,9] [t12,t1] (s1.nx+6) (adv s1 10)) fun r14=>(dE t0=true /\
 aA (aD 1 t0) fun t16=>aA (bQ 1 t16 r14.1 r14.2) fun s2=>aA (bt .len #[9] [t1] (s2.nx+1) (adv s2 4)) fun r18=>Q (.tup [r18.1,.nili]) r18.2))
theorem LI (t0 t1:AV) (s:St) {Q:aC} (h:f156 Q t0 t1 s):eG 156 [t0,t1] s Q:=aH (h:=156) (fn:=Tryz.f156) (c:=sub aWv []) (show bEw (sub aWv []) (aWl Q) aX (aWl Q)=_ from rfl) h
abbrev aVw:Code:=aN Tryz.f108
abbrev aWg:=rK Tryz.f108
abbrev bEy:=aL mEv 108 (mEv.kp 108)
def f108 (Q:aC) (t0:AV) (s:St):Prop:=(dE t0=true /\
 aA (aD 1 t0) fun t5=>aA (ld 1 false t5 (adv s 13)) fun t6=>aA (bt .unsafeSliceData #[161] [t6] (s.nx+5) (adv s 13)) fun r7=>(dE t0=true /\
 aA (aD 1 t0) fun t10=>aA (ld 1 false t10 r7.2) fun t11=>aA (bt .len #[161] [t11] (s.nx+10) r7.2) fun r12=>(r12.2.h (s.nx+11)=none/\aA (bt .unsafeString #[220,3] [r7.1,r12.1] (s.nx+11) r12.2) fun r13=>Q r13.1 r13.2)))
theorem OB (t0:AV) (s:St) {Q:aC} (h:f108 Q t0 s):eG 108 [t0] s Q:=aH (h:=108) (fn:=Tryz.f108) (c:=sub aVw []) (show bEy (sub aVw []) (aWg Q) aX (aWg Q)=_ from rfl) h
abbrev aVs:Code:=aN Tryz.f202
abbrev aXq:=rK Tryz.f202
abbrev bFd:=aL mEv 202 (mEv.kp 202)
def f202 (Q:aC) (t0:AV) (s:St):Prop:=(dE t0=true /\
 aA (aD 0 t0) fun t4=>aA (ld 1 false t4 (adv s 5)) fun t5=>aA (bn .eql 160 t5 .nilp) fun t6=>aP t6
 (aA (cv 160 288 t0 (adv s 13)) fun t9=>aY mEv 232 [t9] (adv s 13) fun t10 s1=>aA (cv 288 160 t10 s1) fun t11=>(dE t0=true /\
 aA (aD 0 t0) fun t13=>aA (bQ 1 t13 t11 s1) fun s2=>Q (.tup []) s2))
 ((dE t0=true /\
 aA (aD 0 t0) fun t16=>aA (ld 1 false t16 (adv s 11)) fun t17=>aA (bn .neq 160 t17 t0) fun t19=>aP t19
 (False)
 (Q (.tup []) (adv s 11)))))
theorem PA (t0:AV) (s:St) {Q:aC} (h:f202 Q t0 s):eG 202 [t0] s Q:=aH (h:=202) (fn:=Tryz.f202) (c:=sub aVs []) (show bFd (sub aVs []) (aXq Q) aX (aXq Q)=_ from rfl) h
abbrev LK:Code:=aN Tryz.f167
abbrev GY:=rK Tryz.f167
abbrev SP:=aL mEv 167 (mEv.kp 167)
def xR (Q:aC) (t4:AV) (s:St):Prop:=aY mEv 108 [t4] (adv s 3) fun t37 s1=>Q (.tup [t37,(.int .i64 0)]) s1
def tU (Q:aC) (ih1:AV->AV->AV->aC) (t9 t4 t7 t8:AV) (s:St):Prop:=aA (bn .add 3 t9 (.int .i64 1)) fun t36=>ih1 t4 t7 t8 t36 (adv s 2)
def kY (Q:aC) (ih1:AV->AV->AV->aC) (t4 t7 t8 t9:AV) (s:St):Prop:=aA (bn .lss 3 t9 t8) fun t10=>aP t10
 (aA (cA 1 t7 t9) fun t11=>aA (ld 1 false t11 (adv s 4)) fun t12=>aE mEv 181 [t12] (adv s 8) fun t20 s1=>aA (un .not t20) fun t21=>aP t21
 (Q (.tup [(.str []),(.int .i64 1)]) (adv s1 2))
 (aA (bn .geq 3 t12 (.int .i64 32)) fun t24=>Gd (aB t24 true) (adv s1 11) (fun k=>k t12 (adv s1 11)) fun t26 s2=>Gd (aB t24 true) s2 (fun k=>aA (bn .leq 3 t26 (.int .i64 126)) fun v=>k v s2) fun t27 s3=>aA (aJ t24 t27 (.bool false)) fun t28=>Gd (aB t28 true) s3 (fun k=>k t12 s3) fun t30 s4=>Gd (aB t28 true) s4 (fun k=>aA (bn .neq 3 t30 (.int .i64 92)) fun v=>k v s4) fun t31 s5=>aA (aJ t28 t31 (.bool false)) fun t32=>aP t32
 (aA (cv 3 5 t12 (adv s5 3)) fun t34=>aY mEv 157 [t4,t34] (adv s5 3) fun t35 s6=>tU Q ih1 t9 t4 t7 t8 s6)
 (aE mEv 207 [t12,(.int .i64 16)] (adv s5 5) fun t14 s7=>aA (bn .add 9 (.str [92,117,123]) t14) fun t15=>aA (bn .add 9 t15 (.str [125])) fun t16=>aY mEv 156 [t4,t16] s7 fun t17 s8=>tU Q ih1 t9 t4 t7 t8 s8)))
 (xR Q t4 (adv s 1))
def jI (Q:aC) (n:Nat):AV->AV->AV->aC:=fY (fun _ _ _ _ _ =>False) (fun ih=>kY Q ih) n
theorem aAb (Q:aC):SP (sub LK [Y,Y,Y]) (GY Q) aX (GY Q)=(fun g s=>xR Q (g 4) s):=Eq.trans rfl (by kernel_rfl)
theorem aCm (Q:aC) (n1:Nat):SP (sub LK [Y,Y,N,Y,N,N,Y,Y,Y]) (mA (fun n g s=>jI Q n (g 4) (g 7) (g 8) (g 9) s) 167 n1) (cE 0 (fun g s=>xR Q (g 4) s) aX) (GY Q)=(fun g s=>tU Q (jI Q n1) (g 9) (g 4) (g 7) (g 8) s):=Eq.trans rfl (by kernel_rfl)
theorem ZK (Q:aC) (kN:Kt):SP (sub LK [Y,Y,N,Y,N]) kN (cE 0 (fun g s=>xR Q (g 4) s) aX) (GY Q)=fun g s=>∃ n,jI Q n (g 4) (g 7) (g 8) (g 9) s:=jW (L:=fun n g s=>jI Q n (g 4) (g 7) (g 8) (g 9) s) (fun n1=>Eq.trans (aO (aO (aO (aCm Q n1) (dI 1 (aO (dI 2 rfl) rfl))) rfl) rfl) (by kernel_rfl))
def f167 (Q:aC) (t0:AV) (s:St):Prop:=aA (zr 163) fun z4=>aA (bt .len #[72] [t0] (((adv s 3).set (s.nx+2) (some (.cells z4.cells 163 true true))).nx+1) (adv ((adv s 3).set (s.nx+2) (some (.cells z4.cells 163 true true))) 3)) fun r8=>∃ n,jI Q n (.ptr (s.nx+2) 0) t0 r8.1 (.int .i64 0) r8.2
theorem OM (t0:AV) (s:St) {Q:aC} (h:f167 Q t0 s):eG 167 [t0] s Q:=aH (h:=167) (fn:=Tryz.f167) (c:=sub LK []) (show SP (sub LK []) (GY Q) aX (GY Q)=_ from (aO (aO (aO (aAb Q) (aO (dI 0 (ZK Q _)) rfl)) rfl) rfl)) h
end
noncomputable section
abbrev bFz:Code:=aN Tryz.f15
abbrev bFy:=rK Tryz.f15
abbrev bOf:=aL mEv 15 (mEv.kp 15)
def f15 (Q:aC) (s:St):Prop:=aE mEv 54 [(.int .i64 (-5))] (adv s 10) fun t10 s1=>aA (eE 27 [(0,(.int .i64 2)),(2,t10)]) fun t11=>aE mEv 16 [t11] s1 fun t12 s2=>aA (aQ t12 0) fun t13=>aA (aQ t12 1) fun t14=>aA (zr 33) fun z1=>aA (bQ 6 (.ptr (s.nx+7) 0) t13 (s2.set (s.nx+7) (some (.cells z1.cells 33 true true)))) fun s3=>aA (ld 6 true (.ptr (s.nx+7) 0) (adv s3 7)) fun t16=>aE mEv 55 [t16] (adv s3 7) fun t17 s4=>aA (aQ t17 0) fun t18=>aA (aQ t17 1) fun t19=>aA (eE 109 [(0,(.int .i64 97)),(1,(.int .i64 1000))]) fun t21=>aA (eE 109 [(0,(.int .i64 98)),(1,(.int .i64 1))]) fun t22=>aA (fZ 25 2 [(0,t21),(1,t22)]) fun t23=>aA (eE 27 [(0,(.int .i64 3)),(3,t23)]) fun t24=>aE mEv 16 [t24] (adv s4 11) fun t25 s5=>aA (aQ t25 0) fun t26=>aA (aQ t25 1) fun t27=>aA (zr 33) fun z5=>aA (bQ 6 (.ptr (s4.nx+8) 0) t26 (s5.set (s4.nx+8) (some (.cells z5.cells 33 true true)))) fun s6=>aA (eE 109 [(0,(.int .i64 97)),(1,(.int .i64 1001))]) fun t29=>aA (fZ 25 1 [(0,t29)]) fun t30=>aA (eE 27 [(0,(.int .i64 3)),(3,t30)]) fun t31=>aE mEv 16 [t31] (adv s6 10) fun t32 s7=>aA (aQ t32 0) fun t33=>aA (aQ t32 1) fun t34=>aA (zr 33) fun z7=>aA (bQ 6 (.ptr (s6.nx+7) 0) t33 (s7.set (s6.nx+7) (some (.cells z7.cells 33 true true)))) fun s8=>aA (bn .eql 34 t14 (.int .i64 0)) fun t36=>Gd (aB t36 true) (adv s8 34) (fun k=>k t19 (adv s8 34)) fun t38 s9=>Gd (aB t36 true) s9 (fun k=>aA (bn .eql 34 t38 (.int .i64 0)) fun v=>k v s9) fun t39 s10 =>
 aA (aJ t36 t39 (.bool false)) fun t40=>Gd (aB t40 true) s10 (fun k=>k t27 s10) fun t42 s11=>Gd (aB t40 true) s11 (fun k=>aA (bn .eql 34 t42 (.int .i64 0)) fun v=>k v s11) fun t43 s12=>aA (aJ t40 t43 (.bool false)) fun t44=>Gd (aB t44 true) s12 (fun k=>k t34 s12) fun t46 s13=>Gd (aB t44 true) s13 (fun k=>aA (bn .eql 34 t46 (.int .i64 0)) fun v=>k v s13) fun t47 s14=>aA (aJ t44 t47 (.bool false)) fun t48=>Gd (aB t48 true) s14 (fun k=>k t18 s14) fun t50 s15=>Gd (aB t48 true) s15 (fun k=>aA (bn .eql 9 t50 (.str [40,45,32,53,41])) fun v=>k v s15) fun t51 s16=>aA (aJ t48 t51 (.bool false)) fun t52=>Gd (aB t52 true) s16 (fun k=>aA (aD 5 (.ptr (s4.nx+8) 0)) fun v=>k v s16) fun t54 s17=>Gd (aB t52 true) s17 (fun k=>aA (ld 1 false t54 s17) fun v=>k v s17) fun t55 s18=>Gd (aB t52 true) s18 (fun k=>aA (bt .len #[31] [t55] (s8.nx+21) s18) fun r=>k r.1 r.2) fun t56 s19=>Gd (aB t52 true) s19 (fun k=>aA (bn .eql 3 t56 (.int .i64 3)) fun v=>k v s19) fun t57 s20=>aA (aJ t52 t57 (.bool false)) fun t58=>Gd (aB t58 true) s20 (fun k=>aA (ld 6 true (.ptr (s6.nx+7) 0) s20) fun v=>k v s20) fun t60 s21=>Gd (aB t58 true) s21 (fun k=>aE mEv 21 [t60] s21 k) fun t61 s22=>Gd (aB t58 true) s22 (fun k=>aA (bn .eql 3 t61 (.int .i64 13)) fun v=>k v s22) fun t62 s23=>aA (aJ t58 t62 (.bool false)) fun t63=>Gd (aB t63 true) s23 (fun k=>aE mEv 22 [(.int .i64 22)] s23 k) fun t65 s24=>Gd (aB t63 true) s24 (fun k=>aA (bn .eql 9 t65 (.str [115,116,114,46,43,43])) fun v=>k v s24) fun t66 s25 =>
 aA (aJ t63 t66 (.bool false)) fun t67=>Q t67 s25
theorem aUg (s:St) {Q:aC} (h:f15 Q s):eG 15 [] s Q:=aH (h:=15) (fn:=Tryz.f15) (c:=sub bFz []) (show bOf (sub bFz []) (bFy Q) aX (bFy Q)=_ from rfl) h
abbrev aZf:Code:=aN Tryz.f16
abbrev aPa:=rK Tryz.f16
abbrev bHk:=aL mEv 16 (mEv.kp 16)
def aXr (Q:aC) (t2:AV) (s:St):Prop:=aA (eE 33 []) fun t58=>aA (bQ 6 t2 t58 (adv s 3)) fun s1=>bT ((bW [ld 6 true t2 s1,some (.int .i64 1)]).map bY) fun v=>Q v s1
theorem aJi (Q:aC):bHk (sub aZf [Y,Y]) (aPa Q) aX (aPa Q)=(fun g s=>aXr Q (g 2) s):=Eq.trans rfl (by kernel_rfl)
def f16 (Q:aC) (t0:AV) (s:St):Prop:=(t0.cells.all AV.one=true /\
 aA (zr 33) fun z2=>aA (aD 0 (.ptr s.nx 0)) fun t5=>aA (ld 1 false t5 (adv (((adv s 3).set s.nx (some (.cells t0.cells 27 true true))).set (s.nx+1) (some (.cells z2.cells 33 true true))) 8)) fun t6=>aA (bn .eql 3 t6 (.int .i64 1)) fun t7=>Gd (aB t7 true) (adv (((adv s 3).set s.nx (some (.cells t0.cells 27 true true))).set (s.nx+1) (some (.cells z2.cells 33 true true))) 8) (fun k=>aA (aD 1 (.ptr s.nx 0)) fun v=>k v (adv (((adv s 3).set s.nx (some (.cells t0.cells 27 true true))).set (s.nx+1) (some (.cells z2.cells 33 true true))) 8)) fun t9 s1=>Gd (aB t7 true) s1 (fun k=>aA (ld 1 false t9 s1) fun v=>k v s1) fun t10 s2=>aA (aJ t7 t10 (.bool false)) fun t11=>aP t11
 (aE mEv 56 [(.str [116,114,117,101])] (adv s2 3) fun t12 s3=>aA (bQ 6 (.ptr (s.nx+1) 0) t12 s3) fun s4=>bT ((bW [ld 6 true (.ptr (s.nx+1) 0) s4,some (.int .i64 0)]).map bY) fun v=>Q v s4)
 (aA (aD 0 (.ptr s.nx 0)) fun t14=>aA (ld 1 false t14 (adv s2 4)) fun t15=>aA (bn .eql 3 t15 (.int .i64 1)) fun t16=>aP t16
 (aE mEv 56 [(.str [102,97,108,115,101])] (adv s2 7) fun t17 s5=>aA (bQ 6 (.ptr (s.nx+1) 0) t17 s5) fun s6=>bT ((bW [ld 6 true (.ptr (s.nx+1) 0) s6,some (.int .i64 0)]).map bY) fun v=>Q v s6)
 (aA (aD 0 (.ptr s.nx 0)) fun t19=>aA (ld 1 false t19 (adv s2 14)) fun t20=>aA (bn .eql 3 t20 (.int .i64 2)) fun t21=>Gd (aB t21 true) (adv s2 14) (fun k=>aA (aD 2 (.ptr s.nx 0)) fun v=>k v (adv s2 14)) fun t23 s7=>Gd (aB t21 true) s7 (fun k=>aA (ld 2 true t23 s7) fun v=>k v s7) fun t24 s8=>Gd (aB t21 true) s8 (fun k=>aE mEv 20 [t24] s8 k) fun t25 s9=>Gd (aB t21 true) s9 (fun k=>aA (bn .lss 3 t25 (.int .i64 0)) fun v=>k v s9) fun t26 s10=>aA (aJ t21 t26 (.bool false)) fun t27=>aP t27
 (aA (aD 2 (.ptr s.nx 0)) fun t28=>aA (aD 1 t28) fun t29=>aA (ld 1 false t29 (adv s10 9)) fun t30=>aE mEv 59 [t30] (adv s10 9) fun t31 s11=>aE mEv 58 [(.int .i64 4),t31] s11 fun t32 s12=>aA (fZ 31 1 [(0,t32)]) fun t33=>aE mEv 57 [(.str [45]),t33] s12 fun t34 s13=>aA (bQ 6 (.ptr (s.nx+1) 0) t34 s13) fun s14=>bT ((bW [ld 6 true (.ptr (s.nx+1) 0) s14,some (.int .i64 0)]).map bY) fun v=>Q v s14)
 (aA (aD 0 (.ptr s.nx 0)) fun t36=>aA (ld 1 false t36 (adv s10 4)) fun t37=>aA (bn .eql 3 t37 (.int .i64 2)) fun t38=>aP t38
 (aA (aD 2 (.ptr s.nx 0)) fun t39=>aA (aD 1 t39) fun t40=>aA (ld 1 false t40 (adv s10 11)) fun t41=>aE mEv 59 [t41] (adv s10 11) fun t42 s15=>aE mEv 58 [(.int .i64 4),t42] s15 fun t43 s16=>aA (bQ 6 (.ptr (s.nx+1) 0) t43 s16) fun s17=>bT ((bW [ld 6 true (.ptr (s.nx+1) 0) s17,some (.int .i64 0)]).map bY) fun v=>Q v s17)
 (aA (aD 0 (.ptr s.nx 0)) fun t45=>aA (ld 1 false t45 (adv s10 13)) fun t46=>aA (bn .eql 3 t46 (.int .i64 3)) fun t47=>Gd (aB t47 true) (adv s10 13) (fun k=>aA (aD 4 (.ptr s.nx 0)) fun v=>k v (adv s10 13)) fun t49 s18=>Gd (aB t47 true) s18 (fun k=>aA (ld 1 false t49 s18) fun v=>k v s18) fun t50 s19=>Gd (aB t47 true) s19 (fun k=>aE mEv 60 [t50] s19 k) fun t51 s20=>aA (aJ t47 t51 (.bool false)) fun t52=>aP t52
 (aA (aD 4 (.ptr s.nx 0)) fun t53=>aA (ld 1 false t53 (adv s20 7)) fun t54=>aE mEv 61 [t54] (adv s20 7) fun t55 s21=>aA (aQ t55 0) fun t56=>aA (aQ t55 1) fun t57=>aA (bQ 6 (.ptr (s.nx+1) 0) t56 s21) fun s22=>bT ((bW [ld 6 true (.ptr (s.nx+1) 0) s22,some t57]).map bY) fun v=>Q v s22)
 (aXr Q (.ptr (s.nx+1) 0) s20))))))
theorem aPq (t0:AV) (s:St) {Q:aC} (h:f16 Q t0 s):eG 16 [t0] s Q:=aH (h:=16) (fn:=Tryz.f16) (c:=sub aZf []) (show bHk (sub aZf []) (aPa Q) aX (aPa Q)=_ from (aO (aO (aJi Q) (dI 0 rfl)) rfl)) h
abbrev QJ:Code:=aN Tryz.f61
abbrev HV:=rK Tryz.f61
abbrev aCa:=aL mEv 61 (mEv.kp 61)
def aGh (Q:aC) (t4 t2:AV) (s:St):Prop:=aE mEv 57 [(.str [115,116,114,46,43,43]),t4] (adv s 4) fun t79 s1=>aA (zr 33) fun z9=>aA (bQ 6 (.ptr (s.nx+2) 0) t79 (s1.set (s.nx+2) (some (.cells z9.cells 33 true true)))) fun s2=>aA (ld 6 true (.ptr (s.nx+2) 0) (adv s2 3)) fun t80=>aE mEv 116 [t80] (adv s2 3) fun t81 s3=>aA (bn .gtr 3 t81 (.int .i64 2000)) fun t82=>aP t82
 (aA (eE 33 []) fun t83=>aA (bQ 6 t2 t83 (adv s3 3)) fun s4=>bT ((bW [ld 6 true t2 s4,some (.int .i64 2)]).map bY) fun v=>Q v s4)
 (aA (ld 6 true (.ptr (s.nx+2) 0) (adv s3 3)) fun t84=>aA (bQ 6 t2 t84 (adv s3 3)) fun s5=>bT ((bW [ld 6 true t2 s5,some (.int .i64 0)]).map bY) fun v=>Q v s5)
def yW (Q:aC) (t4 t2:AV) (s:St):Prop:=aA (bt .len #[31] [t4] (s.nx+1) (adv s 4)) fun r63=>aA (bn .eql 3 r63.1 (.int .i64 0)) fun t64=>aP t64
 (aE mEv 58 [(.int .i64 6),(.str [])] (adv r63.2 3) fun t65 s1=>aA (bQ 6 t2 t65 s1) fun s2=>bT ((bW [ld 6 true t2 s2,some (.int .i64 0)]).map bY) fun v=>Q v s2)
 (aA (bt .len #[31] [t4] (r63.2.nx+1) (adv r63.2 4)) fun r68=>aA (bn .gtr 3 r68.1 (.int .i64 200)) fun t69=>aP t69
 (aA (eE 33 []) fun t70=>aA (bQ 6 t2 t70 (adv r68.2 3)) fun s3=>bT ((bW [ld 6 true t2 s3,some (.int .i64 2)]).map bY) fun v=>Q v s3)
 (aA (bt .len #[31] [t4] (r68.2.nx+1) (adv r68.2 4)) fun r73=>aA (bn .eql 3 r73.1 (.int .i64 1)) fun t74=>aP t74
 (aA (cA 6 t4 (.int .i64 0)) fun t76=>aA (ld 6 true t76 (adv r73.2 5)) fun t77=>aA (bQ 6 t2 t77 (adv r73.2 5)) fun s4=>bT ((bW [ld 6 true t2 s4,some (.int .i64 0)]).map bY) fun v=>Q v s4)
 (aGh Q t4 t2 r73.2)))
def KH (Q:aC) (ih1:AV->AV->aC) (t6 t4 t0 t2:AV) (s:St):Prop:=aA (bn .eql 3 t6 (.int .i64 0)) fun t37=>aP t37
 (aA (cA 2 t0 (.int .i64 0)) fun t40=>aA (ld 2 true t40 (adv s 13)) fun t41=>dW mEv 114 [t41] (rch (adv s 13) [(.fn 114 [] []),t41]) (adv s 13) fun t42 s1=>aA (fZ 31 1 [(0,t42)]) fun t43=>(s1.h (s.nx+8)=none/\aA (bt .append #[31,31] [t4,t43] (s.nx+8) s1) fun r44=>(clear 128 ⟨8,false,aS t0,none⟩ [⟨7,false,[],none⟩,⟨6,true,(s.nx+8)::([t4,t43]).flatMap aS,none⟩,⟨5,false,[],none⟩,⟨4,false,rch (adv s 13) [(.fn 114 [] []),t41],none⟩,⟨3,false,aS t40,none⟩,⟨2,false,[],none⟩,⟨1,false,[],none⟩,⟨0,false,[],none⟩]=true/\aA (jM 25 t0 (some (.int .i64 1)) none none r44.2) fun t46=>ih1 t46 t2 r44.1 r44.2)))
 (aA (jM 25 t0 none (some t6) none (adv s 12)) fun t50=>aE mEv 115 [t50] (adv s 12) fun t51 s2=>aA (aQ t51 0) fun t52=>aA (aQ t51 1) fun t53=>aA (zr 33) fun z7=>aA (bQ 6 (.ptr (s.nx+9) 0) t52 (s2.set (s.nx+9) (some (.cells z7.cells 33 true true)))) fun s3=>aA (ld 6 true (.ptr (s.nx+9) 0) (adv s3 9)) fun t55=>aA (fZ 31 1 [(0,t55)]) fun t56=>((adv s3 9).h (s3.nx+3)=none/\aA (bt .append #[31,31] [t4,t56] (s3.nx+3) (adv s3 9)) fun r57=>(clear 48 ⟨6,false,aS t0,none⟩ [⟨5,false,[],none⟩,⟨4,false,[],none⟩,⟨3,true,(s3.nx+3)::([t4,t56]).flatMap aS,none⟩,⟨2,false,[],none⟩,⟨1,false,aS (.ptr (s.nx+9) 0),none⟩,⟨0,false,[],none⟩]=true/\aA (jM 25 t0 (some t6) none none r57.2) fun t60=>ih1 t60 t2 r57.1 r57.2)))
def CP (Q:aC) (ih1:AV->AV->aC) (ih2:AV->AV->AV->AV->aC) (t0 t2 t4 t5 t6:AV) (s:St):Prop:=aA (bt .len #[25] [t0] (s.nx+2) (adv s 14)) fun r15=>aA (bn .lss 3 t6 r15.1) fun t16=>Gd (aB t16 true) r15.2 (fun k=>k t5 r15.2) fun t18 s1=>Gd (aB t16 true) s1 (fun k=>k t0 s1) fun t19 s2=>Gd (aB t16 true) s2 (fun k=>k t6 s2) fun t20 s3=>Gd (aB t16 true) s3 (fun k=>aA (cA 2 t19 t20) fun v=>k v s3) fun t21 s4=>Gd (aB t16 true) s4 (fun k=>aA (aD 1 t21) fun v=>k v s4) fun t22 s5=>Gd (aB t16 true) s5 (fun k=>aA (ld 1 false t22 s5) fun v=>k v s5) fun t23 s6=>Gd (aB t16 true) s6 (fun k=>aA (bn .add 3 t18 t23) fun v=>k v s6) fun t24 s7=>Gd (aB t16 true) s7 (fun k=>aA (bn .leq 3 t24 (.int .i64 1000)) fun v=>k v s7) fun t25 s8=>aA (aJ t16 t25 (.bool false)) fun t26=>aP t26
 (aA (cA 2 t0 t6) fun t30=>aA (aD 1 t30) fun t31=>aA (ld 1 false t31 (adv s8 8)) fun t32=>aA (bn .add 3 t5 t32) fun t33=>aA (bn .add 3 t6 (.int .i64 1)) fun t35=>ih2 t0 t2 t4 t33 t35 (adv s8 11))
 (KH Q ih1 t6 t4 t0 t2 s8)
def GR (Q:aC) (ih1:AV->AV->aC) (n:Nat):AV->AV->AV->AV->aC:=fY (fun _ _ _ _ _ _ =>False) (fun ih=>CP Q ih1 ih) n
def xP (Q:aC) (ih1:AV->AV->aC) (t0 t2 t4:AV) (s:St):Prop:=aA (bt .len #[25] [t0] (s.nx+1) (adv s 3)) fun r11=>aA (bn .gtr 3 r11.1 (.int .i64 0)) fun t12=>aP t12
 (∃ n,GR Q ih1 n t0 t2 t4 (.int .i64 0) (.int .i64 0) (adv r11.2 2))
 (yW Q t4 t2 r11.2)
def nA (Q:aC) (n:Nat):AV->AV->aC:=fY (fun _ _ _ _ =>False) (fun ih=>xP Q ih) n
theorem aDv (Q:aC):aCa (sub QJ [Y,Y,Y,Y]) (HV Q) aX (HV Q)=(fun g s=>aGh Q (g 4) (g 2) s):=Eq.trans rfl (by kernel_rfl)
theorem aCv (Q:aC):aCa (sub QJ [Y,Y,Y]) (HV Q) aX (HV Q)=(fun g s=>yW Q (g 4) (g 2) s):=Eq.trans (aO (aDv Q) (dI 4 rfl)) (by kernel_rfl)
theorem aIc (Q:aC) (n1:Nat):aCa (sub QJ [Y,Y,N,N,N,Y,N,Y,Y]) (mA (fun n g s=>nA Q n (g 0) (g 2) (g 4) s) 61 n1) (cE 1 (mA (fun n g s=>nA Q n (g 0) (g 2) (g 4) s) 61 n1) (cE 0 (fun g s=>yW Q (g 4) (g 2) s) aX)) (HV Q)=(fun g s=>KH Q (nA Q n1) (g 6) (g 4) (g 0) (g 2) s):=Eq.trans rfl (by kernel_rfl)
theorem aNq (Q:aC) (n1:Nat) (kN:Kt):aCa (sub QJ [Y,Y,N,N,N,Y,N,Y,N,N]) kN (cE 2 (fun g s=>KH Q (nA Q n1) (g 6) (g 4) (g 0) (g 2) s) (cE 1 (mA (fun n g s=>nA Q n (g 0) (g 2) (g 4) s) 61 n1) (cE 0 (fun g s=>yW Q (g 4) (g 2) s) aX))) (HV Q)=fun g s=>∃ n,GR Q (nA Q n1) n (g 0) (g 2) (g 4) (g 5) (g 6) s:=jW (L:=fun n g s=>GR Q (nA Q n1) n (g 0) (g 2) (g 4) (g 5) (g 6) s) (fun n2=>Eq.trans (aO (dI 3 rfl) rfl) (by kernel_rfl))
theorem aIt (Q:aC) (kN:Kt):aCa (sub QJ [Y,Y,N,N]) kN (cE 0 (fun g s=>yW Q (g 4) (g 2) s) aX) (HV Q)=fun g s=>∃ n,nA Q n (g 0) (g 2) (g 4) s:=jW (L:=fun n g s=>nA Q n (g 0) (g 2) (g 4) s) (fun n1=>Eq.trans (aO (dI 1 (aO (aO (aIc Q n1) (dI 2 (aNq Q n1 _))) rfl)) rfl) (by kernel_rfl))
def f61 (Q:aC) (t0:AV) (s:St):Prop:=aA (zr 33) fun z2=>∃ n,nA Q n t0 (.ptr s.nx 0) .nils (adv ((adv s 2).set s.nx (some (.cells z2.cells 33 true true))) 1)
theorem aPv (t0:AV) (s:St) {Q:aC} (h:f61 Q t0 s):eG 61 [t0] s Q:=aH (h:=61) (fn:=Tryz.f61) (c:=sub QJ []) (show aCa (sub QJ []) (HV Q) aX (HV Q)=_ from (aO (aO (aO (aCv Q) (dI 0 (aIt Q _))) rfl) rfl)) h
abbrev KX:Code:=aN Tryz.f116
abbrev HG:=rK Tryz.f116
abbrev TD:=aL mEv 116 (mEv.kp 116)
def DB (Q:aC) (t3:AV) (s:St):Prop:=Q t3 (adv s 2)
def RX (Q:aC) (ih1:AV->AV->AV->aC) (t9 t3 t7 t8:AV) (s:St):Prop:=aA (bn .add 3 t9 (.int .i64 1)) fun t17=>ih1 t3 t7 t8 t17 (adv s 2)
def uH (Q:aC) (ih1:AV->AV->AV->aC) (t3 t7 t8 t9:AV) (s:St):Prop:=aA (bn .lss 3 t9 t8) fun t10=>aP t10
 (aA (cA 6 t7 t9) fun t11=>aA (ld 6 true t11 (adv s 5)) fun t12=>aA (zr 33) fun z5=>aA (bQ 6 (.ptr (s.nx+3) 0) t12 ((adv s 5).set (s.nx+3) (some (.cells z5.cells 33 true true)))) fun s1=>aA (ld 6 true (.ptr (s.nx+3) 0) (adv s1 5)) fun t14=>aE mEv 116 [t14] (adv s1 5) fun t15 s2=>aA (bn .add 3 t3 t15) fun t16=>RX Q ih1 t9 t16 t7 t8 s2)
 (DB Q t3 (adv s 1))
def qR (Q:aC) (n:Nat):AV->AV->AV->aC:=fY (fun _ _ _ _ _ =>False) (fun ih=>uH Q ih) n
theorem aBm (Q:aC):TD (sub KX [Y,Y,Y]) (HG Q) aX (HG Q)=(fun g s=>DB Q (g 3) s):=Eq.trans rfl (by kernel_rfl)
theorem YR (Q:aC) (n1:Nat):TD (sub KX [Y,Y,N,Y,N,N,Y,Y,Y]) (mA (fun n g s=>qR Q n (g 3) (g 7) (g 8) (g 9) s) 116 n1) (cE 0 (fun g s=>DB Q (g 3) s) aX) (HG Q)=(fun g s=>RX Q (qR Q n1) (g 9) (g 3) (g 7) (g 8) s):=Eq.trans rfl (by kernel_rfl)
theorem ZE (Q:aC) (kN:Kt):TD (sub KX [Y,Y,N,Y,N]) kN (cE 0 (fun g s=>DB Q (g 3) s) aX) (HG Q)=fun g s=>∃ n,qR Q n (g 3) (g 7) (g 8) (g 9) s:=jW (L:=fun n g s=>qR Q n (g 3) (g 7) (g 8) (g 9) s) (fun n1=>Eq.trans (aO (aO (aO (YR Q n1) (dI 1 rfl)) rfl) rfl) (by kernel_rfl))
def f116 (Q:aC) (t0:AV) (s:St):Prop:=(t0.cells.all AV.one=true /\
 aA (aD 5 (.ptr s.nx 0)) fun t6=>aA (ld 1 false t6 (adv ((adv s 2).set s.nx (some (.cells t0.cells 33 true true))) 5)) fun t7=>aA (bt .len #[31] [t7] (((adv s 2).set s.nx (some (.cells t0.cells 33 true true))).nx+3) (adv ((adv s 2).set s.nx (some (.cells t0.cells 33 true true))) 5)) fun r8=>∃ n,qR Q n (.int .i64 1) t7 r8.1 (.int .i64 0) r8.2)
theorem aLl (t0:AV) (s:St) {Q:aC} (h:f116 Q t0 s):eG 116 [t0] s Q:=aH (h:=116) (fn:=Tryz.f116) (c:=sub KX []) (show TD (sub KX []) (HG Q) aX (HG Q)=_ from (aO (aO (aO (aBm Q) (aO (dI 0 (ZE Q _)) rfl)) rfl) rfl)) h
abbrev bHn:Code:=aN Tryz.f22
abbrev bLl:=rK Tryz.f22
abbrev bOr:=aL mEv 22 (mEv.kp 22)
def f22 (Q:aC) (t0:AV) (s:St):Prop:=aA (bn .lss 3 t0 (.int .i64 0)) fun t4=>Gd (aB t4 false) (adv s 7) (fun k=>k t0 (adv s 7)) fun t6 s1=>Gd (aB t4 false) s1 (fun k=>aA (bn .geq 3 t6 (.int .i64 31)) fun v=>k v s1) fun t7 s2=>aA (aJ t4 (.bool true) t7) fun t8=>aP t8
 (Q (.str []) (adv s2 1))
 (aA (FD 31 1 (gl 0) t0) fun t10=>aA (ld 1 false t10 (adv s2 4)) fun t11=>Q t11 (adv s2 4))
theorem aSu (t0:AV) (s:St) {Q:aC} (h:f22 Q t0 s):eG 22 [t0] s Q:=aH (h:=22) (fn:=Tryz.f22) (c:=sub bHn []) (show bOr (sub bHn []) (bLl Q) aX (bLl Q)=_ from rfl) h
def bGh (Q:aC) (t0 t1 t6 t8 t7:AV) (s:St):Prop:=aA (bn .eql 3 t0 (.int .i64 14)) fun t25=>Gd (aB t25 false) (adv s 15) (fun k=>k t0 (adv s 15)) fun t27 s1=>Gd (aB t25 false) s1 (fun k=>aA (bn .eql 3 t27 (.int .i64 16)) fun v=>k v s1) fun t28 s2=>aA (aJ t25 (.bool true) t28) fun t29=>Gd (aB t29 true) s2 (fun k=>k t1 s2) fun t31 s3=>Gd (aB t29 true) s3 (fun k=>aA (bn .eql 3 t31 (.int .i64 14)) fun v=>k v s3) fun t32 s4=>Gd (aB t29 true) s4 (fun k=>k t32 s4) fun t33 s5=>Gd (aB t33 false) s5 (fun k=>k t1 s5) fun t34 s6=>Gd (aB t33 false) s6 (fun k=>aA (bn .eql 3 t34 (.int .i64 16)) fun v=>k v s6) fun t35 s7=>Gd (aB t29 true) s7 (fun k=>aA (aJ t33 (.bool true) t35) fun v=>k v s7) fun t36 s8=>aA (aJ t29 t36 (.bool false)) fun t37=>aE mEv 23 [t6,t8] (adv s8 23) fun t40 s9=>aA (bn .eql 3 t40 t0) fun t42=>Gd (aB t42 true) s9 (fun k=>k t6 s9) fun t44 s10=>Gd (aB t42 true) s10 (fun k=>aE mEv 24 [t44] s10 k) fun t45 s11=>aA (aJ t42 t45 (.bool false)) fun t46=>Gd (aB t46 true) s11 (fun k=>k t0 s11) fun t48 s12=>Gd (aB t46 true) s12 (fun k=>k t1 s12) fun t49 s13=>Gd (aB t46 true) s13 (fun k=>aA (bn .eql 3 t48 t49) fun v=>k v s13) fun t50 s14=>Gd (aB t46 true) s14 (fun k=>k t50 s14) fun t51 s15=>Gd (aB t51 false) s15 (fun k=>k t6 s15) fun t52 s16=>Gd (aB t51 false) s16 (fun k=>k t7 s16) fun t53 s17=>Gd (aB t51 false) s17 (fun k=>aA (bn .neq 9 t52 t53) fun v=>k v s17) fun t54 s18=>Gd (aB t46 true) s18 (fun k=>aA (aJ t51 (.bool true) t54) fun v=>k v s18) fun t55 s19 =>
 Gd (aB t46 true) s19 (fun k=>k t55 s19) fun t56 s20=>Gd (aB t56 false) s20 (fun k=>k t37 s20) fun t57 s21=>Gd (aB t46 true) s21 (fun k=>aA (aJ t56 (.bool true) t57) fun v=>k v s21) fun t58 s22=>aA (aJ t46 t58 (.bool false)) fun t59=>Q t59 s22
def f5 (Q:aC) (t0 t1:AV) (s:St):Prop:=aE mEv 15 [] (adv s 3) fun t10 s1=>aE mEv 22 [t0] (adv s1 3) fun t12 s2=>aE mEv 22 [t1] (adv s2 3) fun t14 s3=>aA (un .not t10) fun t16=>Gd (aB t16 false) (adv s3 6) (fun k=>k t12 (adv s3 6)) fun t18 s4=>Gd (aB t16 false) s4 (fun k=>aA (bn .eql 9 t18 (.str [])) fun v=>k v s4) fun t19 s5=>aA (aJ t16 (.bool true) t19) fun t20=>aP t20
 (Q t10 (adv s5 2))
 (aA (bn .eql 3 t0 (.int .i64 14)) fun t23=>aP t23
 (bGh Q t0 t1 t12 (.int .i64 1) t14 (adv s5 4))
 (bGh Q t0 t1 t12 (.int .i64 2) t14 (adv s5 3)))
end
noncomputable section
abbrev TW:Code:=aN Tryz.f158
abbrev GN:=rK Tryz.f158
abbrev aFm:=aL mEv 158 (mEv.kp 158)
def IV (Q:aC) (t0:AV) (s:St):Prop:=Q t0 (adv s 2)
def IO (Q:aC) (t1 t0:AV) (s:St):Prop:=aA (bt .cap #[31] [t0] (s.nx+2) (adv s 8)) fun r10=>aA (bt .len #[31] [t0] (s.nx+4) r10.2) fun r12=>aA (bn .sub 3 r10.1 r12.1) fun t13=>aA (bn .sub 3 t1 t13) fun t14=>aA (bn .gtr 3 t14 (.int .i64 0)) fun t16=>aP t16
 (aA (bt .cap #[31] [t0] (r12.2.nx+4) (adv r12.2 12)) fun r19=>aA (jM 31 t0 none (some r19.1) none r19.2) fun t20=>aA (bt .append #[31,3] [t20,t14] (r12.2.nx+7) r19.2) fun HF=>aA (bt .len #[31] [t0] (r12.2.nx+9) HF.2) fun r24=>aA (jM 31 HF.1 none (some r24.1) none r24.2) fun t25=>IV Q t25 r24.2)
 (IV Q t0 (adv r12.2 2))
theorem aAn (Q:aC):aFm (sub TW [Y,Y,Y]) (GN Q) aX (GN Q)=(fun g s=>IV Q (g 0) s):=Eq.trans rfl (by kernel_rfl)
theorem XG (Q:aC):aFm (sub TW [Y,Y]) (GN Q) aX (GN Q)=(fun g s=>IO Q (g 1) (g 0) s):=Eq.trans (aO (aAn Q) rfl) (by kernel_rfl)
def f158 (Q:aC) (t0 t1:AV) (s:St):Prop:=aA (bn .lss 3 t1 (.int .i64 0)) fun t6=>aP t6
 (aA (mkI Tryz.ty 9 (.str [99,97,110,110,111,116,32,98,101,32,110,101,103,97,116,105,118,101])) fun t7=>aA (none:Option (AV×St)) fun rNone=>IO Q t1 t0 rNone.2)
 (IO Q t1 t0 (adv s 3))
theorem aMx (t0 t1:AV) (s:St) {Q:aC} (h:f158 Q t0 t1 s):eG 158 [t0,t1] s Q:=aH (h:=158) (fn:=Tryz.f158) (c:=sub TW []) (show aFm (sub TW []) (GN Q) aX (GN Q)=_ from (aO (aO (XG Q) rfl) rfl)) h
abbrev yP:Code:=aN Tryz.f109
abbrev sL:=rK Tryz.f109
abbrev FB:=aL mEv 109 (mEv.kp 109)
def BP (Q:aC) (t6:AV) (s:St):Prop:=Q t6 (adv s 2)
def RP (Q:aC) (ih1:AV->AV->AV->aC) (t27 t6 t25 t26:AV) (s:St):Prop:=aA (bn .add 3 t27 (.int .i64 1)) fun t34=>ih1 t6 t25 t26 t34 (adv s 2)
def uJ (Q:aC) (ih1:AV->AV->AV->aC) (t6 t25 t26 t27:AV) (s:St):Prop:=aA (bn .lss 3 t27 t26) fun t28=>aP t28
 (aA (cA 1 t25 t27) fun t29=>aA (ld 1 false t29 (adv s 4)) fun t30=>aA (bt .append #[31,31] [t6,t30] (s.nx+6) (adv s 8)) fun r33=>RP Q ih1 t27 r33.1 t25 t26 r33.2)
 (BP Q t6 (adv s 1))
def tF (Q:aC) (n:Nat):AV->AV->AV->aC:=fY (fun _ _ _ _ _ =>False) (fun ih=>uJ Q ih) n
def CL (Q:aC) (t3 t0:AV) (s:St):Prop:=aY mEv 158 [.nils,t3] (adv s 3) fun t24 s1=>aA (bt .len #[221] [t0] (s1.nx+1) (adv s1 3)) fun r26=>∃ n,tF Q n t24 t0 r26.1 (.int .i64 0) r26.2
def HY (Q:aC) (ih2:AV->AV->AV->AV->aC) (t11 t0 t3 t9 t10:AV) (s:St):Prop:=aA (bn .add 3 t11 (.int .i64 1)) fun t22=>ih2 t0 t3 t9 t10 t22 (adv s 2)
def vW (Q:aC) (ih2:AV->AV->AV->AV->aC) (t0 t3 t9 t10 t11:AV) (s:St):Prop:=aA (bn .lss 3 t11 t10) fun t12=>aP t12
 (aA (cA 1 t9 t11) fun t13=>aA (ld 1 false t13 (adv s 4)) fun t14=>aA (bt .len #[31] [t14] (s.nx+6) (adv s 9)) fun r17=>aA (bn .add 3 t3 r17.1) fun t18=>aA (bn .lss 3 t18 (.int .i64 0)) fun t20=>aP t20
 (aA (mkI Tryz.ty 9 (.str [108,101,110,32,111,117,116,32,111,102,32,114,97,110,103,101])) fun t21=>aA (none:Option (AV×St)) fun rNone=>HY Q ih2 t11 t0 t18 t9 t10 rNone.2)
 (HY Q ih2 t11 t0 t18 t9 t10 (adv r17.2 2)))
 (CL Q t3 t0 (adv s 1))
def tJ (Q:aC) (n:Nat):AV->AV->AV->AV->aC:=fY (fun _ _ _ _ _ _ =>False) (fun ih=>vW Q ih) n
theorem aCe (Q:aC):FB (sub yP [Y,Y,Y,Y,Y]) (sL Q) aX (sL Q)=(fun g s=>BP Q (g 6) s):=Eq.trans rfl (by kernel_rfl)
theorem aCl (Q:aC) (n1:Nat):FB (sub yP [Y,Y,Y,Y,N,Y,N,N,Y,Y,Y]) (mA (fun n g s=>tF Q n (g 6) (g 25) (g 26) (g 27) s) 109 n1) (cE 2 (fun g s=>BP Q (g 6) s) aX) (sL Q)=(fun g s=>RP Q (tF Q n1) (g 27) (g 6) (g 25) (g 26) s):=Eq.trans rfl (by kernel_rfl)
theorem aAx (Q:aC) (kN:Kt):FB (sub yP [Y,Y,Y,Y,N,Y,N]) kN (cE 2 (fun g s=>BP Q (g 6) s) aX) (sL Q)=fun g s=>∃ n,tF Q n (g 6) (g 25) (g 26) (g 27) s:=jW (L:=fun n g s=>tF Q n (g 6) (g 25) (g 26) (g 27) s) (fun n1=>Eq.trans (aO (aO (aO (aCl Q n1) (dI 3 rfl)) rfl) rfl) (by kernel_rfl))
theorem WV (Q:aC):FB (sub yP [Y,Y,Y]) (sL Q) aX (sL Q)=(fun g s=>CL Q (g 3) (g 0) s):=Eq.trans (aO (aO (aCe Q) (aO (dI 2 (aAx Q _)) rfl)) rfl) (by kernel_rfl)
theorem XZ (Q:aC) (n2:Nat):FB (sub yP [Y,Y,N,Y,N,N,Y,Y,Y]) (mA (fun n g s=>tJ Q n (g 0) (g 3) (g 9) (g 10) (g 11) s) 109 n2) (cE 0 (fun g s=>CL Q (g 3) (g 0) s) aX) (sL Q)=(fun g s=>HY Q (tJ Q n2) (g 11) (g 0) (g 3) (g 9) (g 10) s):=Eq.trans rfl (by kernel_rfl)
theorem WP (Q:aC) (kN:Kt):FB (sub yP [Y,Y,N,Y,N]) kN (cE 0 (fun g s=>CL Q (g 3) (g 0) s) aX) (sL Q)=fun g s=>∃ n,tJ Q n (g 0) (g 3) (g 9) (g 10) (g 11) s:=jW (L:=fun n g s=>tJ Q n (g 0) (g 3) (g 9) (g 10) (g 11) s) (fun n2=>Eq.trans (aO (aO (aO (XZ Q n2) (dI 1 rfl)) rfl) rfl) (by kernel_rfl))
def f109 (Q:aC) (t0:AV) (s:St):Prop:=aA (bt .len #[221] [t0] (s.nx+3) (adv s 5)) fun r10=>∃ n,tJ Q n t0 (.int .i64 0) t0 r10.1 (.int .i64 0) r10.2
theorem aIe (t0:AV) (s:St) {Q:aC} (h:f109 Q t0 s):eG 109 [t0] s Q:=aH (h:=109) (fn:=Tryz.f109) (c:=sub yP []) (show FB (sub yP []) (sL Q) aX (sL Q)=_ from (aO (aO (aO (WV Q) (aO (dI 0 (WP Q _)) rfl)) rfl) rfl)) h
abbrev bHm:Code:=aN Tryz.f57
abbrev bIu:=rK Tryz.f57
abbrev bNk:=aL mEv 57 (mEv.kp 57)
def f57 (Q:aC) (t0 t1:AV) (s:St):Prop:=aA (zr 33) fun z4=>aE mEv 56 [t0] (adv ((adv s 1).set s.nx (some (.cells z4.cells 33 true true))) 8) fun t6 s1=>aA (fZ 31 1 [(0,t6)]) fun t7=>aA (fZ 221 2 [(0,t7),(1,t1)]) fun t9=>aY mEv 109 [t9] s1 fun t10 s2=>aA (eE 33 [(0,(.bool true)),(3,t10)]) fun t11=>aA (bQ 6 (.ptr s.nx 0) t11 s2) fun s3=>bT ((bW [ld 6 true (.ptr s.nx 0) s3]).map bY) fun v=>Q v s3
theorem VF (t0 t1:AV) (s:St) {Q:aC} (h:f57 Q t0 t1 s):eG 57 [t0,t1] s Q:=aH (h:=57) (fn:=Tryz.f57) (c:=sub bHm []) (show bNk (sub bHm []) (bIu Q) aX (bIu Q)=_ from rfl) h
end
noncomputable section
def bCl (Q:aC) (t9 t10 t6:AV) (s:St):Prop:=aA (ld 6 true t9 (adv s 6)) fun t81=>(clear 2 ⟨2,true,rch (adv s 6) [(.fn 65 [] []),(.str [115,116,114,46,43,43]),t10],some (adv s 6).nx⟩ [⟨1,false,[],none⟩,⟨0,false,aS t9,none⟩]=true/\gZ mEv 65 [(.str [115,116,114,46,43,43]),t10] (rch (adv s 6) [(.fn 65 [] []),(.str [115,116,114,46,43,43]),t10]) (adv s 6) fun t83 s1=>aA (fZ 31 2 [(0,t81),(1,t83)]) fun t84=>gZ mEv 65 [(.str [108,101,116]),t84] (rch s1 [(.fn 65 [] []),(.str [108,101,116]),t84]) s1 fun t85 s2=>(s2.h (s.nx+5)=none/\aA (bQ 6 t6 t85 s2) fun s3=>bT ((bW [ld 6 true t6 s3]).map bY) fun v=>Q v s3))
def aZs (Q:aC) (ih1:AV->AV->AV->AV->AV->aC) (t12 t2 t6 t9 t10 t11:AV) (s:St):Prop:=aA (bn .sub 3 t12 (.int .i64 1)) fun t67=>ih1 t2 t6 t9 t10 t11 t67 (adv s 3)
def aKe (Q:aC) (ih1:AV->AV->AV->AV->AV->aC) (t2 t12 t6 t9 t10 t11:AV) (s:St):Prop:=aA (bn .quo 3 t2 (.int .i64 2)) fun t80=>aZs Q ih1 t12 t80 t6 t9 t10 t11 (adv s 3)
def aOt (Q:aC) (ih1:AV->AV->AV->AV->AV->aC) (t2 t6 t9 t10 t11 t12:AV) (s:St):Prop:=aA (bn .geq 3 t12 (.int .i64 0)) fun t65=>aP t65
 (aA (bn .geq 3 t11 t2) fun t70=>aP t70
 (aE mEv 169 [t12] (adv s 11) fun t73 s1=>aA (fZ 31 1 [(0,t73)]) fun t74=>aA (bt .append #[31,31] [t10,t74] (s.nx+9) s1) fun r75=>aA (bn .sub 3 t11 t2) fun t78=>aKe Q ih1 t2 t12 t6 t9 r75.1 t78 (adv r75.2 4))
 (aKe Q ih1 t2 t12 t6 t9 t10 t11 (adv s 5)))
 (bCl Q t9 t10 t6 (adv s 2))
def aYk (Q:aC) (n:Nat):AV->AV->AV->AV->AV->aC:=fY (fun _ _ _ _ _ _ _ =>False) (fun ih=>aOt Q ih) n
def aHn (Q:aC) (t1 t7 t2 t3 t6:AV) (s:St):Prop:=dW mEv 169 [t1] (rch (adv s 9) [(.fn 169 [] []),t1]) (adv s 9) fun t32 s1=>aA (ld 6 true t7 s1) fun t33=>aA (fZ 31 2 [(0,t32),(1,t33)]) fun t34=>aA (eE 33 [(0,(.bool true)),(3,t34)]) fun t35=>aA (fZ 31 1 [(0,t35)]) fun t36=>aA (eE 33 [(0,(.bool true)),(3,t36)]) fun t37=>(clear 0 ⟨7,true,(s.nx+7)::[],none⟩ [⟨6,false,[],none⟩,⟨5,false,[],none⟩,⟨4,false,[],none⟩,⟨3,false,[],none⟩,⟨2,false,aS t7,none⟩,⟨1,false,rch (adv s 9) [(.fn 169 [] []),t1],none⟩,⟨0,false,[],none⟩]=true/\s1.h (s.nx+7)=none/\aA (zr 33) fun z9=>((s1.set (s.nx+7) (some (.cells z9.cells 33 true true))).h (s.nx+8)=none/\aA (bQ 6 (.ptr (s.nx+7) 0) t37 (s1.set (s.nx+7) (some (.cells z9.cells 33 true true)))) fun s2=>aA (bn .mul 3 (.int .i64 2) t2) fun t39=>aA (aD 1 t3) fun t40=>aA (ld 1 false t40 (adv s2 5)) fun t41=>aA (bn .leq 3 t39 t41) fun t42=>aP t42
 (aA (ld 6 true (.ptr (s.nx+7) 0) (adv s2 15)) fun t43=>aA (ld 2 true t3 (adv s2 15)) fun t44=>aA (bn .add 3 t1 (.int .i64 1)) fun t46=>aA (bn .mul 3 (.int .i64 2) t2) fun t48=>dW mEv 120 [t44,t46,t48] (rch (adv s2 15) [(.fn 120 [] []),t44,t46,t48]) (adv s2 15) fun t49 s3=>aA (fZ 31 2 [(0,t43),(1,t49)]) fun t50=>gZ mEv 65 [(.str [108,101,116]),t50] (rch s3 [(.fn 65 [] []),(.str [108,101,116]),t50]) s3 fun t51 s4=>(s4.h (s2.nx+14)=none/\aA (bQ 6 t6 t51 s4) fun s5=>bT ((bW [ld 6 true t6 s5]).map bY) fun v=>Q v s5))
 (aA (aD 1 t3) fun t53=>aA (ld 1 false t53 (adv s2 9)) fun t54=>aA (bn .eql 3 t2 t54) fun t55=>aP t55
 (aA (ld 6 true (.ptr (s.nx+7) 0) (adv s2 15)) fun t56=>dW mEv 169 [t1] (rch (adv s2 15) [(.fn 169 [] []),t1]) (adv s2 15) fun t58 s6=>aA (fZ 31 2 [(0,t56),(1,t58)]) fun t59=>gZ mEv 65 [(.str [108,101,116]),t59] (rch s6 [(.fn 65 [] []),(.str [108,101,116]),t59]) s6 fun t60 s7=>(s7.h (s2.nx+14)=none/\aA (bQ 6 t6 t60 s7) fun s8=>bT ((bW [ld 6 true t6 s8]).map bY) fun v=>Q v s8))
 (aA (aD 1 t3) fun t61=>aA (ld 1 false t61 (adv s2 13)) fun t62=>∃ n,aYk Q n t2 t6 (.ptr (s.nx+7) 0) .nils t62 t1 (adv s2 15)))))
def f120 (Q:aC) (t0 t1 t2:AV) (s:St):Prop:=(t0.cells.all AV.one=true /\
 aA (zr 33) fun z6=>aA (aD 0 (.ptr s.nx 0)) fun t14=>aA (ld 1 false t14 (adv (((adv s 2).set s.nx (some (.cells t0.cells 109 true true))).set (s.nx+1) (some (.cells z6.cells 33 true true))) 11)) fun t15=>aA (eE 109 [(0,t15),(1,(.int .i64 1))]) fun t16=>aA (fZ 25 1 [(0,t16)]) fun t17=>aE mEv 121 [t17] (adv (((adv s 2).set s.nx (some (.cells t0.cells 109 true true))).set (s.nx+1) (some (.cells z6.cells 33 true true))) 11) fun t18 s1=>aA (aQ t18 0) fun t19=>aA (aQ t18 1) fun t20=>aA (zr 33) fun z7=>aA (bQ 6 (.ptr ((((adv s 2).set s.nx (some (.cells t0.cells 109 true true))).set (s.nx+1) (some (.cells z6.cells 33 true true))).nx+8) 0) t19 (s1.set ((((adv s 2).set s.nx (some (.cells t0.cells 109 true true))).set (s.nx+1) (some (.cells z6.cells 33 true true))).nx+8) (some (.cells z7.cells 33 true true)))) fun s2=>aA (bn .gtr 3 t1 (.int .i64 0)) fun t22=>aP t22
 (aA (bn .sub 3 t1 (.int .i64 1)) fun t24=>aE mEv 169 [t24] (adv s2 11) fun t25 s3=>aA (bn .sub 3 t1 (.int .i64 1)) fun t27=>aE mEv 169 [t27] s3 fun t28 s4=>aA (fZ 31 2 [(0,t25),(1,t28)]) fun t29=>aY mEv 65 [(.str [115,116,114,46,43,43]),t29] s4 fun t30 s5=>aA (bQ 6 (.ptr ((((adv s 2).set s.nx (some (.cells t0.cells 109 true true))).set (s.nx+1) (some (.cells z6.cells 33 true true))).nx+8) 0) t30 s5) fun s6=>aHn Q t1 (.ptr ((((adv s 2).set s.nx (some (.cells t0.cells 109 true true))).set (s.nx+1) (some (.cells z6.cells 33 true true))).nx+8) 0) t2 (.ptr s.nx 0) (.ptr (s.nx+1) 0) s6)
 (aHn Q t1 (.ptr ((((adv s 2).set s.nx (some (.cells t0.cells 109 true true))).set (s.nx+1) (some (.cells z6.cells 33 true true))).nx+8) 0) t2 (.ptr s.nx 0) (.ptr (s.nx+1) 0) (adv s2 2)))
abbrev bIq:Code:=aN Tryz.f65
abbrev bLh:=rK Tryz.f65
abbrev bOn:=aL mEv 65 (mEv.kp 65)
def f65 (Q:aC) (t0 t1:AV) (s:St):Prop:=aA (zr 33) fun z4=>aE mEv 62 [(.int .i64 3),t0] (adv ((adv s 1).set s.nx (some (.cells z4.cells 33 true true))) 4) fun t7 s1=>aA (fZ 31 1 [(0,t7)]) fun t8=>aA (bt .append #[31,31] [t8,t1] (s1.nx+2) (adv s1 5)) fun r11=>aA (eE 33 [(0,(.bool true)),(3,r11.1)]) fun t12=>aA (bQ 6 (.ptr s.nx 0) t12 r11.2) fun s2=>bT ((bW [ld 6 true (.ptr s.nx 0) s2]).map bY) fun v=>Q v s2
theorem aTw (t0 t1:AV) (s:St) {Q:aC} (h:f65 Q t0 t1 s):eG 65 [t0,t1] s Q:=aH (h:=65) (fn:=Tryz.f65) (c:=sub bIq []) (show bOn (sub bIq []) (bLh Q) aX (bLh Q)=_ from rfl) h
def f169 (Q:aC) (t0:AV) (s:St):Prop:=aA (zr 33) fun z2=>aA (cv 3 211 t0 (adv ((adv s 1).set s.nx (some (.cells z2.cells 33 true true))) 7)) fun t4=>aA (fZ 22 1 [(0,t4)]) fun t5=>aE mEv 63 [t5] (adv ((adv s 1).set s.nx (some (.cells z2.cells 33 true true))) 7) fun t6 s1=>aA (bn .add 9 (.str [100]) t6) fun t7=>aE mEv 62 [(.int .i64 3),t7] s1 fun t8 s2=>aA (bQ 6 (.ptr s.nx 0) t8 s2) fun s3=>bT ((bW [ld 6 true (.ptr s.nx 0) s3]).map bY) fun v=>Q v s3
def bFf (Q:aC) (t3:AV) (s:St):Prop:=Q t3 (adv s 2)
def bLc (Q:aC) (ih1:AV->AV->aC) (t0 t4 t6 t3:AV) (s:St):Prop:=aA (jM 25 t0 (some t4) (some t6) none (adv s 11)) fun t57=>aE mEv 121 [t57] (adv s 11) fun t58 s1=>aA (aQ t58 0) fun t59=>aA (aQ t58 1) fun t60=>aA (zr 33) fun z7=>aA (bQ 6 (.ptr (s.nx+8) 0) t59 (s1.set (s.nx+8) (some (.cells z7.cells 33 true true)))) fun s2=>aA (ld 6 true (.ptr (s.nx+8) 0) (adv s2 5)) fun t62=>aA (fZ 31 1 [(0,t62)]) fun t63=>aA (bt .append #[31,31] [t3,t63] (s2.nx+3) (adv s2 5)) fun r64=>ih1 t0 r64.1 t6 (adv r64.2 2)
def aYo (Q:aC) (ih1:AV->AV->aC) (ih2:AV->AV->AV->AV->aC) (t0 t3 t4 t5 t6:AV) (s:St):Prop:=aA (bt .len #[25] [t0] (s.nx+2) (adv s 14)) fun r32=>aA (bn .lss 3 t6 r32.1) fun t33=>Gd (aB t33 true) r32.2 (fun k=>k t5 r32.2) fun t35 s1=>Gd (aB t33 true) s1 (fun k=>k t0 s1) fun t36 s2=>Gd (aB t33 true) s2 (fun k=>k t6 s2) fun t37 s3=>Gd (aB t33 true) s3 (fun k=>aA (cA 2 t36 t37) fun v=>k v s3) fun t38 s4=>Gd (aB t33 true) s4 (fun k=>aA (aD 1 t38) fun v=>k v s4) fun t39 s5=>Gd (aB t33 true) s5 (fun k=>aA (ld 1 false t39 s5) fun v=>k v s5) fun t40 s6=>Gd (aB t33 true) s6 (fun k=>aA (bn .add 3 t35 t40) fun v=>k v s6) fun t41 s7=>Gd (aB t33 true) s7 (fun k=>aA (bn .leq 3 t41 (.int .i64 1000)) fun v=>k v s7) fun t42 s8=>aA (aJ t33 t42 (.bool false)) fun t43=>aP t43
 (aA (cA 2 t0 t6) fun t47=>aA (aD 1 t47) fun t48=>aA (ld 1 false t48 (adv s8 8)) fun t49=>aA (bn .add 3 t5 t49) fun t50=>aA (bn .add 3 t6 (.int .i64 1)) fun t52=>ih2 t0 t3 t4 t50 t52 (adv s8 11))
 (bLc Q ih1 t0 t4 t6 t3 s8)
def bKk (Q:aC) (ih1:AV->AV->aC) (n:Nat):AV->AV->AV->AV->aC:=fY (fun _ _ _ _ _ _ =>False) (fun ih=>aYo Q ih1 ih) n
def aYp (Q:aC) (ih1:AV->AV->aC) (t0 t3 t4:AV) (s:St):Prop:=aA (bt .len #[25] [t0] (s.nx+2) (adv s 4)) fun r11=>aA (bn .lss 3 t4 r11.1) fun t12=>aP t12
 (aA (cA 2 t0 t4) fun t15=>aA (aD 1 t15) fun t16=>aA (ld 1 false t16 (adv r11.2 6)) fun t17=>aA (bn .gtr 3 t17 (.int .i64 1000)) fun t18=>aP t18
 (aA (cA 2 t0 t4) fun t22=>aA (ld 2 true t22 (adv r11.2 15)) fun t23=>aE mEv 120 [t23,(.int .i64 0),(.int .i64 1)] (adv r11.2 15) fun t24 s1=>aA (fZ 31 1 [(0,t24)]) fun t25=>aA (bt .append #[31,31] [t3,t25] (r11.2.nx+13) s1) fun r26=>aA (bn .add 3 t4 (.int .i64 1)) fun t28=>ih1 t0 r26.1 t28 (adv r26.2 3))
 (∃ n,bKk Q ih1 n t0 t3 t4 (.int .i64 0) t4 (adv r11.2 9)))
 (bFf Q t3 r11.2)
def bDl (Q:aC) (n:Nat):AV->AV->aC:=fY (fun _ _ _ _ =>False) (fun ih=>aYp Q ih) n
def f67 (Q:aC) (t0:AV) (s:St):Prop:=∃ n,bDl Q n t0 .nils (.int .i64 0) (adv s 3)
def bFh (Q:aC) (t2:AV) (s:St):Prop:=aA (eE 33 []) fun t64=>aA (bQ 6 t2 t64 (adv s 3)) fun s1=>bT ((bW [ld 6 true t2 s1,some (.int .i64 1)]).map bY) fun v=>Q v s1
def f17 (Q:aC) (t0:AV) (s:St):Prop:=(t0.cells.all AV.one=true /\
 aA (zr 33) fun z2=>aA (aD 0 (.ptr s.nx 0)) fun t8=>aA (ld 1 false t8 (adv (((adv s 3).set s.nx (some (.cells t0.cells 27 true true))).set (s.nx+1) (some (.cells z2.cells 33 true true))) 2)) fun t9=>aA (bn .eql 3 t9 (.int .i64 1)) fun t11=>aP t11
 (aA (aD 1 (.ptr s.nx 0)) fun t12=>aA (ld 1 false t12 (adv (((adv s 3).set s.nx (some (.cells t0.cells 27 true true))).set (s.nx+1) (some (.cells z2.cells 33 true true))) 6)) fun t13=>aP t13
 (aE mEv 62 [(.int .i64 3),(.str [116,114,117,101])] (adv (((adv s 3).set s.nx (some (.cells t0.cells 27 true true))).set (s.nx+1) (some (.cells z2.cells 33 true true))) 9) fun t14 s1=>aA (bQ 6 (.ptr (s.nx+1) 0) t14 s1) fun s2=>bT ((bW [ld 6 true (.ptr (s.nx+1) 0) s2,some (.int .i64 0)]).map bY) fun v=>Q v s2)
 (aE mEv 62 [(.int .i64 3),(.str [102,97,108,115,101])] (adv (((adv s 3).set s.nx (some (.cells t0.cells 27 true true))).set (s.nx+1) (some (.cells z2.cells 33 true true))) 9) fun t15 s3=>aA (bQ 6 (.ptr (s.nx+1) 0) t15 s3) fun s4=>bT ((bW [ld 6 true (.ptr (s.nx+1) 0) s4,some (.int .i64 0)]).map bY) fun v=>Q v s4))
 (aA (bn .eql 3 t9 (.int .i64 2)) fun t17=>aP t17
 (aA (aD 2 (.ptr s.nx 0)) fun t18=>aA (aD 1 t18) fun t19=>aA (ld 1 false t19 (adv (((adv s 3).set s.nx (some (.cells t0.cells 27 true true))).set (s.nx+1) (some (.cells z2.cells 33 true true))) 13)) fun t20=>aE mEv 63 [t20] (adv (((adv s 3).set s.nx (some (.cells t0.cells 27 true true))).set (s.nx+1) (some (.cells z2.cells 33 true true))) 13) fun t21 s5=>aE mEv 62 [(.int .i64 4),t21] s5 fun t22 s6=>aA (zr 33) fun z4=>aA (bQ 6 (.ptr ((((adv s 3).set s.nx (some (.cells t0.cells 27 true true))).set (s.nx+1) (some (.cells z2.cells 33 true true))).nx+11) 0) t22 (s6.set ((((adv s 3).set s.nx (some (.cells t0.cells 27 true true))).set (s.nx+1) (some (.cells z2.cells 33 true true))).nx+11) (some (.cells z4.cells 33 true true)))) fun s7=>aA (aD 2 (.ptr s.nx 0)) fun t23=>aA (ld 2 true t23 (adv s7 4)) fun t24=>aE mEv 64 [t24] (adv s7 4) fun t25 s8=>aA (bn .lss 3 t25 (.int .i64 0)) fun t26=>aP t26
 (aA (ld 6 true (.ptr ((((adv s 3).set s.nx (some (.cells t0.cells 27 true true))).set (s.nx+1) (some (.cells z2.cells 33 true true))).nx+11) 0) (adv s8 5)) fun t27=>aA (fZ 31 1 [(0,t27)]) fun t28=>aE mEv 65 [(.str [45]),t28] (adv s8 5) fun t29 s9=>aA (bQ 6 (.ptr (s.nx+1) 0) t29 s9) fun s10=>bT ((bW [ld 6 true (.ptr (s.nx+1) 0) s10,some (.int .i64 0)]).map bY) fun v=>Q v s10)
 (aA (ld 6 true (.ptr ((((adv s 3).set s.nx (some (.cells t0.cells 27 true true))).set (s.nx+1) (some (.cells z2.cells 33 true true))).nx+11) 0) (adv s8 3)) fun t30=>aA (bQ 6 (.ptr (s.nx+1) 0) t30 (adv s8 3)) fun s11=>bT ((bW [ld 6 true (.ptr (s.nx+1) 0) s11,some (.int .i64 0)]).map bY) fun v=>Q v s11))
 (aA (bn .eql 3 t9 (.int .i64 3)) fun t32=>aP t32
 (aA (aD 4 (.ptr s.nx 0)) fun t33=>aA (ld 1 false t33 (adv (((adv s 3).set s.nx (some (.cells t0.cells 27 true true))).set (s.nx+1) (some (.cells z2.cells 33 true true))) 12)) fun t34=>aE mEv 66 [t34] (adv (((adv s 3).set s.nx (some (.cells t0.cells 27 true true))).set (s.nx+1) (some (.cells z2.cells 33 true true))) 12) fun t35 s12=>aA (un .not t35) fun t37=>aP t37
 (aA (eE 33 []) fun t38=>aA (bQ 6 (.ptr (s.nx+1) 0) t38 (adv s12 5)) fun s13=>bT ((bW [ld 6 true (.ptr (s.nx+1) 0) s13,some (.int .i64 1)]).map bY) fun v=>Q v s13)
 (aA (aD 4 (.ptr s.nx 0)) fun t39=>aA (ld 1 false t39 (adv s12 6)) fun t40=>aE mEv 67 [t40] (adv s12 6) fun t41 s14=>aA (bt .len #[31] [t41] (s14.nx+1) (adv s14 3)) fun r43=>aA (bn .eql 3 r43.1 (.int .i64 0)) fun t44=>aP t44
 (aE mEv 62 [(.int .i64 6),(.str [])] (adv r43.2 3) fun t45 s15=>aA (bQ 6 (.ptr (s.nx+1) 0) t45 s15) fun s16=>bT ((bW [ld 6 true (.ptr (s.nx+1) 0) s16,some (.int .i64 0)]).map bY) fun v=>Q v s16)
 (aA (bt .len #[31] [t41] (r43.2.nx+1) (adv r43.2 3)) fun r47=>aA (bn .eql 3 r47.1 (.int .i64 1)) fun t48=>aP t48
 (aA (cA 6 t41 (.int .i64 0)) fun t50=>aA (ld 6 true t50 (adv r47.2 5)) fun t51=>aA (bQ 6 (.ptr (s.nx+1) 0) t51 (adv r47.2 5)) fun s17=>bT ((bW [ld 6 true (.ptr (s.nx+1) 0) s17,some (.int .i64 0)]).map bY) fun v=>Q v s17)
 (aE mEv 65 [(.str [115,116,114,46,43,43]),t41] (adv r47.2 4) fun t53 s18=>aA (zr 33) fun z7=>aA (bQ 6 (.ptr (r47.2.nx+2) 0) t53 (s18.set (r47.2.nx+2) (some (.cells z7.cells 33 true true)))) fun s19=>aA (bt .len #[31] [t41] (s19.nx+1) (adv s19 8)) fun r55=>aA (bn .gtr 3 r55.1 (.int .i64 200)) fun t56=>Gd (aB t56 false) r55.2 (fun k=>aA (ld 6 true (.ptr (r47.2.nx+2) 0) r55.2) fun v=>k v r55.2) fun t58 s20=>Gd (aB t56 false) s20 (fun k=>aE mEv 33 [t58] s20 k) fun t59 s21=>Gd (aB t56 false) s21 (fun k=>aA (bn .gtr 3 t59 (.int .i64 2000)) fun v=>k v s21) fun t60 s22=>aA (aJ t56 (.bool true) t60) fun t61=>aP t61
 (aA (eE 33 []) fun t62=>aA (bQ 6 (.ptr (s.nx+1) 0) t62 (adv s22 3)) fun s23=>bT ((bW [ld 6 true (.ptr (s.nx+1) 0) s23,some (.int .i64 2)]).map bY) fun v=>Q v s23)
 (aA (ld 6 true (.ptr (r47.2.nx+2) 0) (adv s22 3)) fun t63=>aA (bQ 6 (.ptr (s.nx+1) 0) t63 (adv s22 3)) fun s24=>bT ((bW [ld 6 true (.ptr (s.nx+1) 0) s24,some (.int .i64 0)]).map bY) fun v=>Q v s24)))))
 (bFh Q (.ptr (s.nx+1) 0) (adv (((adv s 3).set s.nx (some (.cells t0.cells 27 true true))).set (s.nx+1) (some (.cells z2.cells 33 true true))) 8)))))
abbrev aOo:Code:=aN Tryz.f18
abbrev aBr:=rK Tryz.f18
abbrev aPi:=aL mEv 18 (mEv.kp 18)
def MT (Q:aC) (s:St):Prop:=Q (.bool true) (adv s 1)
def aHk (Q:aC) (ih1:AV->AV->AV->aC) (t7 t2 t3 t4:AV) (s:St):Prop:=aA (bn .add 3 t7 (.int .i64 1)) fun t71=>ih1 t2 t3 t4 t71 (adv s 3)
def FC (Q:aC) (ih1:AV->AV->AV->aC) (t2 t3 t4 t7:AV) (s:St):Prop:=aA (aD 5 t3) fun t66=>aA (ld 1 false t66 (adv s 5)) fun t67=>aA (bt .len #[31] [t67] (s.nx+3) (adv s 5)) fun r68=>aA (bn .lss 3 t7 r68.1) fun t69=>aP t69
 (aA (aD 5 t3) fun t72=>aA (ld 1 false t72 (adv r68.2 13)) fun t73=>aA (cA 6 t73 t7) fun t75=>aA (ld 6 true t75 (adv r68.2 13)) fun t76=>aA (aD 5 t4) fun t77=>aA (ld 1 false t77 (adv r68.2 13)) fun t78=>aA (cA 6 t78 t7) fun t80=>aA (ld 6 true t80 (adv r68.2 13)) fun t81=>dW mEv 18 [t76,t81,t2] (rch (adv r68.2 13) [(.fn 18 [] []),t76,t81,t2]) (adv r68.2 13) fun t83 s1=>aA (un .not t83) fun t85=>aP t85
 (Q (.bool false) (adv s1 3))
 (aHk Q ih1 t7 t2 t3 t4 (adv s1 2)))
 (MT Q r68.2)
def zI (Q:aC) (n:Nat):AV->AV->AV->aC:=fY (fun _ _ _ _ _ =>False) (fun ih=>FC Q ih) n
theorem aGp (Q:aC):aPi (sub aOo [Y,Y,Y,Y]) (aBr Q) aX (aBr Q)=(fun g s=>MT Q s):=Eq.trans rfl (by kernel_rfl)
theorem aHi (Q:aC) (n1:Nat):aPi (sub aOo [Y,Y,Y,N,Y,N,N,Y,Y]) (mA (fun n g s=>zI Q n (g 2) (g 3) (g 4) (g 7) s) 18 n1) (cE 0 (fun g s=>MT Q s) aX) (aBr Q)=(fun g s=>aHk Q (zI Q n1) (g 7) (g 2) (g 3) (g 4) s):=Eq.trans rfl (by kernel_rfl)
theorem aCq (Q:aC) (kN:Kt):aPi (sub aOo [Y,Y,Y,N,Y,N]) kN (cE 0 (fun g s=>MT Q s) aX) (aBr Q)=fun g s=>∃ n,zI Q n (g 2) (g 3) (g 4) (g 7) s:=jW (L:=fun n g s=>zI Q n (g 2) (g 3) (g 4) (g 7) s) (fun n1=>Eq.trans (aO (aO (aHi Q n1) (dI 1 rfl)) rfl) (by kernel_rfl))
def f18 (Q:aC) (t0 t1 t2:AV) (s:St):Prop:=(t0.cells.all AV.one=true /\
 (t1.cells.all AV.one=true /\
 aA (aD 0 (.ptr s.nx 0)) fun t9=>aA (ld 1 false t9 (adv (((adv s 3).set s.nx (some (.cells t0.cells 33 true true))).set (s.nx+1) (some (.cells t1.cells 33 true true))) 24)) fun t10=>aA (aD 0 (.ptr (s.nx+1) 0)) fun t11=>aA (ld 1 false t11 (adv (((adv s 3).set s.nx (some (.cells t0.cells 33 true true))).set (s.nx+1) (some (.cells t1.cells 33 true true))) 24)) fun t12=>aA (bn .neq 4 t10 t12) fun t13=>Gd (aB t13 false) (adv (((adv s 3).set s.nx (some (.cells t0.cells 33 true true))).set (s.nx+1) (some (.cells t1.cells 33 true true))) 24) (fun k=>k t2 (adv (((adv s 3).set s.nx (some (.cells t0.cells 33 true true))).set (s.nx+1) (some (.cells t1.cells 33 true true))) 24)) fun t15 s1=>Gd (aB t13 false) s1 (fun k=>k t15 s1) fun t16 s2=>Gd (aB t16 true) s2 (fun k=>aA (aD 4 (.ptr s.nx 0)) fun v=>k v s2) fun t17 s3=>Gd (aB t16 true) s3 (fun k=>aA (ld 1 false t17 s3) fun v=>k v s3) fun t18 s4=>Gd (aB t16 true) s4 (fun k=>aA (aD 4 (.ptr (s.nx+1) 0)) fun v=>k v s4) fun t19 s5=>Gd (aB t16 true) s5 (fun k=>aA (ld 1 false t19 s5) fun v=>k v s5) fun t20 s6=>Gd (aB t16 true) s6 (fun k=>aA (bn .neq 3 t18 t20) fun v=>k v s6) fun t21 s7=>Gd (aB t13 false) s7 (fun k=>aA (aJ t16 t21 (.bool false)) fun v=>k v s7) fun t22 s8=>aA (aJ t13 (.bool true) t22) fun t23=>Gd (aB t23 false) s8 (fun k=>aA (aD 5 (.ptr s.nx 0)) fun v=>k v s8) fun t25 s9=>Gd (aB t23 false) s9 (fun k=>aA (ld 1 false t25 s9) fun v=>k v s9) fun t26 s10=>Gd (aB t23 false) s10 (fun k=>aA (bt .len #[31] [t26] ((((adv s 3).set s.nx (some (.cells t0.cells 33 true true))).set (s.nx+1) (some (.cells t1.cells 33 true true))).nx+18) s10) fun r=>k r.1 r.2) fun t27 s11 =>
 Gd (aB t23 false) s11 (fun k=>aA (aD 5 (.ptr (s.nx+1) 0)) fun v=>k v s11) fun t28 s12=>Gd (aB t23 false) s12 (fun k=>aA (ld 1 false t28 s12) fun v=>k v s12) fun t29 s13=>Gd (aB t23 false) s13 (fun k=>aA (bt .len #[31] [t29] ((((adv s 3).set s.nx (some (.cells t0.cells 33 true true))).set (s.nx+1) (some (.cells t1.cells 33 true true))).nx+21) s13) fun r=>k r.1 r.2) fun t30 s14=>Gd (aB t23 false) s14 (fun k=>aA (bn .neq 3 t27 t30) fun v=>k v s14) fun t31 s15=>aA (aJ t23 (.bool true) t31) fun t32=>aP t32
 (Q (.bool false) (adv s15 1))
 (aA (aD 0 (.ptr s.nx 0)) fun t33=>aA (ld 1 false t33 (adv s15 3)) fun t34=>aA (un .not t34) fun t35=>aP t35
 (aA (aD 1 (.ptr s.nx 0)) fun t36=>aA (aD 0 t36) fun t37=>aA (ld 1 false t37 (adv s15 33)) fun t38=>aA (aD 1 (.ptr (s.nx+1) 0)) fun t39=>aA (aD 0 t39) fun t40=>aA (ld 1 false t40 (adv s15 33)) fun t41=>aA (bn .eql 3 t38 t41) fun t42=>Gd (aB t42 true) (adv s15 33) (fun k=>aA (aD 1 (.ptr s.nx 0)) fun v=>k v (adv s15 33)) fun t44 s16=>Gd (aB t42 true) s16 (fun k=>aA (aD 1 t44) fun v=>k v s16) fun t45 s17=>Gd (aB t42 true) s17 (fun k=>aA (ld 1 false t45 s17) fun v=>k v s17) fun t46 s18=>Gd (aB t42 true) s18 (fun k=>aA (aD 1 (.ptr (s.nx+1) 0)) fun v=>k v s18) fun t47 s19=>Gd (aB t42 true) s19 (fun k=>aA (aD 1 t47) fun v=>k v s19) fun t48 s20=>Gd (aB t42 true) s20 (fun k=>aA (ld 1 false t48 s20) fun v=>k v s20) fun t49 s21=>Gd (aB t42 true) s21 (fun k=>aA (bn .eql 9 t46 t49) fun v=>k v s21) fun t50 s22=>aA (aJ t42 t50 (.bool false)) fun t51=>Gd (aB t51 true) s22 (fun k=>k t2 s22) fun t53 s23=>Gd (aB t51 true) s23 (fun k=>aA (un .not t53) fun v=>k v s23) fun t54 s24=>Gd (aB t51 true) s24 (fun k=>k t54 s24) fun t55 s25=>Gd (aB t55 false) s25 (fun k=>aA (aD 1 (.ptr s.nx 0)) fun v=>k v s25) fun t56 s26=>Gd (aB t55 false) s26 (fun k=>aA (aD 2 t56) fun v=>k v s26) fun t57 s27=>Gd (aB t55 false) s27 (fun k=>aA (ld 1 false t57 s27) fun v=>k v s27) fun t58 s28=>Gd (aB t55 false) s28 (fun k=>aA (aD 1 (.ptr (s.nx+1) 0)) fun v=>k v s28) fun t59 s29=>Gd (aB t55 false) s29 (fun k=>aA (aD 2 t59) fun v=>k v s29) fun t60 s30 =>
 Gd (aB t55 false) s30 (fun k=>aA (ld 1 false t60 s30) fun v=>k v s30) fun t61 s31=>Gd (aB t55 false) s31 (fun k=>aA (bn .eql 3 t58 t61) fun v=>k v s31) fun t62 s32=>Gd (aB t51 true) s32 (fun k=>aA (aJ t55 (.bool true) t62) fun v=>k v s32) fun t63 s33=>aA (aJ t51 t63 (.bool false)) fun t64=>Q t64 s33)
 (∃ n,zI Q n t2 (.ptr s.nx 0) (.ptr (s.nx+1) 0) (.int .i64 0) (adv s15 4)))))
theorem aTm (t0 t1 t2:AV) (s:St) {Q:aC} (h:f18 Q t0 t1 t2 s):eG 18 [t0,t1,t2] s Q:=aH (h:=18) (fn:=Tryz.f18) (c:=sub aOo []) (show aPi (sub aOo []) (aBr Q) aX (aBr Q)=_ from (aO (aO (aO (aO (aGp Q) (aO (dI 0 (aCq Q _)) rfl)) rfl) rfl) rfl)) h
def f3 (Q:aC) (t0:AV) (s:St):Prop:=(t0.cells.all AV.one=true /\
 aE mEv 15 [] (adv ((adv s 2).set s.nx (some (.cells t0.cells 27 true true))) 2) fun t9 s1=>aA (un .not t9) fun t11=>Gd (aB t11 false) (adv s1 15) (fun k=>aA (aD 4 (.ptr s.nx 0)) fun v=>k v (adv s1 15)) fun t13 s2=>Gd (aB t11 false) s2 (fun k=>aA (ld 1 false t13 s2) fun v=>k v s2) fun t14 s3=>Gd (aB t11 false) s3 (fun k=>aA (bt .len #[25] [t14] (s1.nx+5) s3) fun r=>k r.1 r.2) fun t15 s4=>Gd (aB t11 false) s4 (fun k=>aA (bn .gtr 3 t15 (.int .i64 300)) fun v=>k v s4) fun t16 s5=>aA (aJ t11 (.bool true) t16) fun t17=>Gd (aB t17 false) s5 (fun k=>aA (aD 2 (.ptr s.nx 0)) fun v=>k v s5) fun t19 s6=>Gd (aB t17 false) s6 (fun k=>aA (aD 1 t19) fun v=>k v s6) fun t20 s7=>Gd (aB t17 false) s7 (fun k=>aA (ld 1 false t20 s7) fun v=>k v s7) fun t21 s8=>Gd (aB t17 false) s8 (fun k=>aA (bt .len #[22] [t21] (s1.nx+12) s8) fun r=>k r.1 r.2) fun t22 s9=>Gd (aB t17 false) s9 (fun k=>aA (bn .gtr 3 t22 (.int .i64 30)) fun v=>k v s9) fun t23 s10=>aA (aJ t17 (.bool true) t23) fun t24=>aP t24
 (Q t9 (adv s10 2))
 (aA (ld 5 true (.ptr s.nx 0) (adv s10 8)) fun t27=>aE mEv 16 [t27] (adv s10 8) fun t28 s11=>aA (aQ t28 0) fun t29=>aA (aQ t28 1) fun t30=>aA (zr 33) fun z4=>aA (bQ 6 (.ptr (s10.nx+5) 0) t29 (s11.set (s10.nx+5) (some (.cells z4.cells 33 true true)))) fun s12=>aA (ld 5 true (.ptr s.nx 0) (adv s12 8)) fun t32=>aE mEv 17 [t32] (adv s12 8) fun t33 s13=>aA (aQ t33 0) fun t34=>aA (aQ t33 1) fun t35=>aA (zr 33) fun z6=>aA (bQ 6 (.ptr (s12.nx+5) 0) t34 (s13.set (s12.nx+5) (some (.cells z6.cells 33 true true)))) fun s14=>aA (ld 6 true (.ptr (s10.nx+5) 0) (adv s14 4)) fun t36=>aA (ld 6 true (.ptr (s12.nx+5) 0) (adv s14 4)) fun t37=>aE mEv 18 [t36,t37,(.bool true)] (adv s14 4) fun t38 s15=>Gd (aB t38 true) (adv s15 7) (fun k=>k t30 (adv s15 7)) fun t41 s16=>Gd (aB t38 true) s16 (fun k=>k t35 s16) fun t42 s17=>Gd (aB t38 true) s17 (fun k=>aA (bn .eql 34 t41 t42) fun v=>k v s17) fun t43 s18=>aA (aJ t38 t43 (.bool false)) fun t44=>Q t44 s18))
end
end Go.Proofs.YtdehdahimkcakaaGreatDoor
