/- Texts joined by wip/tools/pack.py: LTm,LDb,LSk. -/
import Derived.Test.YtdehdahimkcakaaGreatDoorXn
open Nat renaming reduceAdd→Z0, reduceEqDiff→Z1
set_option linter.unusedVariables false
set_option maxRecDepth 1000000
namespace Go.Proofs.YtdehdahimkcakaaGreatDoor
open Go Ai
noncomputable section
abbrev aYb:Code:=aN Tryz.f104
abbrev aXc:=rK Tryz.f104
abbrev bJh:=aL mEv 104 (mEv.kp 104)
def f104 (Q:aC) (t0:AV) (s:St):Prop:=(t0.cells.all AV.one=true /\
 aA (zr 101) fun z2=>aA (aD 2 (.ptr s.nx 0)) fun t3=>aA (ld 1 false t3 (adv (((adv s 2).set s.nx (some (.cells t0.cells 101 true true))).set (s.nx+1) (some (.cells z2.cells 101 true true))) 5)) fun t4=>aE mEv 152 [t4] (adv (((adv s 2).set s.nx (some (.cells t0.cells 101 true true))).set (s.nx+1) (some (.cells z2.cells 101 true true))) 5) fun t5 s1=>aA (aD 2 (.ptr s.nx 0)) fun t6=>aA (bQ 1 t6 t5 s1) fun s2=>aA (aD 4 (.ptr s.nx 0)) fun t7=>aA (aD 1 t7) fun t8=>aA (ld 1 false t8 (adv s2 7)) fun t9=>aE mEv 153 [t9] (adv s2 7) fun t10 s3=>aA (aD 4 (.ptr s.nx 0)) fun t11=>aA (aD 1 t11) fun t12=>aA (bQ 1 t12 t10 s3) fun s4=>aA (aD 6 (.ptr s.nx 0)) fun t13=>aA (ld 1 false t13 (adv s4 5)) fun t14=>aE mEv 154 [t14] (adv s4 5) fun t15 s5=>aA (aD 6 (.ptr s.nx 0)) fun t16=>aA (bQ 1 t16 t15 s5) fun s6=>aA (ld 7 true (.ptr s.nx 0) (adv s6 2)) fun t17=>aA (bQ 7 (.ptr (s.nx+1) 0) t17 (adv s6 2)) fun s7=>bT ((bW [ld 7 true (.ptr (s.nx+1) 0) s7]).map bY) fun v=>Q v s7)
theorem aKb (t0:AV) (s:St) {Q:aC} (h:f104 Q t0 s):eG 104 [t0] s Q:=aH (h:=104) (fn:=Tryz.f104) (c:=sub aYb []) (show bJh (sub aYb []) (aXc Q) aX (aXc Q)=_ from rfl) h
abbrev aUs:Code:=aN Tryz.f133
abbrev aUz:=rK Tryz.f133
abbrev bFx:=aL mEv 133 (mEv.kp 133)
def f133 (Q:aC) (t0 t1:AV) (s:St):Prop:=aY mEv 186 [t0,t1] (adv s 6) fun t7 s1=>aA (bn .geq 3 t7 (.int .i64 0)) fun t8=>Q t8 s1
theorem aKk (t0 t1:AV) (s:St) {Q:aC} (h:f133 Q t0 t1 s):eG 133 [t0,t1] s Q:=aH (h:=133) (fn:=Tryz.f133) (c:=sub aUs []) (show bFx (sub aUs []) (aUz Q) aX (aUz Q)=_ from rfl) h
abbrev KO:Code:=aN Tryz.f186
abbrev GW:=rK Tryz.f186
abbrev TE:=aL mEv 186 (mEv.kp 186)
def CT (Q:aC) (s:St):Prop:=Q (.int .i64 (-1)) (adv s 1)
def RW (Q:aC) (ih1:AV->AV->AV->aC) (t8 t0 t1 t7:AV) (s:St):Prop:=aA (bn .add 3 t8 (.int .i64 1)) fun t18=>ih1 t0 t1 t7 t18 (adv s 2)
def uL (Q:aC) (ih1:AV->AV->AV->aC) (t0 t1 t7 t8:AV) (s:St):Prop:=aA (bn .lss 3 t8 t7) fun t9=>aP t9
 (aA (cA 1 t0 t8) fun t14=>aA (ld 1 false t14 (adv s 9)) fun t15=>EH mEv 186 t1 [t15] (adv s 9) fun t16 s1=>aP t16
 (Q t8 (adv s1 2))
 (RW Q ih1 t8 t0 t1 t7 s1))
 (CT Q (adv s 1))
def qC (Q:aC) (n:Nat):AV->AV->AV->aC:=fY (fun _ _ _ _ _ =>False) (fun ih=>uL Q ih) n
theorem YC (Q:aC):TE (sub KO [Y,Y]) (GW Q) aX (GW Q)=(fun g s=>CT Q s):=Eq.trans rfl (by kernel_rfl)
theorem aAu (Q:aC) (n1:Nat):TE (sub KO [Y,N,Y,N,N,Y,Y,Y]) (mA (fun n g s=>qC Q n (g 0) (g 1) (g 7) (g 8) s) 186 n1) (cE 0 (fun g s=>CT Q s) aX) (GW Q)=(fun g s=>RW Q (qC Q n1) (g 8) (g 0) (g 1) (g 7) s):=Eq.trans rfl (by kernel_rfl)
theorem aBh (Q:aC) (kN:Kt):TE (sub KO [Y,N,Y,N]) kN (cE 0 (fun g s=>CT Q s) aX) (GW Q)=fun g s=>∃ n,qC Q n (g 0) (g 1) (g 7) (g 8) s:=jW (L:=fun n g s=>qC Q n (g 0) (g 1) (g 7) (g 8) s) (fun n1=>Eq.trans (aO (aO (aO (aAu Q n1) (dI 1 rfl)) rfl) rfl) (by kernel_rfl))
def f186 (Q:aC) (t0 t1:AV) (s:St):Prop:=aA (bt .len #[72] [t0] (s.nx+2) (adv s 4)) fun r7=>∃ n,qC Q n t0 t1 r7.1 (.int .i64 0) r7.2
theorem aLs (t0 t1:AV) (s:St) {Q:aC} (h:f186 Q t0 t1 s):eG 186 [t0,t1] s Q:=aH (h:=186) (fn:=Tryz.f186) (c:=sub KO []) (show TE (sub KO []) (GW Q) aX (GW Q)=_ from (aO (aO (YC Q) (aO (dI 0 (aBh Q _)) rfl)) rfl)) h
def bAi (Q:aC) (s:St):Prop:=Q (.int .i64 (-1)) (adv s 1)
def bAh (Q:aC) (ih1:AV->AV->AV->aC) (t8 t0 t1 t7:AV) (s:St):Prop:=aA (bn .add 3 t8 (.int .i64 1)) fun t18=>ih1 t0 t1 t7 t18 (adv s 2)
def aQo (Q:aC) (ih1:AV->AV->AV->aC) (t0 t1 t7 t8:AV) (s:St):Prop:=aA (bn .lss 3 t8 t7) fun t9=>aP t9
 (aA (cA 1 t0 t8) fun t14=>aA (ld 1 false t14 (adv s 9)) fun t15=>EH mEv 222 t1 [t15] (adv s 9) fun t16 s1=>aP t16
 (Q t8 (adv s1 2))
 (bAh Q ih1 t8 t0 t1 t7 s1))
 (bAi Q (adv s 1))
def bAq (Q:aC) (n:Nat):AV->AV->AV->aC:=fY (fun _ _ _ _ _ =>False) (fun ih=>aQo Q ih) n
def f222 (Q:aC) (t0 t1:AV) (s:St):Prop:=aA (bt .len #[52] [t0] (s.nx+2) (adv s 4)) fun r7=>∃ n,bAq Q n t0 t1 r7.1 (.int .i64 0) r7.2
def f193 (Q:aC) (t0 t1:AV) (s:St):Prop:=aY mEv 222 [t0,t1] (adv s 6) fun t7 s1=>aA (bn .geq 3 t7 (.int .i64 0)) fun t8=>Q t8 s1
abbrev bGv:Code:=aN Tryz.f31
abbrev bKi:=rK Tryz.f31
abbrev bMb:=aL mEv 31 (mEv.kp 31)
def f31 (Q:aC) (t0:AV) (s:St):Prop:=aA (bn .eql 51 t0 .nilp) fun t4=>aP t4
 (Q (.int .i64 0) (adv s 4))
 ((dE t0=true /\
 aA (aD 2 t0) fun t7=>aA (ld 1 false t7 (adv s 9)) fun t8=>aA (bt .len #[56] [t8] (s.nx+7) (adv s 9)) fun r9=>Q r9.1 r9.2))
theorem aSi (t0:AV) (s:St) {Q:aC} (h:f31 Q t0 s):eG 31 [t0] s Q:=aH (h:=31) (fn:=Tryz.f31) (c:=sub bGv []) (show bMb (sub bGv []) (bKi Q) aX (bKi Q)=_ from rfl) h
abbrev bGa:Code:=aN Tryz.f53
abbrev bJt:=rK Tryz.f53
abbrev bPm:=aL mEv 53 (mEv.kp 53)
def f53 (Q:aC) (t0 t1:AV) (s:St):Prop:=aA (zr 101) fun z4=>aA (bn .lss 3 t1 (.int .i64 0)) fun t7=>Gd (aB t7 false) (adv ((adv s 2).set s.nx (some (.cells z4.cells 101 true true))) 8) (fun k=>k t1 (adv ((adv s 2).set s.nx (some (.cells z4.cells 101 true true))) 8)) fun t9 s1=>Gd (aB t7 false) s1 (fun k=>k t0 s1) fun t10 s2=>Gd (aB t7 false) s2 (fun k=>aY mEv 31 [t10] s2 k) fun t11 s3=>Gd (aB t7 false) s3 (fun k=>aA (bn .geq 3 t9 t11) fun v=>k v s3) fun t12 s4=>aA (aJ t7 (.bool true) t12) fun t13=>aP t13
 (aA (eE 101 []) fun t14=>aA (bQ 7 (.ptr s.nx 0) t14 (adv s4 3)) fun s5=>bT ((bW [ld 7 true (.ptr s.nx 0) s5,some (.bool false)]).map bY) fun v=>Q v s5)
 ((dE t0=true /\
 aA (aD 2 t0) fun t17=>aA (ld 1 false t17 (adv s4 10)) fun t18=>aA (cA 7 t18 t1) fun t20=>aA (ld 7 true t20 (adv s4 10)) fun t21=>aE mEv 104 [t21] (adv s4 10) fun t22 s6=>aA (bQ 7 (.ptr s.nx 0) t22 s6) fun s7=>bT ((bW [ld 7 true (.ptr s.nx 0) s7,some (.bool true)]).map bY) fun v=>Q v s7))
theorem aRa (t0 t1:AV) (s:St) {Q:aC} (h:f53 Q t0 t1 s):eG 53 [t0,t1] s Q:=aH (h:=53) (fn:=Tryz.f53) (c:=sub bGa []) (show bPm (sub bGa []) (bJt Q) aX (bJt Q)=_ from rfl) h
abbrev aXi:Code:=aN Tryz.f184
abbrev aUv:=rK Tryz.f184
abbrev bJz:=aL mEv 184 (mEv.kp 184)
def f184 (Q:aC) (t0 t1:AV) (s:St):Prop:=aA (bn .eql 277 t0 .nilp) fun t9=>aP t9
 (Q (.tup [(.int .i64 0),(.bool false)]) (adv s 6))
 ((dE t0=true /\
 aA (aD 1 t0) fun t13=>aA (ld 1 false t13 (adv s 15)) fun t14=>aA (hJ Tryz.ty 53 t14 t1 true (adv s 15)) fun t16=>aA (aQ t16 0) fun t17=>aA (aQ t16 1) fun t18=>Q (.tup [t17,t18]) (adv s 19)))
theorem aGz (t0 t1:AV) (s:St) {Q:aC} (h:f184 Q t0 t1 s):eG 184 [t0,t1] s Q:=aH (h:=184) (fn:=Tryz.f184) (c:=sub aXi []) (show bJz (sub aXi []) (aUv Q) aX (aUv Q)=_ from rfl) h
abbrev aFh:Code:=aN Tryz.f185
abbrev VC:=rK Tryz.f185
abbrev aVe:=aL mEv 185 (mEv.kp 185)
def DK (Q:aC) (t0 t1:AV) (s:St):Prop:=(dE t0=true /\
 aA (aD 1 t0) fun t32=>aA (ld 1 false t32 (adv s 11)) fun t33=>(dE t0=true /\
 aA (aD 0 t0) fun t37=>aA (ld 1 false t37 (adv s 11)) fun t38=>aA (bt .len #[52] [t38] (s.nx+9) (adv s 11)) fun r39=>(r39.2.h (s.nx+10)=none/\aA (iC Tryz.ty 53 t33 t1 r39.1 r39.2) fun s1=>(dE t0=true /\
 aA (aD 0 t0) fun t43=>aA (ld 1 false t43 (adv s1 11)) fun t44=>aA (fZ 52 1 [(0,t1)]) fun t46=>aA (bt .append #[52,52] [t44,t46] (s1.nx+7) (adv s1 11)) fun r47=>(dE t0=true /\
 aA (aD 0 t0) fun t49=>aA (bQ 1 t49 r47.1 r47.2) fun s2=>(dE t0=true /\
 aA (aD 0 t0) fun t52=>aA (ld 1 false t52 (adv s2 8)) fun t53=>aA (bt .len #[52] [t53] (s2.nx+4) (adv s2 8)) fun r54=>aA (bn .sub 3 r54.1 (.int .i64 1)) fun t55=>Q (.tup [t55,(.bool true)]) r54.2))))))
theorem aCc (Q:aC):aVe (sub aFh [Y,Y,Y,Y]) (VC Q) aX (VC Q)=(fun g s=>DK Q (g 0) (g 1) s):=Eq.trans rfl (by kernel_rfl)
def f185 (Q:aC) (t0 t1:AV) (s:St):Prop:=aA (bn .eql 277 t0 .nilp) fun t9=>aP t9
 (Q (.tup [(.int .i64 (-1)),(.bool false)]) (adv s 6))
 ((dE t0=true /\
 aA (aD 1 t0) fun t13=>aA (ld 1 false t13 (adv s 15)) fun t14=>aA (hJ Tryz.ty 53 t14 t1 true (adv s 15)) fun t16=>aA (aQ t16 0) fun t17=>aA (aQ t16 1) fun t18=>aP t18
 (Q (.tup [t17,(.bool false)]) (adv s 19))
 ((dE t0=true /\
 aA (aD 1 t0) fun t23=>aA (ld 1 false t23 (adv s 21)) fun t24=>aA (bn .eql 53 t24 .nilm) fun t25=>aP t25
 ((dE t0=true /\
 aA (aD 1 t0) fun t29=>aA (bQ 1 t29 (.map (s.nx+22)) ((adv s 26).set (s.nx+22) (some (.map [])))) fun s1=>DK Q t0 t1 s1))
 (DK Q t0 t1 (adv s 21))))))
theorem aIh (t0 t1:AV) (s:St) {Q:aC} (h:f185 Q t0 t1 s):eG 185 [t0,t1] s Q:=aH (h:=185) (fn:=Tryz.f185) (c:=sub aFh []) (show aVe (sub aFh []) (VC Q) aX (VC Q)=_ from (aO (aO (aO (aO (aCc Q) rfl) rfl) rfl) rfl)) h
abbrev zM:Code:=aN Tryz.f183
abbrev sF:=rK Tryz.f183
abbrev CY:=aL mEv 183 (mEv.kp 183)
def xZ (Q:aC) (t3 t1:AV) (s:St):Prop:=gZ mEv 108 [t3] (rch (adv s 6) [(.fn 108 [] []),t3]) (adv s 6) fun t53 s1=>aA (bn .add 9 t53 (.str [61])) fun t54=>aA (aD 3 t1) fun t55=>(clear 4 ⟨3,false,aS t55,none⟩ [⟨2,false,[],none⟩,⟨1,false,[],none⟩,⟨0,true,rch (adv s 6) [(.fn 108 [] []),t3],some (adv s 6).nx⟩]=true/\aA (ld 1 false t55 s1) fun t56=>aA (bn .add 9 t54 t56) fun t57=>Q t57 s1)
def QT (Q:aC) (ih1:AV->AV->AV->AV->aC) (t38 t1 t3 t36 t37:AV) (s:St):Prop:=aA (bn .add 3 t38 (.int .i64 1)) fun t52=>ih1 t1 t3 t36 t37 t52 (adv s 2)
def uG (Q:aC) (ih1:AV->AV->AV->AV->aC) (t1 t3 t36 t37 t38:AV) (s:St):Prop:=aA (bn .lss 3 t38 t37) fun t39=>aP t39
 (aA (cA 2 t36 t38) fun t40=>aA (ld 2 true t40 (adv s 5)) fun t41=>aA (zr 109) fun z7=>aA (bQ 2 (.ptr (s.nx+3) 0) t41 ((adv s 5).set (s.nx+3) (some (.cells z7.cells 109 true true)))) fun s1=>aA (aD 0 (.ptr (s.nx+3) 0)) fun t42=>aA (ld 1 false t42 (adv s1 10)) fun t43=>dW mEv 206 [t43] (rch (adv s1 10) [(.fn 206 [] []),t43]) (adv s1 10) fun t44 s2=>aA (bn .add 9 (.str [32]) t44) fun t45=>aA (bn .add 9 t45 (.str [42])) fun t46=>aA (aD 1 (.ptr (s.nx+3) 0)) fun t47=>aA (ld 1 false t47 s2) fun t48=>dW mEv 206 [t48] (rch s2 [(.fn 206 [] []),t48]) s2 fun t49 s3=>aA (bn .add 9 t46 t49) fun t50=>gZ mEv 156 [t3,t50] (rch s3 [(.fn 156 [] []),t3,t50]) s3 fun t51 s4=>QT Q ih1 t38 t1 t3 t36 t37 s4)
 (xZ Q t3 t1 (adv s 1))
def qS (Q:aC) (n:Nat):AV->AV->AV->AV->aC:=fY (fun _ _ _ _ _ _ =>False) (fun ih=>uG Q ih) n
def xY (Q:aC) (t1 t3:AV) (s:St):Prop:=aA (aD 4 t1) fun t29=>aA (aD 1 t29) fun t30=>aA (ld 1 false t30 (adv s 6)) fun t31=>aE mEv 59 [t31] (adv s 6) fun t32 s1=>aA (bn .add 9 (.str [35]) t32) fun t33=>aY mEv 156 [t3,t33] s1 fun t34 s2=>aA (aD 6 t1) fun t35=>aA (ld 1 false t35 (adv s2 4)) fun t36=>aA (bt .len #[25] [t36] (s2.nx+2) (adv s2 4)) fun r37=>∃ n,qS Q n t1 t3 t36 r37.1 (.int .i64 0) r37.2
def SG (Q:aC) (ih2:AV->AV->AV->AV->aC) (t20 t1 t3 t18 t19:AV) (s:St):Prop:=aA (bn .add 3 t20 (.int .i64 1)) fun t28=>ih2 t1 t3 t18 t19 t28 (adv s 2)
def vP (Q:aC) (ih2:AV->AV->AV->AV->aC) (t1 t3 t18 t19 t20:AV) (s:St):Prop:=aA (bn .lss 3 t20 t19) fun t21=>aP t21
 (aA (cA 1 t18 t20) fun t22=>aA (ld 1 false t22 (adv s 4)) fun t23=>aE mEv 206 [t23] (adv s 8) fun t25 s1=>aA (bn .add 9 (.str [32]) t25) fun t26=>aY mEv 156 [t3,t26] s1 fun t27 s2=>SG Q ih2 t20 t1 t3 t18 t19 s2)
 (xY Q t1 t3 (adv s 1))
def qW (Q:aC) (n:Nat):AV->AV->AV->AV->aC:=fY (fun _ _ _ _ _ _ =>False) (fun ih=>vP Q ih) n
theorem ZV (Q:aC):CY (sub zM [Y,Y,Y,Y,Y,Y]) (sF Q) aX (sF Q)=(fun g s=>xZ Q (g 3) (g 1) s):=Eq.trans rfl (by kernel_rfl)
theorem ZR (Q:aC) (n1:Nat):CY (sub zM [Y,Y,Y,Y,Y,N,Y,N,N,Y,Y,Y]) (mA (fun n g s=>qS Q n (g 1) (g 3) (g 36) (g 37) (g 38) s) 183 n1) (cE 2 (fun g s=>xZ Q (g 3) (g 1) s) aX) (sF Q)=(fun g s=>QT Q (qS Q n1) (g 38) (g 1) (g 3) (g 36) (g 37) s):=Eq.trans rfl (by kernel_rfl)
theorem ZO (Q:aC) (kN:Kt):CY (sub zM [Y,Y,Y,Y,Y,N,Y,N]) kN (cE 2 (fun g s=>xZ Q (g 3) (g 1) s) aX) (sF Q)=fun g s=>∃ n,qS Q n (g 1) (g 3) (g 36) (g 37) (g 38) s:=jW (L:=fun n g s=>qS Q n (g 1) (g 3) (g 36) (g 37) (g 38) s) (fun n1=>Eq.trans (aO (aO (aO (ZR Q n1) (dI 3 rfl)) rfl) rfl) (by kernel_rfl))
theorem YX (Q:aC):CY (sub zM [Y,Y,Y,Y]) (sF Q) aX (sF Q)=(fun g s=>xY Q (g 1) (g 3) s):=Eq.trans (aO (aO (ZV Q) (aO (dI 2 (ZO Q _)) rfl)) rfl) (by kernel_rfl)
theorem aBy (Q:aC) (n2:Nat):CY (sub zM [Y,Y,Y,N,Y,N,N,Y,Y,Y]) (mA (fun n g s=>qW Q n (g 1) (g 3) (g 18) (g 19) (g 20) s) 183 n2) (cE 0 (fun g s=>xY Q (g 1) (g 3) s) aX) (sF Q)=(fun g s=>SG Q (qW Q n2) (g 20) (g 1) (g 3) (g 18) (g 19) s):=Eq.trans rfl (by kernel_rfl)
theorem ZW (Q:aC) (kN:Kt):CY (sub zM [Y,Y,Y,N,Y,N]) kN (cE 0 (fun g s=>xY Q (g 1) (g 3) s) aX) (sF Q)=fun g s=>∃ n,qW Q n (g 1) (g 3) (g 18) (g 19) (g 20) s:=jW (L:=fun n g s=>qW Q n (g 1) (g 3) (g 18) (g 19) (g 20) s) (fun n2=>Eq.trans (aO (aO (aO (aBy Q n2) (dI 1 rfl)) rfl) rfl) (by kernel_rfl))
def f183 (Q:aC) (t0:AV) (s:St):Prop:=(t0.cells.all AV.one=true /\
 aA (zr 163) fun z3=>aA (aD 0 (.ptr s.nx 0)) fun t8=>aA (ld 1 false t8 (adv ((adv ((adv s 2).set s.nx (some (.cells t0.cells 101 true true))) 1).set ((adv s 2).set s.nx (some (.cells t0.cells 101 true true))).nx (some (.cells z3.cells 163 true true))) 9)) fun t9=>dW mEv 206 [t9] (rch (adv ((adv ((adv s 2).set s.nx (some (.cells t0.cells 101 true true))) 1).set ((adv s 2).set s.nx (some (.cells t0.cells 101 true true))).nx (some (.cells z3.cells 163 true true))) 9) [(.fn 206 [] []),t9]) (adv ((adv ((adv s 2).set s.nx (some (.cells t0.cells 101 true true))) 1).set ((adv s 2).set s.nx (some (.cells t0.cells 101 true true))).nx (some (.cells z3.cells 163 true true))) 9) fun t10 s1=>aA (bn .add 9 t10 (.str [58])) fun t11=>aA (aD 1 (.ptr s.nx 0)) fun t12=>aA (ld 1 false t12 s1) fun t13=>dW mEv 206 [t13] (rch s1 [(.fn 206 [] []),t13]) s1 fun t14 s2=>aA (bn .add 9 t11 t14) fun t15=>gZ mEv 156 [(.ptr ((adv s 2).set s.nx (some (.cells t0.cells 101 true true))).nx 0),t15] (rch s2 [(.fn 156 [] []),(.ptr ((adv s 2).set s.nx (some (.cells t0.cells 101 true true))).nx 0),t15]) s2 fun t16 s3=>aA (aD 2 (.ptr s.nx 0)) fun t17=>aA (ld 1 false t17 (adv s3 4)) fun t18=>aA (bt .len #[72] [t18] (s3.nx+2) (adv s3 4)) fun r19=>∃ n,qW Q n (.ptr s.nx 0) (.ptr ((adv s 2).set s.nx (some (.cells t0.cells 101 true true))).nx 0) t18 r19.1 (.int .i64 0) r19.2)
theorem aOl (t0:AV) (s:St) {Q:aC} (h:f183 Q t0 s):eG 183 [t0] s Q:=aH (h:=183) (fn:=Tryz.f183) (c:=sub zM []) (show CY (sub zM []) (sF Q) aX (sF Q)=_ from (aO (aO (aO (aO (YX Q) (aO (dI 0 (ZW Q _)) rfl)) rfl) rfl) rfl)) h
abbrev aWo:Code:=aN Tryz.f131
abbrev aWs:=rK Tryz.f131
abbrev bEg:=aL mEv 131 (mEv.kp 131)
def f131 (Q:aC) (t0 t1:AV) (s:St):Prop:=(t1.cells.all AV.one=true /\
 aA (bn .eql 51 t0 .nilp) fun t12=>aP t12
 (Q (.tup [(.int .i64 0),(.int .i64 1)]) (adv ((adv s 3).set s.nx (some (.cells t1.cells 101 true true))) 4))
 (aA (ld 7 true (.ptr s.nx 0) (adv ((adv s 3).set s.nx (some (.cells t1.cells 101 true true))) 5)) fun t13=>aE mEv 183 [t13] (adv ((adv s 3).set s.nx (some (.cells t1.cells 101 true true))) 5) fun t14 s1=>(dE t0=true /\
 aA (aD 0 t0) fun t18=>aY mEv 184 [t18,t14] (adv s1 10) fun t20 s2=>aA (aQ t20 0) fun t21=>aA (aQ t20 1) fun t22=>aP t22
 (Q (.tup [t21,(.int .i64 0)]) (adv s2 4))
 ((dE t0=true /\
 aA (aD 2 t0) fun t27=>aA (ld 1 false t27 (adv s2 7)) fun t28=>aA (bt .len #[56] [t28] (s2.nx+5) (adv s2 7)) fun r29=>aA (bn .eql 3 r29.1 (.int .i64 20000)) fun t30=>aP t30
 (Q (.tup [(.int .i64 0),(.int .i64 2)]) (adv r29.2 2))
 ((dE t0=true /\
 aA (aD 0 t0) fun t34=>aY mEv 185 [t34,t14] (adv r29.2 10) fun t36 s3=>aA (aQ t36 0) fun t37=>aA (aQ t36 1) fun t38=>(dE t0=true /\
 aA (aD 2 t0) fun t42=>aA (ld 1 false t42 (adv s3 12)) fun t43=>aA (ld 7 true (.ptr s.nx 0) (adv s3 12)) fun t44=>dW mEv 104 [t44] (rch (adv s3 12) [(.fn 104 [] []),t44]) (adv s3 12) fun t45 s4=>aA (fZ 56 1 [(0,t45)]) fun t46=>(s4.h (s3.nx+8)=none/\aA (bt .append #[56,56] [t43,t46] (s3.nx+8) s4) fun r47=>(dE t0=true /\
 aA (aD 2 t0) fun t49=>(r47.2.h (s3.nx+11)=none/\aA (bQ 1 t49 r47.1 r47.2) fun s5=>Q (.tup [t37,(.int .i64 0)]) (adv s5 3))))))))))))
theorem aHt (t0 t1:AV) (s:St) {Q:aC} (h:f131 Q t0 t1 s):eG 131 [t0,t1] s Q:=aH (h:=131) (fn:=Tryz.f131) (c:=sub aWo []) (show bEg (sub aWo []) (aWs Q) aX (aWs Q)=_ from rfl) h
abbrev bId:Code:=aN Tryz.f77
abbrev bEh:=rK Tryz.f77
abbrev bOi:=aL mEv 77 (mEv.kp 77)
def f77 (Q:aC) (t0 t1 t2:AV) (s:St):Prop:=aA (bn .lss 3 t2 (.int .i64 1)) fun t9=>Gd (aB t9 false) (adv s 13) (fun k=>k t2 (adv s 13)) fun t11 s1=>Gd (aB t9 false) s1 (fun k=>aA (bn .gtr 3 t11 (.int .i64 3)) fun v=>k v s1) fun t12 s2=>aA (aJ t9 (.bool true) t12) fun t13=>Gd (aB t13 false) s2 (fun k=>k t1 s2) fun t15 s3=>Gd (aB t13 false) s3 (fun k=>aA (bt .len #[9] [t15] (s.nx+10) s3) fun r=>k r.1 r.2) fun t16 s4=>Gd (aB t13 false) s4 (fun k=>aA (bn .gtr 3 t16 (.int .i64 16384)) fun v=>k v s4) fun t17 s5=>aA (aJ t13 (.bool true) t17) fun t18=>aP t18
 (Q (.tup [(.int .i64 0),(.int .i64 1)]) (adv s5 2))
 (aA (eE 101 [(0,(.int .i64 1)),(1,t2),(3,t1)]) fun t22=>aY mEv 131 [t0,t22] (adv s5 9) fun t23 s6=>aA (aQ t23 0) fun t24=>aA (aQ t23 1) fun t25=>Q (.tup [t24,t25]) s6)
theorem aOy (t0 t1 t2:AV) (s:St) {Q:aC} (h:f77 Q t0 t1 t2 s):eG 77 [t0,t1,t2] s Q:=aH (h:=77) (fn:=Tryz.f77) (c:=sub bId []) (show bOi (sub bId []) (bEh Q) aX (bEh Q)=_ from rfl) h
abbrev bIf:Code:=aN Tryz.f78
abbrev bEc:=rK Tryz.f78
abbrev bMy:=aL mEv 78 (mEv.kp 78)
def f78 (Q:aC) (t0 t1:AV) (s:St):Prop:=aP t1
 (aA (eE 101 [(0,(.int .i64 2)),(1,(.int .i64 1))]) fun t8=>aY mEv 131 [t0,t8] (adv s 10) fun t9 s1=>aA (aQ t9 0) fun t10=>aA (aQ t9 1) fun t11=>Q (.tup [t10,t11]) s1)
 (aA (eE 101 [(0,(.int .i64 3)),(1,(.int .i64 1))]) fun t13=>aY mEv 131 [t0,t13] (adv s 10) fun t14 s2=>aA (aQ t14 0) fun t15=>aA (aQ t14 1) fun t16=>Q (.tup [t15,t16]) s2)
theorem aRd (t0 t1:AV) (s:St) {Q:aC} (h:f78 Q t0 t1 s):eG 78 [t0,t1] s Q:=aH (h:=78) (fn:=Tryz.f78) (c:=sub bIf []) (show bMy (sub bIf []) (bEc Q) aX (bEc Q)=_ from rfl) h
abbrev bLn:Code:=aN Tryz.f79
abbrev bHh:=rK Tryz.f79
abbrev bMp:=aL mEv 79 (mEv.kp 79)
def f79 (Q:aC) (t0 t1:AV) (s:St):Prop:=(t1.cells.all AV.one=true /\
 aA (ld 2 true (.ptr s.nx 0) (adv ((adv s 3).set s.nx (some (.cells t1.cells 24 true true))) 3)) fun t6=>aE mEv 20 [t6] (adv ((adv s 3).set s.nx (some (.cells t1.cells 24 true true))) 3) fun t7 s1=>aA (bn .lss 3 t7 (.int .i64 0)) fun t8=>aP t8
 (Q (.tup [(.int .i64 0),(.int .i64 1)]) (adv s1 2))
 (aA (ld 2 true (.ptr s.nx 0) (adv s1 9)) fun t10=>aE mEv 69 [t10] (adv s1 9) fun t11 s2=>aA (eE 101 [(0,(.int .i64 4)),(1,(.int .i64 2)),(4,t11)]) fun t12=>aY mEv 131 [t0,t12] s2 fun t13 s3=>aA (aQ t13 0) fun t14=>aA (aQ t13 1) fun t15=>Q (.tup [t14,t15]) s3))
theorem aQf (t0 t1:AV) (s:St) {Q:aC} (h:f79 Q t0 t1 s):eG 79 [t0,t1] s Q:=aH (h:=79) (fn:=Tryz.f79) (c:=sub bLn []) (show bMp (sub bLn []) (bHh Q) aX (bHh Q)=_ from rfl) h
abbrev bLf:Code:=aN Tryz.f80
abbrev bIx:=rK Tryz.f80
abbrev bPv:=aL mEv 80 (mEv.kp 80)
def f80 (Q:aC) (t0 t1:AV) (s:St):Prop:=aE mEv 60 [t1] (adv s 5) fun t7 s1=>aA (un .not t7) fun t8=>aP t8
 (Q (.tup [(.int .i64 0),(.int .i64 1)]) (adv s1 2))
 (aA (eE 101 [(0,(.int .i64 5)),(1,(.int .i64 3)),(5,t1)]) fun t11=>aY mEv 131 [t0,t11] (adv s1 8) fun t12 s2=>aA (aQ t12 0) fun t13=>aA (aQ t12 1) fun t14=>Q (.tup [t13,t14]) s2)
theorem aPx (t0 t1:AV) (s:St) {Q:aC} (h:f80 Q t0 t1 s):eG 80 [t0,t1] s Q:=aH (h:=80) (fn:=Tryz.f80) (c:=sub bLf []) (show bPv (sub bLf []) (bIx Q) aX (bIx Q)=_ from rfl) h
abbrev aXs:Code:=aN Tryz.f187
abbrev aUr:=rK Tryz.f187
abbrev bLj:=aL mEv 187 (mEv.kp 187)
def f187 (Q:aC) (t0 t1:AV) (s:St):Prop:=(dE t0=true /\
 aA (aD 2 t0) fun t8=>aA (ld 1 false t8 (adv s 10)) fun t9=>aA (cA 7 t9 t1) fun t11=>aA (ld 7 true t11 (adv s 10)) fun t12=>aA (zr 101) fun z5=>aA (bQ 7 (.ptr (s.nx+8) 0) t12 ((adv s 10).set (s.nx+8) (some (.cells z5.cells 101 true true)))) fun s1=>aA (aD 0 (.ptr (s.nx+8) 0)) fun t13=>aA (ld 1 false t13 (adv s1 23)) fun t14=>aA (bn .eql 3 t14 (.int .i64 4)) fun t15=>Gd (aB t15 false) (adv s1 23) (fun k=>aA (aD 0 (.ptr (s.nx+8) 0)) fun v=>k v (adv s1 23)) fun t17 s2=>Gd (aB t15 false) s2 (fun k=>aA (ld 1 false t17 s2) fun v=>k v s2) fun t18 s3=>Gd (aB t15 false) s3 (fun k=>aA (bn .eql 3 t18 (.int .i64 14)) fun v=>k v s3) fun t19 s4=>Gd (aB t15 false) s4 (fun k=>k t19 s4) fun t20 s5=>Gd (aB t20 true) s5 (fun k=>k t0 s5) fun t21 s6=>Gd (aB t20 true) s6 (fun k=>dE t21=true/\k t21 s6) fun t22 s7=>Gd (aB t20 true) s7 (fun k=>aA (aD 2 t22) fun v=>k v s7) fun t23 s8=>Gd (aB t20 true) s8 (fun k=>aA (ld 1 false t23 s8) fun v=>k v s8) fun t24 s9=>Gd (aB t20 true) s9 (fun k=>aA (aD 2 (.ptr (s.nx+8) 0)) fun v=>k v s9) fun t25 s10=>Gd (aB t20 true) s10 (fun k=>aA (ld 1 false t25 s10) fun v=>k v s10) fun t26 s11=>Gd (aB t20 true) s11 (fun k=>aA (cA 1 t26 (.int .i64 0)) fun v=>k v s11) fun t27 s12=>Gd (aB t20 true) s12 (fun k=>aA (ld 1 false t27 s12) fun v=>k v s12) fun t28 s13=>Gd (aB t20 true) s13 (fun k=>aA (cA 7 t24 t28) fun v=>k v s13) fun t29 s14=>Gd (aB t20 true) s14 (fun k=>aA (aD 0 t29) fun v=>k v s14) fun t30 s15 =>
 Gd (aB t20 true) s15 (fun k=>aA (ld 1 false t30 s15) fun v=>k v s15) fun t31 s16=>Gd (aB t20 true) s16 (fun k=>aA (bn .eql 3 t31 (.int .i64 4)) fun v=>k v s16) fun t32 s17=>Gd (aB t15 false) s17 (fun k=>aA (aJ t20 t32 (.bool false)) fun v=>k v s17) fun t33 s18=>aA (aJ t15 (.bool true) t33) fun t34=>Q t34 s18)
theorem aIu (t0 t1:AV) (s:St) {Q:aC} (h:f187 Q t0 t1 s):eG 187 [t0,t1] s Q:=aH (h:=187) (fn:=Tryz.f187) (c:=sub aXs []) (show bLj (sub aXs []) (aUr Q) aX (aUr Q)=_ from rfl) h
abbrev KD:Code:=aN Tryz.f135
abbrev HI:=rK Tryz.f135
abbrev TR:=aL mEv 135 (mEv.kp 135)
def CW (Q:aC) (t5:AV) (s:St):Prop:=aA (bn .leq 3 t5 (.int .i64 1)) fun t22=>Q t22 (adv s 3)
def DC (Q:aC) (ih1:AV->AV->AV->AV->aC) (t10 t0 t5 t8 t9:AV) (s:St):Prop:=aA (bn .add 3 t10 (.int .i64 1)) fun t20=>ih1 t0 t5 t8 t9 t20 (adv s 2)
def uX (Q:aC) (ih1:AV->AV->AV->AV->aC) (t0 t5 t8 t9 t10:AV) (s:St):Prop:=aA (bn .lss 3 t10 t9) fun t11=>aP t11
 (aA (cA 1 t8 t10) fun t12=>aA (ld 1 false t12 (adv s 4)) fun t13=>aY mEv 187 [t0,t13] (adv s 8) fun t16 s1=>aA (un .not t16) fun t17=>aP t17
 (aA (bn .add 3 t5 (.int .i64 1)) fun t19=>DC Q ih1 t10 t0 t19 t8 t9 (adv s1 3))
 (DC Q ih1 t10 t0 t5 t8 t9 s1))
 (CW Q t5 (adv s 1))
def qI (Q:aC) (n:Nat):AV->AV->AV->AV->aC:=fY (fun _ _ _ _ _ _ =>False) (fun ih=>uX Q ih) n
theorem ZJ (Q:aC):TR (sub KD [Y,Y,Y]) (HI Q) aX (HI Q)=(fun g s=>CW Q (g 5) s):=Eq.trans rfl (by kernel_rfl)
theorem YY (Q:aC) (n1:Nat):TR (sub KD [Y,Y,N,Y,N,N,Y,Y,Y]) (mA (fun n g s=>qI Q n (g 0) (g 5) (g 8) (g 9) (g 10) s) 135 n1) (cE 0 (fun g s=>CW Q (g 5) s) aX) (HI Q)=(fun g s=>DC Q (qI Q n1) (g 10) (g 0) (g 5) (g 8) (g 9) s):=Eq.trans rfl (by kernel_rfl)
theorem YJ (Q:aC) (kN:Kt):TR (sub KD [Y,Y,N,Y,N]) kN (cE 0 (fun g s=>CW Q (g 5) s) aX) (HI Q)=fun g s=>∃ n,qI Q n (g 0) (g 5) (g 8) (g 9) (g 10) s:=jW (L:=fun n g s=>qI Q n (g 0) (g 5) (g 8) (g 9) (g 10) s) (fun n1=>Eq.trans (aO (aO (aO (YY Q n1) (dI 1 rfl)) rfl) rfl) (by kernel_rfl))
def f135 (Q:aC) (t0 t1:AV) (s:St):Prop:=aA (bt .len #[72] [t1] (s.nx+3) (adv s 5)) fun r9=>∃ n,qI Q n t0 (.int .i64 0) t1 r9.1 (.int .i64 0) r9.2
theorem aIm (t0 t1:AV) (s:St) {Q:aC} (h:f135 Q t0 t1 s):eG 135 [t0,t1] s Q:=aH (h:=135) (fn:=Tryz.f135) (c:=sub KD []) (show TR (sub KD []) (HI Q) aX (HI Q)=_ from (aO (aO (aO (ZJ Q) (aO (dI 0 (YJ Q _)) rfl)) rfl) rfl)) h
abbrev GO:Code:=aN Tryz.f134
abbrev BF:=rK Tryz.f134
abbrev LU:=aL mEv 134 (mEv.kp 134)
def xD (Q:aC) (t4 t7:AV) (s:St):Prop:=aA (aD 5 t4) fun t44=>aA (ld 1 false t44 (adv s 3)) fun t45=>aA (bn .eql 3 t45 (.int .i64 (-1))) fun t46=>aP t46
 (Q t7 (adv s 5))
 (aA (aD 5 t4) fun t48=>aA (ld 1 false t48 (adv s 6)) fun t49=>Q t49 (adv s 6))
def wQ (Q:aC) (ih1:AV->AV->AV->AV->AV->aC) (t14 t0 t4 t7 t12 t13:AV) (s:St):Prop:=aA (bn .add 3 t14 (.int .i64 1)) fun t43=>ih1 t0 t4 t7 t12 t13 t43 (adv s 2)
def EU (Q:aC) (ih1:AV->AV->AV->AV->AV->aC) (t10 t11 t14 t0 t4 t12 t13:AV) (s:St):Prop:=aA (bn .neq 3 t10 (.int .i64 (-2))) fun t36=>Gd (aB t36 true) (adv s 7) (fun k=>k t10 (adv s 7)) fun t38 s1=>Gd (aB t36 true) s1 (fun k=>k t11 s1) fun t39 s2=>Gd (aB t36 true) s2 (fun k=>aA (bn .neq 3 t38 t39) fun v=>k v s2) fun t40 s3=>aA (aJ t36 t40 (.bool false)) fun t41=>aP t41
 (Q (.int .i64 0) (adv s3 1))
 (wQ Q ih1 t14 t0 t4 t11 t12 t13 (adv s3 2))
def wF (Q:aC) (ih1:AV->AV->AV->AV->AV->aC) (t0 t4 t7 t12 t13 t14:AV) (s:St):Prop:=aA (bn .lss 3 t14 t13) fun t15=>aP t15
 (aA (cA 1 t12 t14) fun t17=>aA (ld 1 false t17 (adv s 6)) fun t18=>aA (bt .min #[3,3] [t14,(.int .i64 2)] (s.nx+7) (adv s 21)) fun r20=>aA (aD 2 t4) fun t21=>aA (FD 3 1 t21 r20.1) fun t22=>aA (ld 1 false t22 r20.2) fun t23=>(dE t0=true /\
 aA (aD 2 t0) fun t26=>aA (ld 1 false t26 r20.2) fun t27=>aA (cA 7 t27 t18) fun t29=>aA (aD 1 t29) fun t30=>aA (ld 1 false t30 r20.2) fun t31=>aA (bn .eql 3 t23 (.int .i64 (-1))) fun t33=>aP t33
 (EU Q ih1 t7 t31 t14 t0 t4 t12 t13 (adv r20.2 4))
 (EU Q ih1 t23 t31 t14 t0 t4 t12 t13 (adv r20.2 2))))
 (xD Q t4 t7 (adv s 1))
def kB (Q:aC) (n:Nat):AV->AV->AV->AV->AV->aC:=fY (fun _ _ _ _ _ _ _ =>False) (fun ih=>wF Q ih) n
theorem ZN (Q:aC):LU (sub GO [Y,Y,Y]) (BF Q) aX (BF Q)=(fun g s=>xD Q (g 4) (g 7) s):=Eq.trans rfl (by kernel_rfl)
theorem aCo (Q:aC) (n1:Nat):LU (sub GO [Y,Y,N,Y,N,N,Y,Y,Y]) (mA (fun n g s=>kB Q n (g 0) (g 4) (g 7) (g 12) (g 13) (g 14) s) 134 n1) (cE 0 (fun g s=>xD Q (g 4) (g 7) s) aX) (BF Q)=(fun g s=>wQ Q (kB Q n1) (g 14) (g 0) (g 4) (g 7) (g 12) (g 13) s):=Eq.trans rfl (by kernel_rfl)
theorem aCf (Q:aC) (n1:Nat):LU (sub GO [Y,Y,N,Y,N,N,Y,Y,N,N,Y,Y,Y]) (fun g s=>wQ Q (kB Q n1) (g 14) (g 0) (g 4) (g 7) (g 12) (g 13) s) (cE 1 (fun g s=>wQ Q (kB Q n1) (g 14) (g 0) (g 4) (g 7) (g 12) (g 13) s) (cE 0 (fun g s=>xD Q (g 4) (g 7) s) aX)) (BF Q)=(fun g s=>EU Q (kB Q n1) (g 10) (g 11) (g 14) (g 0) (g 4) (g 12) (g 13) s):=Eq.trans rfl (by kernel_rfl)
theorem aAk (Q:aC) (kN:Kt):LU (sub GO [Y,Y,N,Y,N]) kN (cE 0 (fun g s=>xD Q (g 4) (g 7) s) aX) (BF Q)=fun g s=>∃ n,kB Q n (g 0) (g 4) (g 7) (g 12) (g 13) (g 14) s:=jW (L:=fun n g s=>kB Q n (g 0) (g 4) (g 7) (g 12) (g 13) (g 14) s) (fun n1=>Eq.trans (aO (aO (aO (aCo Q n1) (dI 1 (aO (aO (aO (aCf Q n1) rfl) rfl) rfl))) rfl) rfl) (by kernel_rfl))
def f134 (Q:aC) (t0 t1 t2:AV) (s:St):Prop:=(t1.cells.all AV.one=true /\
 aA (bt .len #[72] [t2] (((adv s 2).set s.nx (some (.cells t1.cells 192 true true))).nx+2) (adv ((adv s 2).set s.nx (some (.cells t1.cells 192 true true))) 4)) fun r13=>∃ n,kB Q n t0 (.ptr s.nx 0) (.int .i64 0) t2 r13.1 (.int .i64 0) r13.2)
theorem aHj (t0 t1 t2:AV) (s:St) {Q:aC} (h:f134 Q t0 t1 t2 s):eG 134 [t0,t1,t2] s Q:=aH (h:=134) (fn:=Tryz.f134) (c:=sub GO []) (show LU (sub GO []) (BF Q) aX (BF Q)=_ from (aO (aO (aO (ZN Q) (aO (dI 0 (aAk Q _)) rfl)) rfl) rfl)) h
abbrev aUl:Code:=aN Tryz.f132
abbrev aVb:=rK Tryz.f132
abbrev bKz:=aL mEv 132 (mEv.kp 132)
def f132 (Q:aC) (t0 t1:AV) (s:St):Prop:=aA (bn .lss 3 t0 (.int .i64 0)) fun t5=>Gd (aB t5 false) (adv s 10) (fun k=>k t0 (adv s 10)) fun t7 s1=>Gd (aB t5 false) s1 (fun k=>aA (ld 1 false t1 s1) fun v=>k v s1) fun t8 s2=>Gd (aB t5 false) s2 (fun k=>aY mEv 31 [t8] s2 k) fun t9 s3=>Gd (aB t5 false) s3 (fun k=>aA (bn .geq 3 t7 t9) fun v=>k v s3) fun t10 s4=>aA (aJ t5 (.bool true) t10) fun t11=>Q t11 s4
theorem aHu (t0 t1:AV) (s:St) {Q:aC} (h:f132 Q t0 t1 s):eG 132 [t0,t1] s Q:=aH (h:=132) (fn:=Tryz.f132) (c:=sub aUl []) (show bKz (sub aUl []) (aVb Q) aX (aVb Q)=_ from rfl) h
abbrev bCv:Code:=aN Tryz.f81
abbrev aPl:=rK Tryz.f81
abbrev bGj:=aL mEv 81 (mEv.kp 81)
def UN (Q:aC) (t3 t1 t10 t2:AV) (s:St):Prop:=aA (ld 1 false t3 (adv s 10)) fun t71=>aA (eE 101 [(0,t1),(1,t10),(2,t2)]) fun t75=>aY mEv 131 [t71,t75] (adv s 10) fun t76 s1=>aA (aQ t76 0) fun t77=>aA (aQ t76 1) fun t78=>Q (.tup [t77,t78]) s1
theorem aOm (Q:aC):bGj (sub bCv [Y,Y,Y,Y,Y,Y,Y]) (aPl Q) aX (aPl Q)=(fun g s=>UN Q (g 3) (g 1) (g 10) (g 2) s):=Eq.trans rfl (by kernel_rfl)
def f81 (Q:aC) (t0 t1 t2:AV) (s:St):Prop:=(t0.cells.all AV.one=true /\
 aA (bn .lss 3 t1 (.int .i64 0)) fun t12=>Gd (aB t12 false) (adv ((adv s 3).set s.nx (some (.cells t0.cells 51 true true))) 13) (fun k=>k t1 (adv ((adv s 3).set s.nx (some (.cells t0.cells 51 true true))) 13)) fun t14 s1=>Gd (aB t12 false) s1 (fun k=>aA (bn .geq 3 t14 (.int .i64 31)) fun v=>k v s1) fun t15 s2=>aA (aJ t12 (.bool true) t15) fun t16=>Gd (aB t16 false) s2 (fun k=>k t1 s2) fun t18 s3=>Gd (aB t16 false) s3 (fun k=>aA (FD 31 6 (gl 1) t18) fun v=>k v s3) fun t19 s4=>Gd (aB t16 false) s4 (fun k=>aA (aD 0 t19) fun v=>k v s4) fun t20 s5=>Gd (aB t16 false) s5 (fun k=>aA (ld 1 false t20 s5) fun v=>k v s5) fun t21 s6=>Gd (aB t16 false) s6 (fun k=>aA (bn .eql 3 t21 (.int .i64 0)) fun v=>k v s6) fun t22 s7=>aA (aJ t16 (.bool true) t22) fun t23=>aP t23
 (Q (.tup [(.int .i64 0),(.int .i64 101)]) (adv s7 2))
 (aA (FD 31 6 (gl 1) t1) fun t25=>aA (ld 6 true t25 (adv s7 5)) fun t26=>aA (zr 192) fun z8=>aA (bQ 6 (.ptr (s7.nx+3) 0) t26 ((adv s7 5).set (s7.nx+3) (some (.cells z8.cells 192 true true)))) fun s8=>aA (bt .len #[72] [t2] (s8.nx+3) (adv s8 29)) fun r29=>aA (aD 0 (.ptr (s7.nx+3) 0)) fun t30=>aA (ld 1 false t30 r29.2) fun t31=>aA (bn .lss 3 r29.1 t31) fun t32=>Gd (aB t32 false) r29.2 (fun k=>k t2 r29.2) fun t34 s9=>Gd (aB t32 false) s9 (fun k=>aA (bt .len #[72] [t34] (s8.nx+9) s9) fun r=>k r.1 r.2) fun t35 s10=>Gd (aB t32 false) s10 (fun k=>aA (aD 0 (.ptr (s7.nx+3) 0)) fun v=>k v s10) fun t36 s11=>Gd (aB t32 false) s11 (fun k=>aA (ld 1 false t36 s11) fun v=>k v s11) fun t37 s12=>Gd (aB t32 false) s12 (fun k=>aA (bn .gtr 3 t35 t37) fun v=>k v s12) fun t38 s13=>Gd (aB t32 false) s13 (fun k=>k t38 s13) fun t39 s14=>Gd (aB t39 true) s14 (fun k=>aA (aD 1 (.ptr (s7.nx+3) 0)) fun v=>k v s14) fun t40 s15=>Gd (aB t39 true) s15 (fun k=>aA (ld 1 false t40 s15) fun v=>k v s15) fun t41 s16=>Gd (aB t39 true) s16 (fun k=>aA (un .not t41) fun v=>k v s16) fun t42 s17=>Gd (aB t32 false) s17 (fun k=>aA (aJ t39 t42 (.bool false)) fun v=>k v s17) fun t43 s18=>aA (aJ t32 (.bool true) t43) fun t44=>Gd (aB t44 false) s18 (fun k=>k t2 s18) fun t46 s19=>Gd (aB t44 false) s19 (fun k=>aA (bt .len #[72] [t46] (s8.nx+21) s19) fun r=>k r.1 r.2) fun t47 s20=>Gd (aB t44 false) s20 (fun k=>aA (bn .gtr 3 t47 (.int .i64 200)) fun v=>k v s20) fun t48 s21 =>
 aA (aJ t44 (.bool true) t48) fun t49=>Gd (aB t49 false) s21 (fun k=>k t2 s21) fun t51 s22=>Gd (aB t49 false) s22 (fun k=>k (.fn 132 [] [(.ptr s.nx 0)]) s22) fun t52 s23=>Gd (aB t49 false) s23 (fun k=>aY mEv 133 [t51,t52] s23 k) fun t53 s24=>aA (aJ t49 (.bool true) t53) fun t54=>aP t54
 (Q (.tup [(.int .i64 0),(.int .i64 1)]) (adv s24 2))
 (aA (ld 1 false (.ptr s.nx 0) (adv s24 5)) fun t55=>aA (ld 6 true (.ptr (s7.nx+3) 0) (adv s24 5)) fun t56=>aY mEv 134 [t55,t56,t2] (adv s24 5) fun t58 s25=>aA (bn .eql 3 t58 (.int .i64 0)) fun t61=>aP t61
 (Q (.tup [(.int .i64 0),(.int .i64 90)]) (adv s25 5))
 (aA (bn .eql 3 t1 (.int .i64 17)) fun t64=>Gd (aB t64 true) (adv s25 12) (fun k=>aA (ld 1 false (.ptr s.nx 0) (adv s25 12)) fun v=>k v (adv s25 12)) fun t66 s26=>Gd (aB t64 true) s26 (fun k=>k t2 s26) fun t67 s27=>Gd (aB t64 true) s27 (fun k=>aY mEv 135 [t66,t67] s27 k) fun t68 s28=>Gd (aB t64 true) s28 (fun k=>aA (un .not t68) fun v=>k v s28) fun t69 s29=>aA (aJ t64 t69 (.bool false)) fun t70=>aP t70
 (Q (.tup [(.int .i64 0),(.int .i64 101)]) (adv s29 2))
 (UN Q (.ptr s.nx 0) t1 t58 t2 s29)))))
theorem aUk (t0 t1 t2:AV) (s:St) {Q:aC} (h:f81 Q t0 t1 t2 s):eG 81 [t0,t1,t2] s Q:=aH (h:=81) (fn:=Tryz.f81) (c:=sub bCv []) (show bGj (sub bCv []) (aPl Q) aX (aPl Q)=_ from (aO (aO (aO (aO (aO (aO (aO (aOm Q) (dI 0 rfl)) rfl) rfl) rfl) rfl) rfl) rfl)) h
def f221 (Q:aC) (t0 t1:AV) (s:St):Prop:=aE mEv 248 [t0,t1] (adv s 6) fun t7 s1=>aA (bn .geq 3 t7 (.int .i64 0)) fun t8=>Q t8 s1
def bDh (Q:aC) (s:St):Prop:=Q (.int .i64 (-1)) (adv s 1)
def bDc (Q:aC) (ih1:AV->AV->AV->aC) (t8 t0 t1 t7:AV) (s:St):Prop:=aA (bn .add 3 t8 (.int .i64 1)) fun t18=>ih1 t0 t1 t7 t18 (adv s 2)
def aRz (Q:aC) (ih1:AV->AV->AV->aC) (t0 t1 t7 t8:AV) (s:St):Prop:=aA (bn .lss 3 t8 t7) fun t9=>aP t9
 (aA (cA 1 t0 t8) fun t14=>aA (ld 1 false t14 (adv s 9)) fun t15=>aA (bn .eql 9 t1 t15) fun t16=>aP t16
 (Q t8 (adv s 11))
 (bDc Q ih1 t8 t0 t1 t7 (adv s 9)))
 (bDh Q (adv s 1))
def aZe (Q:aC) (n:Nat):AV->AV->AV->aC:=fY (fun _ _ _ _ _ =>False) (fun ih=>aRz Q ih) n
def f248 (Q:aC) (t0 t1:AV) (s:St):Prop:=aA (bt .len #[52] [t0] (s.nx+2) (adv s 4)) fun r7=>∃ n,aZe Q n t0 t1 r7.1 (.int .i64 0) r7.2
def aYn (Q:aC) (s:St):Prop:=Q (.bool false) (adv s 1)
def bDb (Q:aC) (ih1:AV->AV->AV->aC) (t7 t0 t5 t6:AV) (s:St):Prop:=aA (bn .add 3 t7 (.int .i64 1)) fun t17=>ih1 t0 t5 t6 t17 (adv s 2)
def aUf (Q:aC) (ih1:AV->AV->AV->aC) (t0 t5 t6 t7:AV) (s:St):Prop:=aA (bn .lss 3 t7 t6) fun t8=>aP t8
 (aA (cA 1 t5 t7) fun t10=>aA (ld 1 false t10 (adv s 6)) fun t11=>aA (jM 52 t0 none (some t7) none (adv s 11)) fun t14=>aE mEv 221 [t14,t11] (adv s 11) fun t16 s1=>aP t16
 (Q (.bool true) (adv s1 1))
 (bDb Q ih1 t7 t0 t5 t6 s1))
 (aYn Q (adv s 1))
def bAk (Q:aC) (n:Nat):AV->AV->AV->aC:=fY (fun _ _ _ _ _ =>False) (fun ih=>aUf Q ih) n
def f192 (Q:aC) (t0:AV) (s:St):Prop:=aA (bt .len #[52] [t0] (s.nx+2) (adv s 4)) fun r6=>∃ n,bAk Q n t0 t0 r6.1 (.int .i64 0) r6.2
end
noncomputable section
abbrev bEj:Code:=aN Tryz.f36
abbrev bHz:=rK Tryz.f36
abbrev bMa:=aL mEv 36 (mEv.kp 36)
def f36 (Q:aC) (t0 t1:AV) (s:St):Prop:=aE mEv 76 [t0,t1] (adv s 5) fun t8 s1=>aP t8
 (Q (.int .i64 0) (adv s1 2))
 (Q (.int .i64 1) (adv s1 2))
theorem aPu (t0 t1:AV) (s:St) {Q:aC} (h:f36 Q t0 t1 s):eG 36 [t0,t1] s Q:=aH (h:=36) (fn:=Tryz.f36) (c:=sub bEj []) (show bMa (sub bEj []) (bHz Q) aX (bHz Q)=_ from rfl) h
abbrev aZx:Code:=aN Tryz.f37
abbrev aPk:=rK Tryz.f37
abbrev bJo:=aL mEv 37 (mEv.kp 37)
def aFd (Q:aC) (t0 t3:AV) (s:St):Prop:=aA (aD 1 t3) fun t43=>aA (ld 1 false t43 (adv s 10)) fun t44=>aA (aD 3 t3) fun t45=>aA (ld 1 false t45 (adv s 10)) fun t46=>aY mEv 81 [t0,t44,t46] (adv s 10) fun t47 s1=>aA (aQ t47 0) fun t48=>aA (aQ t47 1) fun t49=>Q (.tup [t48,t49]) s1
theorem aGe (Q:aC):bJo (sub aZx [Y,Y]) (aPk Q) aX (aPk Q)=(fun g s=>aFd Q (g 0) (g 3) s):=Eq.trans rfl (by kernel_rfl)
def f37 (Q:aC) (t0 t1:AV) (s:St):Prop:=(t1.cells.all AV.one=true /\
 aA (aD 0 (.ptr s.nx 0)) fun t6=>aA (ld 1 false t6 (adv ((adv s 3).set s.nx (some (.cells t1.cells 74 true true))) 2)) fun t7=>aA (bn .eql 3 t7 (.int .i64 0)) fun t9=>aP t9
 (aA (aD 4 (.ptr s.nx 0)) fun t11=>aA (ld 1 false t11 (adv ((adv s 3).set s.nx (some (.cells t1.cells 74 true true))) 14)) fun t12=>aA (aD 2 (.ptr s.nx 0)) fun t13=>aA (ld 1 false t13 (adv ((adv s 3).set s.nx (some (.cells t1.cells 74 true true))) 14)) fun t14=>aY mEv 77 [t0,t12,t14] (adv ((adv s 3).set s.nx (some (.cells t1.cells 74 true true))) 14) fun t15 s1=>aA (aQ t15 0) fun t16=>aA (aQ t15 1) fun t17=>Q (.tup [t16,t17]) s1)
 (aA (bn .eql 3 t7 (.int .i64 1)) fun t19=>aP t19
 (aA (aD 5 (.ptr s.nx 0)) fun t21=>aA (ld 1 false t21 (adv ((adv s 3).set s.nx (some (.cells t1.cells 74 true true))) 14)) fun t22=>aY mEv 78 [t0,t22] (adv ((adv s 3).set s.nx (some (.cells t1.cells 74 true true))) 14) fun t23 s2=>aA (aQ t23 0) fun t24=>aA (aQ t23 1) fun t25=>Q (.tup [t24,t25]) s2)
 (aA (bn .eql 3 t7 (.int .i64 2)) fun t27=>aP t27
 (aA (aD 6 (.ptr s.nx 0)) fun t29=>aA (ld 2 true t29 (adv ((adv s 3).set s.nx (some (.cells t1.cells 74 true true))) 16)) fun t30=>aY mEv 79 [t0,t30] (adv ((adv s 3).set s.nx (some (.cells t1.cells 74 true true))) 16) fun t31 s3=>aA (aQ t31 0) fun t32=>aA (aQ t31 1) fun t33=>Q (.tup [t32,t33]) s3)
 (aA (bn .eql 3 t7 (.int .i64 3)) fun t35=>aP t35
 (aA (aD 8 (.ptr s.nx 0)) fun t37=>aA (ld 1 false t37 (adv ((adv s 3).set s.nx (some (.cells t1.cells 74 true true))) 18)) fun t38=>aY mEv 80 [t0,t38] (adv ((adv s 3).set s.nx (some (.cells t1.cells 74 true true))) 18) fun t39 s4=>aA (aQ t39 0) fun t40=>aA (aQ t39 1) fun t41=>Q (.tup [t40,t41]) s4)
 (aFd Q t0 (.ptr s.nx 0) (adv ((adv s 3).set s.nx (some (.cells t1.cells 74 true true))) 10))))))
theorem aTv (t0 t1:AV) (s:St) {Q:aC} (h:f37 Q t0 t1 s):eG 37 [t0,t1] s Q:=aH (h:=37) (fn:=Tryz.f37) (c:=sub aZx []) (show bJo (sub aZx []) (aPk Q) aX (aPk Q)=_ from (aO (aO (aGe Q) (aO (dI 0 rfl) rfl)) rfl)) h
abbrev aNz:Code:=aN Tryz.f38
abbrev aBn:=rK Tryz.f38
abbrev aQh:=aL mEv 38 (mEv.kp 38)
def LV (Q:aC) (t3:AV) (s:St):Prop:=Q t3 (adv s 2)
def yT (Q:aC) (ih1:AV->AV->aC) (t4 t0 t3:AV) (s:St):Prop:=aA (bn .add 3 t4 (.int .i64 1)) fun t26=>ih1 t0 t3 t26 (adv s 3)
def BV (Q:aC) (ih1:AV->AV->aC) (t0 t3 t4:AV) (s:St):Prop:=aA (bt .len #[69] [t0] (s.nx+2) (adv s 4)) fun r23=>aA (bn .lss 3 t4 r23.1) fun t24=>aP t24
 (aA (cA 9 t0 t4) fun t29=>aA (ld 9 true t29 (adv r23.2 6)) fun t30=>aA (zr 74) fun z5=>aA (bQ 9 (.ptr (r23.2.nx+4) 0) t30 ((adv r23.2 6).set (r23.2.nx+4) (some (.cells z5.cells 74 true true)))) fun s1=>aA (aD 0 (.ptr (r23.2.nx+4) 0)) fun t31=>aA (ld 1 false t31 (adv s1 2)) fun t32=>aA (bn .eql 3 t32 (.int .i64 0)) fun t45=>aP t45
 (aA (aD 4 (.ptr (r23.2.nx+4) 0)) fun t48=>aA (ld 1 false t48 (adv s1 17)) fun t49=>aA (aD 2 (.ptr (r23.2.nx+4) 0)) fun t50=>aA (ld 1 false t50 (adv s1 17)) fun t51=>aE mEv 82 [t3,t49,t51] (adv s1 17) fun t52 s2=>aA (aQ t52 0) fun t53=>aA (aQ t52 1) fun t54=>aA (aQ t52 2) fun t55=>yT Q ih1 t4 t0 t53 (adv s2 2))
 (aA (bn .eql 3 t32 (.int .i64 1)) fun t58=>aP t58
 (aA (aD 5 (.ptr (r23.2.nx+4) 0)) fun t61=>aA (ld 1 false t61 (adv s1 17)) fun t62=>aE mEv 83 [t3,t62] (adv s1 17) fun t63 s3=>aA (aQ t63 0) fun t64=>aA (aQ t63 1) fun t65=>aA (aQ t63 2) fun t66=>yT Q ih1 t4 t0 t64 (adv s3 2))
 (aA (bn .eql 3 t32 (.int .i64 2)) fun t69=>aP t69
 (aA (aD 6 (.ptr (r23.2.nx+4) 0)) fun t72=>aA (ld 2 true t72 (adv s1 19)) fun t73=>aE mEv 84 [t3,t73] (adv s1 19) fun t74 s4=>aA (aQ t74 0) fun t75=>aA (aQ t74 1) fun t76=>aA (aQ t74 2) fun t77=>yT Q ih1 t4 t0 t75 (adv s4 2))
 (aA (bn .eql 3 t32 (.int .i64 3)) fun t80=>aP t80
 (aA (aD 8 (.ptr (r23.2.nx+4) 0)) fun t83=>aA (ld 1 false t83 (adv s1 21)) fun t84=>aE mEv 85 [t3,t84] (adv s1 21) fun t85 s5=>aA (aQ t85 0) fun t86=>aA (aQ t85 1) fun t87=>aA (aQ t85 2) fun t88=>yT Q ih1 t4 t0 t86 (adv s5 2))
 (aA (aD 1 (.ptr (r23.2.nx+4) 0)) fun t35=>aA (ld 1 false t35 (adv s1 23)) fun t36=>aA (aD 3 (.ptr (r23.2.nx+4) 0)) fun t37=>aA (ld 1 false t37 (adv s1 23)) fun t38=>aE mEv 86 [t3,t36,t38] (adv s1 23) fun t39 s6=>aA (aQ t39 0) fun t40=>aA (aQ t39 1) fun t41=>aA (aQ t39 2) fun t42=>yT Q ih1 t4 t0 t40 (adv s6 2))))))
 (LV Q t3 r23.2)
def uS (Q:aC) (n:Nat):AV->AV->aC:=fY (fun _ _ _ _ =>False) (fun ih=>BV Q ih) n
theorem aFg (Q:aC):aQh (sub aNz [Y,Y,Y]) (aBn Q) aX (aBn Q)=(fun g s=>LV Q (g 3) s):=Eq.trans rfl (by kernel_rfl)
theorem aFt (Q:aC) (n1:Nat):aQh (sub aNz [Y,Y,N,Y,N,N,Y,Y]) (mA (fun n g s=>uS Q n (g 0) (g 3) (g 4) s) 38 n1) (cE 0 (fun g s=>LV Q (g 3) s) aX) (aBn Q)=(fun g s=>yT Q (uS Q n1) (g 4) (g 0) (g 3) s):=Eq.trans rfl (by kernel_rfl)
theorem aJu (Q:aC) (kN:Kt):aQh (sub aNz [Y,Y,N,Y,N]) kN (cE 0 (fun g s=>LV Q (g 3) s) aX) (aBn Q)=fun g s=>∃ n,uS Q n (g 0) (g 3) (g 4) s:=jW (L:=fun n g s=>uS Q n (g 0) (g 3) (g 4) s) (fun n1=>Eq.trans (aO (aO (aFt Q n1) (dI 1 (aO (aO (dI 2 rfl) rfl) rfl))) rfl) (by kernel_rfl))
def f38 (Q:aC) (t0:AV) (s:St):Prop:=∃ n,uS Q n t0 .nils (.int .i64 0) (adv s 3)
theorem aRv (t0:AV) (s:St) {Q:aC} (h:f38 Q t0 s):eG 38 [t0] s Q:=aH (h:=38) (fn:=Tryz.f38) (c:=sub aNz []) (show aQh (sub aNz []) (aBn Q) aX (aBn Q)=_ from (aO (aO (aO (aFg Q) (aO (dI 0 (aJu Q _)) rfl)) rfl) rfl)) h
abbrev aDy:Code:=aN Tryz.f76
abbrev XD:=rK Tryz.f76
abbrev aSw:=aL mEv 76 (mEv.kp 76)
def KP (Q:aC) (s:St):Prop:=Q (.bool true) (adv s 1)
def SQ (Q:aC) (ih1:AV->aC) (t5 t0:AV) (s:St):Prop:=aA (bn .add 3 t5 (.int .i64 1)) fun t15=>ih1 t0 t15 (adv s 3)
def AW (Q:aC) (ih1:AV->aC) (t0 t5:AV) (s:St):Prop:=aA (bt .len #[69] [t0] (s.nx+2) (adv s 4)) fun r12=>aA (bn .lss 3 t5 r12.1) fun t13=>aP t13
 (aA (cA 9 t0 t5) fun t18=>aA (aD 3 t18) fun t19=>aA (ld 1 false t19 (adv r12.2 35)) fun t20=>aA (bt .len #[72] [t20] (r12.2.nx+5) (adv r12.2 35)) fun r21=>aA (bn .gtr 3 r21.1 (.int .i64 300)) fun t22=>Gd (aB t22 false) r21.2 (fun k=>k t0 r21.2) fun t24 s1=>Gd (aB t22 false) s1 (fun k=>k t5 s1) fun t25 s2=>Gd (aB t22 false) s2 (fun k=>aA (cA 9 t24 t25) fun v=>k v s2) fun t26 s3=>Gd (aB t22 false) s3 (fun k=>aA (aD 6 t26) fun v=>k v s3) fun t27 s4=>Gd (aB t22 false) s4 (fun k=>aA (aD 1 t27) fun v=>k v s4) fun t28 s5=>Gd (aB t22 false) s5 (fun k=>aA (ld 1 false t28 s5) fun v=>k v s5) fun t29 s6=>Gd (aB t22 false) s6 (fun k=>aA (bt .len #[22] [t29] (r12.2.nx+14) s6) fun r=>k r.1 r.2) fun t30 s7=>Gd (aB t22 false) s7 (fun k=>aA (bn .gtr 3 t30 (.int .i64 20)) fun v=>k v s7) fun t31 s8=>aA (aJ t22 (.bool true) t31) fun t32=>Gd (aB t32 false) s8 (fun k=>k t0 s8) fun t34 s9=>Gd (aB t32 false) s9 (fun k=>k t5 s9) fun t35 s10=>Gd (aB t32 false) s10 (fun k=>aA (cA 9 t34 t35) fun v=>k v s10) fun t36 s11=>Gd (aB t32 false) s11 (fun k=>aA (aD 8 t36) fun v=>k v s11) fun t37 s12=>Gd (aB t32 false) s12 (fun k=>aA (ld 1 false t37 s12) fun v=>k v s12) fun t38 s13=>Gd (aB t32 false) s13 (fun k=>aA (bt .len #[25] [t38] (r12.2.nx+23) s13) fun r=>k r.1 r.2) fun t39 s14=>Gd (aB t32 false) s14 (fun k=>aA (bn .gtr 3 t39 (.int .i64 200)) fun v=>k v s14) fun t40 s15=>aA (aJ t32 (.bool true) t40) fun t41=>Gd (aB t41 false) s15 (fun k=>k t0 s15) fun t43 s16 =>
 Gd (aB t41 false) s16 (fun k=>k t5 s16) fun t44 s17=>Gd (aB t41 false) s17 (fun k=>aA (cA 9 t43 t44) fun v=>k v s17) fun t45 s18=>Gd (aB t41 false) s18 (fun k=>aA (aD 4 t45) fun v=>k v s18) fun t46 s19=>Gd (aB t41 false) s19 (fun k=>aA (ld 1 false t46 s19) fun v=>k v s19) fun t47 s20=>Gd (aB t41 false) s20 (fun k=>aA (bt .len #[9] [t47] (r12.2.nx+32) s20) fun r=>k r.1 r.2) fun t48 s21=>Gd (aB t41 false) s21 (fun k=>aA (bn .gtr 3 t48 (.int .i64 200)) fun v=>k v s21) fun t49 s22=>aA (aJ t41 (.bool true) t49) fun t50=>aP t50
 (Q (.bool false) (adv s22 1))
 (SQ Q ih1 t5 t0 s22))
 (KP Q r12.2)
def vZ (Q:aC) (n:Nat):AV->aC:=fY (fun _ _ _ =>False) (fun ih=>AW Q ih) n
theorem aJt (Q:aC):aSw (sub aDy [Y,Y,Y]) (XD Q) aX (XD Q)=(fun g s=>KP Q s):=Eq.trans rfl (by kernel_rfl)
theorem aHx (Q:aC) (n1:Nat):aSw (sub aDy [Y,Y,N,Y,N,N,Y,Y]) (mA (fun n g s=>vZ Q n (g 0) (g 5) s) 76 n1) (cE 0 (fun g s=>KP Q s) aX) (XD Q)=(fun g s=>SQ Q (vZ Q n1) (g 5) (g 0) s):=Eq.trans rfl (by kernel_rfl)
theorem aJb (Q:aC) (kN:Kt):aSw (sub aDy [Y,Y,N,Y,N]) kN (cE 0 (fun g s=>KP Q s) aX) (XD Q)=fun g s=>∃ n,vZ Q n (g 0) (g 5) s:=jW (L:=fun n g s=>vZ Q n (g 0) (g 5) s) (fun n1=>Eq.trans (aO (aO (aHx Q n1) (dI 1 rfl)) rfl) (by kernel_rfl))
def f76 (Q:aC) (t0 t1:AV) (s:St):Prop:=aA (bt .len #[69] [t0] (s.nx+2) (adv s 5)) fun r7=>aA (bn .gtr 3 r7.1 t1) fun t9=>aP t9
 (Q (.bool false) (adv r7.2 1))
 (∃ n,vZ Q n t0 (.int .i64 0) (adv r7.2 1))
theorem aSz (t0 t1:AV) (s:St) {Q:aC} (h:f76 Q t0 t1 s):eG 76 [t0,t1] s Q:=aH (h:=76) (fn:=Tryz.f76) (c:=sub aDy []) (show aSw (sub aDy []) (XD Q) aX (XD Q)=_ from (aO (aO (aO (aJt Q) (aO (dI 0 (aJb Q _)) rfl)) rfl) rfl)) h
abbrev bDk:Code:=aN Tryz.f82
abbrev bLk:=rK Tryz.f82
abbrev bOv:=aL mEv 82 (mEv.kp 82)
def f82 (Q:aC) (t0 t1 t2:AV) (s:St):Prop:=aA (bn .lss 3 t2 (.int .i64 1)) fun t10=>Gd (aB t10 false) (adv s 14) (fun k=>k t2 (adv s 14)) fun t12 s1=>Gd (aB t10 false) s1 (fun k=>aA (bn .gtr 3 t12 (.int .i64 3)) fun v=>k v s1) fun t13 s2=>aA (aJ t10 (.bool true) t13) fun t14=>Gd (aB t14 false) s2 (fun k=>k t1 s2) fun t16 s3=>Gd (aB t14 false) s3 (fun k=>aA (bt .len #[9] [t16] (s.nx+11) s3) fun r=>k r.1 r.2) fun t17 s4=>Gd (aB t14 false) s4 (fun k=>aA (bn .gtr 3 t17 (.int .i64 16384)) fun v=>k v s4) fun t18 s5=>aA (aJ t14 (.bool true) t18) fun t19=>aP t19
 (Q (.tup [t0,(.int .i64 0),(.int .i64 1)]) (adv s5 4))
 (aA (eE 101 [(0,(.int .i64 1)),(1,t2),(3,t1)]) fun t24=>aE mEv 136 [t0,t24] (adv s5 11) fun t25 s6=>aA (aQ t25 0) fun t26=>aA (aQ t25 1) fun t27=>aA (aQ t25 2) fun t28=>Q (.tup [t26,t27,t28]) s6)
theorem aUe (t0 t1 t2:AV) (s:St) {Q:aC} (h:f82 Q t0 t1 t2 s):eG 82 [t0,t1,t2] s Q:=aH (h:=82) (fn:=Tryz.f82) (c:=sub bDk []) (show bOv (sub bDk []) (bLk Q) aX (bLk Q)=_ from rfl) h
abbrev bEm:Code:=aN Tryz.f83
abbrev bLu:=rK Tryz.f83
abbrev bNb:=aL mEv 83 (mEv.kp 83)
def f83 (Q:aC) (t0 t1:AV) (s:St):Prop:=aP t1
 (aA (eE 101 [(0,(.int .i64 2)),(1,(.int .i64 1))]) fun t9=>aE mEv 136 [t0,t9] (adv s 13) fun t10 s1=>aA (aQ t10 0) fun t11=>aA (aQ t10 1) fun t12=>aA (aQ t10 2) fun t13=>Q (.tup [t11,t12,t13]) s1)
 (aA (eE 101 [(0,(.int .i64 3)),(1,(.int .i64 1))]) fun t15=>aE mEv 136 [t0,t15] (adv s 13) fun t16 s2=>aA (aQ t16 0) fun t17=>aA (aQ t16 1) fun t18=>aA (aQ t16 2) fun t19=>Q (.tup [t17,t18,t19]) s2)
theorem aTy (t0 t1:AV) (s:St) {Q:aC} (h:f83 Q t0 t1 s):eG 83 [t0,t1] s Q:=aH (h:=83) (fn:=Tryz.f83) (c:=sub bEm []) (show bNb (sub bEm []) (bLu Q) aX (bLu Q)=_ from rfl) h
abbrev bLv:Code:=aN Tryz.f84
abbrev bDo:=rK Tryz.f84
abbrev bLz:=aL mEv 84 (mEv.kp 84)
def f84 (Q:aC) (t0 t1:AV) (s:St):Prop:=(t1.cells.all AV.one=true /\
 aA (ld 2 true (.ptr s.nx 0) (adv ((adv s 4).set s.nx (some (.cells t1.cells 24 true true))) 3)) fun t7=>aE mEv 64 [t7] (adv ((adv s 4).set s.nx (some (.cells t1.cells 24 true true))) 3) fun t8 s1=>aA (bn .lss 3 t8 (.int .i64 0)) fun t9=>aP t9
 (Q (.tup [t0,(.int .i64 0),(.int .i64 1)]) (adv s1 4))
 (aA (aD 1 (.ptr s.nx 0)) fun t12=>aA (ld 1 false t12 (adv s1 13)) fun t13=>aE mEv 137 [t13] (adv s1 13) fun t14 s2=>aA (eE 24 [(1,t14)]) fun t15=>aA (eE 101 [(0,(.int .i64 4)),(1,(.int .i64 2)),(4,t15)]) fun t16=>aE mEv 136 [t0,t16] s2 fun t17 s3=>aA (aQ t17 0) fun t18=>aA (aQ t17 1) fun t19=>aA (aQ t17 2) fun t20=>Q (.tup [t18,t19,t20]) s3))
theorem aQq (t0 t1:AV) (s:St) {Q:aC} (h:f84 Q t0 t1 s):eG 84 [t0,t1] s Q:=aH (h:=84) (fn:=Tryz.f84) (c:=sub bLv []) (show bLz (sub bLv []) (bDo Q) aX (bDo Q)=_ from rfl) h
abbrev bHg:Code:=aN Tryz.f85
abbrev bGo:=rK Tryz.f85
abbrev bOx:=aL mEv 85 (mEv.kp 85)
def f85 (Q:aC) (t0 t1:AV) (s:St):Prop:=aE mEv 66 [t1] (adv s 6) fun t9 s1=>aA (un .not t9) fun t11=>aP t11
 (Q (.tup [t0,(.int .i64 0),(.int .i64 1)]) (adv s1 6))
 (aA (eE 101 [(0,(.int .i64 5)),(1,(.int .i64 3)),(5,t1)]) fun t15=>aE mEv 136 [t0,t15] (adv s1 12) fun t16 s2=>aA (aQ t16 0) fun t17=>aA (aQ t16 1) fun t18=>aA (aQ t16 2) fun t19=>Q (.tup [t17,t18,t19]) s2)
theorem aQr (t0 t1:AV) (s:St) {Q:aC} (h:f85 Q t0 t1 s):eG 85 [t0,t1] s Q:=aH (h:=85) (fn:=Tryz.f85) (c:=sub bHg []) (show bOx (sub bHg []) (bGo Q) aX (bGo Q)=_ from rfl) h
abbrev FK:Code:=aN Tryz.f86
abbrev xS:=rK Tryz.f86
abbrev JJ:=aL mEv 86 (mEv.kp 86)
def yI (Q:aC) (t1 t14 t0 t10 t13 t2:AV) (s:St):Prop:=aA (bn .eql 3 t1 (.int .i64 17)) fun t146=>Gd (aB t146 true) (adv s 6) (fun k=>k t14 (adv s 6)) fun t148 s1=>Gd (aB t146 true) s1 (fun k=>aA (bn .gtr 3 t148 (.int .i64 1)) fun v=>k v s1) fun t149 s2=>aA (aJ t146 t149 (.bool false)) fun t150=>aP t150
 (Q (.tup [t0,(.int .i64 0),(.int .i64 101)]) (adv s2 4))
 (aA (bn .eql 9 t10 (.str [61])) fun t153=>aP t153
 (aE mEv 141 [t13] (adv s2 16) fun t157 s3=>aA (bt .append #[72,72] [.nils,t2] (s2.nx+7) s3) fun r159=>aA (eE 101 [(0,t1),(1,t157),(2,r159.1)]) fun t160=>aE mEv 136 [t0,t160] r159.2 fun t161 s4=>aA (aQ t161 0) fun t162=>aA (aQ t161 1) fun t163=>aA (aQ t161 2) fun t164=>Q (.tup [t162,t163,t164]) s4)
 (aA (uK 9 t10 (.int .i64 0)) fun t168=>aE mEv 141 [t168] (adv s2 17) fun t169 s5=>aA (bt .append #[72,72] [.nils,t2] (s2.nx+8) s5) fun r171=>aA (eE 101 [(0,t1),(1,t169),(2,r171.1)]) fun t172=>aE mEv 136 [t0,t172] r171.2 fun t173 s6=>aA (aQ t173 0) fun t174=>aA (aQ t173 1) fun t175=>aA (aQ t173 2) fun t176=>Q (.tup [t174,t175,t176]) s6))
def vJ (Q:aC) (ih1:AV->AV->AV->AV->AV->AV->AV->aC) (t15 t0 t1 t2 t9 t10 t13 t14:AV) (s:St):Prop:=aA (bn .add 3 t15 (.int .i64 1)) fun t87=>ih1 t0 t1 t2 t9 t10 t13 t14 t87 (adv s 3)
def OQ (Q:aC) (ih1:AV->AV->AV->AV->AV->AV->AV->aC) (t0 t2 t15 t9 t16 t13 t14 t1 t10:AV) (s:St):Prop:=aA (cA 1 t2 t15) fun t99=>aA (ld 1 false t99 (adv s 10)) fun t100=>aA (cA 7 t0 t100) fun t101=>aA (aD 1 t101) fun t102=>aA (ld 1 false t102 (adv s 10)) fun t103=>aE mEv 139 [t103] (adv s 10) fun t104 s1=>aA (uK 9 t9 t16) fun t107=>aA (bn .neq 5 t107 (.int .u8 97)) fun t108=>Gd (aB t108 true) (adv s1 28) (fun k=>k t9 (adv s1 28)) fun t110 s2=>Gd (aB t108 true) s2 (fun k=>k t16 s2) fun t111 s3=>Gd (aB t108 true) s3 (fun k=>aA (uK 9 t110 t111) fun v=>k v s3) fun t112 s4=>Gd (aB t108 true) s4 (fun k=>aA (bn .neq 5 t112 (.int .u8 61)) fun v=>k v s4) fun t113 s5=>aA (aJ t108 t113 (.bool false)) fun t114=>Gd (aB t114 true) s5 (fun k=>k t104 s5) fun t116 s6=>Gd (aB t114 true) s6 (fun k=>k t9 s6) fun t117 s7=>Gd (aB t114 true) s7 (fun k=>k t16 s7) fun t118 s8=>Gd (aB t114 true) s8 (fun k=>aA (uK 9 t117 t118) fun v=>k v s8) fun t119 s9=>Gd (aB t114 true) s9 (fun k=>aA (bn .neq 5 t116 t119) fun v=>k v s9) fun t120 s10=>aA (aJ t114 t120 (.bool false)) fun t121=>Gd (aB t121 false) s10 (fun k=>k t9 s10) fun t123 s11=>Gd (aB t121 false) s11 (fun k=>k t16 s11) fun t124 s12=>Gd (aB t121 false) s12 (fun k=>aA (uK 9 t123 t124) fun v=>k v s12) fun t125 s13=>Gd (aB t121 false) s13 (fun k=>aA (bn .eql 5 t125 (.int .u8 61)) fun v=>k v s13) fun t126 s14=>Gd (aB t121 false) s14 (fun k=>k t126 s14) fun t127 s15 =>
 Gd (aB t127 true) s15 (fun k=>k t104 s15) fun t128 s16=>Gd (aB t127 true) s16 (fun k=>k t13 s16) fun t129 s17=>Gd (aB t127 true) s17 (fun k=>aA (bn .neq 5 t128 t129) fun v=>k v s17) fun t130 s18=>Gd (aB t121 false) s18 (fun k=>aA (aJ t127 t130 (.bool false)) fun v=>k v s18) fun t131 s19=>aA (aJ t121 (.bool true) t131) fun t132=>aP t132
 (Q (.tup [t0,(.int .i64 0),(.int .i64 90)]) (adv s19 4))
 (aA (cA 1 t2 t15) fun t138=>aA (ld 1 false t138 (adv s19 9)) fun t139=>aE mEv 140 [t0,t139] (adv s19 9) fun t140 s20=>aA (un .not t140) fun t142=>aP t142
 (aA (bn .add 3 t14 (.int .i64 1)) fun t144=>vJ Q ih1 t15 t0 t1 t2 t9 t10 t104 t144 (adv s20 5))
 (vJ Q ih1 t15 t0 t1 t2 t9 t10 t104 t14 (adv s20 2)))
def BD (Q:aC) (ih1:AV->AV->AV->AV->AV->AV->AV->aC) (t0 t1 t2 t9 t10 t13 t14 t15:AV) (s:St):Prop:=aA (bt .len #[72] [t2] (s.nx+2) (adv s 4)) fun r84=>aA (bn .lss 3 t15 r84.1) fun t85=>aP t85
 (aA (bt .len #[9] [t9] (r84.2.nx+4) (adv r84.2 6)) fun r91=>aA (bn .geq 3 t15 r91.1) fun t92=>aP t92
 (aA (bt .len #[9] [t9] (r91.2.nx+1) (adv r91.2 4)) fun r94=>aA (bn .sub 3 r94.1 (.int .i64 1)) fun t95=>OQ Q ih1 t0 t2 t15 t9 t95 t13 t14 t1 t10 r94.2)
 (OQ Q ih1 t0 t2 t15 t9 t15 t13 t14 t1 t10 r91.2))
 (yI Q t1 t14 t0 t10 t13 t2 r84.2)
def lL (Q:aC) (n:Nat):AV->AV->AV->AV->AV->AV->AV->aC:=fY (fun _ _ _ _ _ _ _ _ _ =>False) (fun ih=>BD Q ih) n
def HK (Q:aC) (t0 t1 t2 t9 t10:AV) (s:St):Prop:=∃ n,lL Q n t0 t1 t2 t9 t10 (.int .u8 63) (.int .i64 0) (.int .i64 0) (adv s 3)
def SY (Q:aC) (ih2:AV->AV->AV->AV->AV->aC) (t12 t0 t1 t2 t9 t10:AV) (s:St):Prop:=aA (bn .add 3 t12 (.int .i64 1)) fun t66=>ih2 t0 t1 t2 t9 t10 t66 (adv s 3)
def sS (Q:aC) (ih2:AV->AV->AV->AV->AV->aC) (t0 t1 t2 t9 t10 t12:AV) (s:St):Prop:=aA (bt .len #[72] [t2] (s.nx+2) (adv s 4)) fun r63=>aA (bn .lss 3 t12 r63.1) fun t64=>aP t64
 (aA (cA 1 t2 t12) fun t69=>aA (ld 1 false t69 (adv r63.2 14)) fun t70=>aA (bn .lss 3 t70 (.int .i64 0)) fun t71=>Gd (aB t71 false) (adv r63.2 14) (fun k=>k t2 (adv r63.2 14)) fun t73 s1=>Gd (aB t71 false) s1 (fun k=>k t12 s1) fun t74 s2=>Gd (aB t71 false) s2 (fun k=>aA (cA 1 t73 t74) fun v=>k v s2) fun t75 s3=>Gd (aB t71 false) s3 (fun k=>aA (ld 1 false t75 s3) fun v=>k v s3) fun t76 s4=>Gd (aB t71 false) s4 (fun k=>k t0 s4) fun t77 s5=>Gd (aB t71 false) s5 (fun k=>aA (bt .len #[56] [t77] (r63.2.nx+11) s5) fun r=>k r.1 r.2) fun t78 s6=>Gd (aB t71 false) s6 (fun k=>aA (bn .geq 3 t76 t78) fun v=>k v s6) fun t79 s7=>aA (aJ t71 (.bool true) t79) fun t80=>aP t80
 (Q (.tup [t0,(.int .i64 0),(.int .i64 1)]) (adv s7 4))
 (SY Q ih2 t12 t0 t1 t2 t9 t10 s7))
 (HK Q t0 t1 t2 t9 t10 r63.2)
def sO (Q:aC) (n:Nat):AV->AV->AV->AV->AV->aC:=fY (fun _ _ _ _ _ _ _ =>False) (fun ih=>sS Q ih) n
def KV (Q:aC) (t2 t9 t11 t0 t1 t10:AV) (s:St):Prop:=aA (bt .len #[72] [t2] (s.nx+1) (adv s 21)) fun r40=>aA (bt .len #[9] [t9] (s.nx+3) r40.2) fun r42=>aA (bn .lss 3 r40.1 r42.1) fun t43=>Gd (aB t43 false) r42.2 (fun k=>k t2 r42.2) fun t45 s1=>Gd (aB t43 false) s1 (fun k=>aA (bt .len #[72] [t45] (s.nx+7) s1) fun r=>k r.1 r.2) fun t46 s2=>Gd (aB t43 false) s2 (fun k=>k t9 s2) fun t47 s3=>Gd (aB t43 false) s3 (fun k=>aA (bt .len #[9] [t47] (s.nx+9) s3) fun r=>k r.1 r.2) fun t48 s4=>Gd (aB t43 false) s4 (fun k=>aA (bn .gtr 3 t46 t48) fun v=>k v s4) fun t49 s5=>Gd (aB t43 false) s5 (fun k=>k t49 s5) fun t50 s6=>Gd (aB t50 true) s6 (fun k=>k t11 s6) fun t51 s7=>Gd (aB t50 true) s7 (fun k=>aA (un .not t51) fun v=>k v s7) fun t52 s8=>Gd (aB t43 false) s8 (fun k=>aA (aJ t50 t52 (.bool false)) fun v=>k v s8) fun t53 s9=>aA (aJ t43 (.bool true) t53) fun t54=>Gd (aB t54 false) s9 (fun k=>k t2 s9) fun t56 s10=>Gd (aB t54 false) s10 (fun k=>aA (bt .len #[72] [t56] (s.nx+18) s10) fun r=>k r.1 r.2) fun t57 s11=>Gd (aB t54 false) s11 (fun k=>aA (bn .gtr 3 t57 (.int .i64 200)) fun v=>k v s11) fun t58 s12=>aA (aJ t54 (.bool true) t58) fun t59=>aP t59
 (Q (.tup [t0,(.int .i64 0),(.int .i64 1)]) (adv s12 4))
 (∃ n,sO Q n t0 t1 t2 t9 t10 (.int .i64 0) (adv s12 1))
theorem aOi (Q:aC):JJ (sub FK [Y,Y,Y,Y,Y,Y,Y,Y,Y,Y]) (xS Q) aX (xS Q)=(fun g s=>yI Q (g 1) (g 14) (g 0) (g 10) (g 13) (g 2) s):=Eq.trans rfl (by kernel_rfl)
theorem aGm (Q:aC) (n1:Nat):JJ (sub FK [Y,Y,Y,Y,Y,Y,Y,Y,Y,N,Y,N,N,Y,Y]) (mA (fun n g s=>lL Q n (g 0) (g 1) (g 2) (g 9) (g 10) (g 13) (g 14) (g 15) s) 86 n1) (cE 2 (fun g s=>yI Q (g 1) (g 14) (g 0) (g 10) (g 13) (g 2) s) aX) (xS Q)=(fun g s=>vJ Q (lL Q n1) (g 15) (g 0) (g 1) (g 2) (g 9) (g 10) (g 13) (g 14) s):=Eq.trans rfl (by kernel_rfl)
theorem aOc (Q:aC) (n1:Nat):JJ (sub FK [Y,Y,Y,Y,Y,Y,Y,Y,Y,N,Y,N,N,Y,N,N,Y,Y]) (fun g s=>vJ Q (lL Q n1) (g 15) (g 0) (g 1) (g 2) (g 9) (g 10) (g 13) (g 14) s) (cE 3 (fun g s=>vJ Q (lL Q n1) (g 15) (g 0) (g 1) (g 2) (g 9) (g 10) (g 13) (g 14) s) (cE 2 (fun g s=>yI Q (g 1) (g 14) (g 0) (g 10) (g 13) (g 2) s) aX)) (xS Q)=(fun g s=>OQ Q (lL Q n1) (g 0) (g 2) (g 15) (g 9) (g 16) (g 13) (g 14) (g 1) (g 10) s):=Eq.trans rfl (by kernel_rfl)
theorem aGx (Q:aC) (kN:Kt):JJ (sub FK [Y,Y,Y,Y,Y,Y,Y,Y,Y,N,Y,N]) kN (cE 2 (fun g s=>yI Q (g 1) (g 14) (g 0) (g 10) (g 13) (g 2) s) aX) (xS Q)=fun g s=>∃ n,lL Q n (g 0) (g 1) (g 2) (g 9) (g 10) (g 13) (g 14) (g 15) s:=jW (L:=fun n g s=>lL Q n (g 0) (g 1) (g 2) (g 9) (g 10) (g 13) (g 14) (g 15) s) (fun n1=>Eq.trans (aO (aO (aGm Q n1) (dI 3 (aO (aO (aOc Q n1) rfl) rfl))) rfl) (by kernel_rfl))
theorem aIy (Q:aC):JJ (sub FK [Y,Y,Y,Y,Y,Y,Y]) (xS Q) aX (xS Q)=(fun g s=>HK Q (g 0) (g 1) (g 2) (g 9) (g 10) s):=Eq.trans (aO (aO (aO (aOi Q) (aO (dI 2 (aGx Q _)) rfl)) rfl) rfl) (by kernel_rfl)
theorem aHo (Q:aC) (n2:Nat):JJ (sub FK [Y,Y,Y,Y,Y,Y,N,Y,N,N,Y,Y]) (mA (fun n g s=>sO Q n (g 0) (g 1) (g 2) (g 9) (g 10) (g 12) s) 86 n2) (cE 0 (fun g s=>HK Q (g 0) (g 1) (g 2) (g 9) (g 10) s) aX) (xS Q)=(fun g s=>SY Q (sO Q n2) (g 12) (g 0) (g 1) (g 2) (g 9) (g 10) s):=Eq.trans rfl (by kernel_rfl)
theorem aHw (Q:aC) (kN:Kt):JJ (sub FK [Y,Y,Y,Y,Y,Y,N,Y,N]) kN (cE 0 (fun g s=>HK Q (g 0) (g 1) (g 2) (g 9) (g 10) s) aX) (xS Q)=fun g s=>∃ n,sO Q n (g 0) (g 1) (g 2) (g 9) (g 10) (g 12) s:=jW (L:=fun n g s=>sO Q n (g 0) (g 1) (g 2) (g 9) (g 10) (g 12) s) (fun n2=>Eq.trans (aO (aO (aHo Q n2) (dI 1 rfl)) rfl) (by kernel_rfl))
theorem aJp (Q:aC):JJ (sub FK [Y,Y,Y,Y,Y]) (xS Q) aX (xS Q)=(fun g s=>KV Q (g 2) (g 9) (g 11) (g 0) (g 1) (g 10) s):=Eq.trans (aO (aO (aIy Q) (aO (dI 0 (aHw Q _)) rfl)) rfl) (by kernel_rfl)
def f86 (Q:aC) (t0 t1 t2:AV) (s:St):Prop:=aE mEv 138 [t1] (adv s 10) fun t21 s1=>aA (aQ t21 0) fun t22=>aA (aQ t21 1) fun t23=>aA (bn .eql 9 t22 (.str [])) fun t25=>aP t25
 (Q (.tup [t0,(.int .i64 0),(.int .i64 101)]) (adv s1 6))
 (aA (bt .len #[9] [t22] (s1.nx+4) (adv s1 9)) fun r29=>aA (bn .sub 3 r29.1 (.int .i64 1)) fun t30=>aA (uK 9 t22 t30) fun t31=>aA (bn .eql 5 t31 (.int .u8 43)) fun t32=>aP t32
 (aA (bt .len #[9] [t22] (r29.2.nx+3) (adv r29.2 7)) fun r36=>aA (bn .sub 3 r36.1 (.int .i64 1)) fun t37=>aA (jM 9 t22 none (some t37) none r36.2) fun t38=>KV Q t2 t38 t32 t0 t1 t23 r36.2)
 (KV Q t2 t22 t32 t0 t1 t23 (adv r29.2 1)))
theorem aPd (t0 t1 t2:AV) (s:St) {Q:aC} (h:f86 Q t0 t1 t2 s):eG 86 [t0,t1,t2] s Q:=aH (h:=86) (fn:=Tryz.f86) (c:=sub FK []) (show JJ (sub FK []) (xS Q) aX (xS Q)=_ from (aO (aO (aO (aO (aO (aJp Q) rfl) rfl) rfl) rfl) rfl)) h
abbrev NH:Code:=aN Tryz.f136
abbrev HL:=rK Tryz.f136
abbrev TN:=aL mEv 136 (mEv.kp 136)
def xH (Q:aC) (t0 t3:AV) (s:St):Prop:=aA (bt .len #[56] [t0] (s.nx+1) (adv s 3)) fun r26=>aA (bn .geq 3 r26.1 (.int .i64 20000)) fun t27=>aP t27
 (Q (.tup [t0,(.int .i64 0),(.int .i64 2)]) (adv r26.2 4))
 (aA (bt .append #[56,56] [.nils,t0] (r26.2.nx+1) (adv r26.2 3)) fun r30=>aA (ld 7 true t3 (adv r30.2 9)) fun t32=>aA (fZ 56 1 [(0,t32)]) fun t33=>aA (bt .append #[56,56] [r30.1,t33] (r30.2.nx+3) (adv r30.2 9)) fun r34=>aA (bt .len #[56] [t0] (r30.2.nx+5) r34.2) fun r36=>Q (.tup [r34.1,r36.1,(.int .i64 0)]) r36.2)
def SA (Q:aC) (ih1:AV->AV->aC) (t7 t0 t3:AV) (s:St):Prop:=aA (bn .add 3 t7 (.int .i64 1)) fun t15=>ih1 t0 t3 t15 (adv s 3)
def uZ (Q:aC) (ih1:AV->AV->aC) (t0 t3 t7:AV) (s:St):Prop:=aA (bt .len #[56] [t0] (s.nx+2) (adv s 4)) fun r12=>aA (bn .lss 3 t7 r12.1) fun t13=>aP t13
 (aA (cA 7 t0 t7) fun t18=>aA (ld 7 true t18 (adv r12.2 7)) fun t19=>aA (ld 7 true t3 (adv r12.2 7)) fun t20=>dW mEv 188 [t19,t20] (rch (adv r12.2 7) [(.fn 188 [] []),t19,t20]) (adv r12.2 7) fun t21 s1=>aP t21
 (Q (.tup [t0,t7,(.int .i64 0)]) (adv s1 6))
 (SA Q ih1 t7 t0 t3 (adv s1 1)))
 (xH Q t0 t3 r12.2)
def pZ (Q:aC) (n:Nat):AV->AV->aC:=fY (fun _ _ _ _ =>False) (fun ih=>uZ Q ih) n
theorem aCj (Q:aC):TN (sub NH [Y,Y]) (HL Q) aX (HL Q)=(fun g s=>xH Q (g 0) (g 3) s):=Eq.trans rfl (by kernel_rfl)
theorem WW (Q:aC) (n1:Nat):TN (sub NH [Y,N,Y,N,N,Y,Y]) (mA (fun n g s=>pZ Q n (g 0) (g 3) (g 7) s) 136 n1) (cE 0 (fun g s=>xH Q (g 0) (g 3) s) aX) (HL Q)=(fun g s=>SA Q (pZ Q n1) (g 7) (g 0) (g 3) s):=Eq.trans rfl (by kernel_rfl)
theorem ZL (Q:aC) (kN:Kt):TN (sub NH [Y,N,Y,N]) kN (cE 0 (fun g s=>xH Q (g 0) (g 3) s) aX) (HL Q)=fun g s=>∃ n,pZ Q n (g 0) (g 3) (g 7) s:=jW (L:=fun n g s=>pZ Q n (g 0) (g 3) (g 7) s) (fun n1=>Eq.trans (aO (aO (WW Q n1) (dI 1 rfl)) rfl) (by kernel_rfl))
def f136 (Q:aC) (t0 t1:AV) (s:St):Prop:=(t1.cells.all AV.one=true /\
 ∃ n,pZ Q n t0 (.ptr s.nx 0) (.int .i64 0) (adv ((adv s 4).set s.nx (some (.cells t1.cells 101 true true))) 1))
theorem aDl (t0 t1:AV) (s:St) {Q:aC} (h:f136 Q t0 t1 s):eG 136 [t0,t1] s Q:=aH (h:=136) (fn:=Tryz.f136) (c:=sub NH []) (show TN (sub NH []) (HL Q) aX (HL Q)=_ from (aO (aO (aCj Q) (aO (dI 0 (ZL Q _)) rfl)) rfl)) h
abbrev yR:Code:=aN Tryz.f138
abbrev vF:=rK Tryz.f138
abbrev BI:=aL mEv 138 (mEv.kp 138)
def jD (Q:aC) (s:St):Prop:=Q (.tup [(.str []),(.str [])]) (adv s 2)
def BW (Q:aC) (t36 t4:AV) (s:St):Prop:=aP t36
 (Q (.tup [(.str [83,83]),(.str [66])]) (adv s 2))
 (aA (bn .eql 3 t4 (.int .i64 29)) fun t41=>aP t41
 (Q (.tup [(.str [83,83,73]),(.str [73])]) (adv s 4))
 (aA (bn .eql 3 t4 (.int .i64 30)) fun t43=>aP t43
 (Q (.tup [(.str [83,83,83]),(.str [83])]) (adv s 6))
 (jD Q (adv s 4))))
def xL (Q:aC) (t23 t4:AV) (s:St):Prop:=aP t23
 (Q (.tup [(.str [73,73,43]),(.str [66])]) (adv s 2))
 (aA (bn .eql 3 t4 (.int .i64 22)) fun t29=>aP t29
 (Q (.tup [(.str [83,83,43]),(.str [83])]) (adv s 4))
 (aA (bn .eql 3 t4 (.int .i64 23)) fun t31=>aP t31
 (Q (.tup [(.str [83]),(.str [73])]) (adv s 6))
 (aA (bn .eql 3 t4 (.int .i64 24)) fun t33=>aP t33
 (Q (.tup [(.str [83,73]),(.str [83])]) (adv s 8))
 (aA (bn .eql 3 t4 (.int .i64 25)) fun t35=>aP t35
 (Q (.tup [(.str [83,73,73]),(.str [83])]) (adv s 10))
 (aA (bn .eql 3 t4 (.int .i64 26)) fun t37=>aP t37
 (BW Q t37 t4 (adv s 10))
 (aA (bn .eql 3 t4 (.int .i64 27)) fun t38=>aP t38
 (BW Q t38 t4 (adv s 12))
 (aA (bn .eql 3 t4 (.int .i64 28)) fun t39=>BW Q t39 t4 (adv s 14))))))))
def EX (Q:aC) (t19 t4:AV) (s:St):Prop:=aP t19
 (Q (.tup [(.str [73,73,43]),(.str [73])]) (adv s 2))
 (aA (bn .eql 3 t4 (.int .i64 18)) fun t24=>aP t24
 (xL Q t24 t4 (adv s 2))
 (aA (bn .eql 3 t4 (.int .i64 19)) fun t25=>aP t25
 (xL Q t25 t4 (adv s 4))
 (aA (bn .eql 3 t4 (.int .i64 20)) fun t26=>aP t26
 (xL Q t26 t4 (adv s 6))
 (aA (bn .eql 3 t4 (.int .i64 21)) fun t27=>xL Q t27 t4 (adv s 8)))))
def JV (Q:aC) (t12 t4:AV) (s:St):Prop:=aP t12
 (Q (.tup [(.str [97,61,43]),(.str [66])]) (adv s 2))
 (aA (bn .eql 3 t4 (.int .i64 13)) fun t16=>aP t16
 (Q (.tup [(.str [66,97,61]),(.str [61])]) (adv s 4))
 (aA (bn .eql 3 t4 (.int .i64 14)) fun t18=>aP t18
 (Q (.tup [(.str [73]),(.str [73])]) (adv s 6))
 (aA (bn .eql 3 t4 (.int .i64 15)) fun t20=>aP t20
 (EX Q t20 t4 (adv s 6))
 (aA (bn .eql 3 t4 (.int .i64 16)) fun t21=>aP t21
 (EX Q t21 t4 (adv s 8))
 (aA (bn .eql 3 t4 (.int .i64 17)) fun t22=>EX Q t22 t4 (adv s 10))))))
def xQ (Q:aC) (t7 t4:AV) (s:St):Prop:=aP t7
 (Q (.tup [(.str [66,66,43]),(.str [66])]) (adv s 2))
 (aA (bn .eql 3 t4 (.int .i64 11)) fun t13=>aP t13
 (JV Q t13 t4 (adv s 2))
 (aA (bn .eql 3 t4 (.int .i64 12)) fun t14=>JV Q t14 t4 (adv s 4)))
theorem aCb (Q:aC):BI (sub yR [Y,Y]) (vF Q) aX (vF Q)=(fun g s=>jD Q s):=Eq.trans rfl (by kernel_rfl)
theorem aAj (Q:aC):BI (sub yR [Y,N,Y,N,Y,Y,Y,Y,Y,Y,Y,Y,Y,Y,Y,Y,Y,Y,Y,Y,Y,Y,Y,Y,Y,Y,Y]) (fun g s=>jD Q s) (cE 0 (fun g s=>jD Q s) aX) (vF Q)=(fun g s=>BW Q (g 36) (g 4) s):=Eq.trans rfl (by kernel_rfl)
theorem aBt (Q:aC):BI (sub yR [Y,N,Y,N,Y,Y,Y,Y,Y,Y,Y,Y,Y,Y,Y,Y,Y]) (fun g s=>jD Q s) (cE 0 (fun g s=>jD Q s) aX) (vF Q)=(fun g s=>xL Q (g 23) (g 4) s):=Eq.trans (cdA (.tmp 23) rfl (aO (cdA (.tmp 28) rfl (aO (cdA (.tmp 30) rfl (aO (cdA (.tmp 32) rfl (aO (cdA (.tmp 34) rfl (aO (aAj Q) rfl)) rfl)) rfl)) rfl)) rfl)) (by kernel_rfl)
theorem WT (Q:aC):BI (sub yR [Y,N,Y,N,Y,Y,Y,Y,Y,Y,Y,Y,Y,Y,Y]) (fun g s=>jD Q s) (cE 0 (fun g s=>jD Q s) aX) (vF Q)=(fun g s=>EX Q (g 19) (g 4) s):=Eq.trans (cdA (.tmp 19) rfl (aO (aBt Q) rfl)) (by kernel_rfl)
theorem YI (Q:aC):BI (sub yR [Y,N,Y,N,Y,Y,Y,Y,Y]) (fun g s=>jD Q s) (cE 0 (fun g s=>jD Q s) aX) (vF Q)=(fun g s=>JV Q (g 12) (g 4) s):=Eq.trans (cdA (.tmp 12) rfl (aO (cdA (.tmp 15) rfl (aO (cdA (.tmp 17) rfl (aO (WT Q) rfl)) rfl)) rfl)) (by kernel_rfl)
theorem aCn (Q:aC):BI (sub yR [Y,N,Y,N,Y,Y,Y]) (fun g s=>jD Q s) (cE 0 (fun g s=>jD Q s) aX) (vF Q)=(fun g s=>xQ Q (g 7) (g 4) s):=Eq.trans (cdA (.tmp 7) rfl (aO (YI Q) rfl)) (by kernel_rfl)
def f138 (Q:aC) (t0:AV) (s:St):Prop:=aA (bn .eql 3 t0 (.int .i64 6)) fun t6=>aP t6
 (Q (.tup [(.str [66]),(.str [66])]) (adv s 7))
 (aA (bn .eql 3 t0 (.int .i64 7)) fun t8=>aP t8
 (xQ Q t8 t0 (adv s 7))
 (aA (bn .eql 3 t0 (.int .i64 8)) fun t9=>aP t9
 (xQ Q t9 t0 (adv s 9))
 (aA (bn .eql 3 t0 (.int .i64 9)) fun t10=>aP t10
 (xQ Q t10 t0 (adv s 11))
 (aA (bn .eql 3 t0 (.int .i64 10)) fun t11=>xQ Q t11 t0 (adv s 13)))))
theorem aHf (t0:AV) (s:St) {Q:aC} (h:f138 Q t0 s):eG 138 [t0] s Q:=aH (h:=138) (fn:=Tryz.f138) (c:=sub yR []) (show BI (sub yR []) (vF Q) aX (vF Q)=_ from (aO (aO (aCb Q) (aO (dI 0 (aO (cdA (.tmp 5) rfl (aO (aCn Q) rfl)) rfl)) rfl)) rfl)) h
def f139 (Q:aC) (t0:AV) (s:St):Prop:=aA (uK 9 (.str [63,66,73,83]) t0) fun t4=>Q t4 (adv s 4)
abbrev aVq:Code:=aN Tryz.f140
abbrev aXk:=rK Tryz.f140
abbrev bGd:=aL mEv 140 (mEv.kp 140)
def f140 (Q:aC) (t0 t1:AV) (s:St):Prop:=aA (cA 7 t0 t1) fun t8=>aA (ld 7 true t8 (adv s 7)) fun t9=>aA (zr 101) fun z5=>aA (bQ 7 (.ptr (s.nx+5) 0) t9 ((adv s 7).set (s.nx+5) (some (.cells z5.cells 101 true true)))) fun s1=>aA (aD 0 (.ptr (s.nx+5) 0)) fun t10=>aA (ld 1 false t10 (adv s1 20)) fun t11=>aA (bn .eql 3 t11 (.int .i64 4)) fun t12=>Gd (aB t12 false) (adv s1 20) (fun k=>aA (aD 0 (.ptr (s.nx+5) 0)) fun v=>k v (adv s1 20)) fun t14 s2=>Gd (aB t12 false) s2 (fun k=>aA (ld 1 false t14 s2) fun v=>k v s2) fun t15 s3=>Gd (aB t12 false) s3 (fun k=>aA (bn .eql 3 t15 (.int .i64 14)) fun v=>k v s3) fun t16 s4=>Gd (aB t12 false) s4 (fun k=>k t16 s4) fun t17 s5=>Gd (aB t17 true) s5 (fun k=>k t0 s5) fun t18 s6=>Gd (aB t17 true) s6 (fun k=>aA (aD 2 (.ptr (s.nx+5) 0)) fun v=>k v s6) fun t19 s7=>Gd (aB t17 true) s7 (fun k=>aA (ld 1 false t19 s7) fun v=>k v s7) fun t20 s8=>Gd (aB t17 true) s8 (fun k=>aA (cA 1 t20 (.int .i64 0)) fun v=>k v s8) fun t21 s9=>Gd (aB t17 true) s9 (fun k=>aA (ld 1 false t21 s9) fun v=>k v s9) fun t22 s10=>Gd (aB t17 true) s10 (fun k=>aA (cA 7 t18 t22) fun v=>k v s10) fun t23 s11=>Gd (aB t17 true) s11 (fun k=>aA (aD 0 t23) fun v=>k v s11) fun t24 s12=>Gd (aB t17 true) s12 (fun k=>aA (ld 1 false t24 s12) fun v=>k v s12) fun t25 s13=>Gd (aB t17 true) s13 (fun k=>aA (bn .eql 3 t25 (.int .i64 4)) fun v=>k v s13) fun t26 s14=>Gd (aB t12 false) s14 (fun k=>aA (aJ t17 t26 (.bool false)) fun v=>k v s14) fun t27 s15 =>
 aA (aJ t12 (.bool true) t27) fun t28=>Q t28 s15
theorem aDc (t0 t1:AV) (s:St) {Q:aC} (h:f140 Q t0 t1 s):eG 140 [t0,t1] s Q:=aH (h:=140) (fn:=Tryz.f140) (c:=sub aVq []) (show bGd (sub aVq []) (aXk Q) aX (aXk Q)=_ from rfl) h
def bBw (Q:aC) (s:St):Prop:=Q (.int .i64 3) (adv s 1)
def f141 (Q:aC) (t0:AV) (s:St):Prop:=aA (bn .eql 5 t0 (.int .u8 66)) fun t5=>aP t5
 (Q (.int .i64 1) (adv s 5))
 (aA (bn .eql 5 t0 (.int .u8 73)) fun t7=>aP t7
 (Q (.int .i64 2) (adv s 7))
 (bBw Q (adv s 6)))
abbrev aYc:Code:=aN Tryz.f188
abbrev aVu:=rK Tryz.f188
abbrev bDv:=aL mEv 188 (mEv.kp 188)
def f188 (Q:aC) (t0 t1:AV) (s:St):Prop:=(t0.cells.all AV.one=true /\
 (t1.cells.all AV.one=true /\
 aA (aD 2 (.ptr s.nx 0)) fun t8=>aA (ld 1 false t8 (adv (((adv s 3).set s.nx (some (.cells t0.cells 101 true true))).set (s.nx+1) (some (.cells t1.cells 101 true true))) 6)) fun t9=>aA (aD 2 (.ptr (s.nx+1) 0)) fun t10=>aA (ld 1 false t10 (adv (((adv s 3).set s.nx (some (.cells t0.cells 101 true true))).set (s.nx+1) (some (.cells t1.cells 101 true true))) 6)) fun t11=>aE mEv 218 [t9,t11] (adv (((adv s 3).set s.nx (some (.cells t0.cells 101 true true))).set (s.nx+1) (some (.cells t1.cells 101 true true))) 6) fun t12 s1=>aA (aD 4 (.ptr s.nx 0)) fun t13=>aA (ld 2 true t13 (adv s1 8)) fun t14=>dW mEv 118 [t14] (rch (adv s1 8) [(.fn 118 [] []),t14]) (adv s1 8) fun t15 s2=>aA (aD 4 (.ptr (s.nx+1) 0)) fun t16=>aA (ld 2 true t16 s2) fun t17=>dW mEv 118 [t17] (rch s2 [(.fn 118 [] []),t17]) s2 fun t18 s3=>dW mEv 219 [t15,t18] (rch s3 [(.fn 219 [] []),t15,t18]) s3 fun t19 s4=>aA (aD 6 (.ptr s.nx 0)) fun t20=>aA (ld 1 false t20 (adv s4 6)) fun t21=>aA (aD 6 (.ptr (s.nx+1) 0)) fun t22=>aA (ld 1 false t22 (adv s4 6)) fun t23=>aE mEv 220 [t21,t23] (adv s4 6) fun t24 s5=>Gd (aB t12 true) (adv s5 29) (fun k=>k t19 (adv s5 29)) fun t27 s6=>aA (aJ t12 t27 (.bool false)) fun t28=>Gd (aB t28 true) s6 (fun k=>k t24 s6) fun t30 s7=>aA (aJ t28 t30 (.bool false)) fun t31=>Gd (aB t31 true) s7 (fun k=>aA (aD 0 (.ptr s.nx 0)) fun v=>k v s7) fun t33 s8=>Gd (aB t31 true) s8 (fun k=>aA (ld 1 false t33 s8) fun v=>k v s8) fun t34 s9 =>
 Gd (aB t31 true) s9 (fun k=>aA (aD 0 (.ptr (s.nx+1) 0)) fun v=>k v s9) fun t35 s10=>Gd (aB t31 true) s10 (fun k=>aA (ld 1 false t35 s10) fun v=>k v s10) fun t36 s11=>Gd (aB t31 true) s11 (fun k=>aA (bn .eql 3 t34 t36) fun v=>k v s11) fun t37 s12=>aA (aJ t31 t37 (.bool false)) fun t38=>Gd (aB t38 true) s12 (fun k=>aA (aD 1 (.ptr s.nx 0)) fun v=>k v s12) fun t40 s13=>Gd (aB t38 true) s13 (fun k=>aA (ld 1 false t40 s13) fun v=>k v s13) fun t41 s14=>Gd (aB t38 true) s14 (fun k=>aA (aD 1 (.ptr (s.nx+1) 0)) fun v=>k v s14) fun t42 s15=>Gd (aB t38 true) s15 (fun k=>aA (ld 1 false t42 s15) fun v=>k v s15) fun t43 s16=>Gd (aB t38 true) s16 (fun k=>aA (bn .eql 3 t41 t43) fun v=>k v s16) fun t44 s17=>aA (aJ t38 t44 (.bool false)) fun t45=>Gd (aB t45 true) s17 (fun k=>aA (aD 3 (.ptr s.nx 0)) fun v=>k v s17) fun t47 s18=>Gd (aB t45 true) s18 (fun k=>aA (ld 1 false t47 s18) fun v=>k v s18) fun t48 s19=>Gd (aB t45 true) s19 (fun k=>aA (aD 3 (.ptr (s.nx+1) 0)) fun v=>k v s19) fun t49 s20=>Gd (aB t45 true) s20 (fun k=>aA (ld 1 false t49 s20) fun v=>k v s20) fun t50 s21=>Gd (aB t45 true) s21 (fun k=>aA (bn .eql 9 t48 t50) fun v=>k v s21) fun t51 s22=>aA (aJ t45 t51 (.bool false)) fun t52=>Q t52 s22))
theorem aHa (t0 t1:AV) (s:St) {Q:aC} (h:f188 Q t0 t1 s):eG 188 [t0,t1] s Q:=aH (h:=188) (fn:=Tryz.f188) (c:=sub aYc []) (show bDv (sub aYc []) (aVu Q) aX (aVu Q)=_ from rfl) h
abbrev LC:Code:=aN Tryz.f218
abbrev FQ:=rK Tryz.f218
abbrev UL:=aL mEv 218 (mEv.kp 218)
def BE (Q:aC) (s:St):Prop:=Q (.bool true) (adv s 1)
def QB (Q:aC) (ih1:AV->AV->aC) (t5 t0 t1:AV) (s:St):Prop:=aA (bn .add 3 t5 (.int .i64 1)) fun t16=>ih1 t0 t1 t16 (adv s 3)
def vC (Q:aC) (ih1:AV->AV->aC) (t0 t1 t5:AV) (s:St):Prop:=aA (bt .len #[72] [t0] (s.nx+2) (adv s 4)) fun r13=>aA (bn .lss 3 t5 r13.1) fun t14=>aP t14
 (aA (cA 1 t0 t5) fun t19=>aA (ld 1 false t19 (adv r13.2 9)) fun t20=>aA (cA 1 t1 t5) fun t23=>aA (ld 1 false t23 (adv r13.2 9)) fun t24=>aA (bn .neq 3 t20 t24) fun t25=>aP t25
 (Q (.bool false) (adv r13.2 10))
 (QB Q ih1 t5 t0 t1 (adv r13.2 9)))
 (BE Q r13.2)
def qK (Q:aC) (n:Nat):AV->AV->aC:=fY (fun _ _ _ _ =>False) (fun ih=>vC Q ih) n
theorem aBb (Q:aC):UL (sub LC [Y,Y,Y]) (FQ Q) aX (FQ Q)=(fun g s=>BE Q s):=Eq.trans rfl (by kernel_rfl)
theorem aBw (Q:aC) (n1:Nat):UL (sub LC [Y,Y,N,Y,N,N,Y,Y]) (mA (fun n g s=>qK Q n (g 0) (g 1) (g 5) s) 218 n1) (cE 0 (fun g s=>BE Q s) aX) (FQ Q)=(fun g s=>QB Q (qK Q n1) (g 5) (g 0) (g 1) s):=Eq.trans rfl (by kernel_rfl)
theorem ZG (Q:aC) (kN:Kt):UL (sub LC [Y,Y,N,Y,N]) kN (cE 0 (fun g s=>BE Q s) aX) (FQ Q)=fun g s=>∃ n,qK Q n (g 0) (g 1) (g 5) s:=jW (L:=fun n g s=>qK Q n (g 0) (g 1) (g 5) s) (fun n1=>Eq.trans (aO (aO (aBw Q n1) (dI 1 rfl)) rfl) (by kernel_rfl))
def f218 (Q:aC) (t0 t1:AV) (s:St):Prop:=aA (bt .len #[72] [t0] (s.nx+2) (adv s 6)) fun r7=>aA (bt .len #[72] [t1] (s.nx+4) r7.2) fun r9=>aA (bn .neq 3 r7.1 r9.1) fun t10=>aP t10
 (Q (.bool false) (adv r9.2 1))
 (∃ n,qK Q n t0 t1 (.int .i64 0) (adv r9.2 1))
theorem aEm (t0 t1:AV) (s:St) {Q:aC} (h:f218 Q t0 t1 s):eG 218 [t0,t1] s Q:=aH (h:=218) (fn:=Tryz.f218) (c:=sub LC []) (show UL (sub LC []) (FQ Q) aX (FQ Q)=_ from (aO (aO (aO (aBb Q) (aO (dI 0 (ZG Q _)) rfl)) rfl) rfl)) h
abbrev aWp:Code:=aN Tryz.f219
abbrev aWt:=rK Tryz.f219
abbrev bGl:=aL mEv 219 (mEv.kp 219)
def f219 (Q:aC) (t0 t1:AV) (s:St):Prop:=(t0.cells.all AV.one=true /\
 (t1.cells.all AV.one=true /\
 aA (aD 1 (.ptr s.nx 0)) fun t6=>aA (ld 1 false t6 (adv (((adv s 3).set s.nx (some (.cells t0.cells 24 true true))).set (s.nx+1) (some (.cells t1.cells 24 true true))) 6)) fun t7=>aA (aD 1 (.ptr (s.nx+1) 0)) fun t8=>aA (ld 1 false t8 (adv (((adv s 3).set s.nx (some (.cells t0.cells 24 true true))).set (s.nx+1) (some (.cells t1.cells 24 true true))) 6)) fun t9=>aE mEv 247 [t7,t9] (adv (((adv s 3).set s.nx (some (.cells t0.cells 24 true true))).set (s.nx+1) (some (.cells t1.cells 24 true true))) 6) fun t10 s1=>Gd (aB t10 true) (adv s1 9) (fun k=>aA (aD 0 (.ptr s.nx 0)) fun v=>k v (adv s1 9)) fun t13 s2=>Gd (aB t10 true) s2 (fun k=>aA (ld 1 false t13 s2) fun v=>k v s2) fun t14 s3=>Gd (aB t10 true) s3 (fun k=>aA (aD 0 (.ptr (s.nx+1) 0)) fun v=>k v s3) fun t15 s4=>Gd (aB t10 true) s4 (fun k=>aA (ld 1 false t15 s4) fun v=>k v s4) fun t16 s5=>Gd (aB t10 true) s5 (fun k=>aA (bn .eql 4 t14 t16) fun v=>k v s5) fun t17 s6=>aA (aJ t10 t17 (.bool false)) fun t18=>Q t18 s6))
theorem aLz (t0 t1:AV) (s:St) {Q:aC} (h:f219 Q t0 t1 s):eG 219 [t0,t1] s Q:=aH (h:=219) (fn:=Tryz.f219) (c:=sub aWp []) (show bGl (sub aWp []) (aWt Q) aX (aWt Q)=_ from rfl) h
abbrev OE:Code:=aN Tryz.f220
abbrev HC:=rK Tryz.f220
abbrev TT:=aL mEv 220 (mEv.kp 220)
def DX (Q:aC) (s:St):Prop:=Q (.bool true) (adv s 1)
def QR (Q:aC) (ih1:AV->AV->aC) (t5 t0 t1:AV) (s:St):Prop:=aA (bn .add 3 t5 (.int .i64 1)) fun t16=>ih1 t0 t1 t16 (adv s 3)
def vB (Q:aC) (ih1:AV->AV->aC) (t0 t1 t5:AV) (s:St):Prop:=aA (bt .len #[25] [t0] (s.nx+2) (adv s 4)) fun r13=>aA (bn .lss 3 t5 r13.1) fun t14=>aP t14
 (aA (cA 2 t0 t5) fun t19=>aA (ld 2 true t19 (adv r13.2 9)) fun t20=>aA (cA 2 t1 t5) fun t23=>aA (ld 2 true t23 (adv r13.2 9)) fun t24=>aA (bn .neq 109 t20 t24) fun t25=>aP t25
 (Q (.bool false) (adv r13.2 10))
 (QR Q ih1 t5 t0 t1 (adv r13.2 9)))
 (DX Q r13.2)
def pI (Q:aC) (n:Nat):AV->AV->aC:=fY (fun _ _ _ _ =>False) (fun ih=>vB Q ih) n
theorem ZZ (Q:aC):TT (sub OE [Y,Y,Y]) (HC Q) aX (HC Q)=(fun g s=>DX Q s):=Eq.trans rfl (by kernel_rfl)
theorem WZ (Q:aC) (n1:Nat):TT (sub OE [Y,Y,N,Y,N,N,Y,Y]) (mA (fun n g s=>pI Q n (g 0) (g 1) (g 5) s) 220 n1) (cE 0 (fun g s=>DX Q s) aX) (HC Q)=(fun g s=>QR Q (pI Q n1) (g 5) (g 0) (g 1) s):=Eq.trans rfl (by kernel_rfl)
theorem WM (Q:aC) (kN:Kt):TT (sub OE [Y,Y,N,Y,N]) kN (cE 0 (fun g s=>DX Q s) aX) (HC Q)=fun g s=>∃ n,pI Q n (g 0) (g 1) (g 5) s:=jW (L:=fun n g s=>pI Q n (g 0) (g 1) (g 5) s) (fun n1=>Eq.trans (aO (aO (WZ Q n1) (dI 1 rfl)) rfl) (by kernel_rfl))
def f220 (Q:aC) (t0 t1:AV) (s:St):Prop:=aA (bt .len #[25] [t0] (s.nx+2) (adv s 6)) fun r7=>aA (bt .len #[25] [t1] (s.nx+4) r7.2) fun r9=>aA (bn .neq 3 r7.1 r9.1) fun t10=>aP t10
 (Q (.bool false) (adv r9.2 1))
 (∃ n,pI Q n t0 t1 (.int .i64 0) (adv r9.2 1))
theorem aFf (t0 t1:AV) (s:St) {Q:aC} (h:f220 Q t0 t1 s):eG 220 [t0,t1] s Q:=aH (h:=220) (fn:=Tryz.f220) (c:=sub OE []) (show TT (sub OE []) (HC Q) aX (HC Q)=_ from (aO (aO (aO (ZZ Q) (aO (dI 0 (WM Q _)) rfl)) rfl) rfl)) h
abbrev LF:Code:=aN Tryz.f247
abbrev GL:=rK Tryz.f247
abbrev VN:=aL mEv 247 (mEv.kp 247)
def DD (Q:aC) (s:St):Prop:=Q (.bool true) (adv s 1)
def QG (Q:aC) (ih1:AV->AV->aC) (t5 t0 t1:AV) (s:St):Prop:=aA (bn .add 3 t5 (.int .i64 1)) fun t16=>ih1 t0 t1 t16 (adv s 3)
def uR (Q:aC) (ih1:AV->AV->aC) (t0 t1 t5:AV) (s:St):Prop:=aA (bt .len #[22] [t0] (s.nx+2) (adv s 4)) fun r13=>aA (bn .lss 3 t5 r13.1) fun t14=>aP t14
 (aA (cA 1 t0 t5) fun t19=>aA (ld 1 false t19 (adv r13.2 9)) fun t20=>aA (cA 1 t1 t5) fun t23=>aA (ld 1 false t23 (adv r13.2 9)) fun t24=>aA (bn .neq 211 t20 t24) fun t25=>aP t25
 (Q (.bool false) (adv r13.2 10))
 (QG Q ih1 t5 t0 t1 (adv r13.2 9)))
 (DD Q r13.2)
def qG (Q:aC) (n:Nat):AV->AV->aC:=fY (fun _ _ _ _ =>False) (fun ih=>uR Q ih) n
theorem aAd (Q:aC):VN (sub LF [Y,Y,Y]) (GL Q) aX (GL Q)=(fun g s=>DD Q s):=Eq.trans rfl (by kernel_rfl)
theorem ZY (Q:aC) (n1:Nat):VN (sub LF [Y,Y,N,Y,N,N,Y,Y]) (mA (fun n g s=>qG Q n (g 0) (g 1) (g 5) s) 247 n1) (cE 0 (fun g s=>DD Q s) aX) (GL Q)=(fun g s=>QG Q (qG Q n1) (g 5) (g 0) (g 1) s):=Eq.trans rfl (by kernel_rfl)
theorem XO (Q:aC) (kN:Kt):VN (sub LF [Y,Y,N,Y,N]) kN (cE 0 (fun g s=>DD Q s) aX) (GL Q)=fun g s=>∃ n,qG Q n (g 0) (g 1) (g 5) s:=jW (L:=fun n g s=>qG Q n (g 0) (g 1) (g 5) s) (fun n1=>Eq.trans (aO (aO (ZY Q n1) (dI 1 rfl)) rfl) (by kernel_rfl))
def f247 (Q:aC) (t0 t1:AV) (s:St):Prop:=aA (bt .len #[22] [t0] (s.nx+2) (adv s 6)) fun r7=>aA (bt .len #[22] [t1] (s.nx+4) r7.2) fun r9=>aA (bn .neq 3 r7.1 r9.1) fun t10=>aP t10
 (Q (.bool false) (adv r9.2 1))
 (∃ n,qG Q n t0 t1 (.int .i64 0) (adv r9.2 1))
theorem aMf (t0 t1:AV) (s:St) {Q:aC} (h:f247 Q t0 t1 s):eG 247 [t0,t1] s Q:=aH (h:=247) (fn:=Tryz.f247) (c:=sub LF []) (show VN (sub LF []) (GL Q) aX (GL Q)=_ from (aO (aO (aO (aAd Q) (aO (dI 0 (XO Q _)) rfl)) rfl) rfl)) h
end
noncomputable section
abbrev aId:Code:=aN Tryz.f10
abbrev ZF:=rK Tryz.f10
abbrev aPg:=aL mEv 10 (mEv.kp 10)
def FR (Q:aC) (t0 t9 t1 t2:AV) (s:St):Prop:=aE mEv 38 [t0] (adv s 3) fun t43 s1=>aY mEv 31 [t9] (adv s1 5) fun t45 s2=>aA (bt .len #[56] [t43] (s1.nx+3) s2) fun r47=>aA (bn .neq 3 t45 r47.1) fun t48=>aP t48
 (Q (.bool false) (adv r47.2 1))
 (aY mEv 39 [t9,t1] (adv r47.2 9) fun t52 s3=>aA (aQ t52 0) fun t53=>aA (aQ t52 1) fun t54=>aA (zr 33) fun z12=>aA (bQ 6 (.ptr (r47.2.nx+6) 0) t53 (s3.set (r47.2.nx+6) (some (.cells z12.cells 33 true true)))) fun s4=>aE mEv 40 [t43,t1] (adv s4 9) fun t58 s5=>aA (aQ t58 0) fun t59=>aA (aQ t58 1) fun t60=>aA (zr 33) fun z14=>aA (bQ 6 (.ptr (s4.nx+6) 0) t59 (s5.set (s4.nx+6) (some (.cells z14.cells 33 true true)))) fun s6=>aA (ld 6 true (.ptr (r47.2.nx+6) 0) (adv s6 4)) fun t61=>aA (ld 6 true (.ptr (s4.nx+6) 0) (adv s6 4)) fun t62=>aE mEv 18 [t61,t62,(.bool true)] (adv s6 4) fun t63 s7=>Gd (aB t63 true) (adv s7 14) (fun k=>k t54 (adv s7 14)) fun t66 s8=>Gd (aB t63 true) s8 (fun k=>k t60 s8) fun t67 s9=>Gd (aB t63 true) s9 (fun k=>aA (bn .eql 34 t66 t67) fun v=>k v s9) fun t68 s10=>aA (aJ t63 t68 (.bool false)) fun t69=>Gd (aB t69 true) s10 (fun k=>k t2 s10) fun t71 s11=>Gd (aB t69 true) s11 (fun k=>aE mEv 22 [t71] s11 k) fun t72 s12=>Gd (aB t69 true) s12 (fun k=>k t2 s12) fun t73 s13=>Gd (aB t69 true) s13 (fun k=>aE mEv 41 [t73] s13 k) fun t74 s14=>Gd (aB t69 true) s14 (fun k=>aA (bn .eql 9 t72 t74) fun v=>k v s14) fun t75 s15=>aA (aJ t69 t75 (.bool false)) fun t76=>Q t76 s15)
def aKg (Q:aC) (ih1:AV->AV->AV->AV->aC) (t10 t0 t1 t2 t9:AV) (s:St):Prop:=aA (bn .add 3 t10 (.int .i64 1)) fun t35=>ih1 t0 t1 t2 t9 t35 (adv s 3)
def CI (Q:aC) (ih1:AV->AV->AV->AV->aC) (t0 t1 t2 t9 t10:AV) (s:St):Prop:=aA (bt .len #[69] [t0] (s.nx+2) (adv s 4)) fun r32=>aA (bn .lss 3 t10 r32.1) fun t33=>aP t33
 (aA (cA 9 t0 t10) fun t39=>aA (ld 9 true t39 (adv r32.2 6)) fun t40=>aY mEv 37 [t9,t40] (adv r32.2 6) fun t41 s1=>aKg Q ih1 t10 t0 t1 t2 t9 s1)
 (FR Q t0 t9 t1 t2 r32.2)
def zD (Q:aC) (n:Nat):AV->AV->AV->AV->aC:=fY (fun _ _ _ _ _ _ =>False) (fun ih=>CI Q ih) n
theorem aEz (Q:aC):aPg (sub aId [Y,Y,Y,Y,Y,Y]) (ZF Q) aX (ZF Q)=(fun g s=>FR Q (g 0) (g 9) (g 1) (g 2) s):=Eq.trans rfl (by kernel_rfl)
theorem aEf (Q:aC) (n1:Nat):aPg (sub aId [Y,Y,Y,Y,Y,N,Y,N,N,Y,Y]) (mA (fun n g s=>zD Q n (g 0) (g 1) (g 2) (g 9) (g 10) s) 10 n1) (cE 0 (fun g s=>FR Q (g 0) (g 9) (g 1) (g 2) s) aX) (ZF Q)=(fun g s=>aKg Q (zD Q n1) (g 10) (g 0) (g 1) (g 2) (g 9) s):=Eq.trans rfl (by kernel_rfl)
theorem aDw (Q:aC) (kN:Kt):aPg (sub aId [Y,Y,Y,Y,Y,N,Y,N]) kN (cE 0 (fun g s=>FR Q (g 0) (g 9) (g 1) (g 2) s) aX) (ZF Q)=fun g s=>∃ n,zD Q n (g 0) (g 1) (g 2) (g 9) (g 10) s:=jW (L:=fun n g s=>zD Q n (g 0) (g 1) (g 2) (g 9) (g 10) s) (fun n1=>Eq.trans (aO (aO (aEf Q n1) (dI 1 rfl)) rfl) (by kernel_rfl))
def f10 (Q:aC) (t0 t1 t2:AV) (s:St):Prop:=aE mEv 15 [] (adv s 3) fun t17 s1=>aE mEv 36 [t0,(.int .i64 120)] (adv s1 4) fun t19 s2=>aA (bn .eql 3 t19 (.int .i64 0)) fun t20=>aA (un .not t17) fun t22=>Gd (aB t22 false) (adv s2 6) (fun k=>k t20 (adv s2 6)) fun t24 s3=>Gd (aB t22 false) s3 (fun k=>aA (un .not t24) fun v=>k v s3) fun t25 s4=>aA (aJ t22 (.bool true) t25) fun t26=>aP t26
 (Q t17 (adv s4 2))
 (aA (eE 58 []) fun t28=>(t28.cells.all AV.one=true /\
 ∃ n,zD Q n t0 t1 t2 (.ptr (s4.nx+1) 0) (.int .i64 0) (adv ((adv s4 3).set (s4.nx+1) (some (.cells t28.cells 58 true true))) 1)))
theorem aRu (t0 t1 t2:AV) (s:St) {Q:aC} (h:f10 Q t0 t1 t2 s):eG 10 [t0,t1,t2] s Q:=aH (h:=10) (fn:=Tryz.f10) (c:=sub aId []) (show aPg (sub aId []) (ZF Q) aX (ZF Q)=_ from (aO (aO (aO (aO (aO (aO (aEz Q) (aO (dI 0 (aDw Q _)) rfl)) rfl) rfl) rfl) rfl) rfl)) h
abbrev bIj:Code:=aN Tryz.f39
abbrev bHj:=rK Tryz.f39
abbrev bPg:=aL mEv 39 (mEv.kp 39)
def f39 (Q:aC) (t0 t1:AV) (s:St):Prop:=aA (zr 33) fun z4=>aA (bn .lss 3 t1 (.int .i64 0)) fun t8=>Gd (aB t8 false) (adv ((adv s 2).set s.nx (some (.cells z4.cells 33 true true))) 8) (fun k=>k t1 (adv ((adv s 2).set s.nx (some (.cells z4.cells 33 true true))) 8)) fun t10 s1=>Gd (aB t8 false) s1 (fun k=>k t0 s1) fun t11 s2=>Gd (aB t8 false) s2 (fun k=>aY mEv 31 [t11] s2 k) fun t12 s3=>Gd (aB t8 false) s3 (fun k=>aA (bn .geq 3 t10 t12) fun v=>k v s3) fun t13 s4=>aA (aJ t8 (.bool true) t13) fun t14=>aP t14
 (aA (eE 33 []) fun t15=>aA (bQ 6 (.ptr s.nx 0) t15 (adv s4 3)) fun s5=>bT ((bW [ld 6 true (.ptr s.nx 0) s5,some (.int .i64 1)]).map bY) fun v=>Q v s5)
 (aA (eE 139 [(0,t0),(1,(.int .i64 2000))]) fun t17=>(t17.cells.all AV.one=true /\
 aY mEv 87 [(.ptr (s4.nx+2) 0),t1,(.int .i64 64)] (adv ((adv s4 4).set (s4.nx+2) (some (.cells t17.cells 139 true true))) 7) fun t21 s6=>aA (aQ t21 0) fun t22=>aA (aQ t21 1) fun t23=>aA (bQ 6 (.ptr s.nx 0) t22 s6) fun s7=>bT ((bW [ld 6 true (.ptr s.nx 0) s7,some t23]).map bY) fun v=>Q v s7))
theorem aTp (t0 t1:AV) (s:St) {Q:aC} (h:f39 Q t0 t1 s):eG 39 [t0,t1] s Q:=aH (h:=39) (fn:=Tryz.f39) (c:=sub bIj []) (show bPg (sub bIj []) (bHj Q) aX (bHj Q)=_ from rfl) h
abbrev bGx:Code:=aN Tryz.f40
abbrev bFt:=rK Tryz.f40
abbrev bNd:=aL mEv 40 (mEv.kp 40)
def f40 (Q:aC) (t0 t1:AV) (s:St):Prop:=aA (zr 33) fun z4=>aA (bn .lss 3 t1 (.int .i64 0)) fun t9=>Gd (aB t9 false) (adv ((adv s 2).set s.nx (some (.cells z4.cells 33 true true))) 8) (fun k=>k t1 (adv ((adv s 2).set s.nx (some (.cells z4.cells 33 true true))) 8)) fun t11 s1=>Gd (aB t9 false) s1 (fun k=>k t0 s1) fun t12 s2=>Gd (aB t9 false) s2 (fun k=>aA (bt .len #[56] [t12] (((adv s 2).set s.nx (some (.cells z4.cells 33 true true))).nx+5) s2) fun r=>k r.1 r.2) fun t13 s3=>Gd (aB t9 false) s3 (fun k=>aA (bn .geq 3 t11 t13) fun v=>k v s3) fun t14 s4=>aA (aJ t9 (.bool true) t14) fun t15=>aP t15
 (aA (eE 33 []) fun t16=>aA (bQ 6 (.ptr s.nx 0) t16 (adv s4 3)) fun s5=>bT ((bW [ld 6 true (.ptr s.nx 0) s5,some (.int .i64 1)]).map bY) fun v=>Q v s5)
 (aE mEv 88 [t0,t1,(.int .i64 2000)] (adv s4 10) fun t19 s6=>aA (bn .gtr 3 t19 (.int .i64 2000)) fun t20=>Gd (aB t20 false) s6 (fun k=>k t0 s6) fun t22 s7=>Gd (aB t20 false) s7 (fun k=>k t1 s7) fun t23 s8=>Gd (aB t20 false) s8 (fun k=>aE mEv 89 [t22,t23] s8 k) fun t24 s9=>Gd (aB t20 false) s9 (fun k=>aA (bn .gtr 3 t24 (.int .i64 64)) fun v=>k v s9) fun t25 s10=>aA (aJ t20 (.bool true) t25) fun t26=>aP t26
 (aA (eE 33 []) fun t27=>aA (bQ 6 (.ptr s.nx 0) t27 (adv s10 3)) fun s11=>bT ((bW [ld 6 true (.ptr s.nx 0) s11,some (.int .i64 2)]).map bY) fun v=>Q v s11)
 (aE mEv 90 [t0,t1] (adv s10 9) fun t31 s12=>aA (aQ t31 0) fun t32=>aA (aQ t31 1) fun t33=>aA (zr 33) fun z6=>aA (bQ 6 (.ptr (s10.nx+6) 0) t32 (s12.set (s10.nx+6) (some (.cells z6.cells 33 true true)))) fun s13=>aA (un .not t33) fun t35=>aP t35
 (aA (eE 33 []) fun t36=>aA (bQ 6 (.ptr s.nx 0) t36 (adv s13 5)) fun s14=>bT ((bW [ld 6 true (.ptr s.nx 0) s14,some (.int .i64 2)]).map bY) fun v=>Q v s14)
 (aA (ld 6 true (.ptr (s10.nx+6) 0) (adv s13 5)) fun t37=>aA (bQ 6 (.ptr s.nx 0) t37 (adv s13 5)) fun s15=>bT ((bW [ld 6 true (.ptr s.nx 0) s15,some (.int .i64 0)]).map bY) fun v=>Q v s15)))
theorem aRn (t0 t1:AV) (s:St) {Q:aC} (h:f40 Q t0 t1 s):eG 40 [t0,t1] s Q:=aH (h:=40) (fn:=Tryz.f40) (c:=sub bGx []) (show bNd (sub bGx []) (bFt Q) aX (bFt Q)=_ from rfl) h
abbrev bHb:Code:=aN Tryz.f41
abbrev bLq:=rK Tryz.f41
abbrev bMk:=aL mEv 41 (mEv.kp 41)
def f41 (Q:aC) (t0:AV) (s:St):Prop:=aA (fZ 52 25 [(0,(.str [110,111,116])),(1,(.str [97,110,100])),(2,(.str [111,114])),(3,(.str [61,62])),(4,(.str [120,111,114])),(5,(.str [61])),(6,(.str [100,105,115,116,105,110,99,116])),(7,(.str [105,116,101])),(8,(.str [45])),(9,(.str [43])),(10,(.str [45])),(11,(.str [42])),(12,(.str [60,61])),(13,(.str [60])),(14,(.str [62,61])),(15,(.str [62])),(16,(.str [115,116,114,46,43,43])),(17,(.str [115,116,114,46,108,101,110])),(18,(.str [115,116,114,46,97,116])),(19,(.str [115,116,114,46,115,117,98,115,116,114])),(20,(.str [115,116,114,46,112,114,101,102,105,120,111,102])),(21,(.str [115,116,114,46,115,117,102,102,105,120,111,102])),(22,(.str [115,116,114,46,99,111,110,116,97,105,110,115])),(23,(.str [115,116,114,46,105,110,100,101,120,111,102])),(24,(.str [115,116,114,46,114,101,112,108,97,99,101]))]) fun t4=>aA (bn .lss 3 t0 (.int .i64 6)) fun t6=>Gd (aB t6 false) (adv s 9) (fun k=>k t0 (adv s 9)) fun t8 s1=>Gd (aB t6 false) s1 (fun k=>aA (bn .gtr 3 t8 (.int .i64 30)) fun v=>k v s1) fun t9 s2=>aA (aJ t6 (.bool true) t9) fun t10=>aP t10
 (Q (.str []) (adv s2 1))
 (aA (bn .sub 3 t0 (.int .i64 6)) fun t13=>aA (cA 1 t4 t13) fun t14=>aA (ld 1 false t14 (adv s2 6)) fun t15=>Q t15 (adv s2 6))
theorem aOx (t0:AV) (s:St) {Q:aC} (h:f41 Q t0 s):eG 41 [t0] s Q:=aH (h:=41) (fn:=Tryz.f41) (c:=sub bHb []) (show bMk (sub bHb []) (bLq Q) aX (bLq Q)=_ from rfl) h
abbrev aBs:Code:=aN Tryz.f87
abbrev OG:=rK Tryz.f87
abbrev aNj:=aL mEv 87 (mEv.kp 87)
def OP (Q:aC) (t10 t6:AV) (s:St):Prop:=aA (ld 6 true t10 (adv s 3)) fun t111=>aA (bQ 6 t6 t111 (adv s 3)) fun s1=>bT ((bW [ld 6 true t6 s1,some (.int .i64 0)]).map bY) fun v=>Q v s1
def aGs (Q:aC) (ih1:AV->AV->AV->AV->AV->AV->aC) (t88 t0 t2 t6 t10 t86 t87:AV) (s:St):Prop:=aA (bn .add 3 t88 (.int .i64 1)) fun t110=>ih1 t0 t2 t6 t10 t86 t87 t110 (adv s 2)
def BB (Q:aC) (ih1:AV->AV->AV->AV->AV->AV->aC) (t0 t2 t6 t10 t86 t87 t88:AV) (s:St):Prop:=aA (bn .lss 3 t88 t87) fun t89=>aP t89
 (aA (cA 1 t86 t88) fun t90=>aA (ld 1 false t90 (adv s 4)) fun t91=>aA (bn .sub 3 t2 (.int .i64 1)) fun t96=>aY mEv 87 [t0,t91,t96] (adv s 15) fun t97 s1=>aA (aQ t97 0) fun t98=>aA (aQ t97 1) fun t99=>aA (zr 33) fun z13=>aA (bQ 6 (.ptr (s.nx+12) 0) t98 (s1.set (s.nx+12) (some (.cells z13.cells 33 true true)))) fun s2=>aA (bn .neq 34 t99 (.int .i64 0)) fun t101=>aP t101
 (aA (eE 33 []) fun t102=>aA (bQ 6 t6 t102 (adv s2 6)) fun s3=>bT ((bW [ld 6 true t6 s3,some t99]).map bY) fun v=>Q v s3)
 (aA (aD 5 t10) fun t104=>aA (ld 1 false t104 (adv s2 9)) fun t105=>aA (ld 6 true (.ptr (s.nx+12) 0) (adv s2 9)) fun t106=>aA (fZ 31 1 [(0,t106)]) fun t107=>aA (bt .append #[31,31] [t105,t107] (s2.nx+6) (adv s2 9)) fun r108=>aA (aD 5 t10) fun t109=>aA (bQ 1 t109 r108.1 r108.2) fun s4=>aGs Q ih1 t88 t0 t2 t6 t10 t86 t87 s4))
 (OP Q t10 t6 (adv s 1))
def zG (Q:aC) (n:Nat):AV->AV->AV->AV->AV->AV->aC:=fY (fun _ _ _ _ _ _ _ _ =>False) (fun ih=>BB Q ih) n
def aJm (Q:aC) (t0 t2 t6 t8:AV) (s:St):Prop:=(dE t0=true /\
 aA (aD 1 t0) fun t65=>aA (ld 1 false t65 (adv s 8)) fun t66=>aA (bn .sub 3 t66 (.int .i64 1)) fun t67=>(dE t0=true /\
 aA (aD 1 t0) fun t69=>aA (bQ 1 t69 t67 (adv s 8)) fun s1=>aA (bn .eql 3 t2 (.int .i64 0)) fun t71=>Gd (aB t71 false) (adv s1 9) (fun k=>k t0 (adv s1 9)) fun t73 s2=>Gd (aB t71 false) s2 (fun k=>dE t73=true/\k t73 s2) fun t74 s3=>Gd (aB t71 false) s3 (fun k=>aA (aD 1 t74) fun v=>k v s3) fun t75 s4=>Gd (aB t71 false) s4 (fun k=>aA (ld 1 false t75 s4) fun v=>k v s4) fun t76 s5=>Gd (aB t71 false) s5 (fun k=>aA (bn .lss 3 t76 (.int .i64 0)) fun v=>k v s5) fun t77 s6=>aA (aJ t71 (.bool true) t77) fun t78=>aP t78
 (aA (eE 33 []) fun t79=>aA (bQ 6 t6 t79 (adv s6 3)) fun s7=>bT ((bW [ld 6 true t6 s7,some (.int .i64 2)]).map bY) fun v=>Q v s7)
 (aA (aD 0 t8) fun t80=>aA (ld 1 false t80 (adv s6 7)) fun t81=>aA (FD 31 1 (gl 0) t81) fun t82=>aA (ld 1 false t82 (adv s6 7)) fun t83=>aY mEv 57 [t83,.nils] (adv s6 7) fun t84 s8=>aA (zr 33) fun z10=>aA (bQ 6 (.ptr (s6.nx+5) 0) t84 (s8.set (s6.nx+5) (some (.cells z10.cells 33 true true)))) fun s9=>aA (aD 2 t8) fun t85=>aA (ld 1 false t85 (adv s9 4)) fun t86=>aA (bt .len #[72] [t86] (s9.nx+2) (adv s9 4)) fun r87=>∃ n,zG Q n t0 t2 t6 (.ptr (s6.nx+5) 0) t86 r87.1 (.int .i64 0) r87.2)))
theorem aGl (Q:aC):aNj (sub aBs [Y,Y,Y,Y,Y,Y,Y]) (OG Q) aX (OG Q)=(fun g s=>OP Q (g 10) (g 6) s):=Eq.trans rfl (by kernel_rfl)
theorem aNc (Q:aC) (n1:Nat):aNj (sub aBs [Y,Y,Y,Y,Y,Y,N,Y,N,N,Y,Y,Y]) (mA (fun n g s=>zG Q n (g 0) (g 2) (g 6) (g 10) (g 86) (g 87) (g 88) s) 87 n1) (cE 1 (fun g s=>OP Q (g 10) (g 6) s) aX) (OG Q)=(fun g s=>aGs Q (zG Q n1) (g 88) (g 0) (g 2) (g 6) (g 10) (g 86) (g 87) s):=Eq.trans rfl (by kernel_rfl)
theorem aFn (Q:aC) (kN:Kt):aNj (sub aBs [Y,Y,Y,Y,Y,Y,N,Y,N]) kN (cE 1 (fun g s=>OP Q (g 10) (g 6) s) aX) (OG Q)=fun g s=>∃ n,zG Q n (g 0) (g 2) (g 6) (g 10) (g 86) (g 87) (g 88) s:=jW (L:=fun n g s=>zG Q n (g 0) (g 2) (g 6) (g 10) (g 86) (g 87) (g 88) s) (fun n1=>Eq.trans (aO (aO (aO (aNc Q n1) (dI 2 rfl)) rfl) rfl) (by kernel_rfl))
theorem aGi (Q:aC):aNj (sub aBs [Y,Y,Y,Y]) (OG Q) aX (OG Q)=(fun g s=>aJm Q (g 0) (g 2) (g 6) (g 8) s):=Eq.trans (aO (aO (aO (aGl Q) (aO (dI 1 (aFn Q _)) rfl)) rfl) rfl) (by kernel_rfl)
def f87 (Q:aC) (t0 t1 t2:AV) (s:St):Prop:=aA (zr 33) fun z6=>(dE t0=true /\
 aA (aD 0 t0) fun t18=>aA (ld 1 false t18 (adv ((adv s 2).set s.nx (some (.cells z6.cells 33 true true))) 12)) fun t19=>aY mEv 53 [t19,t1] (adv ((adv s 2).set s.nx (some (.cells z6.cells 33 true true))) 12) fun t21 s1=>aA (aQ t21 0) fun t22=>aA (aQ t21 1) fun t23=>aA (zr 101) fun z8=>aA (bQ 7 (.ptr (((adv s 2).set s.nx (some (.cells z6.cells 33 true true))).nx+9) 0) t22 (s1.set (((adv s 2).set s.nx (some (.cells z6.cells 33 true true))).nx+9) (some (.cells z8.cells 101 true true)))) fun s2=>(dE t0=true /\
 aA (aD 1 t0) fun t26=>aA (ld 1 false t26 (adv s2 8)) fun t27=>aA (bn .sub 3 t27 (.int .i64 1)) fun t28=>(dE t0=true /\
 aA (aD 1 t0) fun t30=>aA (bQ 1 t30 t28 (adv s2 8)) fun s3=>(dE t0=true /\
 aA (aD 1 t0) fun t33=>aA (ld 1 false t33 (adv s3 5)) fun t34=>aA (bn .lss 3 t34 (.int .i64 0)) fun t35=>aP t35
 (aA (eE 33 []) fun t36=>aA (bQ 6 (.ptr s.nx 0) t36 (adv s3 8)) fun s4=>bT ((bW [ld 6 true (.ptr s.nx 0) s4,some (.int .i64 2)]).map bY) fun v=>Q v s4)
 (aA (aD 0 (.ptr (((adv s 2).set s.nx (some (.cells z6.cells 33 true true))).nx+9) 0)) fun t37=>aA (ld 1 false t37 (adv s3 7)) fun t38=>aA (bn .eql 3 t38 (.int .i64 1)) fun t40=>aP t40
 (aA (aD 3 (.ptr (((adv s 2).set s.nx (some (.cells z6.cells 33 true true))).nx+9) 0)) fun t41=>aA (ld 1 false t41 (adv s3 14)) fun t42=>aE mEv 56 [t42] (adv s3 14) fun t43 s5=>aA (bQ 6 (.ptr s.nx 0) t43 s5) fun s6=>bT ((bW [ld 6 true (.ptr s.nx 0) s6,some (.int .i64 0)]).map bY) fun v=>Q v s6)
 (aA (bn .eql 3 t38 (.int .i64 2)) fun t45=>aP t45
 (aE mEv 56 [(.str [116,114,117,101])] (adv s3 14) fun t46 s7=>aA (bQ 6 (.ptr s.nx 0) t46 s7) fun s8=>bT ((bW [ld 6 true (.ptr s.nx 0) s8,some (.int .i64 0)]).map bY) fun v=>Q v s8)
 (aA (bn .eql 3 t38 (.int .i64 3)) fun t48=>aP t48
 (aE mEv 56 [(.str [102,97,108,115,101])] (adv s3 16) fun t49 s9=>aA (bQ 6 (.ptr s.nx 0) t49 s9) fun s10=>bT ((bW [ld 6 true (.ptr s.nx 0) s10,some (.int .i64 0)]).map bY) fun v=>Q v s10)
 (aA (bn .eql 3 t38 (.int .i64 4)) fun t51=>aP t51
 (aA (aD 4 (.ptr (((adv s 2).set s.nx (some (.cells z6.cells 33 true true))).nx+9) 0)) fun t52=>aA (ld 2 true t52 (adv s3 21)) fun t53=>aE mEv 142 [t53] (adv s3 21) fun t54 s11=>aE mEv 58 [(.int .i64 4),t54] s11 fun t55 s12=>aA (bQ 6 (.ptr s.nx 0) t55 s12) fun s13=>bT ((bW [ld 6 true (.ptr s.nx 0) s13,some (.int .i64 0)]).map bY) fun v=>Q v s13)
 (aA (bn .eql 3 t38 (.int .i64 5)) fun t57=>aP t57
 (aA (aD 6 (.ptr (((adv s 2).set s.nx (some (.cells z6.cells 33 true true))).nx+9) 0)) fun t58=>aA (ld 1 false t58 (adv s3 24)) fun t59=>aE mEv 115 [t59] (adv s3 24) fun t60 s14=>aA (aQ t60 0) fun t61=>aA (aQ t60 1) fun t62=>aA (bQ 6 (.ptr s.nx 0) t61 s14) fun s15=>bT ((bW [ld 6 true (.ptr s.nx 0) s15,some t62]).map bY) fun v=>Q v s15)
 (aJm Q t0 t2 (.ptr s.nx 0) (.ptr (((adv s 2).set s.nx (some (.cells z6.cells 33 true true))).nx+9) 0) (adv s3 17)))))))))))
theorem aSd (t0 t1 t2:AV) (s:St) {Q:aC} (h:f87 Q t0 t1 t2 s):eG 87 [t0,t1,t2] s Q:=aH (h:=87) (fn:=Tryz.f87) (c:=sub aBs []) (show aNj (sub aBs []) (OG Q) aX (OG Q)=_ from (aO (aO (aO (aO (aGi Q) (aO (dI 0 rfl) rfl)) rfl) rfl) rfl)) h
abbrev XV:Code:=aN Tryz.f88
abbrev LW:=rK Tryz.f88
abbrev aJc:=aL mEv 88 (mEv.kp 88)
def GI (Q:aC) (t7:AV) (s:St):Prop:=Q t7 (adv s 2)
def aHh (Q:aC) (ih1:AV->AV->AV->AV->aC) (t8 t0 t1 t2 t7:AV) (s:St):Prop:=aA (bn .add 3 t8 (.int .i64 1)) fun t30=>ih1 t0 t1 t2 t7 t30 (adv s 3)
def yF (Q:aC) (ih1:AV->AV->AV->AV->aC) (t0 t1 t2 t7 t8:AV) (s:St):Prop:=aA (cA 7 t0 t1) fun t19=>aA (aD 2 t19) fun t20=>aA (ld 1 false t20 (adv s 13)) fun t21=>aA (bt .len #[72] [t21] (s.nx+6) (adv s 13)) fun HF=>aA (bn .lss 3 t8 HF.1) fun t23=>Gd (aB t23 true) HF.2 (fun k=>k t7 HF.2) fun t25 s1=>Gd (aB t23 true) s1 (fun k=>k t2 s1) fun t26 s2=>Gd (aB t23 true) s2 (fun k=>aA (bn .leq 3 t25 t26) fun v=>k v s2) fun t27 s3=>aA (aJ t23 t27 (.bool false)) fun t28=>aP t28
 (aA (cA 7 t0 t1) fun t35=>aA (aD 2 t35) fun t36=>aA (ld 1 false t36 (adv s3 16)) fun t37=>aA (cA 1 t37 t8) fun t39=>aA (ld 1 false t39 (adv s3 16)) fun t40=>aA (bn .sub 3 t2 t7) fun t43=>aE mEv 88 [t0,t40,t43] (adv s3 16) fun t44 s4=>aA (bn .add 3 t7 t44) fun t45=>aHh Q ih1 t8 t0 t1 t2 t45 s4)
 (GI Q t7 s3)
def zJ (Q:aC) (n:Nat):AV->AV->AV->AV->aC:=fY (fun _ _ _ _ _ _ =>False) (fun ih=>yF Q ih) n
def KN (Q:aC) (t0 t1 t2 t7:AV) (s:St):Prop:=∃ n,zJ Q n t0 t1 t2 t7 (.int .i64 0) (adv s 1)
theorem aJx (Q:aC):aJc (sub XV [Y,Y,Y,Y]) (LW Q) aX (LW Q)=(fun g s=>GI Q (g 7) s):=Eq.trans rfl (by kernel_rfl)
theorem aKc (Q:aC) (n1:Nat):aJc (sub XV [Y,Y,Y,N,Y,N,N,Y,Y]) (mA (fun n g s=>zJ Q n (g 0) (g 1) (g 2) (g 7) (g 8) s) 88 n1) (cE 0 (fun g s=>GI Q (g 7) s) aX) (LW Q)=(fun g s=>aHh Q (zJ Q n1) (g 8) (g 0) (g 1) (g 2) (g 7) s):=Eq.trans rfl (by kernel_rfl)
theorem aJg (Q:aC) (kN:Kt):aJc (sub XV [Y,Y,Y,N,Y,N]) kN (cE 0 (fun g s=>GI Q (g 7) s) aX) (LW Q)=fun g s=>∃ n,zJ Q n (g 0) (g 1) (g 2) (g 7) (g 8) s:=jW (L:=fun n g s=>zJ Q n (g 0) (g 1) (g 2) (g 7) (g 8) s) (fun n1=>Eq.trans (aO (aO (aKc Q n1) (dI 1 rfl)) rfl) (by kernel_rfl))
theorem aOk (Q:aC):aJc (sub XV [Y,Y,Y]) (LW Q) aX (LW Q)=(fun g s=>KN Q (g 0) (g 1) (g 2) (g 7) s):=Eq.trans (aO (aJx Q) (aO (dI 0 (aJg Q _)) rfl)) (by kernel_rfl)
def f88 (Q:aC) (t0 t1 t2:AV) (s:St):Prop:=aA (cA 7 t0 t1) fun t11=>aA (aD 2 t11) fun t12=>aA (ld 1 false t12 (adv s 9)) fun t13=>aA (bt .len #[72] [t13] (s.nx+7) (adv s 9)) fun r14=>aA (bn .gtr 3 r14.1 (.int .i64 0)) fun t15=>aP t15
 (KN Q t0 t1 t2 (.int .i64 2) (adv r14.2 1))
 (KN Q t0 t1 t2 (.int .i64 1) r14.2)
theorem aQe (t0 t1 t2:AV) (s:St) {Q:aC} (h:f88 Q t0 t1 t2 s):eG 88 [t0,t1,t2] s Q:=aH (h:=88) (fn:=Tryz.f88) (c:=sub XV []) (show aJc (sub XV []) (LW Q) aX (LW Q)=_ from (aO (aO (aO (aOk Q) rfl) rfl) rfl)) h
abbrev RB:Code:=aN Tryz.f89
abbrev NA:=rK Tryz.f89
abbrev XH:=aL mEv 89 (mEv.kp 89)
def CK (Q:aC) (t5 t1:AV) (s:St):Prop:=aA (cA 1 t5 t1) fun t60=>aA (ld 1 false t60 (adv s 5)) fun t61=>Q t61 (adv s 5)
def yV (Q:aC) (ih1:AV->AV->AV->aC) (t6 t0 t1 t5:AV) (s:St):Prop:=aA (bn .add 3 t6 (.int .i64 1)) fun t15=>ih1 t0 t1 t5 t15 (adv s 3)
def OK (Q:aC) (ih1:AV->AV->AV->aC) (ih2:AV->AV->AV->AV->aC) (t7 t0 t1 t5 t6:AV) (s:St):Prop:=aA (bn .add 3 t7 (.int .i64 1)) fun t25=>ih2 t0 t1 t5 t6 t25 (adv s 3)
def wK (Q:aC) (ih1:AV->AV->AV->aC) (ih2:AV->AV->AV->AV->aC) (t0 t1 t5 t6 t7:AV) (s:St):Prop:=aA (cA 7 t0 t6) fun t19=>aA (aD 2 t19) fun t20=>aA (ld 1 false t20 (adv s 8)) fun t21=>aA (bt .len #[72] [t21] (s.nx+6) (adv s 8)) fun HF=>aA (bn .lss 3 t7 HF.1) fun t23=>aP t23
 (aA (cA 7 t0 t6) fun t29=>aA (aD 2 t29) fun t30=>aA (ld 1 false t30 (adv HF.2 17)) fun t31=>aA (cA 1 t31 t7) fun t33=>aA (ld 1 false t33 (adv HF.2 17)) fun t34=>aA (cA 1 t5 t34) fun t35=>aA (ld 1 false t35 (adv HF.2 17)) fun t36=>aA (bn .add 3 t36 (.int .i64 1)) fun t37=>aA (cA 1 t5 t6) fun t40=>aA (ld 1 false t40 (adv HF.2 17)) fun t41=>aA (bn .gtr 3 t37 t41) fun t42=>aP t42
 (aA (cA 7 t0 t6) fun t48=>aA (aD 2 t48) fun t49=>aA (ld 1 false t49 (adv HF.2 33)) fun t50=>aA (cA 1 t50 t7) fun t52=>aA (ld 1 false t52 (adv HF.2 33)) fun t53=>aA (cA 1 t5 t53) fun t54=>aA (ld 1 false t54 (adv HF.2 33)) fun t55=>aA (bn .add 3 t55 (.int .i64 1)) fun t56=>aA (cA 1 t5 t6) fun t57=>aA (bQ 1 t57 t56 (adv HF.2 33)) fun s1=>OK Q ih1 ih2 t7 t0 t1 t5 t6 s1)
 (OK Q ih1 ih2 t7 t0 t1 t5 t6 (adv HF.2 17)))
 (yV Q ih1 t6 t0 t1 t5 HF.2)
def vI (Q:aC) (ih1:AV->AV->AV->aC) (n:Nat):AV->AV->AV->AV->aC:=fY (fun _ _ _ _ _ _ =>False) (fun ih=>wK Q ih1 ih) n
def BO (Q:aC) (ih1:AV->AV->AV->aC) (t0 t1 t5 t6:AV) (s:St):Prop:=aA (bn .leq 3 t6 t1) fun t13=>aP t13
 (∃ n,vI Q ih1 n t0 t1 t5 t6 (.int .i64 0) (adv s 4))
 (CK Q t5 t1 (adv s 3))
def jR (Q:aC) (n:Nat):AV->AV->AV->aC:=fY (fun _ _ _ _ _ =>False) (fun ih=>BO Q ih) n
theorem aLp (Q:aC):XH (sub RB [Y,Y,Y]) (NA Q) aX (NA Q)=(fun g s=>CK Q (g 5) (g 1) s):=Eq.trans rfl (by kernel_rfl)
theorem aNl (Q:aC) (n1:Nat):XH (sub RB [Y,Y,N,Y,N,N,Y,Y]) (mA (fun n g s=>jR Q n (g 0) (g 1) (g 5) (g 6) s) 89 n1) (cE 0 (fun g s=>CK Q (g 5) (g 1) s) aX) (NA Q)=(fun g s=>yV Q (jR Q n1) (g 6) (g 0) (g 1) (g 5) s):=Eq.trans rfl (by kernel_rfl)
theorem aKy (Q:aC) (n1:Nat) (n2:Nat):XH (sub RB [Y,Y,N,Y,N,N,Y,N,N,Y,N,N,Y,Y]) (mA (fun n g s=>vI Q (jR Q n1) n (g 0) (g 1) (g 5) (g 6) (g 7) s) 89 n2) (cE 2 (fun g s=>yV Q (jR Q n1) (g 6) (g 0) (g 1) (g 5) s) (cE 1 (fun g s=>yV Q (jR Q n1) (g 6) (g 0) (g 1) (g 5) s) (cE 0 (fun g s=>CK Q (g 5) (g 1) s) aX))) (NA Q)=(fun g s=>OK Q (jR Q n1) (vI Q (jR Q n1) n2) (g 7) (g 0) (g 1) (g 5) (g 6) s):=Eq.trans rfl (by kernel_rfl)
theorem aMz (Q:aC) (n1:Nat) (kN:Kt):XH (sub RB [Y,Y,N,Y,N,N,Y,N,N,Y,N]) kN (cE 2 (fun g s=>yV Q (jR Q n1) (g 6) (g 0) (g 1) (g 5) s) (cE 1 (fun g s=>yV Q (jR Q n1) (g 6) (g 0) (g 1) (g 5) s) (cE 0 (fun g s=>CK Q (g 5) (g 1) s) aX))) (NA Q)=fun g s=>∃ n,vI Q (jR Q n1) n (g 0) (g 1) (g 5) (g 6) (g 7) s:=jW (L:=fun n g s=>vI Q (jR Q n1) n (g 0) (g 1) (g 5) (g 6) (g 7) s) (fun n2=>Eq.trans (aO (aO (aKy Q n1 n2) (dI 3 rfl)) rfl) (by kernel_rfl))
theorem aHr (Q:aC) (kN:Kt):XH (sub RB [Y,Y,N,Y,N]) kN (cE 0 (fun g s=>CK Q (g 5) (g 1) s) aX) (NA Q)=fun g s=>∃ n,jR Q n (g 0) (g 1) (g 5) (g 6) s:=jW (L:=fun n g s=>jR Q n (g 0) (g 1) (g 5) (g 6) s) (fun n1=>Eq.trans (aO (aO (aNl Q n1) (dI 1 (aO (dI 2 (aMz Q n1 _)) rfl))) rfl) (by kernel_rfl))
def f89 (Q:aC) (t0 t1:AV) (s:St):Prop:=aA (bn .add 3 t1 (.int .i64 1)) fun t9=>aA (mkS Tryz.ty 72 t9 t9 (s.nx+3) (adv s 5)) fun r10=>∃ n,jR Q n t0 t1 r10.1 (.int .i64 0) (adv r10.2 1)
theorem aRw (t0 t1:AV) (s:St) {Q:aC} (h:f89 Q t0 t1 s):eG 89 [t0,t1] s Q:=aH (h:=89) (fn:=Tryz.f89) (c:=sub RB []) (show XH (sub RB []) (NA Q) aX (NA Q)=_ from (aO (aO (aO (aLp Q) (aO (dI 0 (aHr Q _)) rfl)) rfl) rfl)) h
abbrev ZB:Code:=aN Tryz.f90
abbrev MS:=rK Tryz.f90
abbrev aNa:=aL mEv 90 (mEv.kp 90)
def FZ (Q:aC) (t6 t7 t4:AV) (s:St):Prop:=aA (aD 0 t6) fun t66=>aA (ld 1 false t66 (adv s 7)) fun t67=>aE mEv 41 [t67] (adv s 7) fun t68 s1=>aE mEv 65 [t68,t7] s1 fun t70 s2=>aA (bQ 6 t4 t70 s2) fun s3=>bT ((bW [ld 6 true t4 s3,some (.bool true)]).map bY) fun v=>Q v s3
def aKd (Q:aC) (ih1:AV->AV->AV->AV->aC) (t8 t0 t4 t6 t7:AV) (s:St):Prop:=aA (bn .add 3 t8 (.int .i64 1)) fun t48=>ih1 t0 t4 t6 t7 t48 (adv s 3)
def ES (Q:aC) (ih1:AV->AV->AV->AV->aC) (t0 t4 t6 t7 t8:AV) (s:St):Prop:=aA (aD 2 t6) fun t43=>aA (ld 1 false t43 (adv s 5)) fun t44=>aA (bt .len #[72] [t44] (s.nx+3) (adv s 5)) fun r45=>aA (bn .lss 3 t8 r45.1) fun t46=>aP t46
 (aA (aD 2 t6) fun t51=>aA (ld 1 false t51 (adv r45.2 13)) fun t52=>aA (cA 1 t52 t8) fun t54=>aA (ld 1 false t54 (adv r45.2 13)) fun t55=>aE mEv 90 [t0,t55] (adv r45.2 13) fun t56 s1=>aA (aQ t56 0) fun t57=>aA (aQ t56 1) fun t58=>aA (zr 33) fun z9=>aA (bQ 6 (.ptr (r45.2.nx+10) 0) t57 (s1.set (r45.2.nx+10) (some (.cells z9.cells 33 true true)))) fun s2=>aA (un .not t58) fun t60=>aP t60
 (aA (eE 33 []) fun t61=>aA (bQ 6 t4 t61 (adv s2 5)) fun s3=>bT ((bW [ld 6 true t4 s3,some (.bool false)]).map bY) fun v=>Q v s3)
 (aA (ld 6 true (.ptr (r45.2.nx+10) 0) (adv s2 7)) fun t63=>aA (fZ 31 1 [(0,t63)]) fun t64=>aA (bt .append #[31,31] [t7,t64] (s2.nx+5) (adv s2 7)) fun r65=>aKd Q ih1 t8 t0 t4 t6 r65.1 r65.2))
 (FZ Q t6 t7 t4 r45.2)
def zC (Q:aC) (n:Nat):AV->AV->AV->AV->aC:=fY (fun _ _ _ _ _ _ =>False) (fun ih=>ES Q ih) n
def aHd (Q:aC) (t0 t4 t6:AV) (s:St):Prop:=∃ n,zC Q n t0 t4 t6 .nils (.int .i64 0) (adv s 2)
theorem aMg (Q:aC):aNa (sub ZB [Y,Y,Y,Y,Y]) (MS Q) aX (MS Q)=(fun g s=>FZ Q (g 6) (g 7) (g 4) s):=Eq.trans rfl (by kernel_rfl)
theorem aDe (Q:aC) (n1:Nat):aNa (sub ZB [Y,Y,Y,Y,N,Y,N,N,Y,Y]) (mA (fun n g s=>zC Q n (g 0) (g 4) (g 6) (g 7) (g 8) s) 90 n1) (cE 1 (fun g s=>FZ Q (g 6) (g 7) (g 4) s) aX) (MS Q)=(fun g s=>aKd Q (zC Q n1) (g 8) (g 0) (g 4) (g 6) (g 7) s):=Eq.trans rfl (by kernel_rfl)
theorem aMy (Q:aC) (kN:Kt):aNa (sub ZB [Y,Y,Y,Y,N,Y,N]) kN (cE 1 (fun g s=>FZ Q (g 6) (g 7) (g 4) s) aX) (MS Q)=fun g s=>∃ n,zC Q n (g 0) (g 4) (g 6) (g 7) (g 8) s:=jW (L:=fun n g s=>zC Q n (g 0) (g 4) (g 6) (g 7) (g 8) s) (fun n1=>Eq.trans (aO (aO (aDe Q n1) (dI 2 rfl)) rfl) (by kernel_rfl))
theorem aJr (Q:aC):aNa (sub ZB [Y,Y,Y]) (MS Q) aX (MS Q)=(fun g s=>aHd Q (g 0) (g 4) (g 6) s):=Eq.trans (aO (aO (aMg Q) (aO (dI 1 (aMy Q _)) rfl)) rfl) (by kernel_rfl)
def f90 (Q:aC) (t0 t1:AV) (s:St):Prop:=aA (zr 33) fun z4=>aA (cA 7 t0 t1) fun t13=>aA (ld 7 true t13 (adv ((adv s 2).set s.nx (some (.cells z4.cells 33 true true))) 6)) fun t14=>aA (zr 101) fun z6=>aA (bQ 7 (.ptr (((adv s 2).set s.nx (some (.cells z4.cells 33 true true))).nx+4) 0) t14 ((adv ((adv s 2).set s.nx (some (.cells z4.cells 33 true true))) 6).set (((adv s 2).set s.nx (some (.cells z4.cells 33 true true))).nx+4) (some (.cells z6.cells 101 true true)))) fun s1=>aA (aD 0 (.ptr (((adv s 2).set s.nx (some (.cells z4.cells 33 true true))).nx+4) 0)) fun t15=>aA (ld 1 false t15 (adv s1 2)) fun t16=>aA (bn .eql 3 t16 (.int .i64 1)) fun t18=>aP t18
 (aA (aD 3 (.ptr (((adv s 2).set s.nx (some (.cells z4.cells 33 true true))).nx+4) 0)) fun t19=>aA (ld 1 false t19 (adv s1 9)) fun t20=>aE mEv 62 [(.int .i64 3),t20] (adv s1 9) fun t21 s2=>aA (bQ 6 (.ptr s.nx 0) t21 s2) fun s3=>bT ((bW [ld 6 true (.ptr s.nx 0) s3,some (.bool true)]).map bY) fun v=>Q v s3)
 (aA (bn .eql 3 t16 (.int .i64 2)) fun t23=>aP t23
 (aE mEv 62 [(.int .i64 3),(.str [116,114,117,101])] (adv s1 9) fun t24 s4=>aA (bQ 6 (.ptr s.nx 0) t24 s4) fun s5=>bT ((bW [ld 6 true (.ptr s.nx 0) s5,some (.bool true)]).map bY) fun v=>Q v s5)
 (aA (bn .eql 3 t16 (.int .i64 3)) fun t26=>aP t26
 (aE mEv 62 [(.int .i64 3),(.str [102,97,108,115,101])] (adv s1 11) fun t27 s6=>aA (bQ 6 (.ptr s.nx 0) t27 s6) fun s7=>bT ((bW [ld 6 true (.ptr s.nx 0) s7,some (.bool true)]).map bY) fun v=>Q v s7)
 (aA (bn .eql 3 t16 (.int .i64 4)) fun t29=>aP t29
 (aA (aD 4 (.ptr (((adv s 2).set s.nx (some (.cells z4.cells 33 true true))).nx+4) 0)) fun t30=>aA (aD 1 t30) fun t31=>aA (ld 1 false t31 (adv s1 17)) fun t32=>aE mEv 63 [t32] (adv s1 17) fun t33 s8=>aE mEv 62 [(.int .i64 4),t33] s8 fun t34 s9=>aA (bQ 6 (.ptr s.nx 0) t34 s9) fun s10=>bT ((bW [ld 6 true (.ptr s.nx 0) s10,some (.bool true)]).map bY) fun v=>Q v s10)
 (aA (bn .eql 3 t16 (.int .i64 5)) fun t36=>aP t36
 (aA (aD 6 (.ptr (((adv s 2).set s.nx (some (.cells z4.cells 33 true true))).nx+4) 0)) fun t37=>aA (ld 1 false t37 (adv s1 19)) fun t38=>aE mEv 121 [t38] (adv s1 19) fun t39 s11=>aA (aQ t39 0) fun t40=>aA (aQ t39 1) fun t41=>aA (bQ 6 (.ptr s.nx 0) t40 s11) fun s12=>bT ((bW [ld 6 true (.ptr s.nx 0) s12,some t41]).map bY) fun v=>Q v s12)
 (aHd Q t0 (.ptr s.nx 0) (.ptr (((adv s 2).set s.nx (some (.cells z4.cells 33 true true))).nx+4) 0) (adv s1 12))))))
theorem aQz (t0 t1:AV) (s:St) {Q:aC} (h:f90 Q t0 t1 s):eG 90 [t0,t1] s Q:=aH (h:=90) (fn:=Tryz.f90) (c:=sub ZB []) (show aNa (sub ZB []) (MS Q) aX (MS Q)=_ from (aO (aO (aO (aJr Q) (aO (dI 0 rfl) rfl)) rfl) rfl)) h
abbrev aVf:Code:=aN Tryz.f142
abbrev aVj:=rK Tryz.f142
abbrev bEq:=aL mEv 142 (mEv.kp 142)
def f142 (Q:aC) (t0:AV) (s:St):Prop:=(t0.cells.all AV.one=true /\
 aA (ld 2 true (.ptr s.nx 0) (adv ((adv s 2).set s.nx (some (.cells t0.cells 24 true true))) 3)) fun t3=>aE mEv 69 [t3] (adv ((adv s 2).set s.nx (some (.cells t0.cells 24 true true))) 3) fun t4 s1=>aA (bQ 2 (.ptr s.nx 0) t4 s1) fun s2=>aA (aD 0 (.ptr s.nx 0)) fun t5=>aA (ld 1 false t5 (adv s2 2)) fun t6=>aP t6
 (aA (aD 1 (.ptr s.nx 0)) fun t7=>aA (ld 1 false t7 (adv s2 7)) fun t8=>aE mEv 59 [t8] (adv s2 7) fun t9 s3=>aA (bn .add 9 (.str [45]) t9) fun t10=>Q t10 s3)
 (aA (aD 1 (.ptr s.nx 0)) fun t11=>aA (ld 1 false t11 (adv s2 6)) fun t12=>aE mEv 59 [t12] (adv s2 6) fun t13 s4=>Q t13 s4))
theorem aOj (t0:AV) (s:St) {Q:aC} (h:f142 Q t0 s):eG 142 [t0] s Q:=aH (h:=142) (fn:=Tryz.f142) (c:=sub aVf []) (show bEq (sub aVf []) (aVj Q) aX (aVj Q)=_ from rfl) h
end
end Go.Proofs.YtdehdahimkcakaaGreatDoor
