/- Texts joined by wip/tools/pack.py: LTm,LSt,LBt. -/
import Derived.Test.YtdehdahimkcakaaGreatDoorYm
open Nat (reduceAdd reduceEqDiff)
set_option linter.unusedVariables false
set_option maxRecDepth 1000000
namespace Go.Proofs.YtdehdahimkcakaaGreatDoor
open Go Ai
noncomputable section
abbrev bAr:Code:=aJ Tryz.f104
abbrev bAg:=rK Tryz.f104
abbrev bNb:=aK mEv 104 (mEv.kp 104)
def f104 (Q:aE) (t0:AV) (s:St):Prop:=(t0.cells.all AV.one=true /\
 aA (zr 101) fun z2=>aA (aC 2 (.ptr s.nx 0)) fun t3=>aA (ld 1 false t3 (adv (((adv s 2).set s.nx (some (.cells t0.cells 101 true true))).set (s.nx+1) (some (.cells z2.cells 101 true true))) 5)) fun t4=>aN mEv 152 [t4] (adv (((adv s 2).set s.nx (some (.cells t0.cells 101 true true))).set (s.nx+1) (some (.cells z2.cells 101 true true))) 5) fun t5 s1=>aA (aC 2 (.ptr s.nx 0)) fun t6=>aA (dN 1 t6 t5 s1) fun s2=>aA (aC 4 (.ptr s.nx 0)) fun t7=>aA (aC 1 t7) fun t8=>aA (ld 1 false t8 (adv s2 7)) fun t9=>aN mEv 153 [t9] (adv s2 7) fun t10 s3=>aA (aC 4 (.ptr s.nx 0)) fun t11=>aA (aC 1 t11) fun t12=>aA (dN 1 t12 t10 s3) fun s4=>aA (aC 6 (.ptr s.nx 0)) fun t13=>aA (ld 1 false t13 (adv s4 5)) fun t14=>aN mEv 154 [t14] (adv s4 5) fun t15 s5=>aA (aC 6 (.ptr s.nx 0)) fun t16=>aA (dN 1 t16 t15 s5) fun s6=>aA (ld 7 true (.ptr s.nx 0) (adv s6 2)) fun t17=>aA (dN 7 (.ptr (s.nx+1) 0) t17 (adv s6 2)) fun s7=>pC ((sT [ld 7 true (.ptr (s.nx+1) 0) s7]).map xG) fun v=>Q v s7)
theorem aLs (t0:AV) (s:St) {Q:aE} (h:f104 Q t0 s):dE 104 [t0] s Q:=aH (h:=104) (fn:=Tryz.f104) (c:=sub bAr []) (show bNb (sub bAr []) (bAg Q) aU (bAg Q)=_ from rfl) h
abbrev bCb:Code:=aJ Tryz.f133
abbrev bAl:=rK Tryz.f133
abbrev bGo:=aK mEv 133 (mEv.kp 133)
def f133 (Q:aE) (t0 t1:AV) (s:St):Prop:=aL mEv 186 [t0,t1] (adv s 6) fun t7 s1=>aA (bn .geq 3 t7 (.int .i64 0)) fun t8=>Q t8 s1
theorem aOe (t0 t1:AV) (s:St) {Q:aE} (h:f133 Q t0 t1 s):dE 133 [t0,t1] s Q:=aH (h:=133) (fn:=Tryz.f133) (c:=sub bCb []) (show bGo (sub bCb []) (bAl Q) aU (bAl Q)=_ from rfl) h
abbrev NP:Code:=aJ Tryz.f186
abbrev IK:=rK Tryz.f186
abbrev WJ:=aK mEv 186 (mEv.kp 186)
def DY (Q:aE) (s:St):Prop:=Q (.int .i64 (-1)) (adv s 1)
def SM (Q:aE) (ih1:AV->AV->AV->aE) (t8 t0 t1 t7:AV) (s:St):Prop:=aA (bn .add 3 t8 (.int .i64 1)) fun t18=>ih1 t0 t1 t7 t18 (adv s 2)
def vY (Q:aE) (ih1:AV->AV->AV->aE) (t0 t1 t7 t8:AV) (s:St):Prop:=aA (bn .lss 3 t8 t7) fun t9=>aY t9
 (aA (cB 1 t0 t8) fun t14=>aA (ld 1 false t14 (adv s 9)) fun t15=>sK mEv 186 t1 [t15] (adv s 9) fun t16 s1=>aY t16
 (Q t8 (adv s1 2))
 (SM Q ih1 t8 t0 t1 t7 s1))
 (DY Q (adv s 1))
def pV (Q:aE) (n:Nat):AV->AV->AV->aE:=jX (fun _ _ _ _ _ =>False) (fun ih=>vY Q ih) n
theorem aBb (Q:aE):WJ (sub NP [Y,Y]) (IK Q) aU (IK Q)=(fun g s=>DY Q s):=Eq.trans rfl (by kernel_rfl)
theorem YB (Q:aE) (n1:Nat):WJ (sub NP [Y,N,Y,N,N,Y,Y,Y]) (kV (fun n g s=>pV Q n (g 0) (g 1) (g 7) (g 8) s) 186 n1) (cN 0 (fun g s=>DY Q s) aU) (IK Q)=(fun g s=>SM Q (pV Q n1) (g 8) (g 0) (g 1) (g 7) s):=Eq.trans rfl (by kernel_rfl)
theorem aCf (Q:aE) (kN:Kt):WJ (sub NP [Y,N,Y,N]) kN (cN 0 (fun g s=>DY Q s) aU) (IK Q)=fun g s=>∃ n,pV Q n (g 0) (g 1) (g 7) (g 8) s:=kG (L:=fun n g s=>pV Q n (g 0) (g 1) (g 7) (g 8) s) (fun n1=>Eq.trans (aM (aM (aM (YB Q n1) (dC 1 rfl)) rfl) rfl) (by kernel_rfl))
def f186 (Q:aE) (t0 t1:AV) (s:St):Prop:=aA (bt .len #[72] [t0] (s.nx+2) (adv s 4)) fun r7=>∃ n,pV Q n t0 t1 r7.1 (.int .i64 0) r7.2
theorem aHn (t0 t1:AV) (s:St) {Q:aE} (h:f186 Q t0 t1 s):dE 186 [t0,t1] s Q:=aH (h:=186) (fn:=Tryz.f186) (c:=sub NP []) (show WJ (sub NP []) (IK Q) aU (IK Q)=_ from (aM (aM (aBb Q) (aM (dC 0 (aCf Q _)) rfl)) rfl)) h
abbrev PD:Code:=aJ Tryz.f222
abbrev FS:=rK Tryz.f222
abbrev TX:=aK mEv 222 (mEv.kp 222)
def CW (Q:aE) (s:St):Prop:=Q (.int .i64 (-1)) (adv s 1)
def RP (Q:aE) (ih1:AV->AV->AV->aE) (t8 t0 t1 t7:AV) (s:St):Prop:=aA (bn .add 3 t8 (.int .i64 1)) fun t18=>ih1 t0 t1 t7 t18 (adv s 2)
def vA (Q:aE) (ih1:AV->AV->AV->aE) (t0 t1 t7 t8:AV) (s:St):Prop:=aA (bn .lss 3 t8 t7) fun t9=>aY t9
 (aA (cB 1 t0 t8) fun t14=>aA (ld 1 false t14 (adv s 9)) fun t15=>sK mEv 222 t1 [t15] (adv s 9) fun t16 s1=>aY t16
 (Q t8 (adv s1 2))
 (RP Q ih1 t8 t0 t1 t7 s1))
 (CW Q (adv s 1))
def pP (Q:aE) (n:Nat):AV->AV->AV->aE:=jX (fun _ _ _ _ _ =>False) (fun ih=>vA Q ih) n
theorem YM (Q:aE):TX (sub PD [Y,Y]) (FS Q) aU (FS Q)=(fun g s=>CW Q s):=Eq.trans rfl (by kernel_rfl)
theorem aAu (Q:aE) (n1:Nat):TX (sub PD [Y,N,Y,N,N,Y,Y,Y]) (kV (fun n g s=>pP Q n (g 0) (g 1) (g 7) (g 8) s) 222 n1) (cN 0 (fun g s=>CW Q s) aU) (FS Q)=(fun g s=>RP Q (pP Q n1) (g 8) (g 0) (g 1) (g 7) s):=Eq.trans rfl (by kernel_rfl)
theorem aBe (Q:aE) (kN:Kt):TX (sub PD [Y,N,Y,N]) kN (cN 0 (fun g s=>CW Q s) aU) (FS Q)=fun g s=>∃ n,pP Q n (g 0) (g 1) (g 7) (g 8) s:=kG (L:=fun n g s=>pP Q n (g 0) (g 1) (g 7) (g 8) s) (fun n1=>Eq.trans (aM (aM (aM (aAu Q n1) (dC 1 rfl)) rfl) rfl) (by kernel_rfl))
def f222 (Q:aE) (t0 t1:AV) (s:St):Prop:=aA (bt .len #[52] [t0] (s.nx+2) (adv s 4)) fun r7=>∃ n,pP Q n t0 t1 r7.1 (.int .i64 0) r7.2
theorem aNm (t0 t1:AV) (s:St) {Q:aE} (h:f222 Q t0 t1 s):dE 222 [t0,t1] s Q:=aH (h:=222) (fn:=Tryz.f222) (c:=sub PD []) (show TX (sub PD []) (FS Q) aU (FS Q)=_ from (aM (aM (YM Q) (aM (dC 0 (aBe Q _)) rfl)) rfl)) h
abbrev bBo:Code:=aJ Tryz.f193
abbrev bBq:=rK Tryz.f193
abbrev bFq:=aK mEv 193 (mEv.kp 193)
def f193 (Q:aE) (t0 t1:AV) (s:St):Prop:=aL mEv 222 [t0,t1] (adv s 6) fun t7 s1=>aA (bn .geq 3 t7 (.int .i64 0)) fun t8=>Q t8 s1
theorem aKy (t0 t1:AV) (s:St) {Q:aE} (h:f193 Q t0 t1 s):dE 193 [t0,t1] s Q:=aH (h:=193) (fn:=Tryz.f193) (c:=sub bBo []) (show bFq (sub bBo []) (bBq Q) aU (bBq Q)=_ from rfl) h
abbrev bJv:Code:=aJ Tryz.f31
abbrev bMv:=rK Tryz.f31
abbrev bQk:=aK mEv 31 (mEv.kp 31)
def f31 (Q:aE) (t0:AV) (s:St):Prop:=aA (bn .eql 51 t0 .nilp) fun t4=>aY t4
 (Q (.int .i64 0) (adv s 4))
 ((aQ t0=true /\
 aA (aC 2 t0) fun t7=>aA (ld 1 false t7 (adv s 9)) fun t8=>aA (bt .len #[56] [t8] (s.nx+7) (adv s 9)) fun r9=>Q r9.1 r9.2))
theorem aWv (t0:AV) (s:St) {Q:aE} (h:f31 Q t0 s):dE 31 [t0] s Q:=aH (h:=31) (fn:=Tryz.f31) (c:=sub bJv []) (show bQk (sub bJv []) (bMv Q) aU (bMv Q)=_ from rfl) h
abbrev bMx:Code:=aJ Tryz.f53
abbrev bKj:=rK Tryz.f53
abbrev bOi:=aK mEv 53 (mEv.kp 53)
def f53 (Q:aE) (t0 t1:AV) (s:St):Prop:=aA (zr 101) fun z4=>aA (bn .lss 3 t1 (.int .i64 0)) fun t7=>Gd (aD t7 false) (adv ((adv s 2).set s.nx (some (.cells z4.cells 101 true true))) 8) (fun k=>k t1 (adv ((adv s 2).set s.nx (some (.cells z4.cells 101 true true))) 8)) fun t9 s1=>Gd (aD t7 false) s1 (fun k=>k t0 s1) fun t10 s2=>Gd (aD t7 false) s2 (fun k=>aL mEv 31 [t10] s2 k) fun t11 s3=>Gd (aD t7 false) s3 (fun k=>aA (bn .geq 3 t9 t11) fun v=>k v s3) fun t12 s4=>aA (aV t7 (.bool true) t12) fun t13=>aY t13
 (aA (lV 101 []) fun t14=>aA (dN 7 (.ptr s.nx 0) t14 (adv s4 3)) fun s5=>pC ((sT [ld 7 true (.ptr s.nx 0) s5,some (.bool false)]).map xG) fun v=>Q v s5)
 ((aQ t0=true /\
 aA (aC 2 t0) fun t17=>aA (ld 1 false t17 (adv s4 10)) fun t18=>aA (cB 7 t18 t1) fun t20=>aA (ld 7 true t20 (adv s4 10)) fun t21=>aN mEv 104 [t21] (adv s4 10) fun t22 s6=>aA (dN 7 (.ptr s.nx 0) t22 s6) fun s7=>pC ((sT [ld 7 true (.ptr s.nx 0) s7,some (.bool true)]).map xG) fun v=>Q v s7))
theorem aTe (t0 t1:AV) (s:St) {Q:aE} (h:f53 Q t0 t1 s):dE 53 [t0,t1] s Q:=aH (h:=53) (fn:=Tryz.f53) (c:=sub bMx []) (show bOi (sub bMx []) (bKj Q) aU (bKj Q)=_ from rfl) h
abbrev aXo:Code:=aJ Tryz.f184
abbrev bBj:=rK Tryz.f184
abbrev bMh:=aK mEv 184 (mEv.kp 184)
def f184 (Q:aE) (t0 t1:AV) (s:St):Prop:=aA (bn .eql 277 t0 .nilp) fun t9=>aY t9
 (Q (.tup [(.int .i64 0),(.bool false)]) (adv s 6))
 ((aQ t0=true /\
 aA (aC 1 t0) fun t13=>aA (ld 1 false t13 (adv s 15)) fun t14=>aA (eA Tryz.ty 53 t14 t1 true (adv s 15)) fun t16=>aA (aW t16 0) fun t17=>aA (aW t16 1) fun t18=>Q (.tup [t17,t18]) (adv s 19)))
theorem aPm (t0 t1:AV) (s:St) {Q:aE} (h:f184 Q t0 t1 s):dE 184 [t0,t1] s Q:=aH (h:=184) (fn:=Tryz.f184) (c:=sub aXo []) (show bMh (sub aXo []) (bBj Q) aU (bBj Q)=_ from rfl) h
abbrev aQv:Code:=aJ Tryz.f185
abbrev WI:=rK Tryz.f185
abbrev aXf:=aK mEv 185 (mEv.kp 185)
def BG (Q:aE) (t0 t1:AV) (s:St):Prop:=(aQ t0=true /\
 aA (aC 1 t0) fun t32=>aA (ld 1 false t32 (adv s 11)) fun t33=>(aQ t0=true /\
 aA (aC 0 t0) fun t37=>aA (ld 1 false t37 (adv s 11)) fun t38=>aA (bt .len #[52] [t38] (s.nx+9) (adv s 11)) fun r39=>(r39.2.h (s.nx+10)=none/\aA (eI Tryz.ty 53 t33 t1 r39.1 r39.2) fun s1=>(aQ t0=true /\
 aA (aC 0 t0) fun t43=>aA (ld 1 false t43 (adv s1 11)) fun t44=>aA (lE 52 1 [(0,t1)]) fun t46=>aA (bt .append #[52,52] [t44,t46] (s1.nx+7) (adv s1 11)) fun r47=>(aQ t0=true /\
 aA (aC 0 t0) fun t49=>aA (dN 1 t49 r47.1 r47.2) fun s2=>(aQ t0=true /\
 aA (aC 0 t0) fun t52=>aA (ld 1 false t52 (adv s2 8)) fun t53=>aA (bt .len #[52] [t53] (s2.nx+4) (adv s2 8)) fun r54=>aA (bn .sub 3 r54.1 (.int .i64 1)) fun t55=>Q (.tup [t55,(.bool true)]) r54.2))))))
theorem aDx (Q:aE):aXf (sub aQv [Y,Y,Y,Y]) (WI Q) aU (WI Q)=(fun g s=>BG Q (g 0) (g 1) s):=Eq.trans rfl (by kernel_rfl)
def f185 (Q:aE) (t0 t1:AV) (s:St):Prop:=aA (bn .eql 277 t0 .nilp) fun t9=>aY t9
 (Q (.tup [(.int .i64 (-1)),(.bool false)]) (adv s 6))
 ((aQ t0=true /\
 aA (aC 1 t0) fun t13=>aA (ld 1 false t13 (adv s 15)) fun t14=>aA (eA Tryz.ty 53 t14 t1 true (adv s 15)) fun t16=>aA (aW t16 0) fun t17=>aA (aW t16 1) fun t18=>aY t18
 (Q (.tup [t17,(.bool false)]) (adv s 19))
 ((aQ t0=true /\
 aA (aC 1 t0) fun t23=>aA (ld 1 false t23 (adv s 21)) fun t24=>aA (bn .eql 53 t24 .nilm) fun t25=>aY t25
 ((aQ t0=true /\
 aA (aC 1 t0) fun t29=>aA (dN 1 t29 (.map (s.nx+22)) ((adv s 26).set (s.nx+22) (some (.map [])))) fun s1=>BG Q t0 t1 s1))
 (BG Q t0 t1 (adv s 21))))))
theorem aNp (t0 t1:AV) (s:St) {Q:aE} (h:f185 Q t0 t1 s):dE 185 [t0,t1] s Q:=aH (h:=185) (fn:=Tryz.f185) (c:=sub aQv []) (show aXf (sub aQv []) (WI Q) aU (WI Q)=_ from (aM (aM (aM (aM (aDx Q) rfl) rfl) rfl) rfl)) h
abbrev yL:Code:=aJ Tryz.f183
abbrev sM:=rK Tryz.f183
abbrev CI:=aK mEv 183 (mEv.kp 183)
def xW (Q:aE) (t3 t1:AV) (s:St):Prop:=cH mEv 108 [t3] (rch (adv s 6) [(.fn 108 [] []),t3]) (adv s 6) fun t53 s1=>aA (bn .add 9 t53 (.str [61])) fun t54=>aA (aC 3 t1) fun t55=>(clear 4 ⟨3,false,aF t55,none⟩ [⟨2,false,[],none⟩,⟨1,false,[],none⟩,⟨0,true,rch (adv s 6) [(.fn 108 [] []),t3],some (adv s 6).nx⟩]=true/\aA (ld 1 false t55 s1) fun t56=>aA (bn .add 9 t54 t56) fun t57=>Q t57 s1)
def SP (Q:aE) (ih1:AV->AV->AV->AV->aE) (t38 t1 t3 t36 t37:AV) (s:St):Prop:=aA (bn .add 3 t38 (.int .i64 1)) fun t52=>ih1 t1 t3 t36 t37 t52 (adv s 2)
def wO (Q:aE) (ih1:AV->AV->AV->AV->aE) (t1 t3 t36 t37 t38:AV) (s:St):Prop:=aA (bn .lss 3 t38 t37) fun t39=>aY t39
 (aA (cB 2 t36 t38) fun t40=>aA (ld 2 true t40 (adv s 5)) fun t41=>aA (zr 109) fun z7=>aA (dN 2 (.ptr (s.nx+3) 0) t41 ((adv s 5).set (s.nx+3) (some (.cells z7.cells 109 true true)))) fun s1=>aA (aC 0 (.ptr (s.nx+3) 0)) fun t42=>aA (ld 1 false t42 (adv s1 10)) fun t43=>eL mEv 206 [t43] (rch (adv s1 10) [(.fn 206 [] []),t43]) (adv s1 10) fun t44 s2=>aA (bn .add 9 (.str [32]) t44) fun t45=>aA (bn .add 9 t45 (.str [42])) fun t46=>aA (aC 1 (.ptr (s.nx+3) 0)) fun t47=>aA (ld 1 false t47 s2) fun t48=>eL mEv 206 [t48] (rch s2 [(.fn 206 [] []),t48]) s2 fun t49 s3=>aA (bn .add 9 t46 t49) fun t50=>cH mEv 156 [t3,t50] (rch s3 [(.fn 156 [] []),t3,t50]) s3 fun t51 s4=>SP Q ih1 t38 t1 t3 t36 t37 s4)
 (xW Q t3 t1 (adv s 1))
def pN (Q:aE) (n:Nat):AV->AV->AV->AV->aE:=jX (fun _ _ _ _ _ _ =>False) (fun ih=>wO Q ih) n
def xL (Q:aE) (t1 t3:AV) (s:St):Prop:=aA (aC 4 t1) fun t29=>aA (aC 1 t29) fun t30=>aA (ld 1 false t30 (adv s 6)) fun t31=>aN mEv 59 [t31] (adv s 6) fun t32 s1=>aA (bn .add 9 (.str [35]) t32) fun t33=>aL mEv 156 [t3,t33] s1 fun t34 s2=>aA (aC 6 t1) fun t35=>aA (ld 1 false t35 (adv s2 4)) fun t36=>aA (bt .len #[25] [t36] (s2.nx+2) (adv s2 4)) fun r37=>∃ n,pN Q n t1 t3 t36 r37.1 (.int .i64 0) r37.2
def TH (Q:aE) (ih2:AV->AV->AV->AV->aE) (t20 t1 t3 t18 t19:AV) (s:St):Prop:=aA (bn .add 3 t20 (.int .i64 1)) fun t28=>ih2 t1 t3 t18 t19 t28 (adv s 2)
def uL (Q:aE) (ih2:AV->AV->AV->AV->aE) (t1 t3 t18 t19 t20:AV) (s:St):Prop:=aA (bn .lss 3 t20 t19) fun t21=>aY t21
 (aA (cB 1 t18 t20) fun t22=>aA (ld 1 false t22 (adv s 4)) fun t23=>aN mEv 206 [t23] (adv s 8) fun t25 s1=>aA (bn .add 9 (.str [32]) t25) fun t26=>aL mEv 156 [t3,t26] s1 fun t27 s2=>TH Q ih2 t20 t1 t3 t18 t19 s2)
 (xL Q t1 t3 (adv s 1))
def qA (Q:aE) (n:Nat):AV->AV->AV->AV->aE:=jX (fun _ _ _ _ _ _ =>False) (fun ih=>uL Q ih) n
theorem aCp (Q:aE):CI (sub yL [Y,Y,Y,Y,Y,Y]) (sM Q) aU (sM Q)=(fun g s=>xW Q (g 3) (g 1) s):=Eq.trans rfl (by kernel_rfl)
theorem aAx (Q:aE) (n1:Nat):CI (sub yL [Y,Y,Y,Y,Y,N,Y,N,N,Y,Y,Y]) (kV (fun n g s=>pN Q n (g 1) (g 3) (g 36) (g 37) (g 38) s) 183 n1) (cN 2 (fun g s=>xW Q (g 3) (g 1) s) aU) (sM Q)=(fun g s=>SP Q (pN Q n1) (g 38) (g 1) (g 3) (g 36) (g 37) s):=Eq.trans rfl (by kernel_rfl)
theorem aDg (Q:aE) (kN:Kt):CI (sub yL [Y,Y,Y,Y,Y,N,Y,N]) kN (cN 2 (fun g s=>xW Q (g 3) (g 1) s) aU) (sM Q)=fun g s=>∃ n,pN Q n (g 1) (g 3) (g 36) (g 37) (g 38) s:=kG (L:=fun n g s=>pN Q n (g 1) (g 3) (g 36) (g 37) (g 38) s) (fun n1=>Eq.trans (aM (aM (aM (aAx Q n1) (dC 3 rfl)) rfl) rfl) (by kernel_rfl))
theorem aAf (Q:aE):CI (sub yL [Y,Y,Y,Y]) (sM Q) aU (sM Q)=(fun g s=>xL Q (g 1) (g 3) s):=Eq.trans (aM (aM (aCp Q) (aM (dC 2 (aDg Q _)) rfl)) rfl) (by kernel_rfl)
theorem aDi (Q:aE) (n2:Nat):CI (sub yL [Y,Y,Y,N,Y,N,N,Y,Y,Y]) (kV (fun n g s=>qA Q n (g 1) (g 3) (g 18) (g 19) (g 20) s) 183 n2) (cN 0 (fun g s=>xL Q (g 1) (g 3) s) aU) (sM Q)=(fun g s=>TH Q (qA Q n2) (g 20) (g 1) (g 3) (g 18) (g 19) s):=Eq.trans rfl (by kernel_rfl)
theorem aAg (Q:aE) (kN:Kt):CI (sub yL [Y,Y,Y,N,Y,N]) kN (cN 0 (fun g s=>xL Q (g 1) (g 3) s) aU) (sM Q)=fun g s=>∃ n,qA Q n (g 1) (g 3) (g 18) (g 19) (g 20) s:=kG (L:=fun n g s=>qA Q n (g 1) (g 3) (g 18) (g 19) (g 20) s) (fun n2=>Eq.trans (aM (aM (aM (aDi Q n2) (dC 1 rfl)) rfl) rfl) (by kernel_rfl))
def f183 (Q:aE) (t0:AV) (s:St):Prop:=(t0.cells.all AV.one=true /\
 aA (zr 163) fun z3=>aA (aC 0 (.ptr s.nx 0)) fun t8=>aA (ld 1 false t8 (adv ((adv ((adv s 2).set s.nx (some (.cells t0.cells 101 true true))) 1).set ((adv s 2).set s.nx (some (.cells t0.cells 101 true true))).nx (some (.cells z3.cells 163 true true))) 9)) fun t9=>eL mEv 206 [t9] (rch (adv ((adv ((adv s 2).set s.nx (some (.cells t0.cells 101 true true))) 1).set ((adv s 2).set s.nx (some (.cells t0.cells 101 true true))).nx (some (.cells z3.cells 163 true true))) 9) [(.fn 206 [] []),t9]) (adv ((adv ((adv s 2).set s.nx (some (.cells t0.cells 101 true true))) 1).set ((adv s 2).set s.nx (some (.cells t0.cells 101 true true))).nx (some (.cells z3.cells 163 true true))) 9) fun t10 s1=>aA (bn .add 9 t10 (.str [58])) fun t11=>aA (aC 1 (.ptr s.nx 0)) fun t12=>aA (ld 1 false t12 s1) fun t13=>eL mEv 206 [t13] (rch s1 [(.fn 206 [] []),t13]) s1 fun t14 s2=>aA (bn .add 9 t11 t14) fun t15=>cH mEv 156 [(.ptr ((adv s 2).set s.nx (some (.cells t0.cells 101 true true))).nx 0),t15] (rch s2 [(.fn 156 [] []),(.ptr ((adv s 2).set s.nx (some (.cells t0.cells 101 true true))).nx 0),t15]) s2 fun t16 s3=>aA (aC 2 (.ptr s.nx 0)) fun t17=>aA (ld 1 false t17 (adv s3 4)) fun t18=>aA (bt .len #[72] [t18] (s3.nx+2) (adv s3 4)) fun r19=>∃ n,qA Q n (.ptr s.nx 0) (.ptr ((adv s 2).set s.nx (some (.cells t0.cells 101 true true))).nx 0) t18 r19.1 (.int .i64 0) r19.2)
theorem aNq (t0:AV) (s:St) {Q:aE} (h:f183 Q t0 s):dE 183 [t0] s Q:=aH (h:=183) (fn:=Tryz.f183) (c:=sub yL []) (show CI (sub yL []) (sM Q) aU (sM Q)=_ from (aM (aM (aM (aM (aAf Q) (aM (dC 0 (aAg Q _)) rfl)) rfl) rfl) rfl)) h
abbrev aXe:Code:=aJ Tryz.f131
abbrev bAi:=rK Tryz.f131
abbrev bIk:=aK mEv 131 (mEv.kp 131)
def f131 (Q:aE) (t0 t1:AV) (s:St):Prop:=(t1.cells.all AV.one=true /\
 aA (bn .eql 51 t0 .nilp) fun t12=>aY t12
 (Q (.tup [(.int .i64 0),(.int .i64 1)]) (adv ((adv s 3).set s.nx (some (.cells t1.cells 101 true true))) 4))
 (aA (ld 7 true (.ptr s.nx 0) (adv ((adv s 3).set s.nx (some (.cells t1.cells 101 true true))) 5)) fun t13=>aN mEv 183 [t13] (adv ((adv s 3).set s.nx (some (.cells t1.cells 101 true true))) 5) fun t14 s1=>(aQ t0=true /\
 aA (aC 0 t0) fun t18=>aL mEv 184 [t18,t14] (adv s1 10) fun t20 s2=>aA (aW t20 0) fun t21=>aA (aW t20 1) fun t22=>aY t22
 (Q (.tup [t21,(.int .i64 0)]) (adv s2 4))
 ((aQ t0=true /\
 aA (aC 2 t0) fun t27=>aA (ld 1 false t27 (adv s2 7)) fun t28=>aA (bt .len #[56] [t28] (s2.nx+5) (adv s2 7)) fun r29=>aA (bn .eql 3 r29.1 (.int .i64 20000)) fun t30=>aY t30
 (Q (.tup [(.int .i64 0),(.int .i64 2)]) (adv r29.2 2))
 ((aQ t0=true /\
 aA (aC 0 t0) fun t34=>aL mEv 185 [t34,t14] (adv r29.2 10) fun t36 s3=>aA (aW t36 0) fun t37=>aA (aW t36 1) fun t38=>(aQ t0=true /\
 aA (aC 2 t0) fun t42=>aA (ld 1 false t42 (adv s3 12)) fun t43=>aA (ld 7 true (.ptr s.nx 0) (adv s3 12)) fun t44=>eL mEv 104 [t44] (rch (adv s3 12) [(.fn 104 [] []),t44]) (adv s3 12) fun t45 s4=>aA (lE 56 1 [(0,t45)]) fun t46=>(s4.h (s3.nx+8)=none/\aA (bt .append #[56,56] [t43,t46] (s3.nx+8) s4) fun r47=>(aQ t0=true /\
 aA (aC 2 t0) fun t49=>(r47.2.h (s3.nx+11)=none/\aA (dN 1 t49 r47.1 r47.2) fun s5=>Q (.tup [t37,(.int .i64 0)]) (adv s5 3))))))))))))
theorem aOc (t0 t1:AV) (s:St) {Q:aE} (h:f131 Q t0 t1 s):dE 131 [t0,t1] s Q:=aH (h:=131) (fn:=Tryz.f131) (c:=sub aXe []) (show bIk (sub aXe []) (bAi Q) aU (bAi Q)=_ from rfl) h
abbrev bJn:Code:=aJ Tryz.f77
abbrev bFs:=rK Tryz.f77
abbrev bOn:=aK mEv 77 (mEv.kp 77)
def f77 (Q:aE) (t0 t1 t2:AV) (s:St):Prop:=aA (bn .lss 3 t2 (.int .i64 1)) fun t9=>Gd (aD t9 false) (adv s 13) (fun k=>k t2 (adv s 13)) fun t11 s1=>Gd (aD t9 false) s1 (fun k=>aA (bn .gtr 3 t11 (.int .i64 3)) fun v=>k v s1) fun t12 s2=>aA (aV t9 (.bool true) t12) fun t13=>Gd (aD t13 false) s2 (fun k=>k t1 s2) fun t15 s3=>Gd (aD t13 false) s3 (fun k=>aA (bt .len #[9] [t15] (s.nx+10) s3) fun r=>k r.1 r.2) fun t16 s4=>Gd (aD t13 false) s4 (fun k=>aA (bn .gtr 3 t16 (.int .i64 16384)) fun v=>k v s4) fun t17 s5=>aA (aV t13 (.bool true) t17) fun t18=>aY t18
 (Q (.tup [(.int .i64 0),(.int .i64 1)]) (adv s5 2))
 (aA (lV 101 [(0,(.int .i64 1)),(1,t2),(3,t1)]) fun t22=>aL mEv 131 [t0,t22] (adv s5 9) fun t23 s6=>aA (aW t23 0) fun t24=>aA (aW t23 1) fun t25=>Q (.tup [t24,t25]) s6)
theorem aWf (t0 t1 t2:AV) (s:St) {Q:aE} (h:f77 Q t0 t1 t2 s):dE 77 [t0,t1,t2] s Q:=aH (h:=77) (fn:=Tryz.f77) (c:=sub bJn []) (show bOn (sub bJn []) (bFs Q) aU (bFs Q)=_ from rfl) h
abbrev bHw:Code:=aJ Tryz.f78
abbrev bHf:=rK Tryz.f78
abbrev bRp:=aK mEv 78 (mEv.kp 78)
def f78 (Q:aE) (t0 t1:AV) (s:St):Prop:=aY t1
 (aA (lV 101 [(0,(.int .i64 2)),(1,(.int .i64 1))]) fun t8=>aL mEv 131 [t0,t8] (adv s 10) fun t9 s1=>aA (aW t9 0) fun t10=>aA (aW t9 1) fun t11=>Q (.tup [t10,t11]) s1)
 (aA (lV 101 [(0,(.int .i64 3)),(1,(.int .i64 1))]) fun t13=>aL mEv 131 [t0,t13] (adv s 10) fun t14 s2=>aA (aW t14 0) fun t15=>aA (aW t14 1) fun t16=>Q (.tup [t15,t16]) s2)
theorem aUh (t0 t1:AV) (s:St) {Q:aE} (h:f78 Q t0 t1 s):dE 78 [t0,t1] s Q:=aH (h:=78) (fn:=Tryz.f78) (c:=sub bHw []) (show bRp (sub bHw []) (bHf Q) aU (bHf Q)=_ from rfl) h
abbrev bIj:Code:=aJ Tryz.f79
abbrev bNc:=rK Tryz.f79
abbrev bOe:=aK mEv 79 (mEv.kp 79)
def f79 (Q:aE) (t0 t1:AV) (s:St):Prop:=(t1.cells.all AV.one=true /\
 aA (ld 2 true (.ptr s.nx 0) (adv ((adv s 3).set s.nx (some (.cells t1.cells 24 true true))) 3)) fun t6=>aN mEv 20 [t6] (adv ((adv s 3).set s.nx (some (.cells t1.cells 24 true true))) 3) fun t7 s1=>aA (bn .lss 3 t7 (.int .i64 0)) fun t8=>aY t8
 (Q (.tup [(.int .i64 0),(.int .i64 1)]) (adv s1 2))
 (aA (ld 2 true (.ptr s.nx 0) (adv s1 9)) fun t10=>aN mEv 69 [t10] (adv s1 9) fun t11 s2=>aA (lV 101 [(0,(.int .i64 4)),(1,(.int .i64 2)),(4,t11)]) fun t12=>aL mEv 131 [t0,t12] s2 fun t13 s3=>aA (aW t13 0) fun t14=>aA (aW t13 1) fun t15=>Q (.tup [t14,t15]) s3))
theorem aVg (t0 t1:AV) (s:St) {Q:aE} (h:f79 Q t0 t1 s):dE 79 [t0,t1] s Q:=aH (h:=79) (fn:=Tryz.f79) (c:=sub bIj []) (show bOe (sub bIj []) (bNc Q) aU (bNc Q)=_ from rfl) h
abbrev bJc:Code:=aJ Tryz.f80
abbrev bLa:=rK Tryz.f80
abbrev bPx:=aK mEv 80 (mEv.kp 80)
def f80 (Q:aE) (t0 t1:AV) (s:St):Prop:=aN mEv 60 [t1] (adv s 5) fun t7 s1=>aA (un .not t7) fun t8=>aY t8
 (Q (.tup [(.int .i64 0),(.int .i64 1)]) (adv s1 2))
 (aA (lV 101 [(0,(.int .i64 5)),(1,(.int .i64 3)),(5,t1)]) fun t11=>aL mEv 131 [t0,t11] (adv s1 8) fun t12 s2=>aA (aW t12 0) fun t13=>aA (aW t12 1) fun t14=>Q (.tup [t13,t14]) s2)
theorem aSn (t0 t1:AV) (s:St) {Q:aE} (h:f80 Q t0 t1 s):dE 80 [t0,t1] s Q:=aH (h:=80) (fn:=Tryz.f80) (c:=sub bJc []) (show bPx (sub bJc []) (bLa Q) aU (bLa Q)=_ from rfl) h
abbrev bBh:Code:=aJ Tryz.f187
abbrev bAd:=rK Tryz.f187
abbrev bGz:=aK mEv 187 (mEv.kp 187)
def f187 (Q:aE) (t0 t1:AV) (s:St):Prop:=(aQ t0=true /\
 aA (aC 2 t0) fun t8=>aA (ld 1 false t8 (adv s 10)) fun t9=>aA (cB 7 t9 t1) fun t11=>aA (ld 7 true t11 (adv s 10)) fun t12=>aA (zr 101) fun z5=>aA (dN 7 (.ptr (s.nx+8) 0) t12 ((adv s 10).set (s.nx+8) (some (.cells z5.cells 101 true true)))) fun s1=>aA (aC 0 (.ptr (s.nx+8) 0)) fun t13=>aA (ld 1 false t13 (adv s1 23)) fun t14=>aA (bn .eql 3 t14 (.int .i64 4)) fun t15=>Gd (aD t15 false) (adv s1 23) (fun k=>aA (aC 0 (.ptr (s.nx+8) 0)) fun v=>k v (adv s1 23)) fun t17 s2=>Gd (aD t15 false) s2 (fun k=>aA (ld 1 false t17 s2) fun v=>k v s2) fun t18 s3=>Gd (aD t15 false) s3 (fun k=>aA (bn .eql 3 t18 (.int .i64 14)) fun v=>k v s3) fun t19 s4=>Gd (aD t15 false) s4 (fun k=>k t19 s4) fun t20 s5=>Gd (aD t20 true) s5 (fun k=>k t0 s5) fun t21 s6=>Gd (aD t20 true) s6 (fun k=>aQ t21=true/\k t21 s6) fun t22 s7=>Gd (aD t20 true) s7 (fun k=>aA (aC 2 t22) fun v=>k v s7) fun t23 s8=>Gd (aD t20 true) s8 (fun k=>aA (ld 1 false t23 s8) fun v=>k v s8) fun t24 s9=>Gd (aD t20 true) s9 (fun k=>aA (aC 2 (.ptr (s.nx+8) 0)) fun v=>k v s9) fun t25 s10=>Gd (aD t20 true) s10 (fun k=>aA (ld 1 false t25 s10) fun v=>k v s10) fun t26 s11=>Gd (aD t20 true) s11 (fun k=>aA (cB 1 t26 (.int .i64 0)) fun v=>k v s11) fun t27 s12=>Gd (aD t20 true) s12 (fun k=>aA (ld 1 false t27 s12) fun v=>k v s12) fun t28 s13=>Gd (aD t20 true) s13 (fun k=>aA (cB 7 t24 t28) fun v=>k v s13) fun t29 s14=>Gd (aD t20 true) s14 (fun k=>aA (aC 0 t29) fun v=>k v s14) fun t30 s15 =>
 Gd (aD t20 true) s15 (fun k=>aA (ld 1 false t30 s15) fun v=>k v s15) fun t31 s16=>Gd (aD t20 true) s16 (fun k=>aA (bn .eql 3 t31 (.int .i64 4)) fun v=>k v s16) fun t32 s17=>Gd (aD t15 false) s17 (fun k=>aA (aV t20 t32 (.bool false)) fun v=>k v s17) fun t33 s18=>aA (aV t15 (.bool true) t33) fun t34=>Q t34 s18)
theorem aIr (t0 t1:AV) (s:St) {Q:aE} (h:f187 Q t0 t1 s):dE 187 [t0,t1] s Q:=aH (h:=187) (fn:=Tryz.f187) (c:=sub bBh []) (show bGz (sub bBh []) (bAd Q) aU (bAd Q)=_ from rfl) h
abbrev MJ:Code:=aJ Tryz.f135
abbrev IA:=rK Tryz.f135
abbrev VF:=aK mEv 135 (mEv.kp 135)
def EV (Q:aE) (t5:AV) (s:St):Prop:=aA (bn .leq 3 t5 (.int .i64 1)) fun t22=>Q t22 (adv s 3)
def EA (Q:aE) (ih1:AV->AV->AV->AV->aE) (t10 t0 t5 t8 t9:AV) (s:St):Prop:=aA (bn .add 3 t10 (.int .i64 1)) fun t20=>ih1 t0 t5 t8 t9 t20 (adv s 2)
def uO (Q:aE) (ih1:AV->AV->AV->AV->aE) (t0 t5 t8 t9 t10:AV) (s:St):Prop:=aA (bn .lss 3 t10 t9) fun t11=>aY t11
 (aA (cB 1 t8 t10) fun t12=>aA (ld 1 false t12 (adv s 4)) fun t13=>aL mEv 187 [t0,t13] (adv s 8) fun t16 s1=>aA (un .not t16) fun t17=>aY t17
 (aA (bn .add 3 t5 (.int .i64 1)) fun t19=>EA Q ih1 t10 t0 t19 t8 t9 (adv s1 3))
 (EA Q ih1 t10 t0 t5 t8 t9 s1))
 (EV Q t5 (adv s 1))
def pI (Q:aE) (n:Nat):AV->AV->AV->AV->aE:=jX (fun _ _ _ _ _ _ =>False) (fun ih=>uO Q ih) n
theorem YH (Q:aE):VF (sub MJ [Y,Y,Y]) (IA Q) aU (IA Q)=(fun g s=>EV Q (g 5) s):=Eq.trans rfl (by kernel_rfl)
theorem aDu (Q:aE) (n1:Nat):VF (sub MJ [Y,Y,N,Y,N,N,Y,Y,Y]) (kV (fun n g s=>pI Q n (g 0) (g 5) (g 8) (g 9) (g 10) s) 135 n1) (cN 0 (fun g s=>EV Q (g 5) s) aU) (IA Q)=(fun g s=>EA Q (pI Q n1) (g 10) (g 0) (g 5) (g 8) (g 9) s):=Eq.trans rfl (by kernel_rfl)
theorem aAc (Q:aE) (kN:Kt):VF (sub MJ [Y,Y,N,Y,N]) kN (cN 0 (fun g s=>EV Q (g 5) s) aU) (IA Q)=fun g s=>∃ n,pI Q n (g 0) (g 5) (g 8) (g 9) (g 10) s:=kG (L:=fun n g s=>pI Q n (g 0) (g 5) (g 8) (g 9) (g 10) s) (fun n1=>Eq.trans (aM (aM (aM (aDu Q n1) (dC 1 rfl)) rfl) rfl) (by kernel_rfl))
def f135 (Q:aE) (t0 t1:AV) (s:St):Prop:=aA (bt .len #[72] [t1] (s.nx+3) (adv s 5)) fun r9=>∃ n,pI Q n t0 (.int .i64 0) t1 r9.1 (.int .i64 0) r9.2
theorem aHy (t0 t1:AV) (s:St) {Q:aE} (h:f135 Q t0 t1 s):dE 135 [t0,t1] s Q:=aH (h:=135) (fn:=Tryz.f135) (c:=sub MJ []) (show VF (sub MJ []) (IA Q) aU (IA Q)=_ from (aM (aM (aM (YH Q) (aM (dC 0 (aAc Q _)) rfl)) rfl) rfl)) h
abbrev GK:Code:=aJ Tryz.f134
abbrev CG:=rK Tryz.f134
abbrev MM:=aK mEv 134 (mEv.kp 134)
def xH (Q:aE) (t4 t7:AV) (s:St):Prop:=aA (aC 5 t4) fun t44=>aA (ld 1 false t44 (adv s 3)) fun t45=>aA (bn .eql 3 t45 (.int .i64 (-1))) fun t46=>aY t46
 (Q t7 (adv s 5))
 (aA (aC 5 t4) fun t48=>aA (ld 1 false t48 (adv s 6)) fun t49=>Q t49 (adv s 6))
def xU (Q:aE) (ih1:AV->AV->AV->AV->AV->aE) (t14 t0 t4 t7 t12 t13:AV) (s:St):Prop:=aA (bn .add 3 t14 (.int .i64 1)) fun t43=>ih1 t0 t4 t7 t12 t13 t43 (adv s 2)
def DK (Q:aE) (ih1:AV->AV->AV->AV->AV->aE) (t10 t11 t14 t0 t4 t12 t13:AV) (s:St):Prop:=aA (bn .neq 3 t10 (.int .i64 (-2))) fun t36=>Gd (aD t36 true) (adv s 7) (fun k=>k t10 (adv s 7)) fun t38 s1=>Gd (aD t36 true) s1 (fun k=>k t11 s1) fun t39 s2=>Gd (aD t36 true) s2 (fun k=>aA (bn .neq 3 t38 t39) fun v=>k v s2) fun t40 s3=>aA (aV t36 t40 (.bool false)) fun t41=>aY t41
 (Q (.int .i64 0) (adv s3 1))
 (xU Q ih1 t14 t0 t4 t11 t12 t13 (adv s3 2))
def vZ (Q:aE) (ih1:AV->AV->AV->AV->AV->aE) (t0 t4 t7 t12 t13 t14:AV) (s:St):Prop:=aA (bn .lss 3 t14 t13) fun t15=>aY t15
 (aA (cB 1 t12 t14) fun t17=>aA (ld 1 false t17 (adv s 6)) fun t18=>aA (bt .min #[3,3] [t14,(.int .i64 2)] (s.nx+7) (adv s 21)) fun r20=>aA (aC 2 t4) fun t21=>aA (ixA 3 1 t21 r20.1) fun t22=>aA (ld 1 false t22 r20.2) fun t23=>(aQ t0=true /\
 aA (aC 2 t0) fun t26=>aA (ld 1 false t26 r20.2) fun t27=>aA (cB 7 t27 t18) fun t29=>aA (aC 1 t29) fun t30=>aA (ld 1 false t30 r20.2) fun t31=>aA (bn .eql 3 t23 (.int .i64 (-1))) fun t33=>aY t33
 (DK Q ih1 t7 t31 t14 t0 t4 t12 t13 (adv r20.2 4))
 (DK Q ih1 t23 t31 t14 t0 t4 t12 t13 (adv r20.2 2))))
 (xH Q t4 t7 (adv s 1))
def jM (Q:aE) (n:Nat):AV->AV->AV->AV->AV->aE:=jX (fun _ _ _ _ _ _ _ =>False) (fun ih=>vZ Q ih) n
theorem aAa (Q:aE):MM (sub GK [Y,Y,Y]) (CG Q) aU (CG Q)=(fun g s=>xH Q (g 4) (g 7) s):=Eq.trans rfl (by kernel_rfl)
theorem aCb (Q:aE) (n1:Nat):MM (sub GK [Y,Y,N,Y,N,N,Y,Y,Y]) (kV (fun n g s=>jM Q n (g 0) (g 4) (g 7) (g 12) (g 13) (g 14) s) 134 n1) (cN 0 (fun g s=>xH Q (g 4) (g 7) s) aU) (CG Q)=(fun g s=>xU Q (jM Q n1) (g 14) (g 0) (g 4) (g 7) (g 12) (g 13) s):=Eq.trans rfl (by kernel_rfl)
theorem aCr (Q:aE) (n1:Nat):MM (sub GK [Y,Y,N,Y,N,N,Y,Y,N,N,Y,Y,Y]) (fun g s=>xU Q (jM Q n1) (g 14) (g 0) (g 4) (g 7) (g 12) (g 13) s) (cN 1 (fun g s=>xU Q (jM Q n1) (g 14) (g 0) (g 4) (g 7) (g 12) (g 13) s) (cN 0 (fun g s=>xH Q (g 4) (g 7) s) aU)) (CG Q)=(fun g s=>DK Q (jM Q n1) (g 10) (g 11) (g 14) (g 0) (g 4) (g 12) (g 13) s):=Eq.trans rfl (by kernel_rfl)
theorem ZM (Q:aE) (kN:Kt):MM (sub GK [Y,Y,N,Y,N]) kN (cN 0 (fun g s=>xH Q (g 4) (g 7) s) aU) (CG Q)=fun g s=>∃ n,jM Q n (g 0) (g 4) (g 7) (g 12) (g 13) (g 14) s:=kG (L:=fun n g s=>jM Q n (g 0) (g 4) (g 7) (g 12) (g 13) (g 14) s) (fun n1=>Eq.trans (aM (aM (aM (aCb Q n1) (dC 1 (aM (aM (aM (aCr Q n1) rfl) rfl) rfl))) rfl) rfl) (by kernel_rfl))
def f134 (Q:aE) (t0 t1 t2:AV) (s:St):Prop:=(t1.cells.all AV.one=true /\
 aA (bt .len #[72] [t2] (((adv s 2).set s.nx (some (.cells t1.cells 192 true true))).nx+2) (adv ((adv s 2).set s.nx (some (.cells t1.cells 192 true true))) 4)) fun r13=>∃ n,jM Q n t0 (.ptr s.nx 0) (.int .i64 0) t2 r13.1 (.int .i64 0) r13.2)
theorem aIc (t0 t1 t2:AV) (s:St) {Q:aE} (h:f134 Q t0 t1 t2 s):dE 134 [t0,t1,t2] s Q:=aH (h:=134) (fn:=Tryz.f134) (c:=sub GK []) (show MM (sub GK []) (CG Q) aU (CG Q)=_ from (aM (aM (aM (aAa Q) (aM (dC 0 (ZM Q _)) rfl)) rfl) rfl)) h
abbrev aZo:Code:=aJ Tryz.f132
abbrev aXa:=rK Tryz.f132
abbrev bIh:=aK mEv 132 (mEv.kp 132)
def f132 (Q:aE) (t0 t1:AV) (s:St):Prop:=aA (bn .lss 3 t0 (.int .i64 0)) fun t5=>Gd (aD t5 false) (adv s 10) (fun k=>k t0 (adv s 10)) fun t7 s1=>Gd (aD t5 false) s1 (fun k=>aA (ld 1 false t1 s1) fun v=>k v s1) fun t8 s2=>Gd (aD t5 false) s2 (fun k=>aL mEv 31 [t8] s2 k) fun t9 s3=>Gd (aD t5 false) s3 (fun k=>aA (bn .geq 3 t7 t9) fun v=>k v s3) fun t10 s4=>aA (aV t5 (.bool true) t10) fun t11=>Q t11 s4
theorem aGe (t0 t1:AV) (s:St) {Q:aE} (h:f132 Q t0 t1 s):dE 132 [t0,t1] s Q:=aH (h:=132) (fn:=Tryz.f132) (c:=sub aZo []) (show bIh (sub aZo []) (aXa Q) aU (aXa Q)=_ from rfl) h
abbrev bCo:Code:=aJ Tryz.f81
abbrev aTr:=rK Tryz.f81
abbrev bMj:=aK mEv 81 (mEv.kp 81)
def VI (Q:aE) (t3 t1 t10 t2:AV) (s:St):Prop:=aA (ld 1 false t3 (adv s 10)) fun t71=>aA (lV 101 [(0,t1),(1,t10),(2,t2)]) fun t75=>aL mEv 131 [t71,t75] (adv s 10) fun t76 s1=>aA (aW t76 0) fun t77=>aA (aW t76 1) fun t78=>Q (.tup [t77,t78]) s1
theorem aKd (Q:aE):bMj (sub bCo [Y,Y,Y,Y,Y,Y,Y]) (aTr Q) aU (aTr Q)=(fun g s=>VI Q (g 3) (g 1) (g 10) (g 2) s):=Eq.trans rfl (by kernel_rfl)
def f81 (Q:aE) (t0 t1 t2:AV) (s:St):Prop:=(t0.cells.all AV.one=true /\
 aA (bn .lss 3 t1 (.int .i64 0)) fun t12=>Gd (aD t12 false) (adv ((adv s 3).set s.nx (some (.cells t0.cells 51 true true))) 13) (fun k=>k t1 (adv ((adv s 3).set s.nx (some (.cells t0.cells 51 true true))) 13)) fun t14 s1=>Gd (aD t12 false) s1 (fun k=>aA (bn .geq 3 t14 (.int .i64 31)) fun v=>k v s1) fun t15 s2=>aA (aV t12 (.bool true) t15) fun t16=>Gd (aD t16 false) s2 (fun k=>k t1 s2) fun t18 s3=>Gd (aD t16 false) s3 (fun k=>aA (ixA 31 6 (gl 1) t18) fun v=>k v s3) fun t19 s4=>Gd (aD t16 false) s4 (fun k=>aA (aC 0 t19) fun v=>k v s4) fun t20 s5=>Gd (aD t16 false) s5 (fun k=>aA (ld 1 false t20 s5) fun v=>k v s5) fun t21 s6=>Gd (aD t16 false) s6 (fun k=>aA (bn .eql 3 t21 (.int .i64 0)) fun v=>k v s6) fun t22 s7=>aA (aV t16 (.bool true) t22) fun t23=>aY t23
 (Q (.tup [(.int .i64 0),(.int .i64 101)]) (adv s7 2))
 (aA (ixA 31 6 (gl 1) t1) fun t25=>aA (ld 6 true t25 (adv s7 5)) fun t26=>aA (zr 192) fun z8=>aA (dN 6 (.ptr (s7.nx+3) 0) t26 ((adv s7 5).set (s7.nx+3) (some (.cells z8.cells 192 true true)))) fun s8=>aA (bt .len #[72] [t2] (s8.nx+3) (adv s8 29)) fun r29=>aA (aC 0 (.ptr (s7.nx+3) 0)) fun t30=>aA (ld 1 false t30 r29.2) fun t31=>aA (bn .lss 3 r29.1 t31) fun t32=>Gd (aD t32 false) r29.2 (fun k=>k t2 r29.2) fun t34 s9=>Gd (aD t32 false) s9 (fun k=>aA (bt .len #[72] [t34] (s8.nx+9) s9) fun r=>k r.1 r.2) fun t35 s10=>Gd (aD t32 false) s10 (fun k=>aA (aC 0 (.ptr (s7.nx+3) 0)) fun v=>k v s10) fun t36 s11=>Gd (aD t32 false) s11 (fun k=>aA (ld 1 false t36 s11) fun v=>k v s11) fun t37 s12=>Gd (aD t32 false) s12 (fun k=>aA (bn .gtr 3 t35 t37) fun v=>k v s12) fun t38 s13=>Gd (aD t32 false) s13 (fun k=>k t38 s13) fun t39 s14=>Gd (aD t39 true) s14 (fun k=>aA (aC 1 (.ptr (s7.nx+3) 0)) fun v=>k v s14) fun t40 s15=>Gd (aD t39 true) s15 (fun k=>aA (ld 1 false t40 s15) fun v=>k v s15) fun t41 s16=>Gd (aD t39 true) s16 (fun k=>aA (un .not t41) fun v=>k v s16) fun t42 s17=>Gd (aD t32 false) s17 (fun k=>aA (aV t39 t42 (.bool false)) fun v=>k v s17) fun t43 s18=>aA (aV t32 (.bool true) t43) fun t44=>Gd (aD t44 false) s18 (fun k=>k t2 s18) fun t46 s19=>Gd (aD t44 false) s19 (fun k=>aA (bt .len #[72] [t46] (s8.nx+21) s19) fun r=>k r.1 r.2) fun t47 s20=>Gd (aD t44 false) s20 (fun k=>aA (bn .gtr 3 t47 (.int .i64 200)) fun v=>k v s20) fun t48 s21 =>
 aA (aV t44 (.bool true) t48) fun t49=>Gd (aD t49 false) s21 (fun k=>k t2 s21) fun t51 s22=>Gd (aD t49 false) s22 (fun k=>k (.fn 132 [] [(.ptr s.nx 0)]) s22) fun t52 s23=>Gd (aD t49 false) s23 (fun k=>aL mEv 133 [t51,t52] s23 k) fun t53 s24=>aA (aV t49 (.bool true) t53) fun t54=>aY t54
 (Q (.tup [(.int .i64 0),(.int .i64 1)]) (adv s24 2))
 (aA (ld 1 false (.ptr s.nx 0) (adv s24 5)) fun t55=>aA (ld 6 true (.ptr (s7.nx+3) 0) (adv s24 5)) fun t56=>aL mEv 134 [t55,t56,t2] (adv s24 5) fun t58 s25=>aA (bn .eql 3 t58 (.int .i64 0)) fun t61=>aY t61
 (Q (.tup [(.int .i64 0),(.int .i64 90)]) (adv s25 5))
 (aA (bn .eql 3 t1 (.int .i64 17)) fun t64=>Gd (aD t64 true) (adv s25 12) (fun k=>aA (ld 1 false (.ptr s.nx 0) (adv s25 12)) fun v=>k v (adv s25 12)) fun t66 s26=>Gd (aD t64 true) s26 (fun k=>k t2 s26) fun t67 s27=>Gd (aD t64 true) s27 (fun k=>aL mEv 135 [t66,t67] s27 k) fun t68 s28=>Gd (aD t64 true) s28 (fun k=>aA (un .not t68) fun v=>k v s28) fun t69 s29=>aA (aV t64 t69 (.bool false)) fun t70=>aY t70
 (Q (.tup [(.int .i64 0),(.int .i64 101)]) (adv s29 2))
 (VI Q (.ptr s.nx 0) t1 t58 t2 s29)))))
theorem aTq (t0 t1 t2:AV) (s:St) {Q:aE} (h:f81 Q t0 t1 t2 s):dE 81 [t0,t1,t2] s Q:=aH (h:=81) (fn:=Tryz.f81) (c:=sub bCo []) (show bMj (sub bCo []) (aTr Q) aU (aTr Q)=_ from (aM (aM (aM (aM (aM (aM (aM (aKd Q) (dC 0 rfl)) rfl) rfl) rfl) rfl) rfl) rfl)) h
abbrev aZv:Code:=aJ Tryz.f221
abbrev aXh:=rK Tryz.f221
abbrev bLy:=aK mEv 221 (mEv.kp 221)
def f221 (Q:aE) (t0 t1:AV) (s:St):Prop:=aN mEv 248 [t0,t1] (adv s 6) fun t7 s1=>aA (bn .geq 3 t7 (.int .i64 0)) fun t8=>Q t8 s1
theorem aPv (t0 t1:AV) (s:St) {Q:aE} (h:f221 Q t0 t1 s):dE 221 [t0,t1] s Q:=aH (h:=221) (fn:=Tryz.f221) (c:=sub aZv []) (show bLy (sub aZv []) (aXh Q) aU (aXh Q)=_ from rfl) h
abbrev LA:Code:=aJ Tryz.f248
abbrev GZ:=rK Tryz.f248
abbrev XO:=aK mEv 248 (mEv.kp 248)
def CT (Q:aE) (s:St):Prop:=Q (.int .i64 (-1)) (adv s 1)
def RR (Q:aE) (ih1:AV->AV->AV->aE) (t8 t0 t1 t7:AV) (s:St):Prop:=aA (bn .add 3 t8 (.int .i64 1)) fun t18=>ih1 t0 t1 t7 t18 (adv s 2)
def uZ (Q:aE) (ih1:AV->AV->AV->aE) (t0 t1 t7 t8:AV) (s:St):Prop:=aA (bn .lss 3 t8 t7) fun t9=>aY t9
 (aA (cB 1 t0 t8) fun t14=>aA (ld 1 false t14 (adv s 9)) fun t15=>aA (bn .eql 9 t1 t15) fun t16=>aY t16
 (Q t8 (adv s 11))
 (RR Q ih1 t8 t0 t1 t7 (adv s 9)))
 (CT Q (adv s 1))
def pZ (Q:aE) (n:Nat):AV->AV->AV->aE:=jX (fun _ _ _ _ _ =>False) (fun ih=>uZ Q ih) n
theorem ZL (Q:aE):XO (sub LA [Y,Y]) (GZ Q) aU (GZ Q)=(fun g s=>CT Q s):=Eq.trans rfl (by kernel_rfl)
theorem aEm (Q:aE) (n1:Nat):XO (sub LA [Y,N,Y,N,N,Y,Y,Y]) (kV (fun n g s=>pZ Q n (g 0) (g 1) (g 7) (g 8) s) 248 n1) (cN 0 (fun g s=>CT Q s) aU) (GZ Q)=(fun g s=>RR Q (pZ Q n1) (g 8) (g 0) (g 1) (g 7) s):=Eq.trans rfl (by kernel_rfl)
theorem aDa (Q:aE) (kN:Kt):XO (sub LA [Y,N,Y,N]) kN (cN 0 (fun g s=>CT Q s) aU) (GZ Q)=fun g s=>∃ n,pZ Q n (g 0) (g 1) (g 7) (g 8) s:=kG (L:=fun n g s=>pZ Q n (g 0) (g 1) (g 7) (g 8) s) (fun n1=>Eq.trans (aM (aM (aM (aEm Q n1) (dC 1 rfl)) rfl) rfl) (by kernel_rfl))
def f248 (Q:aE) (t0 t1:AV) (s:St):Prop:=aA (bt .len #[52] [t0] (s.nx+2) (adv s 4)) fun r7=>∃ n,pZ Q n t0 t1 r7.1 (.int .i64 0) r7.2
theorem aFb (t0 t1:AV) (s:St) {Q:aE} (h:f248 Q t0 t1 s):dE 248 [t0,t1] s Q:=aH (h:=248) (fn:=Tryz.f248) (c:=sub LA []) (show XO (sub LA []) (GZ Q) aU (GZ Q)=_ from (aM (aM (ZL Q) (aM (dC 0 (aDa Q _)) rfl)) rfl)) h
abbrev PH:Code:=aJ Tryz.f192
abbrev HY:=rK Tryz.f192
abbrev UD:=aK mEv 192 (mEv.kp 192)
def EL (Q:aE) (s:St):Prop:=Q (.bool false) (adv s 1)
def QG (Q:aE) (ih1:AV->AV->AV->aE) (t7 t0 t5 t6:AV) (s:St):Prop:=aA (bn .add 3 t7 (.int .i64 1)) fun t17=>ih1 t0 t5 t6 t17 (adv s 2)
def vE (Q:aE) (ih1:AV->AV->AV->aE) (t0 t5 t6 t7:AV) (s:St):Prop:=aA (bn .lss 3 t7 t6) fun t8=>aY t8
 (aA (cB 1 t5 t7) fun t10=>aA (ld 1 false t10 (adv s 6)) fun t11=>aA (lT 52 t0 none (some t7) none (adv s 11)) fun t14=>aN mEv 221 [t14,t11] (adv s 11) fun t16 s1=>aY t16
 (Q (.bool true) (adv s1 1))
 (QG Q ih1 t7 t0 t5 t6 s1))
 (EL Q (adv s 1))
def qN (Q:aE) (n:Nat):AV->AV->AV->aE:=jX (fun _ _ _ _ _ =>False) (fun ih=>vE Q ih) n
theorem aAo (Q:aE):UD (sub PH [Y,Y]) (HY Q) aU (HY Q)=(fun g s=>EL Q s):=Eq.trans rfl (by kernel_rfl)
theorem XZ (Q:aE) (n1:Nat):UD (sub PH [Y,N,Y,N,N,Y,Y,Y]) (kV (fun n g s=>qN Q n (g 0) (g 5) (g 6) (g 7) s) 192 n1) (cN 0 (fun g s=>EL Q s) aU) (HY Q)=(fun g s=>QG Q (qN Q n1) (g 7) (g 0) (g 5) (g 6) s):=Eq.trans rfl (by kernel_rfl)
theorem aBz (Q:aE) (kN:Kt):UD (sub PH [Y,N,Y,N]) kN (cN 0 (fun g s=>EL Q s) aU) (HY Q)=fun g s=>∃ n,qN Q n (g 0) (g 5) (g 6) (g 7) s:=kG (L:=fun n g s=>qN Q n (g 0) (g 5) (g 6) (g 7) s) (fun n1=>Eq.trans (aM (aM (aM (XZ Q n1) (dC 1 rfl)) rfl) rfl) (by kernel_rfl))
def f192 (Q:aE) (t0:AV) (s:St):Prop:=aA (bt .len #[52] [t0] (s.nx+2) (adv s 4)) fun r6=>∃ n,qN Q n t0 t0 r6.1 (.int .i64 0) r6.2
theorem aIw (t0:AV) (s:St) {Q:aE} (h:f192 Q t0 s):dE 192 [t0] s Q:=aH (h:=192) (fn:=Tryz.f192) (c:=sub PH []) (show UD (sub PH []) (HY Q) aU (HY Q)=_ from (aM (aM (aAo Q) (aM (dC 0 (aBz Q _)) rfl)) rfl)) h
end
noncomputable section
abbrev LX:Code:=aJ Tryz.f12
abbrev FJ:=rK Tryz.f12
abbrev TA:=aK mEv 12 (mEv.kp 12)
def GV (Q:aE) (t7 t11 t9 t10:AV) (s:St):Prop:=aL mEv 46 [t7] (adv s 7) fun t95 s1=>aA (bn .sub 3 t95 t11) fun t97=>aL mEv 51 [t7,t97] s1 fun t98 s2=>aL mEv 44 [t7] (adv s2 5) fun t100 s3=>aN mEv 48 [t100,t9] s3 fun t102 s4=>aL mEv 45 [t7] (adv s4 5) fun t104 s5=>aN mEv 49 [t104,t10] s5 fun t106 s6=>aA (bn .eql 34 t98 (.int .i64 0)) fun t108=>Gd (aD t108 true) (adv s6 15) (fun k=>k t102 (adv s6 15)) fun t110 s7=>aA (aV t108 t110 (.bool false)) fun t111=>Gd (aD t111 true) s7 (fun k=>k t106 s7) fun t113 s8=>aA (aV t111 t113 (.bool false)) fun t114=>Gd (aD t114 true) s8 (fun k=>k t7 s8) fun t116 s9=>Gd (aD t114 true) s9 (fun k=>aL mEv 46 [t116] s9 k) fun t117 s10=>Gd (aD t114 true) s10 (fun k=>k t11 s10) fun t118 s11=>Gd (aD t114 true) s11 (fun k=>aA (bn .eql 3 t117 t118) fun v=>k v s11) fun t119 s12=>aA (aV t114 t119 (.bool false)) fun t120=>Q t120 s12
def NX (Q:aE) (ih1:AV->AV->AV->AV->AV->aE) (t13 t0 t7 t9 t10 t11:AV) (s:St):Prop:=aA (bn .add 3 t13 (.int .i64 1)) fun t72=>ih1 t0 t7 t9 t10 t11 t72 (adv s 3)
def tS (Q:aE) (ih1:AV->AV->AV->AV->AV->aE) (t0 t7 t9 t10 t11 t13:AV) (s:St):Prop:=aA (bt .len #[79] [t0] (s.nx+2) (adv s 4)) fun r69=>aA (bn .lss 3 t13 r69.1) fun t70=>aY t70
 (aA (cB 18 t0 t13) fun t75=>aA (aC 0 t75) fun t76=>aA (ld 1 false t76 (adv r69.2 14)) fun t77=>aA (bn .geq 3 t77 (.int .i64 0)) fun t78=>Gd (aD t78 true) (adv r69.2 14) (fun k=>k t0 (adv r69.2 14)) fun t80 s1=>Gd (aD t78 true) s1 (fun k=>k t13 s1) fun t81 s2=>Gd (aD t78 true) s2 (fun k=>aA (cB 18 t80 t81) fun v=>k v s2) fun t82 s3=>Gd (aD t78 true) s3 (fun k=>aA (aC 0 t82) fun v=>k v s3) fun t83 s4=>Gd (aD t78 true) s4 (fun k=>aA (ld 1 false t83 s4) fun v=>k v s4) fun t84 s5=>Gd (aD t78 true) s5 (fun k=>aA (bn .leq 3 t84 (.int .i64 3)) fun v=>k v s5) fun t85 s6=>aA (aV t78 t85 (.bool false)) fun t86=>aY t86
 (aA (cB 18 t0 t13) fun t90=>aA (ld 18 true t90 (adv s6 6)) fun t91=>aL mEv 47 [t7,t91] (adv s6 6) fun t92 s7=>NX Q ih1 t13 t0 t7 t9 t10 t11 s7)
 (NX Q ih1 t13 t0 t7 t9 t10 t11 s6))
 (GV Q t7 t11 t9 t10 r69.2)
def vI (Q:aE) (n:Nat):AV->AV->AV->AV->AV->aE:=jX (fun _ _ _ _ _ _ _ =>False) (fun ih=>tS Q ih) n
def PV (Q:aE) (t7 t1 t0:AV) (s:St):Prop:=aL mEv 44 [t7] (adv s 3) fun t51 s1=>aL mEv 45 [t7] (adv s1 3) fun t53 s2=>aL mEv 46 [t7] (adv s2 3) fun t55 s3=>aL mEv 50 [t7,(.int .i64 1)] (adv s3 3) fun t57 s4=>aA (bn .neq 34 t57 (.int .i64 0)) fun t59=>aY t59
 (aA (bn .eql 34 t57 (.int .i64 2)) fun t61=>Gd (aD t61 true) (adv s4 9) (fun k=>k t55 (adv s4 9)) fun t63 s5=>Gd (aD t61 true) s5 (fun k=>aA (bn .eql 3 t63 (.int .i64 100)) fun v=>k v s5) fun t64 s6=>aA (aV t61 t64 (.bool false)) fun t65=>Q t65 s6)
 (∃ n,vI Q n t0 t7 t51 t53 t55 t1 (adv s4 4))
def aHz (Q:aE) (ih2:AV->AV->AV->aE) (t8 t0 t1 t7:AV) (s:St):Prop:=aA (bn .add 3 t8 (.int .i64 1)) fun t43=>ih2 t0 t1 t7 t43 (adv s 3)
def DJ (Q:aE) (ih2:AV->AV->AV->aE) (t0 t1 t7 t8:AV) (s:St):Prop:=aA (bn .lss 3 t8 t1) fun t41=>aY t41
 (aA (cB 18 t0 t8) fun t47=>aA (ld 18 true t47 (adv s 9)) fun t48=>aL mEv 47 [t7,t48] (adv s 9) fun t49 s1=>aHz Q ih2 t8 t0 t1 t7 s1)
 (PV Q t7 t1 t0 (adv s 3))
def yK (Q:aE) (n:Nat):AV->AV->AV->aE:=jX (fun _ _ _ _ _ =>False) (fun ih=>DJ Q ih) n
theorem aFf (Q:aE):TA (sub LX [Y,Y,Y,Y,Y,Y,Y,Y,Y,Y,Y,Y]) (FJ Q) aU (FJ Q)=(fun g s=>GV Q (g 7) (g 11) (g 9) (g 10) s):=Eq.trans rfl (by kernel_rfl)
theorem aJn (Q:aE) (n1:Nat):TA (sub LX [Y,Y,Y,Y,Y,Y,Y,Y,Y,Y,Y,N,Y,N,N,Y,Y]) (kV (fun n g s=>vI Q n (g 0) (g 7) (g 9) (g 10) (g 11) (g 13) s) 12 n1) (cN 2 (fun g s=>GV Q (g 7) (g 11) (g 9) (g 10) s) aU) (FJ Q)=(fun g s=>NX Q (vI Q n1) (g 13) (g 0) (g 7) (g 9) (g 10) (g 11) s):=Eq.trans rfl (by kernel_rfl)
theorem aEz (Q:aE) (kN:Kt):TA (sub LX [Y,Y,Y,Y,Y,Y,Y,Y,Y,Y,Y,N,Y,N]) kN (cN 2 (fun g s=>GV Q (g 7) (g 11) (g 9) (g 10) s) aU) (FJ Q)=fun g s=>∃ n,vI Q n (g 0) (g 7) (g 9) (g 10) (g 11) (g 13) s:=kG (L:=fun n g s=>vI Q n (g 0) (g 7) (g 9) (g 10) (g 11) (g 13) s) (fun n1=>Eq.trans (aM (aM (aJn Q n1) (dC 3 rfl)) rfl) (by kernel_rfl))
theorem aOx (Q:aE):TA (sub LX [Y,Y,Y,Y,Y,Y]) (FJ Q) aU (FJ Q)=(fun g s=>PV Q (g 7) (g 1) (g 0) s):=Eq.trans (aM (aM (aM (aM (aM (aM (aFf Q) (aM (dC 2 (aEz Q _)) rfl)) rfl) rfl) rfl) rfl) rfl) (by kernel_rfl)
theorem aPb (Q:aE) (n2:Nat):TA (sub LX [Y,Y,Y,Y,Y,N,Y,N,N,Y,Y]) (kV (fun n g s=>yK Q n (g 0) (g 1) (g 7) (g 8) s) 12 n2) (cN 0 (fun g s=>PV Q (g 7) (g 1) (g 0) s) aU) (FJ Q)=(fun g s=>aHz Q (yK Q n2) (g 8) (g 0) (g 1) (g 7) s):=Eq.trans rfl (by kernel_rfl)
theorem aQu (Q:aE) (kN:Kt):TA (sub LX [Y,Y,Y,Y,Y,N,Y,N]) kN (cN 0 (fun g s=>PV Q (g 7) (g 1) (g 0) s) aU) (FJ Q)=fun g s=>∃ n,yK Q n (g 0) (g 1) (g 7) (g 8) s:=kG (L:=fun n g s=>yK Q n (g 0) (g 1) (g 7) (g 8) s) (fun n2=>Eq.trans (aM (aM (aPb Q n2) (dC 1 rfl)) rfl) (by kernel_rfl))
def f12 (Q:aE) (t0 t1:AV) (s:St):Prop:=aN mEv 42 [] (adv s 3) fun t17 s1=>aN mEv 43 [t0] (adv s1 3) fun t19 s2=>aA (un .not t17) fun t21=>Gd (aD t21 false) (adv s2 16) (fun k=>k t19 (adv s2 16)) fun t23 s3=>Gd (aD t21 false) s3 (fun k=>aA (un .not t23) fun v=>k v s3) fun t24 s4=>aA (aV t21 (.bool true) t24) fun t25=>Gd (aD t25 false) s4 (fun k=>k t1 s4) fun t27 s5=>Gd (aD t25 false) s5 (fun k=>aA (bn .lss 3 t27 (.int .i64 0)) fun v=>k v s5) fun t28 s6=>aA (aV t25 (.bool true) t28) fun t29=>Gd (aD t29 false) s6 (fun k=>k t1 s6) fun t31 s7=>Gd (aD t29 false) s7 (fun k=>k t0 s7) fun t32 s8=>Gd (aD t29 false) s8 (fun k=>aA (bt .len #[79] [t32] (s2.nx+13) s8) fun r=>k r.1 r.2) fun t33 s9=>Gd (aD t29 false) s9 (fun k=>aA (bn .gtr 3 t31 t33) fun v=>k v s9) fun t34 s10=>aA (aV t29 (.bool true) t34) fun t35=>aY t35
 (Q t17 (adv s10 2))
 (aA (lV 88 []) fun t37=>(t37.cells.all AV.one=true /\
 let s11:St:=((adv s10 3).set (s10.nx+1) (some (.cells t37.cells 88 true true)))
 ∃ n,yK Q n t0 t1 (.ptr (s10.nx+1) 0) (.int .i64 0) (adv s11 1)))
theorem aWw (t0 t1:AV) (s:St) {Q:aE} (h:f12 Q t0 t1 s):dE 12 [t0,t1] s Q:=aH (h:=12) (fn:=Tryz.f12) (c:=sub LX []) (show TA (sub LX []) (FJ Q) aU (FJ Q)=_ from (aM (aM (aM (aM (aM (aM (aOx Q) (aM (dC 0 (aQu Q _)) rfl)) rfl) rfl) rfl) rfl) rfl)) h
abbrev aPn:Code:=aJ Tryz.f18
abbrev aCy:=rK Tryz.f18
abbrev aSm:=aK mEv 18 (mEv.kp 18)
def NI (Q:aE) (s:St):Prop:=Q (.bool true) (adv s 1)
def aKl (Q:aE) (ih1:AV->AV->AV->aE) (t7 t2 t3 t4:AV) (s:St):Prop:=aA (bn .add 3 t7 (.int .i64 1)) fun t71=>ih1 t2 t3 t4 t71 (adv s 3)
def CS (Q:aE) (ih1:AV->AV->AV->aE) (t2 t3 t4 t7:AV) (s:St):Prop:=aA (aC 5 t3) fun t66=>aA (ld 1 false t66 (adv s 5)) fun t67=>aA (bt .len #[31] [t67] (s.nx+3) (adv s 5)) fun r68=>aA (bn .lss 3 t7 r68.1) fun t69=>aY t69
 (aA (aC 5 t3) fun t72=>aA (ld 1 false t72 (adv r68.2 13)) fun t73=>aA (cB 6 t73 t7) fun t75=>aA (ld 6 true t75 (adv r68.2 13)) fun t76=>aA (aC 5 t4) fun t77=>aA (ld 1 false t77 (adv r68.2 13)) fun t78=>aA (cB 6 t78 t7) fun t80=>aA (ld 6 true t80 (adv r68.2 13)) fun t81=>eL mEv 18 [t76,t81,t2] (rch (adv r68.2 13) [(.fn 18 [] []),t76,t81,t2]) (adv r68.2 13) fun t83 s1=>aA (un .not t83) fun t85=>aY t85
 (Q (.bool false) (adv s1 3))
 (aKl Q ih1 t7 t2 t3 t4 (adv s1 2)))
 (NI Q r68.2)
def zH (Q:aE) (n:Nat):AV->AV->AV->aE:=jX (fun _ _ _ _ _ =>False) (fun ih=>CS Q ih) n
theorem aQp (Q:aE):aSm (sub aPn [Y,Y,Y,Y]) (aCy Q) aU (aCy Q)=(fun g s=>NI Q s):=Eq.trans rfl (by kernel_rfl)
theorem aGo (Q:aE) (n1:Nat):aSm (sub aPn [Y,Y,Y,N,Y,N,N,Y,Y]) (kV (fun n g s=>zH Q n (g 2) (g 3) (g 4) (g 7) s) 18 n1) (cN 0 (fun g s=>NI Q s) aU) (aCy Q)=(fun g s=>aKl Q (zH Q n1) (g 7) (g 2) (g 3) (g 4) s):=Eq.trans rfl (by kernel_rfl)
theorem aPq (Q:aE) (kN:Kt):aSm (sub aPn [Y,Y,Y,N,Y,N]) kN (cN 0 (fun g s=>NI Q s) aU) (aCy Q)=fun g s=>∃ n,zH Q n (g 2) (g 3) (g 4) (g 7) s:=kG (L:=fun n g s=>zH Q n (g 2) (g 3) (g 4) (g 7) s) (fun n1=>Eq.trans (aM (aM (aGo Q n1) (dC 1 rfl)) rfl) (by kernel_rfl))
def f18 (Q:aE) (t0 t1 t2:AV) (s:St):Prop:=(t0.cells.all AV.one=true /\
 let s1:St:=((adv s 3).set s.nx (some (.cells t0.cells 33 true true)))
 (t1.cells.all AV.one=true /\
 let s2:St:=(s1.set (s.nx+1) (some (.cells t1.cells 33 true true)))
 aA (aC 0 (.ptr s.nx 0)) fun t9=>aA (ld 1 false t9 (adv s2 24)) fun t10=>aA (aC 0 (.ptr (s.nx+1) 0)) fun t11=>aA (ld 1 false t11 (adv s2 24)) fun t12=>aA (bn .neq 4 t10 t12) fun t13=>Gd (aD t13 false) (adv s2 24) (fun k=>k t2 (adv s2 24)) fun t15 s3=>Gd (aD t13 false) s3 (fun k=>k t15 s3) fun t16 s4=>Gd (aD t16 true) s4 (fun k=>aA (aC 4 (.ptr s.nx 0)) fun v=>k v s4) fun t17 s5=>Gd (aD t16 true) s5 (fun k=>aA (ld 1 false t17 s5) fun v=>k v s5) fun t18 s6=>Gd (aD t16 true) s6 (fun k=>aA (aC 4 (.ptr (s.nx+1) 0)) fun v=>k v s6) fun t19 s7=>Gd (aD t16 true) s7 (fun k=>aA (ld 1 false t19 s7) fun v=>k v s7) fun t20 s8=>Gd (aD t16 true) s8 (fun k=>aA (bn .neq 3 t18 t20) fun v=>k v s8) fun t21 s9=>Gd (aD t13 false) s9 (fun k=>aA (aV t16 t21 (.bool false)) fun v=>k v s9) fun t22 s10=>aA (aV t13 (.bool true) t22) fun t23=>Gd (aD t23 false) s10 (fun k=>aA (aC 5 (.ptr s.nx 0)) fun v=>k v s10) fun t25 s11=>Gd (aD t23 false) s11 (fun k=>aA (ld 1 false t25 s11) fun v=>k v s11) fun t26 s12=>Gd (aD t23 false) s12 (fun k=>aA (bt .len #[31] [t26] (s2.nx+18) s12) fun r=>k r.1 r.2) fun t27 s13=>Gd (aD t23 false) s13 (fun k=>aA (aC 5 (.ptr (s.nx+1) 0)) fun v=>k v s13) fun t28 s14=>Gd (aD t23 false) s14 (fun k=>aA (ld 1 false t28 s14) fun v=>k v s14) fun t29 s15=>Gd (aD t23 false) s15 (fun k=>aA (bt .len #[31] [t29] (s2.nx+21) s15) fun r=>k r.1 r.2) fun t30 s16=>Gd (aD t23 false) s16 (fun k=>aA (bn .neq 3 t27 t30) fun v=>k v s16) fun t31 s17 =>
 aA (aV t23 (.bool true) t31) fun t32=>aY t32
 (Q (.bool false) (adv s17 1))
 (aA (aC 0 (.ptr s.nx 0)) fun t33=>aA (ld 1 false t33 (adv s17 3)) fun t34=>aA (un .not t34) fun t35=>aY t35
 (aA (aC 1 (.ptr s.nx 0)) fun t36=>aA (aC 0 t36) fun t37=>aA (ld 1 false t37 (adv s17 33)) fun t38=>aA (aC 1 (.ptr (s.nx+1) 0)) fun t39=>aA (aC 0 t39) fun t40=>aA (ld 1 false t40 (adv s17 33)) fun t41=>aA (bn .eql 3 t38 t41) fun t42=>Gd (aD t42 true) (adv s17 33) (fun k=>aA (aC 1 (.ptr s.nx 0)) fun v=>k v (adv s17 33)) fun t44 s18=>Gd (aD t42 true) s18 (fun k=>aA (aC 1 t44) fun v=>k v s18) fun t45 s19=>Gd (aD t42 true) s19 (fun k=>aA (ld 1 false t45 s19) fun v=>k v s19) fun t46 s20=>Gd (aD t42 true) s20 (fun k=>aA (aC 1 (.ptr (s.nx+1) 0)) fun v=>k v s20) fun t47 s21=>Gd (aD t42 true) s21 (fun k=>aA (aC 1 t47) fun v=>k v s21) fun t48 s22=>Gd (aD t42 true) s22 (fun k=>aA (ld 1 false t48 s22) fun v=>k v s22) fun t49 s23=>Gd (aD t42 true) s23 (fun k=>aA (bn .eql 9 t46 t49) fun v=>k v s23) fun t50 s24=>aA (aV t42 t50 (.bool false)) fun t51=>Gd (aD t51 true) s24 (fun k=>k t2 s24) fun t53 s25=>Gd (aD t51 true) s25 (fun k=>aA (un .not t53) fun v=>k v s25) fun t54 s26=>Gd (aD t51 true) s26 (fun k=>k t54 s26) fun t55 s27=>Gd (aD t55 false) s27 (fun k=>aA (aC 1 (.ptr s.nx 0)) fun v=>k v s27) fun t56 s28=>Gd (aD t55 false) s28 (fun k=>aA (aC 2 t56) fun v=>k v s28) fun t57 s29=>Gd (aD t55 false) s29 (fun k=>aA (ld 1 false t57 s29) fun v=>k v s29) fun t58 s30=>Gd (aD t55 false) s30 (fun k=>aA (aC 1 (.ptr (s.nx+1) 0)) fun v=>k v s30) fun t59 s31=>Gd (aD t55 false) s31 (fun k=>aA (aC 2 t59) fun v=>k v s31) fun t60 s32 =>
 Gd (aD t55 false) s32 (fun k=>aA (ld 1 false t60 s32) fun v=>k v s32) fun t61 s33=>Gd (aD t55 false) s33 (fun k=>aA (bn .eql 3 t58 t61) fun v=>k v s33) fun t62 s34=>Gd (aD t51 true) s34 (fun k=>aA (aV t55 (.bool true) t62) fun v=>k v s34) fun t63 s35=>aA (aV t51 t63 (.bool false)) fun t64=>Q t64 s35)
 (∃ n,zH Q n t2 (.ptr s.nx 0) (.ptr (s.nx+1) 0) (.int .i64 0) (adv s17 4)))))
theorem aWx (t0 t1 t2:AV) (s:St) {Q:aE} (h:f18 Q t0 t1 t2 s):dE 18 [t0,t1,t2] s Q:=aH (h:=18) (fn:=Tryz.f18) (c:=sub aPn []) (show aSm (sub aPn []) (aCy Q) aU (aCy Q)=_ from (aM (aM (aM (aM (aQp Q) (aM (dC 0 (aPq Q _)) rfl)) rfl) rfl) rfl)) h
abbrev SW:Code:=aJ Tryz.f48
abbrev KY:=rK Tryz.f48
abbrev aBh:=aK mEv 48 (mEv.kp 48)
def BX (Q:aE) (s:St):Prop:=Q (.bool true) (adv s 1)
def yN (Q:aE) (ih1:AV->AV->aE) (t5 t0 t1:AV) (s:St):Prop:=aA (bn .add 3 t5 (.int .i64 1)) fun t20=>ih1 t0 t1 t20 (adv s 3)
def aNu (Q:aE) (ih1:AV->AV->aE) (ih2:AV->AV->AV->AV->AV->aE) (t9 t0 t1 t5 t6 t7:AV) (s:St):Prop:=aA (bn .add 3 t9 (.int .i64 1)) fun t72=>ih2 t0 t1 t5 t6 t7 t72 (adv s 3)
def DE (Q:aE) (ih1:AV->AV->aE) (ih2:AV->AV->AV->AV->AV->aE) (t0 t1 t5 t6 t7 t9:AV) (s:St):Prop:=aA (aC 3 t6) fun t67=>aA (ld 1 false t67 (adv s 5)) fun t68=>aA (bt .len #[65] [t68] (s.nx+3) (adv s 5)) fun r69=>aA (bn .lss 3 t9 r69.1) fun t70=>aY t70
 (aA (aC 3 t6) fun t73=>aA (ld 1 false t73 (adv r69.2 11)) fun t74=>aA (cB 2 t74 t9) fun t76=>aA (ld 2 true t76 (adv r69.2 11)) fun t77=>aA (aC 3 t7) fun t78=>aA (ld 1 false t78 (adv r69.2 11)) fun t79=>aA (cB 2 t79 t9) fun t81=>aA (ld 2 true t81 (adv r69.2 11)) fun t82=>aA (bn .neq 151 t77 t82) fun t83=>aY t83
 (Q (.bool false) (adv r69.2 12))
 (aNu Q ih1 ih2 t9 t0 t1 t5 t6 t7 (adv r69.2 11)))
 (yN Q ih1 t5 t0 t1 r69.2)
def yU (Q:aE) (ih1:AV->AV->aE) (n:Nat):AV->AV->AV->AV->AV->aE:=jX (fun _ _ _ _ _ _ _ =>False) (fun ih=>DE Q ih1 ih) n
def DD (Q:aE) (ih1:AV->AV->aE) (t0 t1 t5:AV) (s:St):Prop:=aA (bt .len #[49] [t0] (s.nx+2) (adv s 4)) fun r17=>aA (bn .lss 3 t5 r17.1) fun t18=>aY t18
 (aA (cB 10 t0 t5) fun t23=>aA (ld 10 true t23 (adv r17.2 6)) fun t24=>aA (zr 67) fun z6=>let s1:St:=((adv r17.2 6).set (r17.2.nx+4) (some (.cells z6.cells 67 true true)))
 aA (dN 10 (.ptr (r17.2.nx+4) 0) t24 s1) fun s2=>aA (cB 10 t1 t5) fun t27=>aA (ld 10 true t27 (adv s2 6)) fun t28=>aA (zr 67) fun z7=>let s3:St:=((adv s2 6).set (s2.nx+4) (some (.cells z7.cells 67 true true)))
 aA (dN 10 (.ptr (s2.nx+4) 0) t28 s3) fun s4=>aA (aC 4 (.ptr (r17.2.nx+4) 0)) fun t29=>aA (ld 6 true t29 (adv s4 6)) fun t30=>aA (aC 4 (.ptr (s2.nx+4) 0)) fun t31=>aA (ld 6 true t31 (adv s4 6)) fun t32=>aN mEv 18 [t30,t32,(.bool true)] (adv s4 6) fun t33 s5=>aA (un .not t33) fun t35=>Gd (aD t35 false) (adv s5 32) (fun k=>aA (aC 0 (.ptr (r17.2.nx+4) 0)) fun v=>k v (adv s5 32)) fun t37 s6=>Gd (aD t35 false) s6 (fun k=>aA (ld 1 false t37 s6) fun v=>k v s6) fun t38 s7=>Gd (aD t35 false) s7 (fun k=>aA (aC 0 (.ptr (s2.nx+4) 0)) fun v=>k v s7) fun t39 s8=>Gd (aD t35 false) s8 (fun k=>aA (ld 1 false t39 s8) fun v=>k v s8) fun t40 s9=>Gd (aD t35 false) s9 (fun k=>aA (bn .neq 9 t38 t40) fun v=>k v s9) fun t41 s10=>aA (aV t35 (.bool true) t41) fun t42=>Gd (aD t42 false) s10 (fun k=>aA (aC 1 (.ptr (r17.2.nx+4) 0)) fun v=>k v s10) fun t44 s11=>Gd (aD t42 false) s11 (fun k=>aA (ld 1 false t44 s11) fun v=>k v s11) fun t45 s12=>Gd (aD t42 false) s12 (fun k=>aA (aC 1 (.ptr (s2.nx+4) 0)) fun v=>k v s12) fun t46 s13=>Gd (aD t42 false) s13 (fun k=>aA (ld 1 false t46 s13) fun v=>k v s13) fun t47 s14=>Gd (aD t42 false) s14 (fun k=>aA (bn .neq 3 t45 t47) fun v=>k v s14) fun t48 s15=>aA (aV t42 (.bool true) t48) fun t49=>Gd (aD t49 false) s15 (fun k=>aA (aC 2 (.ptr (r17.2.nx+4) 0)) fun v=>k v s15) fun t51 s16=>Gd (aD t49 false) s16 (fun k=>aA (ld 1 false t51 s16) fun v=>k v s16) fun t52 s17=>Gd (aD t49 false) s17 (fun k=>aA (aC 2 (.ptr (s2.nx+4) 0)) fun v=>k v s17) fun t53 s18 =>
 Gd (aD t49 false) s18 (fun k=>aA (ld 1 false t53 s18) fun v=>k v s18) fun t54 s19=>Gd (aD t49 false) s19 (fun k=>aA (bn .neq 4 t52 t54) fun v=>k v s19) fun t55 s20=>aA (aV t49 (.bool true) t55) fun t56=>Gd (aD t56 false) s20 (fun k=>aA (aC 3 (.ptr (r17.2.nx+4) 0)) fun v=>k v s20) fun t58 s21=>Gd (aD t56 false) s21 (fun k=>aA (ld 1 false t58 s21) fun v=>k v s21) fun t59 s22=>Gd (aD t56 false) s22 (fun k=>aA (bt .len #[65] [t59] (s5.nx+26) s22) fun r=>k r.1 r.2) fun t60 s23=>Gd (aD t56 false) s23 (fun k=>aA (aC 3 (.ptr (s2.nx+4) 0)) fun v=>k v s23) fun t61 s24=>Gd (aD t56 false) s24 (fun k=>aA (ld 1 false t61 s24) fun v=>k v s24) fun t62 s25=>Gd (aD t56 false) s25 (fun k=>aA (bt .len #[65] [t62] (s5.nx+29) s25) fun r=>k r.1 r.2) fun t63 s26=>Gd (aD t56 false) s26 (fun k=>aA (bn .neq 3 t60 t63) fun v=>k v s26) fun t64 s27=>aA (aV t56 (.bool true) t64) fun t65=>aY t65
 (Q (.bool false) (adv s27 1))
 (∃ n,yU Q ih1 n t0 t1 t5 (.ptr (r17.2.nx+4) 0) (.ptr (s2.nx+4) 0) (.int .i64 0) (adv s27 1)))
 (BX Q r17.2)
def jC (Q:aE) (n:Nat):AV->AV->aE:=jX (fun _ _ _ _ =>False) (fun ih=>DD Q ih) n
theorem aLh (Q:aE):aBh (sub SW [Y,Y,Y]) (KY Q) aU (KY Q)=(fun g s=>BX Q s):=Eq.trans rfl (by kernel_rfl)
theorem aPk (Q:aE) (n1:Nat):aBh (sub SW [Y,Y,N,Y,N,N,Y,Y]) (kV (fun n g s=>jC Q n (g 0) (g 1) (g 5) s) 48 n1) (cN 0 (fun g s=>BX Q s) aU) (KY Q)=(fun g s=>yN Q (jC Q n1) (g 5) (g 0) (g 1) s):=Eq.trans rfl (by kernel_rfl)
theorem aPi (Q:aE) (n1:Nat) (n2:Nat):aBh (sub SW [Y,Y,N,Y,N,N,Y,N,N,Y,Y,Y,Y,Y,N,N,Y,Y]) (kV (fun n g s=>yU Q (jC Q n1) n (g 0) (g 1) (g 5) (g 6) (g 7) (g 9) s) 48 n2) (cN 2 (fun g s=>yN Q (jC Q n1) (g 5) (g 0) (g 1) s) (cN 1 (fun g s=>yN Q (jC Q n1) (g 5) (g 0) (g 1) s) (cN 0 (fun g s=>BX Q s) aU))) (KY Q)=(fun g s=>aNu Q (jC Q n1) (yU Q (jC Q n1) n2) (g 9) (g 0) (g 1) (g 5) (g 6) (g 7) s):=Eq.trans rfl (by kernel_rfl)
theorem aOr (Q:aE) (n1:Nat) (kN:Kt):aBh (sub SW [Y,Y,N,Y,N,N,Y,N,N,Y,Y,Y,Y,Y,N]) kN (cN 2 (fun g s=>yN Q (jC Q n1) (g 5) (g 0) (g 1) s) (cN 1 (fun g s=>yN Q (jC Q n1) (g 5) (g 0) (g 1) s) (cN 0 (fun g s=>BX Q s) aU))) (KY Q)=fun g s=>∃ n,yU Q (jC Q n1) n (g 0) (g 1) (g 5) (g 6) (g 7) (g 9) s:=kG (L:=fun n g s=>yU Q (jC Q n1) n (g 0) (g 1) (g 5) (g 6) (g 7) (g 9) s) (fun n2=>Eq.trans (aM (aM (aPi Q n1 n2) (dC 3 rfl)) rfl) (by kernel_rfl))
theorem aRj (Q:aE) (kN:Kt):aBh (sub SW [Y,Y,N,Y,N]) kN (cN 0 (fun g s=>BX Q s) aU) (KY Q)=fun g s=>∃ n,jC Q n (g 0) (g 1) (g 5) s:=kG (L:=fun n g s=>jC Q n (g 0) (g 1) (g 5) s) (fun n1=>Eq.trans (aM (aM (aPk Q n1) (dC 1 (aM (aM (aM (aM (aM (dC 2 (aOr Q n1 _)) rfl) rfl) rfl) rfl) rfl))) rfl) (by kernel_rfl))
def f48 (Q:aE) (t0 t1:AV) (s:St):Prop:=aA (bt .len #[49] [t0] (s.nx+2) (adv s 6)) fun r11=>aA (bt .len #[49] [t1] (s.nx+4) r11.2) fun r13=>aA (bn .neq 3 r11.1 r13.1) fun t14=>aY t14
 (Q (.bool false) (adv r13.2 1))
 (∃ n,jC Q n t0 t1 (.int .i64 0) (adv r13.2 1))
theorem aVt (t0 t1:AV) (s:St) {Q:aE} (h:f48 Q t0 t1 s):dE 48 [t0,t1] s Q:=aH (h:=48) (fn:=Tryz.f48) (c:=sub SW []) (show aBh (sub SW []) (KY Q) aU (KY Q)=_ from (aM (aM (aM (aLh Q) (aM (dC 0 (aRj Q _)) rfl)) rfl) rfl)) h
abbrev aNs:Code:=aJ Tryz.f49
abbrev ZJ:=rK Tryz.f49
abbrev aSq:=aK mEv 49 (mEv.kp 49)
def MB (Q:aE) (s:St):Prop:=Q (.bool true) (adv s 1)
def aIy (Q:aE) (ih1:AV->AV->aE) (t5 t0 t1:AV) (s:St):Prop:=aA (bn .add 3 t5 (.int .i64 1)) fun t17=>ih1 t0 t1 t17 (adv s 3)
def DO (Q:aE) (ih1:AV->AV->aE) (t0 t1 t5:AV) (s:St):Prop:=aA (bt .len #[31] [t0] (s.nx+2) (adv s 4)) fun r14=>aA (bn .lss 3 t5 r14.1) fun t15=>aY t15
 (aA (cB 6 t0 t5) fun t20=>aA (ld 6 true t20 (adv r14.2 10)) fun t21=>aA (cB 6 t1 t5) fun t24=>aA (ld 6 true t24 (adv r14.2 10)) fun t25=>eL mEv 18 [t21,t25,(.bool true)] (rch (adv r14.2 10) [(.fn 18 [] []),t21,t25,(.bool true)]) (adv r14.2 10) fun t26 s1=>aA (un .not t26) fun t28=>aY t28
 (Q (.bool false) (adv s1 3))
 (aIy Q ih1 t5 t0 t1 (adv s1 2)))
 (MB Q r14.2)
def zE (Q:aE) (n:Nat):AV->AV->aE:=jX (fun _ _ _ _ =>False) (fun ih=>DO Q ih) n
theorem aOf (Q:aE):aSq (sub aNs [Y,Y,Y]) (ZJ Q) aU (ZJ Q)=(fun g s=>MB Q s):=Eq.trans rfl (by kernel_rfl)
theorem aKf (Q:aE) (n1:Nat):aSq (sub aNs [Y,Y,N,Y,N,N,Y,Y]) (kV (fun n g s=>zE Q n (g 0) (g 1) (g 5) s) 49 n1) (cN 0 (fun g s=>MB Q s) aU) (ZJ Q)=(fun g s=>aIy Q (zE Q n1) (g 5) (g 0) (g 1) s):=Eq.trans rfl (by kernel_rfl)
theorem aFv (Q:aE) (kN:Kt):aSq (sub aNs [Y,Y,N,Y,N]) kN (cN 0 (fun g s=>MB Q s) aU) (ZJ Q)=fun g s=>∃ n,zE Q n (g 0) (g 1) (g 5) s:=kG (L:=fun n g s=>zE Q n (g 0) (g 1) (g 5) s) (fun n1=>Eq.trans (aM (aM (aKf Q n1) (dC 1 rfl)) rfl) (by kernel_rfl))
def f49 (Q:aE) (t0 t1:AV) (s:St):Prop:=aA (bt .len #[31] [t0] (s.nx+2) (adv s 6)) fun r8=>aA (bt .len #[31] [t1] (s.nx+4) r8.2) fun r10=>aA (bn .neq 3 r8.1 r10.1) fun t11=>aY t11
 (Q (.bool false) (adv r10.2 1))
 (∃ n,zE Q n t0 t1 (.int .i64 0) (adv r10.2 1))
theorem aUq (t0 t1:AV) (s:St) {Q:aE} (h:f49 Q t0 t1 s):dE 49 [t0,t1] s Q:=aH (h:=49) (fn:=Tryz.f49) (c:=sub aNs []) (show aSq (sub aNs []) (ZJ Q) aU (ZJ Q)=_ from (aM (aM (aM (aOf Q) (aM (dC 0 (aFv Q _)) rfl)) rfl) rfl)) h
abbrev bAa:Code:=aJ Tryz.f143
abbrev bBp:=rK Tryz.f143
abbrev bKd:=aK mEv 143 (mEv.kp 143)
def f143 (Q:aE) (t0 t1:AV) (s:St):Prop:=aN mEv 24 [t1] (adv s 3) fun t6 s1=>aY t6
 (Q (.int .i64 101) (adv s1 1))
 ((aQ t0=true /\
 aA (aC 4 t0) fun t9=>aA (ld 1 false t9 (adv s1 6)) fun t10=>aA (eA Tryz.ty 86 t10 t1 false (adv s1 6)) fun t12=>aY t12
 (Q (.int .i64 4) (adv s1 7))
 (Q (.int .i64 0) (adv s1 7))))
theorem aHh (t0 t1:AV) (s:St) {Q:aE} (h:f143 Q t0 t1 s):dE 143 [t0,t1] s Q:=aH (h:=143) (fn:=Tryz.f143) (c:=sub bAa []) (show bKd (sub bAa []) (bBp Q) aU (bBp Q)=_ from rfl) h
abbrev aHe:Code:=aJ Tryz.f144
abbrev TZ:=rK Tryz.f144
abbrev aZb:=aK mEv 144 (mEv.kp 144)
def xS (Q:aE) (t0 t3:AV) (s:St):Prop:=(aQ t0=true /\
 aA (aC 4 t0) fun t22=>aA (ld 1 false t22 (adv s 7)) fun t23=>aA (aC 0 t3) fun t24=>aA (ld 1 false t24 (adv s 7)) fun t25=>((adv s 7).h (s.nx+6)=none/\aA (eI Tryz.ty 86 t23 t25 (.bool true) (adv s 7)) fun s1=>(aQ t0=true /\
 aA (aC 0 t0) fun t28=>aA (ld 10 true t3 (adv s1 6)) fun t29=>eL mEv 95 [t29] (rch (adv s1 6) [(.fn 95 [] []),t29]) (adv s1 6) fun t30 s2=>cH mEv 190 [t28,t30] (rch s2 [(.fn 190 [] []),t28,t30]) s2 fun t31 s3=>Q (.int .i64 0) (adv s3 1))))
theorem YT (Q:aE):aZb (sub aHe [Y,Y,Y]) (TZ Q) aU (TZ Q)=(fun g s=>xS Q (g 0) (g 3) s):=Eq.trans rfl (by kernel_rfl)
def f144 (Q:aE) (t0 t1:AV) (s:St):Prop:=(t1.cells.all AV.one=true /\
 let s1:St:=((adv s 2).set s.nx (some (.cells t1.cells 67 true true)))
 (aQ t0=true /\
 aA (aC 0 t0) fun t7=>aL mEv 94 [t7] (adv s1 6) fun t8 s2=>aA (bt .len #[49] [t8] (s1.nx+4) s2) fun r9=>aA (bn .eql 3 r9.1 (.int .i64 500)) fun t10=>aY t10
 (Q (.int .i64 2) (adv r9.2 1))
 ((aQ t0=true /\
 aA (aC 4 t0) fun t13=>aA (ld 1 false t13 (adv r9.2 5)) fun t14=>aA (bn .eql 86 t14 .nilm) fun t15=>aY t15
 (let s3:St:=((adv r9.2 10).set (r9.2.nx+6) (some (.map [])))
 (aQ t0=true /\
 aA (aC 4 t0) fun t19=>aA (dN 1 t19 (.map (r9.2.nx+6)) s3) fun s4=>xS Q t0 (.ptr s.nx 0) s4))
 (xS Q t0 (.ptr s.nx 0) (adv r9.2 5))))))
theorem aQy (t0 t1:AV) (s:St) {Q:aE} (h:f144 Q t0 t1 s):dE 144 [t0,t1] s Q:=aH (h:=144) (fn:=Tryz.f144) (c:=sub aHe []) (show aZb (sub aHe []) (TZ Q) aU (TZ Q)=_ from (aM (aM (aM (YT Q) rfl) rfl) rfl)) h
abbrev bBg:Code:=aJ Tryz.f145
abbrev bBu:=rK Tryz.f145
abbrev bNl:=aK mEv 145 (mEv.kp 145)
def f145 (Q:aE) (t0 t1:AV) (s:St):Prop:=(t1.cells.all AV.one=true /\
 let s1:St:=((adv s 1).set s.nx (some (.cells t1.cells 33 true true)))
 aA (bn .neq 155 t0 .nilp) fun t5=>aY t5
 ((aQ t0=true /\
 aA (aC 0 t0) fun t8=>aA (ld 1 false t8 (adv s1 15)) fun t9=>aA (ld 6 true (.ptr s.nx 0) (adv s1 15)) fun t10=>aA (bt .len #[31] [t9] (s1.nx+7) (adv s1 15)) fun r11=>aA (lE 31 1 [(0,(.agg [(.bool false),(.int .i64 0),(.str []),(.int .i64 0),(.int .i64 0),.nils]))]) fun t12=>(r11.2.h (s1.nx+9)=none/\aA (bt .append #[31,31] [t9,t12] (s1.nx+9) r11.2) fun r13=>aA (cB 6 r13.1 r11.1) fun t14=>(r13.2.h (s1.nx+11)=none/\aA (dN 6 t14 t10 r13.2) fun s2=>(aQ t0=true /\
 aA (aC 0 t0) fun t16=>(clear 3327 ⟨12,true,(s1.nx+14)::aF t16,none⟩ [⟨11,false,[],none⟩,⟨10,false,[],none⟩,⟨9,true,(s1.nx+11)::aF t14,none⟩,⟨8,false,[],none⟩,⟨7,true,(s1.nx+9)::([t9,t12]).flatMap aF,none⟩,⟨6,false,[],none⟩,⟨5,false,([t9]).flatMap aF,none⟩,⟨4,false,aF (.ptr s.nx 0),none⟩,⟨3,false,aF t8,none⟩,⟨2,false,[],none⟩,⟨1,false,[],none⟩,⟨0,false,[],none⟩]=true/\s2.h (s1.nx+14)=none/\aA (dN 1 t16 r13.1 s2) fun s3=>Q (.tup []) s3))))))
 (Q (.tup []) (adv s1 2)))
theorem aLq (t0 t1:AV) (s:St) {Q:aE} (h:f145 Q t0 t1 s):dE 145 [t0,t1] s Q:=aH (h:=145) (fn:=Tryz.f145) (c:=sub bBg []) (show bNl (sub bBg []) (bBu Q) aU (bBu Q)=_ from rfl) h
abbrev sO:Code:=aJ Tryz.f149
abbrev mZ:=rK Tryz.f149
abbrev wG:=aK mEv 149 (mEv.kp 149)
def xZ (Q:aE) (t5 t0 t6 t3:AV) (s:St):Prop:=aA (ld 2 true t6 (adv s 8)) fun t84=>aA (lE 122 1 [(0,t84)]) fun t85=>let s1:St:=((adv s 8).set (s.nx+4) (some (.map [])))
 aA (lV 124 [(0,t5),(1,t0),(2,t85),(3,(.map (s.nx+4)))]) fun t87=>(t87.cells.all AV.one=true /\
 let s2:St:=(s1.set (s.nx+6) (some (.cells t87.cells 124 true true)))
 aA (aC 4 t3) fun t91=>aA (ld 6 true t91 (adv s2 9)) fun t92=>aL mEv 75 [(.ptr (s.nx+6) 0),t92] (adv s2 9) fun t93 s3=>aA (aW t93 0) fun t94=>aA (aW t93 1) fun t95=>aA (bn .neq 34 t95 (.int .i64 0)) fun t97=>aY t97
 (Q t95 (adv s3 4))
 (aL mEv 53 [t5,t94] (adv s3 11) fun t102 s4=>aA (aW t102 0) fun t103=>aA (aW t102 1) fun t104=>aA (zr 101) fun z17=>let s5:St:=(s4.set (s3.nx+8) (some (.cells z17.cells 101 true true)))
 aA (dN 7 (.ptr (s3.nx+8) 0) t103 s5) fun s6=>aA (aC 1 (.ptr (s3.nx+8) 0)) fun t105=>aA (ld 1 false t105 (adv s6 5)) fun t106=>aA (aC 1 t3) fun t107=>aA (ld 1 false t107 (adv s6 5)) fun t108=>aA (bn .neq 3 t106 t108) fun t109=>aY t109
 (Q (.int .i64 90) (adv s6 6))
 (Q (.int .i64 0) (adv s6 6))))
def TJ (Q:aE) (ih1:AV->AV->AV->AV->AV->AV->aE) (t59 t0 t3 t5 t6 t57 t58:AV) (s:St):Prop:=aA (bn .add 3 t59 (.int .i64 1)) fun t81=>ih1 t0 t3 t5 t6 t57 t58 t81 (adv s 2)
def vJ (Q:aE) (ih1:AV->AV->AV->AV->AV->AV->aE) (t0 t3 t5 t6 t57 t58 t59:AV) (s:St):Prop:=aA (bn .lss 3 t59 t58) fun t60=>aY t60
 (aA (cB 2 t57 t59) fun t61=>aA (ld 2 true t61 (adv s 5)) fun t62=>aA (zr 151) fun z11=>let s1:St:=((adv s 5).set (s.nx+3) (some (.cells z11.cells 151 true true)))
 aA (dN 2 (.ptr (s.nx+3) 0) t62 s1) fun s2=>aA (aC 0 (.ptr (s.nx+3) 0)) fun t65=>aA (ld 1 false t65 (adv s2 11)) fun t66=>aA (aC 1 (.ptr (s.nx+3) 0)) fun t67=>aA (ld 1 false t67 (adv s2 11)) fun t68=>aL mEv 77 [t5,t66,t68] (adv s2 11) fun t69 s3=>aA (aW t69 0) fun t70=>aA (aW t69 1) fun t71=>aA (bn .neq 34 t71 (.int .i64 0)) fun t73=>aY t73
 (Q t71 (adv s3 4))
 (aA (aC 1 t6) fun t75=>aA (ld 1 false t75 (adv s3 9)) fun t76=>aA (lE 72 1 [(0,t70)]) fun t78=>aA (bt .append #[72,72] [t76,t78] (s3.nx+6) (adv s3 9)) fun r79=>aA (aC 1 t6) fun t80=>aA (dN 1 t80 r79.1 r79.2) fun s4=>TJ Q ih1 t59 t0 t3 t5 t6 t57 t58 s4))
 (xZ Q t5 t0 t6 t3 (adv s 1))
def qI (Q:aE) (n:Nat):AV->AV->AV->AV->AV->AV->aE:=jX (fun _ _ _ _ _ _ _ _ =>False) (fun ih=>vJ Q ih) n
def DP (Q:aE) (t3 t0 t5 t6:AV) (s:St):Prop:=aA (aC 3 t3) fun t56=>aA (ld 1 false t56 (adv s 4)) fun t57=>aA (bt .len #[65] [t57] (s.nx+2) (adv s 4)) fun r58=>∃ n,qI Q n t0 t3 t5 t6 t57 r58.1 (.int .i64 0) r58.2
def xY (Q:aE) (t47 t3 t0 t5 t6:AV) (s:St):Prop:=aY t47
 (Q (.int .i64 1) (adv s 1))
 (DP Q t3 t0 t5 t6 s)
def xA (Q:aE) (t6 t3 t0 t5:AV) (s:St):Prop:=aA (zr 175) fun z9=>let s1:St:=((adv s 2).set s.nx (some (.cells z9.cells 175 true true)))
 aA (dN 1 (.ptr s.nx 0) (.fn 191 [] []) s1) fun s2=>aA (aC 0 t6) fun t40=>aA (ld 1 false t40 (adv s2 4)) fun t41=>aN mEv 192 [t41] (adv s2 4) fun t42 s3=>aY t42
 (Q (.int .i64 4) (adv s3 1))
 (aA (aC 0 t6) fun t44=>aA (ld 1 false t44 (adv s3 4)) fun t45=>aL mEv 193 [t45,(.fn 24 [] [])] (adv s3 4) fun t46 s4=>aY t46
 (Q (.int .i64 101) (adv s4 1))
 (aA (ld 1 false (.ptr s.nx 0) (adv s4 5)) fun t48=>aA (aC 1 t3) fun t49=>aA (ld 1 false t49 (adv s4 5)) fun t50=>sK mEv 149 t48 [t50] (adv s4 5) fun t51 s5=>aY t51
 (xY Q t51 t3 t0 t5 t6 s5)
 (aA (aC 3 t3) fun t52=>aA (ld 1 false t52 (adv s5 5)) fun t53=>aL mEv 194 [t53,(.fn 195 [] [(.ptr s.nx 0)])] (adv s5 5) fun t55 s6=>xY Q t55 t3 t0 t5 t6 s6)))
def QM (Q:aE) (ih2:AV->AV->AV->AV->AV->AV->aE) (t27 t0 t3 t5 t6 t25 t26:AV) (s:St):Prop:=aA (bn .add 3 t27 (.int .i64 1)) fun t38=>ih2 t0 t3 t5 t6 t25 t26 t38 (adv s 2)
def vD (Q:aE) (ih2:AV->AV->AV->AV->AV->AV->aE) (t0 t3 t5 t6 t25 t26 t27:AV) (s:St):Prop:=aA (bn .lss 3 t27 t26) fun t28=>aY t28
 (aA (cB 2 t25 t27) fun t29=>aA (ld 2 true t29 (adv s 5)) fun t30=>aA (zr 151) fun z8=>let s1:St:=((adv s 5).set (s.nx+3) (some (.cells z8.cells 151 true true)))
 aA (dN 2 (.ptr (s.nx+3) 0) t30 s1) fun s2=>aA (aC 0 t6) fun t31=>aA (ld 1 false t31 (adv s2 8)) fun t32=>aA (aC 0 (.ptr (s.nx+3) 0)) fun t33=>aA (ld 1 false t33 (adv s2 8)) fun t34=>aA (lE 52 1 [(0,t34)]) fun t35=>aA (bt .append #[52,52] [t32,t35] (s2.nx+5) (adv s2 8)) fun r36=>aA (aC 0 t6) fun t37=>aA (dN 1 t37 r36.1 r36.2) fun s3=>QM Q ih2 t27 t0 t3 t5 t6 t25 t26 s3)
 (xA Q t6 t3 t0 t5 (adv s 1))
def pM (Q:aE) (n:Nat):AV->AV->AV->AV->AV->AV->aE:=jX (fun _ _ _ _ _ _ _ _ =>False) (fun ih=>vD Q ih) n
theorem aEl (Q:aE):wG (sub sO [Y,Y,Y,Y,Y,Y,Y,Y]) (mZ Q) aU (mZ Q)=(fun g s=>xZ Q (g 5) (g 0) (g 6) (g 3) s):=Eq.trans rfl (by kernel_rfl)
theorem ZY (Q:aE) (n1:Nat):wG (sub sO [Y,Y,Y,Y,Y,Y,Y,N,Y,N,N,Y,Y,Y]) (kV (fun n g s=>qI Q n (g 0) (g 3) (g 5) (g 6) (g 57) (g 58) (g 59) s) 149 n1) (cN 3 (fun g s=>xZ Q (g 5) (g 0) (g 6) (g 3) s) aU) (mZ Q)=(fun g s=>TJ Q (qI Q n1) (g 59) (g 0) (g 3) (g 5) (g 6) (g 57) (g 58) s):=Eq.trans rfl (by kernel_rfl)
theorem YV (Q:aE) (kN:Kt):wG (sub sO [Y,Y,Y,Y,Y,Y,Y,N,Y,N]) kN (cN 3 (fun g s=>xZ Q (g 5) (g 0) (g 6) (g 3) s) aU) (mZ Q)=fun g s=>∃ n,qI Q n (g 0) (g 3) (g 5) (g 6) (g 57) (g 58) (g 59) s:=kG (L:=fun n g s=>qI Q n (g 0) (g 3) (g 5) (g 6) (g 57) (g 58) (g 59) s) (fun n1=>Eq.trans (aM (aM (aM (ZY Q n1) (dC 4 rfl)) rfl) rfl) (by kernel_rfl))
theorem aAj (Q:aE):wG (sub sO [Y,Y,Y,Y,Y,Y,Y]) (mZ Q) aU (mZ Q)=(fun g s=>DP Q (g 3) (g 0) (g 5) (g 6) s):=Eq.trans (aM (aEl Q) (aM (dC 3 (YV Q _)) rfl)) (by kernel_rfl)
theorem aDc (Q:aE):wG (sub sO [Y,Y,Y,Y,Y,Y,N,N,Y,Y,Y,Y,Y]) (fun g s=>DP Q (g 3) (g 0) (g 5) (g 6) s) (cN 2 (fun g s=>DP Q (g 3) (g 0) (g 5) (g 6) s) aU) (mZ Q)=(fun g s=>xY Q (g 47) (g 3) (g 0) (g 5) (g 6) s):=Eq.trans rfl (by kernel_rfl)
theorem ZV (Q:aE):wG (sub sO [Y,Y,Y,Y,Y]) (mZ Q) aU (mZ Q)=(fun g s=>xA Q (g 6) (g 3) (g 0) (g 5) s):=Eq.trans (aM (aM (aAj Q) (dC 2 (aM (cdA (.tmp 39) rfl (aM (cdA (.tmp 43) rfl (aM (aDc Q) rfl)) rfl)) rfl))) rfl) (by kernel_rfl)
theorem aDh (Q:aE) (n2:Nat):wG (sub sO [Y,Y,Y,Y,N,Y,N,N,Y,Y,Y]) (kV (fun n g s=>pM Q n (g 0) (g 3) (g 5) (g 6) (g 25) (g 26) (g 27) s) 149 n2) (cN 0 (fun g s=>xA Q (g 6) (g 3) (g 0) (g 5) s) aU) (mZ Q)=(fun g s=>QM Q (pM Q n2) (g 27) (g 0) (g 3) (g 5) (g 6) (g 25) (g 26) s):=Eq.trans rfl (by kernel_rfl)
theorem aDn (Q:aE) (kN:Kt):wG (sub sO [Y,Y,Y,Y,N,Y,N]) kN (cN 0 (fun g s=>xA Q (g 6) (g 3) (g 0) (g 5) s) aU) (mZ Q)=fun g s=>∃ n,pM Q n (g 0) (g 3) (g 5) (g 6) (g 25) (g 26) (g 27) s:=kG (L:=fun n g s=>pM Q n (g 0) (g 3) (g 5) (g 6) (g 25) (g 26) (g 27) s) (fun n2=>Eq.trans (aM (aM (aM (aDh Q n2) (dC 1 rfl)) rfl) rfl) (by kernel_rfl))
def f149 (Q:aE) (t0 t1:AV) (s:St):Prop:=(t1.cells.all AV.one=true /\
 let s1:St:=((adv s 2).set s.nx (some (.cells t1.cells 67 true true)))
 aA (aC 2 (.ptr s.nx 0)) fun t19=>aA (ld 1 false t19 (adv s1 3)) fun t20=>aA (un .not t20) fun t21=>aY t21
 (Q (.int .i64 1) (adv s1 4))
 (aA (lV 58 []) fun t22=>(t22.cells.all AV.one=true /\
 let s2:St:=((adv s1 6).set (s1.nx+4) (some (.cells t22.cells 58 true true)))
 aA (zr 254) fun z6=>let s3:St:=((adv s2 1).set s2.nx (some (.cells z6.cells 254 true true)))
 aA (aC 3 (.ptr s.nx 0)) fun t24=>aA (ld 1 false t24 (adv s3 4)) fun t25=>aA (bt .len #[65] [t25] (s3.nx+2) (adv s3 4)) fun r26=>∃ n,pM Q n t0 (.ptr s.nx 0) (.ptr (s1.nx+4) 0) (.ptr s2.nx 0) t25 r26.1 (.int .i64 0) r26.2)))
theorem aGx (t0 t1:AV) (s:St) {Q:aE} (h:f149 Q t0 t1 s):dE 149 [t0,t1] s Q:=aH (h:=149) (fn:=Tryz.f149) (c:=sub sO []) (show wG (sub sO []) (mZ Q) aU (mZ Q)=_ from (aM (aM (aM (aM (aM (ZV Q) (aM (dC 0 (aDn Q _)) rfl)) rfl) rfl) rfl) rfl)) h
abbrev ON:Code:=aJ Tryz.f150
abbrev IL:=rK Tryz.f150
abbrev UI:=aK mEv 150 (mEv.kp 150)
def xB (Q:aE) (t0:AV) (s:St):Prop:=(aQ t0=true /\
 aA (aC 1 t0) fun t23=>aA (ld 1 false t23 (adv s 15)) fun t24=>(aQ t0=true /\
 aA (aC 1 t0) fun t27=>aA (ld 1 false t27 (adv s 15)) fun t28=>aA (bt .len #[72] [t28] (s.nx+9) (adv s 15)) fun r29=>aA (bn .sub 3 r29.1 (.int .i64 1)) fun t30=>aA (lT 72 t24 none (some t30) none r29.2) fun t31=>(aQ t0=true /\
 aA (aC 1 t0) fun t33=>(r29.2.h (s.nx+14)=none/\aA (dN 1 t33 t31 r29.2) fun s1=>Q (.bool true) (adv s1 1)))))
def KC (Q:aE) (ih1:AV->AV->aE) (t3 t0:AV) (s:St):Prop:=aA (ld 10 true t3 (adv s 1)) fun t19=>aA (zr 67) fun z3=>let s1:St:=((adv s 3).set (s.nx+1) (some (.cells z3.cells 67 true true)))
 aA (dN 10 (.ptr (s.nx+1) 0) t19 s1) fun s2=>aL mEv 196 [t0] (adv s2 6) fun t16 s3=>aA (aW t16 0) fun t17=>aA (aW t16 1) fun t18=>ih1 t0 (.ptr (s.nx+1) 0) t18 s3
def kH (Q:aE) (ih1:AV->AV->aE) (t0 t3 t4:AV) (s:St):Prop:=aY t4
 (KC Q ih1 t3 t0 (adv s 1))
 (xB Q t0 (adv s 1))
def lB (Q:aE) (n:Nat):AV->AV->aE:=jX (fun _ _ _ _ =>False) (fun ih=>kH Q ih) n
theorem YR (Q:aE):UI (sub ON [Y,Y,Y]) (IL Q) aU (IL Q)=(fun g s=>xB Q (g 0) s):=Eq.trans rfl (by kernel_rfl)
theorem aBa (Q:aE) (n1:Nat):UI (sub ON [Y,Y,N,Y,N,N,Y,Y]) (kV (fun n g s=>lB Q n (g 0) (g 3) (g 4) s) 150 n1) (cN 0 (fun g s=>xB Q (g 0) s) aU) (IL Q)=(fun g s=>KC Q (lB Q n1) (g 3) (g 0) s):=Eq.trans rfl (by kernel_rfl)
theorem aDd (Q:aE) (kN:Kt):UI (sub ON [Y,Y,N,Y,N]) kN (cN 0 (fun g s=>xB Q (g 0) s) aU) (IL Q)=fun g s=>∃ n,lB Q n (g 0) (g 3) (g 4) s:=kG (L:=fun n g s=>lB Q n (g 0) (g 3) (g 4) s) (fun n1=>Eq.trans (aM (aM (aBa Q n1) (dC 1 rfl)) rfl) (by kernel_rfl))
def f150 (Q:aE) (t0:AV) (s:St):Prop:=aL mEv 98 [t0] (adv s 4) fun t6 s1=>aA (bn .eql 3 t6 (.int .i64 0)) fun t7=>aY t7
 (Q (.bool false) (adv s1 1))
 (aL mEv 196 [t0] (adv s1 8) fun t10 s2=>aA (aW t10 0) fun t11=>aA (aW t10 1) fun t12=>aA (zr 67) fun z3=>let s3:St:=(s2.set (s1.nx+5) (some (.cells z3.cells 67 true true)))
 aA (dN 10 (.ptr (s1.nx+5) 0) t11 s3) fun s4=>∃ n,lB Q n t0 (.ptr (s1.nx+5) 0) t12 s4)
theorem aHo (t0:AV) (s:St) {Q:aE} (h:f150 Q t0 s):dE 150 [t0] s Q:=aH (h:=150) (fn:=Tryz.f150) (c:=sub ON []) (show UI (sub ON []) (IL Q) aU (IL Q)=_ from (aM (aM (aM (YR Q) (aM (dC 0 (aDd Q _)) rfl)) rfl) rfl)) h
abbrev LL:Code:=aJ Tryz.f151
abbrev HI:=rK Tryz.f151
abbrev UC:=aK mEv 151 (mEv.kp 151)
def xQ (Q:aE) (t0:AV) (s:St):Prop:=(aQ t0=true /\
 aA (aC 1 t0) fun t23=>aA (ld 1 false t23 (adv s 15)) fun t24=>(aQ t0=true /\
 aA (aC 1 t0) fun t27=>aA (ld 1 false t27 (adv s 15)) fun t28=>aA (bt .len #[72] [t28] (s.nx+9) (adv s 15)) fun r29=>aA (bn .sub 3 r29.1 (.int .i64 1)) fun t30=>aA (lT 72 t24 none (some t30) none r29.2) fun t31=>(aQ t0=true /\
 aA (aC 1 t0) fun t33=>(r29.2.h (s.nx+14)=none/\aA (dN 1 t33 t31 r29.2) fun s1=>Q (.bool true) (adv s1 1)))))
def KR (Q:aE) (ih1:AV->AV->aE) (t3 t0:AV) (s:St):Prop:=aA (ld 6 true t3 (adv s 1)) fun t19=>aA (zr 33) fun z3=>let s1:St:=((adv s 3).set (s.nx+1) (some (.cells z3.cells 33 true true)))
 aA (dN 6 (.ptr (s.nx+1) 0) t19 s1) fun s2=>aL mEv 198 [t0] (adv s2 6) fun t16 s3=>aA (aW t16 0) fun t17=>aA (aW t16 1) fun t18=>ih1 t0 (.ptr (s.nx+1) 0) t18 s3
def kI (Q:aE) (ih1:AV->AV->aE) (t0 t3 t4:AV) (s:St):Prop:=aY t4
 (KR Q ih1 t3 t0 (adv s 1))
 (xQ Q t0 (adv s 1))
def lF (Q:aE) (n:Nat):AV->AV->aE:=jX (fun _ _ _ _ =>False) (fun ih=>kI Q ih) n
theorem XV (Q:aE):UC (sub LL [Y,Y,Y]) (HI Q) aU (HI Q)=(fun g s=>xQ Q (g 0) s):=Eq.trans rfl (by kernel_rfl)
theorem aAe (Q:aE) (n1:Nat):UC (sub LL [Y,Y,N,Y,N,N,Y,Y]) (kV (fun n g s=>lF Q n (g 0) (g 3) (g 4) s) 151 n1) (cN 0 (fun g s=>xQ Q (g 0) s) aU) (HI Q)=(fun g s=>KR Q (lF Q n1) (g 3) (g 0) s):=Eq.trans rfl (by kernel_rfl)
theorem aDm (Q:aE) (kN:Kt):UC (sub LL [Y,Y,N,Y,N]) kN (cN 0 (fun g s=>xQ Q (g 0) s) aU) (HI Q)=fun g s=>∃ n,lF Q n (g 0) (g 3) (g 4) s:=kG (L:=fun n g s=>lF Q n (g 0) (g 3) (g 4) s) (fun n1=>Eq.trans (aM (aM (aAe Q n1) (dC 1 rfl)) rfl) (by kernel_rfl))
def f151 (Q:aE) (t0:AV) (s:St):Prop:=aL mEv 197 [t0] (adv s 4) fun t6 s1=>aA (bn .eql 3 t6 (.int .i64 0)) fun t7=>aY t7
 (Q (.bool false) (adv s1 1))
 (aL mEv 198 [t0] (adv s1 8) fun t10 s2=>aA (aW t10 0) fun t11=>aA (aW t10 1) fun t12=>aA (zr 33) fun z3=>let s3:St:=(s2.set (s1.nx+5) (some (.cells z3.cells 33 true true)))
 aA (dN 6 (.ptr (s1.nx+5) 0) t11 s3) fun s4=>∃ n,lF Q n t0 (.ptr (s1.nx+5) 0) t12 s4)
theorem aPf (t0:AV) (s:St) {Q:aE} (h:f151 Q t0 s):dE 151 [t0] s Q:=aH (h:=151) (fn:=Tryz.f151) (c:=sub LL []) (show UC (sub LL []) (HI Q) aU (HI Q)=_ from (aM (aM (aM (XV Q) (aM (dC 0 (aDm Q _)) rfl)) rfl) rfl)) h
abbrev bKe:Code:=aJ Tryz.f94
abbrev bFx:=rK Tryz.f94
abbrev bQy:=aK mEv 94 (mEv.kp 94)
def f94 (Q:aE) (t0:AV) (s:St):Prop:=aA (bn .eql 153 t0 .nilp) fun t4=>aY t4
 (Q .nils (adv s 4))
 ((aQ t0=true /\
 aA (aC 0 t0) fun t7=>aA (ld 1 false t7 (adv s 9)) fun t8=>aL mEv 146 [t8] (adv s 9) fun t9 s1=>Q t9 s1))
theorem aVn (t0:AV) (s:St) {Q:aE} (h:f94 Q t0 s):dE 94 [t0] s Q:=aH (h:=94) (fn:=Tryz.f94) (c:=sub bKe []) (show bQy (sub bKe []) (bFx Q) aU (bFx Q)=_ from rfl) h
abbrev bMy:Code:=aJ Tryz.f95
abbrev bIy:=rK Tryz.f95
abbrev bPp:=aK mEv 95 (mEv.kp 95)
def f95 (Q:aE) (t0:AV) (s:St):Prop:=(t0.cells.all AV.one=true /\
 let s1:St:=((adv s 2).set s.nx (some (.cells t0.cells 67 true true)))
 aA (zr 67) fun z2=>let s2:St:=(s1.set (s.nx+1) (some (.cells z2.cells 67 true true)))
 aA (aC 3 (.ptr s.nx 0)) fun t3=>aA (ld 1 false t3 (adv s2 5)) fun t4=>aN mEv 147 [t4] (adv s2 5) fun t5 s3=>aA (aC 3 (.ptr s.nx 0)) fun t6=>aA (dN 1 t6 t5 s3) fun s4=>aA (aC 4 (.ptr s.nx 0)) fun t7=>aA (ld 6 true t7 (adv s4 5)) fun t8=>aN mEv 97 [t8] (adv s4 5) fun t9 s5=>aA (aC 4 (.ptr s.nx 0)) fun t10=>aA (dN 6 t10 t9 s5) fun s6=>aA (ld 10 true (.ptr s.nx 0) (adv s6 2)) fun t11=>aA (dN 10 (.ptr (s.nx+1) 0) t11 (adv s6 2)) fun s7=>pC ((sT [ld 10 true (.ptr (s.nx+1) 0) s7]).map xG) fun v=>Q v s7)
theorem aWy (t0:AV) (s:St) {Q:aE} (h:f95 Q t0 s):dE 95 [t0] s Q:=aH (h:=95) (fn:=Tryz.f95) (c:=sub bMy []) (show bPp (sub bMy []) (bIy Q) aU (bIy Q)=_ from rfl) h
abbrev bJz:Code:=aJ Tryz.f96
abbrev bKu:=rK Tryz.f96
abbrev bQv:=aK mEv 96 (mEv.kp 96)
def f96 (Q:aE) (t0:AV) (s:St):Prop:=aA (bn .eql 155 t0 .nilp) fun t4=>aY t4
 (Q .nils (adv s 4))
 ((aQ t0=true /\
 aA (aC 0 t0) fun t7=>aA (ld 1 false t7 (adv s 9)) fun t8=>aL mEv 148 [t8] (adv s 9) fun t9 s1=>Q t9 s1))
theorem aUd (t0:AV) (s:St) {Q:aE} (h:f96 Q t0 s):dE 96 [t0] s Q:=aH (h:=96) (fn:=Tryz.f96) (c:=sub bJz []) (show bQv (sub bJz []) (bKu Q) aU (bKu Q)=_ from rfl) h
abbrev aLp:Code:=aJ Tryz.f97
abbrev aEk:=rK Tryz.f97
abbrev aTy:=aK mEv 97 (mEv.kp 97)
def GD (Q:aE) (t1 t2:AV) (s:St):Prop:=aA (ld 6 true t1 (adv s 2)) fun t25=>aA (dN 6 t2 t25 (adv s 2)) fun s1=>pC ((sT [ld 6 true t2 s1]).map xG) fun v=>Q v s1
def aFq (Q:aE) (ih1:AV->AV->AV->aE) (t11 t1 t2 t10:AV) (s:St):Prop:=aA (bn .add 3 t11 (.int .i64 1)) fun t24=>ih1 t1 t2 t10 t24 (adv s 2)
def tK (Q:aE) (ih1:AV->AV->AV->aE) (t1 t2 t10 t11:AV) (s:St):Prop:=aA (bn .lss 3 t11 t10) fun t12=>aY t12
 (aA (aC 5 t1) fun t14=>aA (ld 1 false t14 (adv s 14)) fun t15=>aA (aC 5 t1) fun t17=>aA (ld 1 false t17 (adv s 14)) fun t18=>aA (cB 6 t18 t11) fun t20=>aA (ld 6 true t20 (adv s 14)) fun t21=>eL mEv 97 [t21] (rch (adv s 14) [(.fn 97 [] []),t21]) (adv s 14) fun t22 s1=>aA (cB 6 t15 t11) fun t23=>(s1.h (s.nx+13)=none/\aA (dN 6 t23 t22 s1) fun s2=>aFq Q ih1 t11 t1 t2 t10 s2))
 (GD Q t1 t2 (adv s 1))
def uK (Q:aE) (n:Nat):AV->AV->AV->aE:=jX (fun _ _ _ _ _ =>False) (fun ih=>tK Q ih) n
theorem aOi (Q:aE):aTy (sub aLp [Y,Y,Y]) (aEk Q) aU (aEk Q)=(fun g s=>GD Q (g 1) (g 2) s):=Eq.trans rfl (by kernel_rfl)
theorem aOl (Q:aE) (n1:Nat):aTy (sub aLp [Y,Y,N,Y,N,N,Y,Y,Y]) (kV (fun n g s=>uK Q n (g 1) (g 2) (g 10) (g 11) s) 97 n1) (cN 0 (fun g s=>GD Q (g 1) (g 2) s) aU) (aEk Q)=(fun g s=>aFq Q (uK Q n1) (g 11) (g 1) (g 2) (g 10) s):=Eq.trans rfl (by kernel_rfl)
theorem aKb (Q:aE) (kN:Kt):aTy (sub aLp [Y,Y,N,Y,N]) kN (cN 0 (fun g s=>GD Q (g 1) (g 2) s) aU) (aEk Q)=fun g s=>∃ n,uK Q n (g 1) (g 2) (g 10) (g 11) s:=kG (L:=fun n g s=>uK Q n (g 1) (g 2) (g 10) (g 11) s) (fun n1=>Eq.trans (aM (aM (aM (aOl Q n1) (dC 1 rfl)) rfl) rfl) (by kernel_rfl))
def f97 (Q:aE) (t0:AV) (s:St):Prop:=(t0.cells.all AV.one=true /\
 let s1:St:=((adv s 2).set s.nx (some (.cells t0.cells 33 true true)))
 aA (zr 33) fun z2=>let s2:St:=(s1.set (s.nx+1) (some (.cells z2.cells 33 true true)))
 aA (aC 5 (.ptr s.nx 0)) fun t4=>aA (ld 1 false t4 (adv s2 5)) fun t5=>aL mEv 148 [t5] (adv s2 5) fun t6 s3=>aA (aC 5 (.ptr s.nx 0)) fun t7=>aA (dN 1 t7 t6 s3) fun s4=>aA (aC 5 (.ptr s.nx 0)) fun t8=>aA (ld 1 false t8 (adv s4 4)) fun t9=>aA (bt .len #[31] [t9] (s4.nx+2) (adv s4 4)) fun r10=>∃ n,uK Q n (.ptr s.nx 0) (.ptr (s.nx+1) 0) r10.1 (.int .i64 0) r10.2)
theorem aVd (t0:AV) (s:St) {Q:aE} (h:f97 Q t0 s):dE 97 [t0] s Q:=aH (h:=97) (fn:=Tryz.f97) (c:=sub aLp []) (show aTy (sub aLp []) (aEk Q) aU (aEk Q)=_ from (aM (aM (aM (aOi Q) (aM (dC 0 (aKb Q _)) rfl)) rfl) rfl)) h
abbrev bHp:Code:=aJ Tryz.f98
abbrev bMa:=rK Tryz.f98
abbrev bOv:=aK mEv 98 (mEv.kp 98)
def f98 (Q:aE) (t0:AV) (s:St):Prop:=aA (bn .eql 153 t0 .nilp) fun t4=>aY t4
 (Q (.int .i64 0) (adv s 4))
 ((aQ t0=true /\
 aA (aC 1 t0) fun t7=>aA (ld 1 false t7 (adv s 9)) fun t8=>aA (bt .len #[72] [t8] (s.nx+7) (adv s 9)) fun r9=>Q r9.1 r9.2))
theorem UK (t0:AV) (s:St) {Q:aE} (h:f98 Q t0 s):dE 98 [t0] s Q:=aH (h:=98) (fn:=Tryz.f98) (c:=sub bHp []) (show bOv (sub bHp []) (bMa Q) aU (bMa Q)=_ from rfl) h
abbrev aXb:Code:=aJ Tryz.f100
abbrev aZd:=rK Tryz.f100
abbrev bLp:=aK mEv 100 (mEv.kp 100)
def f100 (Q:aE) (t0:AV) (s:St):Prop:=aA (bn .neq 153 t0 .nilp) fun t3=>aY t3
 ((aQ t0=true /\
 aA (aC 1 t0) fun t7=>aA (ld 1 false t7 (adv s 17)) fun t8=>(aQ t0=true /\
 aA (aC 0 t0) fun t11=>aA (ld 1 false t11 (adv s 17)) fun t12=>aA (bt .len #[49] [t12] (s.nx+11) (adv s 17)) fun r13=>aA (lE 72 1 [(0,r13.1)]) fun t14=>(r13.2.h (s.nx+13)=none/\aA (bt .append #[72,72] [t8,t14] (s.nx+13) r13.2) fun r15=>(aQ t0=true /\
 aA (aC 1 t0) fun t17=>(r15.2.h (s.nx+16)=none/\aA (dN 1 t17 r15.1 r15.2) fun s1=>Q (.tup []) s1))))))
 (Q (.tup []) (adv s 2))
theorem aIs (t0:AV) (s:St) {Q:aE} (h:f100 Q t0 s):dE 100 [t0] s Q:=aH (h:=100) (fn:=Tryz.f100) (c:=sub aXb []) (show bLp (sub aXb []) (aZd Q) aU (aZd Q)=_ from rfl) h
abbrev bAq:Code:=aJ Tryz.f101
abbrev aXs:=rK Tryz.f101
abbrev bMe:=aK mEv 101 (mEv.kp 101)
def f101 (Q:aE) (t0:AV) (s:St):Prop:=aA (bn .neq 155 t0 .nilp) fun t3=>aY t3
 ((aQ t0=true /\
 aA (aC 1 t0) fun t7=>aA (ld 1 false t7 (adv s 17)) fun t8=>(aQ t0=true /\
 aA (aC 0 t0) fun t11=>aA (ld 1 false t11 (adv s 17)) fun t12=>aA (bt .len #[31] [t12] (s.nx+11) (adv s 17)) fun r13=>aA (lE 72 1 [(0,r13.1)]) fun t14=>(r13.2.h (s.nx+13)=none/\aA (bt .append #[72,72] [t8,t14] (s.nx+13) r13.2) fun r15=>(aQ t0=true /\
 aA (aC 1 t0) fun t17=>(r15.2.h (s.nx+16)=none/\aA (dN 1 t17 r15.1 r15.2) fun s1=>Q (.tup []) s1))))))
 (Q (.tup []) (adv s 2))
theorem aLw (t0:AV) (s:St) {Q:aE} (h:f101 Q t0 s):dE 101 [t0] s Q:=aH (h:=101) (fn:=Tryz.f101) (c:=sub bAq []) (show bMe (sub bAq []) (aXs Q) aU (aXs Q)=_ from rfl) h
abbrev aXc:Code:=aJ Tryz.f102
abbrev bAn:=rK Tryz.f102
abbrev bGj:=aK mEv 102 (mEv.kp 102)
def f102 (Q:aE) (t0:AV) (s:St):Prop:=aL mEv 150 [t0] (adv s 3) fun t4 s1=>aL mEv 94 [t0] (adv s1 3) fun t6 s2=>Q t6 s2
theorem aLr (t0:AV) (s:St) {Q:aE} (h:f102 Q t0 s):dE 102 [t0] s Q:=aH (h:=102) (fn:=Tryz.f102) (c:=sub aXc []) (show bGj (sub aXc []) (bAn Q) aU (bAn Q)=_ from rfl) h
abbrev aYb:Code:=aJ Tryz.f103
abbrev bAe:=rK Tryz.f103
abbrev bGg:=aK mEv 103 (mEv.kp 103)
def f103 (Q:aE) (t0:AV) (s:St):Prop:=aL mEv 151 [t0] (adv s 3) fun t4 s1=>aL mEv 96 [t0] (adv s1 3) fun t6 s2=>Q t6 s2
theorem aIg (t0:AV) (s:St) {Q:aE} (h:f103 Q t0 s):dE 103 [t0] s Q:=aH (h:=103) (fn:=Tryz.f103) (c:=sub aYb []) (show bGg (sub aYb []) (bAe Q) aU (bAe Q)=_ from rfl) h
abbrev aYe:Code:=aJ Tryz.f190
abbrev aZc:=rK Tryz.f190
abbrev bHo:=aK mEv 190 (mEv.kp 190)
def f190 (Q:aE) (t0 t1:AV) (s:St):Prop:=(t1.cells.all AV.one=true /\
 let s1:St:=((adv s 1).set s.nx (some (.cells t1.cells 67 true true)))
 aA (bn .neq 153 t0 .nilp) fun t5=>aY t5
 ((aQ t0=true /\
 aA (aC 0 t0) fun t9=>aA (ld 1 false t9 (adv s1 13)) fun t10=>aA (ld 10 true (.ptr s.nx 0) (adv s1 13)) fun t11=>aA (lE 49 1 [(0,t11)]) fun t12=>((adv s1 13).h (s1.nx+9)=none/\aA (bt .append #[49,49] [t10,t12] (s1.nx+9) (adv s1 13)) fun r13=>(aQ t0=true /\
 aA (aC 0 t0) fun t15=>(r13.2.h (s1.nx+12)=none/\aA (dN 1 t15 r13.1 r13.2) fun s2=>Q (.tup []) s2)))))
 (Q (.tup []) (adv s1 2)))
theorem aNn (t0 t1:AV) (s:St) {Q:aE} (h:f190 Q t0 t1 s):dE 190 [t0,t1] s Q:=aH (h:=190) (fn:=Tryz.f190) (c:=sub aYe []) (show bHo (sub aYe []) (aZc Q) aU (aZc Q)=_ from rfl) h
abbrev bBn:Code:=aJ Tryz.f191
abbrev bBl:=rK Tryz.f191
abbrev bLf:=aK mEv 191 (mEv.kp 191)
def f191 (Q:aE) (t0:AV) (s:St):Prop:=aA (bn .lss 3 t0 (.int .i64 1)) fun t4=>Gd (aD t4 false) (adv s 8) (fun k=>k t0 (adv s 8)) fun t6 s1=>Gd (aD t4 false) s1 (fun k=>aA (bn .gtr 3 t6 (.int .i64 3)) fun v=>k v s1) fun t7 s2=>aA (aV t4 (.bool true) t7) fun t8=>Q t8 s2
theorem aPd (t0:AV) (s:St) {Q:aE} (h:f191 Q t0 s):dE 191 [t0] s Q:=aH (h:=191) (fn:=Tryz.f191) (c:=sub bBn []) (show bLf (sub bBn []) (bBl Q) aU (bBl Q)=_ from rfl) h
abbrev aZu:Code:=aJ Tryz.f194
abbrev aZj:=rK Tryz.f194
abbrev bMd:=aK mEv 194 (mEv.kp 194)
def f194 (Q:aE) (t0 t1:AV) (s:St):Prop:=aL mEv 223 [t0,t1] (adv s 6) fun t7 s1=>aA (bn .geq 3 t7 (.int .i64 0)) fun t8=>Q t8 s1
theorem aKa (t0 t1:AV) (s:St) {Q:aE} (h:f194 Q t0 t1 s):dE 194 [t0,t1] s Q:=aH (h:=194) (fn:=Tryz.f194) (c:=sub aZu []) (show bMd (sub aZu []) (aZj Q) aU (aZj Q)=_ from rfl) h
abbrev bBa:Code:=aJ Tryz.f195
abbrev aZm:=rK Tryz.f195
abbrev bIu:=aK mEv 195 (mEv.kp 195)
def f195 (Q:aE) (t0 t1:AV) (s:St):Prop:=(t0.cells.all AV.one=true /\
 let s1:St:=((adv s 2).set s.nx (some (.cells t0.cells 151 true true)))
 aA (ld 1 false t1 (adv s1 5)) fun t4=>aA (aC 1 (.ptr s.nx 0)) fun t5=>aA (ld 1 false t5 (adv s1 5)) fun t6=>sK mEv 195 t4 [t6] (adv s1 5) fun t7 s2=>Q t7 s2)
theorem aPw (t0 t1:AV) (s:St) {Q:aE} (h:f195 Q t0 t1 s):dE 195 [t0,t1] s Q:=aH (h:=195) (fn:=Tryz.f195) (c:=sub bBa []) (show bIu (sub bBa []) (aZm Q) aU (aZm Q)=_ from rfl) h
abbrev bBs:Code:=aJ Tryz.f196
abbrev bAc:=rK Tryz.f196
abbrev bGx:=aK mEv 196 (mEv.kp 196)
def f196 (Q:aE) (t0:AV) (s:St):Prop:=aA (zr 67) fun z2=>let s1:St:=((adv s 2).set s.nx (some (.cells z2.cells 67 true true)))
 aA (zr 67) fun z4=>let s2:St:=((adv s1 1).set s1.nx (some (.cells z4.cells 67 true true)))
 aA (bn .eql 153 t0 .nilp) fun t8=>Gd (aD t8 false) (adv s2 12) (fun k=>k t0 (adv s2 12)) fun t10 s3=>Gd (aD t8 false) s3 (fun k=>aQ t10=true/\k t10 s3) fun t11 s4=>Gd (aD t8 false) s4 (fun k=>aA (aC 0 t11) fun v=>k v s4) fun t12 s5=>Gd (aD t8 false) s5 (fun k=>aA (ld 1 false t12 s5) fun v=>k v s5) fun t13 s6=>Gd (aD t8 false) s6 (fun k=>aA (bt .len #[49] [t13] (s2.nx+7) s6) fun r=>k r.1 r.2) fun t14 s7=>Gd (aD t8 false) s7 (fun k=>k t0 s7) fun t15 s8=>Gd (aD t8 false) s8 (fun k=>eL mEv 224 [t15] (rch s8 [(.fn 224 [] []),t15]) s8 k) fun t16 s9=>Gd (aD t8 false) s9 (fun k=>aA (bn .eql 3 t14 t16) fun v=>k v s9) fun t17 s10=>aA (aV t8 (.bool true) t17) fun t18=>aY t18
 (aA (ld 10 true (.ptr s1.nx 0) (adv s10 3)) fun t19=>aA (dN 10 (.ptr s.nx 0) t19 (adv s10 3)) fun s11=>pC ((sT [ld 10 true (.ptr s.nx 0) s11,some (.bool false)]).map xG) fun v=>Q v s11)
 ((aQ t0=true /\
 aA (aC 0 t0) fun t22=>aA (ld 1 false t22 (adv s10 7)) fun t23=>aA (bt .len #[49] [t23] (s10.nx+4) (adv s10 7)) fun r24=>aA (bn .sub 3 r24.1 (.int .i64 1)) fun t25=>(aQ t0=true /\
 aA (aC 0 t0) fun t28=>aA (ld 1 false t28 (adv r24.2 9)) fun t29=>aA (cB 10 t29 t25) fun t31=>aA (ld 10 true t31 (adv r24.2 9)) fun t32=>aA (zr 67) fun z6=>let s12:St:=((adv r24.2 9).set (r24.2.nx+7) (some (.cells z6.cells 67 true true)))
 aA (dN 10 (.ptr (r24.2.nx+7) 0) t32 s12) fun s13=>(aQ t0=true /\
 aA (aC 0 t0) fun t35=>aA (ld 1 false t35 (adv s13 8)) fun t36=>aA (ld 10 true (.ptr s1.nx 0) (adv s13 8)) fun t38=>aA (cB 10 t36 t25) fun t39=>((adv s13 8).h (s13.nx+7)=none/\aA (dN 10 t39 t38 (adv s13 8)) fun s14=>(aQ t0=true /\
 aA (aC 0 t0) fun t43=>aA (ld 1 false t43 (adv s14 10)) fun t44=>aA (lT 49 t44 none (some t25) none (adv s14 10)) fun t46=>(aQ t0=true /\
 aA (aC 0 t0) fun t48=>aA (dN 1 t48 t46 (adv s14 10)) fun s15=>aA (ld 10 true (.ptr (r24.2.nx+7) 0) (adv s15 3)) fun t49=>aA (dN 10 (.ptr s.nx 0) t49 (adv s15 3)) fun s16=>pC ((sT [ld 10 true (.ptr s.nx 0) s16,some (.bool true)]).map xG) fun v=>Q v s16)))))))
theorem aKj (t0:AV) (s:St) {Q:aE} (h:f196 Q t0 s):dE 196 [t0] s Q:=aH (h:=196) (fn:=Tryz.f196) (c:=sub bBs []) (show bGx (sub bBs []) (bAc Q) aU (bAc Q)=_ from rfl) h
abbrev bBv:Code:=aJ Tryz.f197
abbrev aXp:=rK Tryz.f197
abbrev bKr:=aK mEv 197 (mEv.kp 197)
def f197 (Q:aE) (t0:AV) (s:St):Prop:=aA (bn .eql 155 t0 .nilp) fun t4=>aY t4
 (Q (.int .i64 0) (adv s 4))
 ((aQ t0=true /\
 aA (aC 1 t0) fun t7=>aA (ld 1 false t7 (adv s 9)) fun t8=>aA (bt .len #[72] [t8] (s.nx+7) (adv s 9)) fun r9=>Q r9.1 r9.2))
theorem aIb (t0:AV) (s:St) {Q:aE} (h:f197 Q t0 s):dE 197 [t0] s Q:=aH (h:=197) (fn:=Tryz.f197) (c:=sub bBv []) (show bKr (sub bBv []) (aXp Q) aU (aXp Q)=_ from rfl) h
abbrev bAv:Code:=aJ Tryz.f198
abbrev bAz:=rK Tryz.f198
abbrev bGu:=aK mEv 198 (mEv.kp 198)
def f198 (Q:aE) (t0:AV) (s:St):Prop:=aA (zr 33) fun z2=>let s1:St:=((adv s 2).set s.nx (some (.cells z2.cells 33 true true)))
 aA (zr 33) fun z4=>let s2:St:=((adv s1 1).set s1.nx (some (.cells z4.cells 33 true true)))
 aA (bn .eql 155 t0 .nilp) fun t8=>Gd (aD t8 false) (adv s2 12) (fun k=>k t0 (adv s2 12)) fun t10 s3=>Gd (aD t8 false) s3 (fun k=>aQ t10=true/\k t10 s3) fun t11 s4=>Gd (aD t8 false) s4 (fun k=>aA (aC 0 t11) fun v=>k v s4) fun t12 s5=>Gd (aD t8 false) s5 (fun k=>aA (ld 1 false t12 s5) fun v=>k v s5) fun t13 s6=>Gd (aD t8 false) s6 (fun k=>aA (bt .len #[31] [t13] (s2.nx+7) s6) fun r=>k r.1 r.2) fun t14 s7=>Gd (aD t8 false) s7 (fun k=>k t0 s7) fun t15 s8=>Gd (aD t8 false) s8 (fun k=>eL mEv 225 [t15] (rch s8 [(.fn 225 [] []),t15]) s8 k) fun t16 s9=>Gd (aD t8 false) s9 (fun k=>aA (bn .eql 3 t14 t16) fun v=>k v s9) fun t17 s10=>aA (aV t8 (.bool true) t17) fun t18=>aY t18
 (aA (ld 6 true (.ptr s1.nx 0) (adv s10 3)) fun t19=>aA (dN 6 (.ptr s.nx 0) t19 (adv s10 3)) fun s11=>pC ((sT [ld 6 true (.ptr s.nx 0) s11,some (.bool false)]).map xG) fun v=>Q v s11)
 ((aQ t0=true /\
 aA (aC 0 t0) fun t22=>aA (ld 1 false t22 (adv s10 7)) fun t23=>aA (bt .len #[31] [t23] (s10.nx+4) (adv s10 7)) fun r24=>aA (bn .sub 3 r24.1 (.int .i64 1)) fun t25=>(aQ t0=true /\
 aA (aC 0 t0) fun t28=>aA (ld 1 false t28 (adv r24.2 9)) fun t29=>aA (cB 6 t29 t25) fun t31=>aA (ld 6 true t31 (adv r24.2 9)) fun t32=>aA (zr 33) fun z6=>let s12:St:=((adv r24.2 9).set (r24.2.nx+7) (some (.cells z6.cells 33 true true)))
 aA (dN 6 (.ptr (r24.2.nx+7) 0) t32 s12) fun s13=>(aQ t0=true /\
 aA (aC 0 t0) fun t35=>aA (ld 1 false t35 (adv s13 8)) fun t36=>aA (ld 6 true (.ptr s1.nx 0) (adv s13 8)) fun t38=>aA (cB 6 t36 t25) fun t39=>((adv s13 8).h (s13.nx+7)=none/\aA (dN 6 t39 t38 (adv s13 8)) fun s14=>(aQ t0=true /\
 aA (aC 0 t0) fun t43=>aA (ld 1 false t43 (adv s14 10)) fun t44=>aA (lT 31 t44 none (some t25) none (adv s14 10)) fun t46=>(aQ t0=true /\
 aA (aC 0 t0) fun t48=>aA (dN 1 t48 t46 (adv s14 10)) fun s15=>aA (ld 6 true (.ptr (r24.2.nx+7) 0) (adv s15 3)) fun t49=>aA (dN 6 (.ptr s.nx 0) t49 (adv s15 3)) fun s16=>pC ((sT [ld 6 true (.ptr s.nx 0) s16,some (.bool true)]).map xG) fun v=>Q v s16)))))))
theorem aPo (t0:AV) (s:St) {Q:aE} (h:f198 Q t0 s):dE 198 [t0] s Q:=aH (h:=198) (fn:=Tryz.f198) (c:=sub bAv []) (show bGu (sub bAv []) (bAz Q) aU (bAz Q)=_ from rfl) h
abbrev OU:Code:=aJ Tryz.f223
abbrev HF:=rK Tryz.f223
abbrev XR:=aK mEv 223 (mEv.kp 223)
def BH (Q:aE) (s:St):Prop:=Q (.int .i64 (-1)) (adv s 1)
def SO (Q:aE) (ih1:AV->AV->AV->aE) (t8 t0 t1 t7:AV) (s:St):Prop:=aA (bn .add 3 t8 (.int .i64 1)) fun t18=>ih1 t0 t1 t7 t18 (adv s 2)
def vK (Q:aE) (ih1:AV->AV->AV->aE) (t0 t1 t7 t8:AV) (s:St):Prop:=aA (bn .lss 3 t8 t7) fun t9=>aY t9
 (aA (cB 2 t0 t8) fun t14=>aA (ld 2 true t14 (adv s 9)) fun t15=>sK mEv 223 t1 [t15] (adv s 9) fun t16 s1=>aY t16
 (Q t8 (adv s1 2))
 (SO Q ih1 t8 t0 t1 t7 s1))
 (BH Q (adv s 1))
def pS (Q:aE) (n:Nat):AV->AV->AV->aE:=jX (fun _ _ _ _ _ =>False) (fun ih=>vK Q ih) n
theorem ZQ (Q:aE):XR (sub OU [Y,Y]) (HF Q) aU (HF Q)=(fun g s=>BH Q s):=Eq.trans rfl (by kernel_rfl)
theorem YI (Q:aE) (n1:Nat):XR (sub OU [Y,N,Y,N,N,Y,Y,Y]) (kV (fun n g s=>pS Q n (g 0) (g 1) (g 7) (g 8) s) 223 n1) (cN 0 (fun g s=>BH Q s) aU) (HF Q)=(fun g s=>SO Q (pS Q n1) (g 8) (g 0) (g 1) (g 7) s):=Eq.trans rfl (by kernel_rfl)
theorem ZB (Q:aE) (kN:Kt):XR (sub OU [Y,N,Y,N]) kN (cN 0 (fun g s=>BH Q s) aU) (HF Q)=fun g s=>∃ n,pS Q n (g 0) (g 1) (g 7) (g 8) s:=kG (L:=fun n g s=>pS Q n (g 0) (g 1) (g 7) (g 8) s) (fun n1=>Eq.trans (aM (aM (aM (YI Q n1) (dC 1 rfl)) rfl) rfl) (by kernel_rfl))
def f223 (Q:aE) (t0 t1:AV) (s:St):Prop:=aA (bt .len #[65] [t0] (s.nx+2) (adv s 4)) fun r7=>∃ n,pS Q n t0 t1 r7.1 (.int .i64 0) r7.2
theorem aPc (t0 t1:AV) (s:St) {Q:aE} (h:f223 Q t0 t1 s):dE 223 [t0,t1] s Q:=aH (h:=223) (fn:=Tryz.f223) (c:=sub OU []) (show XR (sub OU []) (HF Q) aU (HF Q)=_ from (aM (aM (ZQ Q) (aM (dC 0 (ZB Q _)) rfl)) rfl)) h
abbrev bBy:Code:=aJ Tryz.f224
abbrev bBz:=rK Tryz.f224
abbrev bJm:=aK mEv 224 (mEv.kp 224)
def f224 (Q:aE) (t0:AV) (s:St):Prop:=aA (bn .eql 153 t0 .nilp) fun t4=>Gd (aD t4 false) (adv s 11) (fun k=>k t0 (adv s 11)) fun t6 s1=>Gd (aD t4 false) s1 (fun k=>aQ t6=true/\k t6 s1) fun t7 s2=>Gd (aD t4 false) s2 (fun k=>aA (aC 1 t7) fun v=>k v s2) fun t8 s3=>Gd (aD t4 false) s3 (fun k=>aA (ld 1 false t8 s3) fun v=>k v s3) fun t9 s4=>Gd (aD t4 false) s4 (fun k=>aA (bt .len #[72] [t9] (s.nx+8) s4) fun r=>k r.1 r.2) fun t10 s5=>Gd (aD t4 false) s5 (fun k=>aA (bn .eql 3 t10 (.int .i64 0)) fun v=>k v s5) fun t11 s6=>aA (aV t4 (.bool true) t11) fun t12=>aY t12
 (Q (.int .i64 0) (adv s6 1))
 ((aQ t0=true /\
 aA (aC 1 t0) fun t15=>aA (ld 1 false t15 (adv s6 13)) fun t16=>(aQ t0=true /\
 aA (aC 1 t0) fun t19=>aA (ld 1 false t19 (adv s6 13)) fun t20=>aA (bt .len #[72] [t20] (s6.nx+8) (adv s6 13)) fun r21=>aA (bn .sub 3 r21.1 (.int .i64 1)) fun t22=>aA (cB 1 t16 t22) fun t23=>aA (ld 1 false t23 r21.2) fun t24=>Q t24 r21.2)))
theorem aJk (t0:AV) (s:St) {Q:aE} (h:f224 Q t0 s):dE 224 [t0] s Q:=aH (h:=224) (fn:=Tryz.f224) (c:=sub bBy []) (show bJm (sub bBy []) (bBz Q) aU (bBz Q)=_ from rfl) h
abbrev aYl:Code:=aJ Tryz.f225
abbrev aXg:=rK Tryz.f225
abbrev bHv:=aK mEv 225 (mEv.kp 225)
def f225 (Q:aE) (t0:AV) (s:St):Prop:=aA (bn .eql 155 t0 .nilp) fun t4=>Gd (aD t4 false) (adv s 11) (fun k=>k t0 (adv s 11)) fun t6 s1=>Gd (aD t4 false) s1 (fun k=>aQ t6=true/\k t6 s1) fun t7 s2=>Gd (aD t4 false) s2 (fun k=>aA (aC 1 t7) fun v=>k v s2) fun t8 s3=>Gd (aD t4 false) s3 (fun k=>aA (ld 1 false t8 s3) fun v=>k v s3) fun t9 s4=>Gd (aD t4 false) s4 (fun k=>aA (bt .len #[72] [t9] (s.nx+8) s4) fun r=>k r.1 r.2) fun t10 s5=>Gd (aD t4 false) s5 (fun k=>aA (bn .eql 3 t10 (.int .i64 0)) fun v=>k v s5) fun t11 s6=>aA (aV t4 (.bool true) t11) fun t12=>aY t12
 (Q (.int .i64 0) (adv s6 1))
 ((aQ t0=true /\
 aA (aC 1 t0) fun t15=>aA (ld 1 false t15 (adv s6 13)) fun t16=>(aQ t0=true /\
 aA (aC 1 t0) fun t19=>aA (ld 1 false t19 (adv s6 13)) fun t20=>aA (bt .len #[72] [t20] (s6.nx+8) (adv s6 13)) fun r21=>aA (bn .sub 3 r21.1 (.int .i64 1)) fun t22=>aA (cB 1 t16 t22) fun t23=>aA (ld 1 false t23 r21.2) fun t24=>Q t24 r21.2)))
theorem aMy (t0:AV) (s:St) {Q:aE} (h:f225 Q t0 s):dE 225 [t0] s Q:=aH (h:=225) (fn:=Tryz.f225) (c:=sub aYl []) (show bHv (sub aYl []) (aXg Q) aU (aXg Q)=_ from rfl) h
end
noncomputable section
abbrev BQ:Code:=aJ Tryz.f175
abbrev yW:=rK Tryz.f175
abbrev HC:=aK mEv 175 (mEv.kp 175)
def tY (Q:aE) (s:St):Prop:=Q (.tup [(.int .i64 0),(.bool false)]) (adv s 2)
def tM (Q:aE) (ih1:AV->AV->aE) (t6 t0 t1:AV) (s:St):Prop:=aA (bn .sub 3 t6 (.int .i64 1)) fun t17=>ih1 t0 t1 t17 (adv s 3)
def TG (Q:aE) (ih1:AV->AV->aE) (ih2:AV->AV->AV->aE) (t7 t0 t1 t6:AV) (s:St):Prop:=aA (bn .sub 3 t7 (.int .i64 1)) fun t31=>ih2 t0 t1 t6 t31 (adv s 3)
def uG (Q:aE) (ih1:AV->AV->aE) (ih2:AV->AV->AV->aE) (t0 t1 t6 t7:AV) (s:St):Prop:=aA (bn .geq 3 t7 (.int .i64 0)) fun t29=>aY t29
 ((aQ t0=true /\
 aA (aC 2 t0) fun t34=>aA (ld 1 false t34 (adv s 15)) fun t35=>aA (cB 2 t35 t6) fun t37=>aA (aC 0 t37) fun t38=>aA (ld 1 false t38 (adv s 15)) fun t39=>aA (cB 1 t39 t7) fun t41=>aA (ld 1 false t41 (adv s 15)) fun t42=>aA (bn .eql 9 t42 t1) fun t44=>aY t44
 ((aQ t0=true /\
 aA (aC 2 t0) fun t47=>aA (ld 1 false t47 (adv s 28)) fun t48=>aA (cB 2 t48 t6) fun t50=>aA (aC 1 t50) fun t51=>aA (ld 1 false t51 (adv s 28)) fun t52=>aA (cB 1 t52 t7) fun t54=>aA (ld 1 false t54 (adv s 28)) fun t55=>Q (.tup [t55,(.bool true)]) (adv s 28)))
 (TG Q ih1 ih2 t7 t0 t1 t6 (adv s 15))))
 (tM Q ih1 t6 t0 t1 (adv s 2))
def pL (Q:aE) (ih1:AV->AV->aE) (n:Nat):AV->AV->AV->aE:=jX (fun _ _ _ _ _ =>False) (fun ih=>uG Q ih1 ih) n
def vX (Q:aE) (ih1:AV->AV->aE) (t0 t1 t6:AV) (s:St):Prop:=aA (bn .geq 3 t6 (.int .i64 0)) fun t15=>aY t15
 ((aQ t0=true /\
 aA (aC 2 t0) fun t20=>aA (ld 1 false t20 (adv s 13)) fun t21=>aA (cB 2 t21 t6) fun t23=>aA (aC 0 t23) fun t24=>aA (ld 1 false t24 (adv s 13)) fun t25=>aA (bt .len #[52] [t25] (s.nx+10) (adv s 13)) fun r26=>aA (bn .sub 3 r26.1 (.int .i64 1)) fun t27=>∃ n,pL Q ih1 n t0 t1 t6 t27 r26.2))
 (tY Q (adv s 2))
def fR (Q:aE) (n:Nat):AV->AV->aE:=jX (fun _ _ _ _ =>False) (fun ih=>vX Q ih) n
theorem aDf (Q:aE):HC (sub BQ [Y,Y]) (yW Q) aU (yW Q)=(fun g s=>tY Q s):=Eq.trans rfl (by kernel_rfl)
theorem aEh (Q:aE) (n1:Nat):HC (sub BQ [Y,N,Y,N,N,Y,Y]) (kV (fun n g s=>fR Q n (g 0) (g 1) (g 6) s) 175 n1) (cN 0 (fun g s=>tY Q s) aU) (yW Q)=(fun g s=>tM Q (fR Q n1) (g 6) (g 0) (g 1) s):=Eq.trans rfl (by kernel_rfl)
theorem aCw (Q:aE) (n1:Nat) (n2:Nat):HC (sub BQ [Y,N,Y,N,N,Y,N,N,Y,N,N,Y,Y]) (kV (fun n g s=>pL Q (fR Q n1) n (g 0) (g 1) (g 6) (g 7) s) 175 n2) (cN 2 (fun g s=>tM Q (fR Q n1) (g 6) (g 0) (g 1) s) (cN 1 (fun g s=>tM Q (fR Q n1) (g 6) (g 0) (g 1) s) (cN 0 (fun g s=>tY Q s) aU))) (yW Q)=(fun g s=>TG Q (fR Q n1) (pL Q (fR Q n1) n2) (g 7) (g 0) (g 1) (g 6) s):=Eq.trans rfl (by kernel_rfl)
theorem aDq (Q:aE) (n1:Nat) (kN:Kt):HC (sub BQ [Y,N,Y,N,N,Y,N,N,Y,N]) kN (cN 2 (fun g s=>tM Q (fR Q n1) (g 6) (g 0) (g 1) s) (cN 1 (fun g s=>tM Q (fR Q n1) (g 6) (g 0) (g 1) s) (cN 0 (fun g s=>tY Q s) aU))) (yW Q)=fun g s=>∃ n,pL Q (fR Q n1) n (g 0) (g 1) (g 6) (g 7) s:=kG (L:=fun n g s=>pL Q (fR Q n1) n (g 0) (g 1) (g 6) (g 7) s) (fun n2=>Eq.trans (aM (aM (aCw Q n1 n2) (dC 3 rfl)) rfl) (by kernel_rfl))
theorem aBq (Q:aE) (kN:Kt):HC (sub BQ [Y,N,Y,N]) kN (cN 0 (fun g s=>tY Q s) aU) (yW Q)=fun g s=>∃ n,fR Q n (g 0) (g 1) (g 6) s:=kG (L:=fun n g s=>fR Q n (g 0) (g 1) (g 6) s) (fun n1=>Eq.trans (aM (aM (aEh Q n1) (dC 1 (aM (dC 2 (aDq Q n1 _)) rfl))) rfl) (by kernel_rfl))
def f175 (Q:aE) (t0 t1:AV) (s:St):Prop:=(aQ t0=true /\
 aA (aC 2 t0) fun t10=>aA (ld 1 false t10 (adv s 9)) fun t11=>aA (bt .len #[122] [t11] (s.nx+6) (adv s 9)) fun r12=>aA (bn .sub 3 r12.1 (.int .i64 1)) fun t13=>∃ n,fR Q n t0 t1 t13 r12.2)
theorem aJj (t0 t1:AV) (s:St) {Q:aE} (h:f175 Q t0 t1 s):dE 175 [t0,t1] s Q:=aH (h:=175) (fn:=Tryz.f175) (c:=sub BQ []) (show HC (sub BQ []) (yW Q) aU (yW Q)=_ from (aM (aM (aDf Q) (aM (dC 0 (aBq Q _)) rfl)) rfl)) h
abbrev LY:Code:=aJ Tryz.f174
abbrev GN:=rK Tryz.f174
abbrev XL:=aK mEv 174 (mEv.kp 174)
def BT (Q:aE) (s:St):Prop:=Q (.int .i64 (-1)) (adv s 1)
def RT (Q:aE) (ih1:AV->AV->aE) (t5 t0 t1:AV) (s:St):Prop:=aA (bn .sub 3 t5 (.int .i64 1)) fun t15=>ih1 t0 t1 t15 (adv s 3)
def wL (Q:aE) (ih1:AV->AV->aE) (t0 t1 t5:AV) (s:St):Prop:=aA (bn .geq 3 t5 (.int .i64 0)) fun t13=>aY t13
 ((aQ t0=true /\
 aA (aC 1 t0) fun t18=>aA (ld 1 false t18 (adv s 12)) fun t19=>aA (cB 10 t19 t5) fun t21=>aA (aC 0 t21) fun t22=>aA (ld 1 false t22 (adv s 12)) fun t23=>aA (bn .eql 9 t23 t1) fun t25=>aY t25
 (Q t5 (adv s 14))
 (RT Q ih1 t5 t0 t1 (adv s 12))))
 (BT Q (adv s 2))
def qZ (Q:aE) (n:Nat):AV->AV->aE:=jX (fun _ _ _ _ =>False) (fun ih=>wL Q ih) n
theorem aCq (Q:aE):XL (sub LY [Y,Y]) (GN Q) aU (GN Q)=(fun g s=>BT Q s):=Eq.trans rfl (by kernel_rfl)
theorem aBm (Q:aE) (n1:Nat):XL (sub LY [Y,N,Y,N,N,Y,Y]) (kV (fun n g s=>qZ Q n (g 0) (g 1) (g 5) s) 174 n1) (cN 0 (fun g s=>BT Q s) aU) (GN Q)=(fun g s=>RT Q (qZ Q n1) (g 5) (g 0) (g 1) s):=Eq.trans rfl (by kernel_rfl)
theorem aCu (Q:aE) (kN:Kt):XL (sub LY [Y,N,Y,N]) kN (cN 0 (fun g s=>BT Q s) aU) (GN Q)=fun g s=>∃ n,qZ Q n (g 0) (g 1) (g 5) s:=kG (L:=fun n g s=>qZ Q n (g 0) (g 1) (g 5) s) (fun n1=>Eq.trans (aM (aM (aBm Q n1) (dC 1 rfl)) rfl) (by kernel_rfl))
def f174 (Q:aE) (t0 t1:AV) (s:St):Prop:=(aQ t0=true /\
 aA (aC 1 t0) fun t8=>aA (ld 1 false t8 (adv s 8)) fun t9=>aA (bt .len #[49] [t9] (s.nx+5) (adv s 8)) fun r10=>aA (bn .sub 3 r10.1 (.int .i64 1)) fun t11=>∃ n,qZ Q n t0 t1 t11 r10.2)
theorem aQj (t0 t1:AV) (s:St) {Q:aE} (h:f174 Q t0 t1 s):dE 174 [t0,t1] s Q:=aH (h:=174) (fn:=Tryz.f174) (c:=sub LY []) (show XL (sub LY []) (GN Q) aU (GN Q)=_ from (aM (aM (aCq Q) (aM (dC 0 (aCu Q _)) rfl)) rfl)) h
abbrev PT:Code:=aJ Tryz.f177
abbrev GQ:=rK Tryz.f177
abbrev WZ:=aK mEv 177 (mEv.kp 177)
def CU (Q:aE) (t6:AV) (s:St):Prop:=Q (.tup [t6,(.int .i64 0)]) (adv s 3)
def RS (Q:aE) (ih1:AV->AV->AV->AV->aE) (t13 t1 t6 t11 t12:AV) (s:St):Prop:=aA (bn .add 3 t13 (.int .i64 1)) fun t30=>ih1 t1 t6 t11 t12 t30 (adv s 2)
def uM (Q:aE) (ih1:AV->AV->AV->AV->aE) (t1 t6 t11 t12 t13:AV) (s:St):Prop:=aA (bn .lss 3 t13 t12) fun t14=>aY t14
 (aA (cB 6 t11 t13) fun t15=>aA (ld 6 true t15 (adv s 5)) fun t16=>aA (zr 33) fun z8=>aA (dN 6 (.ptr (s.nx+3) 0) t16 ((adv s 5).set (s.nx+3) (some (.cells z8.cells 33 true true)))) fun s1=>aA (ld 6 true (.ptr (s.nx+3) 0) (adv s1 8)) fun t19=>sK mEv 177 t1 [t19] (adv s1 8) fun t20 s2=>aA (aW t20 0) fun t21=>aA (aW t20 1) fun t22=>aA (bn .neq 34 t22 (.int .i64 0)) fun t24=>aY t24
 (Q (.tup [.nils,t22]) (adv s2 5))
 (aA (lE 72 1 [(0,t21)]) fun t28=>aA (bt .append #[72,72] [t6,t28] (s2.nx+5) (adv s2 7)) fun r29=>RS Q ih1 t13 t1 r29.1 t11 t12 r29.2))
 (CU Q t6 (adv s 1))
def rC (Q:aE) (n:Nat):AV->AV->AV->AV->aE:=jX (fun _ _ _ _ _ _ =>False) (fun ih=>uM Q ih) n
theorem aCk (Q:aE):WZ (sub PT [Y,Y,Y]) (GQ Q) aU (GQ Q)=(fun g s=>CU Q (g 6) s):=Eq.trans rfl (by kernel_rfl)
theorem aCh (Q:aE) (n1:Nat):WZ (sub PT [Y,Y,N,Y,N,N,Y,Y,Y]) (kV (fun n g s=>rC Q n (g 1) (g 6) (g 11) (g 12) (g 13) s) 177 n1) (cN 0 (fun g s=>CU Q (g 6) s) aU) (GQ Q)=(fun g s=>RS Q (rC Q n1) (g 13) (g 1) (g 6) (g 11) (g 12) s):=Eq.trans rfl (by kernel_rfl)
theorem aCt (Q:aE) (kN:Kt):WZ (sub PT [Y,Y,N,Y,N]) kN (cN 0 (fun g s=>CU Q (g 6) s) aU) (GQ Q)=fun g s=>∃ n,rC Q n (g 1) (g 6) (g 11) (g 12) (g 13) s:=kG (L:=fun n g s=>rC Q n (g 1) (g 6) (g 11) (g 12) (g 13) s) (fun n1=>Eq.trans (aM (aM (aM (aCh Q n1) (dC 1 rfl)) rfl) rfl) (by kernel_rfl))
def f177 (Q:aE) (t0 t1:AV) (s:St):Prop:=aA (bt .len #[31] [t0] (s.nx+4) (adv s 6)) fun r12=>∃ n,rC Q n t1 .nils t0 r12.1 (.int .i64 0) r12.2
theorem aMb (t0 t1:AV) (s:St) {Q:aE} (h:f177 Q t0 t1 s):dE 177 [t0,t1] s Q:=aH (h:=177) (fn:=Tryz.f177) (c:=sub PT []) (show WZ (sub PT []) (GQ Q) aU (GQ Q)=_ from (aM (aM (aM (aCk Q) (aM (dC 0 (aCt Q _)) rfl)) rfl) rfl)) h
abbrev HN:Code:=aJ Tryz.f178
abbrev zB:=rK Tryz.f178
abbrev MN:=aK mEv 178 (mEv.kp 178)
def EJ (Q:aE) (t19 t20:AV) (s:St):Prop:=Q (.tup [t19,t20]) (adv s 4)
def tA (Q:aE) (t1 t9 t0 t10 t8:AV) (s:St):Prop:=aN mEv 206 [t1] (adv s 4) fun t78 s1=>aA (bn .add 9 (.str [102]) t78) fun t79=>aL mEv 156 [t9,t79] s1 fun t80 s2=>(aQ t0=true /\
 aA (aC 3 t0) fun t84=>aA (ld 1 false t84 (adv s2 11)) fun t85=>(clear 0 ⟨4,true,rch (adv s2 11) [(.fn 108 [] []),t9],some (adv s2 11).nx⟩ [⟨3,false,aF t84,none⟩,⟨2,false,[],none⟩,⟨1,false,[],none⟩,⟨0,false,[],none⟩]=true/\cH mEv 108 [t9] (rch (adv s2 11) [(.fn 108 [] []),t9]) (adv s2 11) fun t86 s3=>aA (eA Tryz.ty 53 t85 t86 true s3) fun t87=>aA (aW t87 0) fun t88=>aA (aW t87 1) fun t89=>aY t89
 (Q (.tup [t88,(.int .i64 0)]) (adv s3 4))
 ((aQ t0=true /\
 aA (aC 2 t0) fun t94=>aA (ld 1 false t94 (adv s3 11)) fun t95=>(aQ t0=true /\
 aA (aC 1 t0) fun t98=>aA (ld 1 false t98 (adv s3 11)) fun t99=>aA (ld 2 true t10 (adv s3 24)) fun t102=>aA (lE 122 1 [(0,t102)]) fun t103=>aA (lT 49 t99 none (some t1) none (adv s3 24)) fun t106=>(aQ t0=true /\
 aA (aC 2 t0) fun t108=>(clear 397 ⟨9,true,(s3.nx+20)::aF t108,none⟩ [⟨8,false,[],none⟩,⟨7,false,[],none⟩,⟨6,false,aF t99,none⟩,⟨5,false,[],none⟩,⟨4,false,[],none⟩,⟨3,false,[],none⟩,⟨2,false,aF t10,none⟩,⟨1,false,[],none⟩,⟨0,false,[],none⟩]=true/\(adv s3 24).h (s3.nx+20)=none/\aA (dN 1 t108 t103 (adv s3 24)) fun s4=>(aQ t0=true /\
 aA (aC 1 t0) fun t110=>(s4.h (s3.nx+23)=none/\aA (dN 1 t110 t106 s4) fun s5=>aA (aC 4 t8) fun t113=>aA (ld 6 true t113 (adv s5 9)) fun t114=>aL mEv 75 [t0,t114] (adv s5 9) fun t115 s6=>aA (aW t115 0) fun t116=>aA (aW t115 1) fun t117=>(aQ t0=true /\
 aA (aC 2 t0) fun t123=>aA (dN 1 t123 t95 (adv s6 10)) fun s7=>(aQ t0=true /\
 aA (aC 1 t0) fun t125=>aA (dN 1 t125 t99 s7) fun s8=>aA (bn .eql 34 t117 (.int .i64 0)) fun t127=>aY t127
 ((aQ t0=true /\
 aA (aC 3 t0) fun t130=>aA (ld 1 false t130 (adv s8 9)) fun t131=>(clear 0 ⟨4,true,rch (adv s8 9) [(.fn 108 [] []),t9],some (adv s8 9).nx⟩ [⟨3,false,aF t130,none⟩,⟨2,false,[],none⟩,⟨1,false,[],none⟩,⟨0,false,[],none⟩]=true/\cH mEv 108 [t9] (rch (adv s8 9) [(.fn 108 [] []),t9]) (adv s8 9) fun t132 s9=>(s9.h (s8.nx+8)=none/\aA (eI Tryz.ty 53 t131 t132 t116 s9) fun s10=>EJ Q t116 t117 s10))))
 (EJ Q t116 t117 (adv s8 2)))))))))))))
def RX (Q:aE) (ih1:AV->AV->AV->AV->AV->AV->AV->AV->aE) (t40 t0 t1 t2 t8 t9 t10 t38 t39:AV) (s:St):Prop:=aA (bn .add 3 t40 (.int .i64 1)) fun t76=>ih1 t0 t1 t2 t8 t9 t10 t38 t39 t76 (adv s 2)
def uH (Q:aE) (ih1:AV->AV->AV->AV->AV->AV->AV->AV->aE) (t0 t1 t2 t8 t9 t10 t38 t39 t40:AV) (s:St):Prop:=aA (bn .lss 3 t40 t39) fun t41=>aY t41
 (aA (cB 2 t38 t40) fun t43=>aA (ld 2 true t43 (adv s 7)) fun t44=>aA (zr 151) fun z12=>aA (dN 2 (.ptr (s.nx+4) 0) t44 ((adv s 7).set (s.nx+4) (some (.cells z12.cells 151 true true)))) fun s1=>(aQ t0=true /\
 aA (aC 0 t0) fun t48=>aA (ld 1 false t48 (adv s1 15)) fun t49=>aA (cB 1 t2 t40) fun t52=>aA (ld 1 false t52 (adv s1 15)) fun t53=>cH mEv 53 [t49,t53] (rch (adv s1 15) [(.fn 53 [] []),t49,t53]) (adv s1 15) fun t54 s2=>aA (aW t54 0) fun t55=>aA (aW t54 1) fun t56=>(clear 0 ⟨12,true,(s1.nx+12)::[],none⟩ [⟨11,false,[],none⟩,⟨10,false,[],none⟩,⟨9,false,[],none⟩,⟨8,true,rch (adv s1 15) [(.fn 53 [] []),t49,t53],some (adv s1 15).nx⟩,⟨7,false,aF t52,none⟩,⟨6,false,[],none⟩,⟨5,false,[],none⟩,⟨4,false,[],none⟩,⟨3,false,aF t48,none⟩,⟨2,false,[],none⟩,⟨1,false,[],none⟩,⟨0,false,[],none⟩]=true/\s2.h (s1.nx+12)=none/\aA (zr 101) fun z13=>((s2.set (s1.nx+12) (some (.cells z13.cells 101 true true))).h (s1.nx+13)=none/\aA (dN 7 (.ptr (s1.nx+12) 0) t55 (s2.set (s1.nx+12) (some (.cells z13.cells 101 true true)))) fun s3=>aA (aC 1 (.ptr (s1.nx+12) 0)) fun t57=>aA (ld 1 false t57 (adv s3 5)) fun t58=>aA (aC 1 (.ptr (s.nx+4) 0)) fun t59=>aA (ld 1 false t59 (adv s3 5)) fun t60=>aA (bn .neq 3 t58 t60) fun t61=>aY t61
 (Q (.tup [(.int .i64 0),(.int .i64 90)]) (adv s3 7))
 (aA (aC 0 t10) fun t62=>aA (ld 1 false t62 (adv s3 13)) fun t63=>aA (aC 0 (.ptr (s.nx+4) 0)) fun t64=>aA (ld 1 false t64 (adv s3 13)) fun t65=>aA (lE 52 1 [(0,t65)]) fun t66=>aA (bt .append #[52,52] [t63,t66] (s3.nx+10) (adv s3 13)) fun r67=>aA (aC 0 t10) fun t68=>aA (dN 1 t68 r67.1 r67.2) fun s4=>aA (cB 1 t2 t40) fun t71=>aA (ld 1 false t71 (adv s4 7)) fun t72=>aN mEv 206 [t72] (adv s4 7) fun t73 s5=>aA (bn .add 9 t73 (.str [32])) fun t74=>aL mEv 156 [t9,t74] s5 fun t75 s6=>RX Q ih1 t40 t0 t1 t2 t8 t9 t10 t38 t39 s6)))))
 (tA Q t1 t9 t0 t10 t8 (adv s 1))
def qL (Q:aE) (n:Nat):AV->AV->AV->AV->AV->AV->AV->AV->aE:=jX (fun _ _ _ _ _ _ _ _ _ _ =>False) (fun ih=>uH Q ih) n
theorem aCd (Q:aE):MN (sub HN [Y,Y,Y,Y,Y,Y,Y,Y,Y,Y,Y,Y,Y]) (zB Q) aU (zB Q)=(fun g s=>EJ Q (g 19) (g 20) s):=Eq.trans rfl (by kernel_rfl)
theorem YS (Q:aE):MN (sub HN [Y,Y,Y,Y,Y,Y]) (zB Q) aU (zB Q)=(fun g s=>tA Q (g 1) (g 9) (g 0) (g 10) (g 8) s):=Eq.trans (aM (aM (aM (aM (aM (aM (aM (aCd Q) rfl) rfl) rfl) rfl) rfl) rfl) rfl) (by kernel_rfl)
theorem aBo (Q:aE) (n1:Nat):MN (sub HN [Y,Y,Y,Y,Y,N,Y,N,N,Y,Y,Y]) (kV (fun n g s=>qL Q n (g 0) (g 1) (g 2) (g 8) (g 9) (g 10) (g 38) (g 39) (g 40) s) 178 n1) (cN 0 (fun g s=>tA Q (g 1) (g 9) (g 0) (g 10) (g 8) s) aU) (zB Q)=(fun g s=>RX Q (qL Q n1) (g 40) (g 0) (g 1) (g 2) (g 8) (g 9) (g 10) (g 38) (g 39) s):=Eq.trans rfl (by kernel_rfl)
theorem aAt (Q:aE) (kN:Kt):MN (sub HN [Y,Y,Y,Y,Y,N,Y,N]) kN (cN 0 (fun g s=>tA Q (g 1) (g 9) (g 0) (g 10) (g 8) s) aU) (zB Q)=fun g s=>∃ n,qL Q n (g 0) (g 1) (g 2) (g 8) (g 9) (g 10) (g 38) (g 39) (g 40) s:=kG (L:=fun n g s=>qL Q n (g 0) (g 1) (g 2) (g 8) (g 9) (g 10) (g 38) (g 39) (g 40) s) (fun n1=>Eq.trans (aM (aM (aM (aBo Q n1) (dC 1 rfl)) rfl) rfl) (by kernel_rfl))
def f178 (Q:aE) (t0 t1 t2:AV) (s:St):Prop:=(aQ t0=true /\
 aA (aC 1 t0) fun t23=>aA (ld 1 false t23 (adv s 11)) fun t24=>aA (cB 10 t24 t1) fun t26=>aA (ld 10 true t26 (adv s 11)) fun t27=>aA (zr 67) fun z8=>aA (dN 10 (.ptr (s.nx+9) 0) t27 ((adv s 11).set (s.nx+9) (some (.cells z8.cells 67 true true)))) fun s1=>aA (bt .len #[72] [t2] (s1.nx+1) (adv s1 6)) fun r29=>aA (aC 3 (.ptr (s.nx+9) 0)) fun t30=>aA (ld 1 false t30 r29.2) fun t31=>aA (bt .len #[65] [t31] (s1.nx+4) r29.2) fun r32=>aA (bn .neq 3 r29.1 r32.1) fun t33=>aY t33
 (Q (.tup [(.int .i64 0),(.int .i64 1)]) (adv r32.2 2))
 (aA (lV 163 []) fun t34=>aA (zr 163) fun z9=>aA (dN 2 (.ptr (r32.2.nx+1) 0) t34 ((adv r32.2 3).set (r32.2.nx+1) (some (.cells z9.cells 163 true true)))) fun s2=>aA (lV 254 [(1,t2)]) fun t36=>aA (zr 254) fun z10=>aA (dN 2 (.ptr (s2.nx+2) 0) t36 ((adv s2 4).set (s2.nx+2) (some (.cells z10.cells 254 true true)))) fun s3=>aA (aC 3 (.ptr (s.nx+9) 0)) fun t37=>aA (ld 1 false t37 (adv s3 4)) fun t38=>aA (bt .len #[65] [t38] (s3.nx+2) (adv s3 4)) fun r39=>∃ n,qL Q n t0 t1 t2 (.ptr (s.nx+9) 0) (.ptr (r32.2.nx+1) 0) (.ptr (s2.nx+2) 0) t38 r39.1 (.int .i64 0) r39.2))
theorem aRl (t0 t1 t2:AV) (s:St) {Q:aE} (h:f178 Q t0 t1 t2 s):dE 178 [t0,t1,t2] s Q:=aH (h:=178) (fn:=Tryz.f178) (c:=sub HN []) (show MN (sub HN []) (zB Q) aU (zB Q)=_ from (aM (aM (aM (aM (aM (aM (YS Q) (aM (dC 0 (aAt Q _)) rfl)) rfl) rfl) rfl) rfl) rfl)) h
abbrev aNv:Code:=aJ Tryz.f130
abbrev XD:=rK Tryz.f130
abbrev bBm:=aK mEv 130 (mEv.kp 130)
def TI (Q:aE) (t0 t8:AV) (s:St):Prop:=aL mEv 178 [t0,t8,.nils] (adv s 7) fun t79 s1=>aA (aW t79 0) fun t80=>aA (aW t79 1) fun t81=>Q (.tup [t80,t81]) s1
theorem aEb (Q:aE):bBm (sub aNv [Y,Y,Y,Y,Y,Y]) (XD Q) aU (XD Q)=(fun g s=>TI Q (g 0) (g 8) s):=Eq.trans rfl (by kernel_rfl)
def f130 (Q:aE) (t0 t1:AV) (s:St):Prop:=aA (bn .eql 9 t1 (.str [116,114,117,101])) fun t10=>Gd (aD t10 false) (adv s 8) (fun k=>k t1 (adv s 8)) fun t12 s1=>Gd (aD t10 false) s1 (fun k=>aA (bn .eql 9 t12 (.str [102,97,108,115,101])) fun v=>k v s1) fun t13 s2=>aA (aV t10 (.bool true) t13) fun t14=>aY t14
 ((aQ t0=true /\
 aA (aC 0 t0) fun t17=>aA (ld 1 false t17 (adv s2 11)) fun t18=>aA (bn .eql 9 t1 (.str [116,114,117,101])) fun t20=>aL mEv 78 [t18,t20] (adv s2 11) fun t21 s3=>aA (aW t21 0) fun t22=>aA (aW t21 1) fun t23=>Q (.tup [t22,t23]) s3))
 (aN mEv 24 [t1] (adv s2 2) fun t25 s4=>aY t25
 (Q (.tup [(.int .i64 0),(.int .i64 101)]) (adv s4 2))
 (aL mEv 175 [t0,t1] (adv s4 8) fun t29 s5=>aA (aW t29 0) fun t30=>aA (aW t29 1) fun t31=>aY t31
 (Q (.tup [t30,(.int .i64 0)]) (adv s5 4))
 (aL mEv 174 [t0,t1] (adv s5 5) fun t36 s6=>aA (bn .lss 3 t36 (.int .i64 0)) fun t39=>aY t39
 (Q (.tup [(.int .i64 0),(.int .i64 100)]) (adv s6 5))
 ((aQ t0=true /\
 aA (aC 1 t0) fun t43=>aA (ld 1 false t43 (adv s6 13)) fun t44=>aA (cB 10 t44 t36) fun t46=>aA (aC 2 t46) fun t47=>aA (ld 1 false t47 (adv s6 13)) fun t48=>aA (un .not t48) fun t49=>aY t49
 ((aQ t0=true /\
 aA (aC 0 t0) fun t52=>aA (ld 1 false t52 (adv s6 31)) fun t53=>(aQ t0=true /\
 aA (aC 1 t0) fun t57=>aA (ld 1 false t57 (adv s6 31)) fun t58=>aA (cB 10 t58 t36) fun t60=>aA (aC 1 t60) fun t61=>aA (ld 1 false t61 (adv s6 31)) fun t62=>cH mEv 77 [t53,t1,t62] (rch (adv s6 31) [(.fn 77 [] []),t53,t1,t62]) (adv s6 31) fun t63 s7=>aA (aW t63 0) fun t64=>aA (aW t63 1) fun t65=>Q (.tup [t64,t65]) s7)))
 ((aQ t0=true /\
 aA (aC 1 t0) fun t69=>aA (ld 1 false t69 (adv s6 24)) fun t70=>aA (cB 10 t70 t36) fun t72=>aA (aC 3 t72) fun t73=>aA (ld 1 false t73 (adv s6 24)) fun t74=>aA (bt .len #[65] [t74] (s6.nx+21) (adv s6 24)) fun r75=>aA (bn .gtr 3 r75.1 (.int .i64 0)) fun t76=>aY t76
 (Q (.tup [(.int .i64 0),(.int .i64 1)]) (adv r75.2 2))
 (TI Q t0 t36 r75.2))))))))
theorem aQf (t0 t1:AV) (s:St) {Q:aE} (h:f130 Q t0 t1 s):dE 130 [t0,t1] s Q:=aH (h:=130) (fn:=Tryz.f130) (c:=sub aNv []) (show bBm (sub aNv []) (XD Q) aU (XD Q)=_ from (aM (aM (aM (aM (aM (aM (aEb Q) (dC 0 rfl)) rfl) rfl) rfl) rfl) rfl)) h
abbrev PN:Code:=aJ Tryz.f176
abbrev GS:=rK Tryz.f176
abbrev VV:=aK mEv 176 (mEv.kp 176)
def tR (Q:aE) (t6 t7 t0 t1:AV) (s:St):Prop:=aA (aC 0 t6) fun t75=>aA (ld 1 false t75 (adv s 3)) fun t76=>aL mEv 193 [t76,(.fn 24 [] [])] (adv s 3) fun t77 s1=>aY t77
 (Q (.tup [(.int .i64 0),(.int .i64 101)]) (adv s1 2))
 (aA (aC 0 t6) fun t78=>aA (ld 1 false t78 (adv s1 3)) fun t79=>aN mEv 192 [t79] (adv s1 3) fun t80 s2=>aY t80
 (Q (.tup [(.int .i64 0),(.int .i64 4)]) (adv s2 2))
 (aL mEv 177 [t7,(.fn 75 [t0] [])] (adv s2 11) fun t85 s3=>aA (aW t85 0) fun t86=>aA (aW t85 1) fun t87=>aA (aC 1 t6) fun t88=>aA (dN 1 t88 t86 s3) fun s4=>aA (bn .neq 34 t87 (.int .i64 0)) fun t90=>aY t90
 (Q (.tup [(.int .i64 0),t87]) (adv s4 5))
 ((aQ t0=true /\
 aA (aC 2 t0) fun t95=>aA (ld 1 false t95 (adv s4 13)) fun t96=>aA (ld 2 true t6 (adv s4 13)) fun t97=>aA (lE 122 1 [(0,t97)]) fun t98=>((adv s4 13).h (s4.nx+9)=none/\aA (bt .append #[122,122] [t96,t98] (s4.nx+9) (adv s4 13)) fun r99=>(aQ t0=true /\
 aA (aC 2 t0) fun t101=>(r99.2.h (s4.nx+12)=none/\aA (dN 1 t101 r99.1 r99.2) fun s5=>aA (cB 6 t1 (.int .i64 1)) fun t105=>aA (ld 6 true t105 (adv s5 10)) fun t106=>aL mEv 75 [t0,t106] (adv s5 10) fun t107 s6=>aA (aW t107 0) fun t108=>aA (aW t107 1) fun t109=>(aQ t0=true /\
 aA (aC 2 t0) fun t113=>aA (ld 1 false t113 (adv s6 15)) fun t114=>(aQ t0=true /\
 aA (aC 2 t0) fun t117=>aA (ld 1 false t117 (adv s6 15)) fun t118=>aA (bt .len #[122] [t118] (s6.nx+9) (adv s6 15)) fun r119=>aA (bn .sub 3 r119.1 (.int .i64 1)) fun t120=>aA (lT 122 t114 none (some t120) none r119.2) fun t121=>(aQ t0=true /\
 aA (aC 2 t0) fun t123=>(r119.2.h (s6.nx+14)=none/\aA (dN 1 t123 t121 r119.2) fun s7=>Q (.tup [t108,t109]) (adv s7 4))))))))))))
def RE (Q:aE) (ih1:AV->AV->AV->AV->AV->AV->aE) (t27 t0 t1 t6 t7 t25 t26:AV) (s:St):Prop:=aA (bn .add 3 t27 (.int .i64 1)) fun t74=>ih1 t0 t1 t6 t7 t25 t26 t74 (adv s 2)
def vP (Q:aE) (ih1:AV->AV->AV->AV->AV->AV->aE) (t0 t1 t6 t7 t25 t26 t27:AV) (s:St):Prop:=aA (bn .lss 3 t27 t26) fun t28=>aY t28
 (aA (cB 6 t25 t27) fun t29=>aA (ld 6 true t29 (adv s 5)) fun t30=>aA (zr 33) fun z9=>aA (dN 6 (.ptr (s.nx+3) 0) t30 ((adv s 5).set (s.nx+3) (some (.cells z9.cells 33 true true)))) fun s1=>aA (aC 0 (.ptr (s.nx+3) 0)) fun t31=>aA (ld 1 false t31 (adv s1 25)) fun t32=>aA (un .not t32) fun t33=>Gd (aD t33 false) (adv s1 25) (fun k=>aA (aC 5 (.ptr (s.nx+3) 0)) fun v=>k v (adv s1 25)) fun t35 s2=>Gd (aD t33 false) s2 (fun k=>aA (ld 1 false t35 s2) fun v=>k v s2) fun t36 s3=>Gd (aD t33 false) s3 (fun k=>aA (bt .len #[31] [t36] (s1.nx+6) s3) fun r=>k r.1 r.2) fun t37 s4=>Gd (aD t33 false) s4 (fun k=>aA (bn .neq 3 t37 (.int .i64 2)) fun v=>k v s4) fun t38 s5=>aA (aV t33 (.bool true) t38) fun t39=>Gd (aD t39 false) s5 (fun k=>aA (aC 5 (.ptr (s.nx+3) 0)) fun v=>k v s5) fun t41 s6=>Gd (aD t39 false) s6 (fun k=>aA (ld 1 false t41 s6) fun v=>k v s6) fun t42 s7=>Gd (aD t39 false) s7 (fun k=>aA (cB 6 t42 (.int .i64 0)) fun v=>k v s7) fun t43 s8=>Gd (aD t39 false) s8 (fun k=>aA (aC 0 t43) fun v=>k v s8) fun t44 s9=>Gd (aD t39 false) s9 (fun k=>aA (ld 1 false t44 s9) fun v=>k v s9) fun t45 s10=>aA (aV t39 (.bool true) t45) fun t46=>Gd (aD t46 false) s10 (fun k=>aA (aC 5 (.ptr (s.nx+3) 0)) fun v=>k v s10) fun t48 s11=>Gd (aD t46 false) s11 (fun k=>aA (ld 1 false t48 s11) fun v=>k v s11) fun t49 s12=>Gd (aD t46 false) s12 (fun k=>aA (cB 6 t49 (.int .i64 0)) fun v=>k v s12) fun t50 s13=>Gd (aD t46 false) s13 (fun k=>aA (aC 1 t50) fun v=>k v s13) fun t51 s14 =>
 Gd (aD t46 false) s14 (fun k=>aA (aC 0 t51) fun v=>k v s14) fun t52 s15=>Gd (aD t46 false) s15 (fun k=>aA (ld 1 false t52 s15) fun v=>k v s15) fun t53 s16=>Gd (aD t46 false) s16 (fun k=>aA (bn .neq 3 t53 (.int .i64 3)) fun v=>k v s16) fun t54 s17=>aA (aV t46 (.bool true) t54) fun t55=>aY t55
 (Q (.tup [(.int .i64 0),(.int .i64 1)]) (adv s17 2))
 (aA (aC 0 t6) fun t56=>aA (ld 1 false t56 (adv s17 12)) fun t57=>aA (aC 5 (.ptr (s.nx+3) 0)) fun t58=>aA (ld 1 false t58 (adv s17 12)) fun t59=>aA (cB 6 t59 (.int .i64 0)) fun t60=>aA (aC 1 t60) fun t61=>aA (aC 1 t61) fun t62=>aA (ld 1 false t62 (adv s17 12)) fun t63=>aA (lE 52 1 [(0,t63)]) fun t64=>((adv s17 12).h (s17.nx+9)=none/\aA (bt .append #[52,52] [t57,t64] (s17.nx+9) (adv s17 12)) fun r65=>aA (aC 0 t6) fun t66=>(r65.2.h (s17.nx+11)=none/\aA (dN 1 t66 r65.1 r65.2) fun s18=>aA (aC 5 (.ptr (s.nx+3) 0)) fun t68=>aA (ld 1 false t68 (adv s18 8)) fun t69=>aA (cB 6 t69 (.int .i64 1)) fun t70=>aA (ld 6 true t70 (adv s18 8)) fun t71=>aA (lE 31 1 [(0,t71)]) fun t72=>aA (bt .append #[31,31] [t7,t72] (s18.nx+6) (adv s18 8)) fun r73=>RE Q ih1 t27 t0 t1 t6 r73.1 t25 t26 r73.2))))
 (tR Q t6 t7 t0 t1 (adv s 1))
def qU (Q:aE) (n:Nat):AV->AV->AV->AV->AV->AV->aE:=jX (fun _ _ _ _ _ _ _ _ =>False) (fun ih=>vP Q ih) n
theorem YG (Q:aE):VV (sub PN [Y,Y,Y,Y,Y]) (GS Q) aU (GS Q)=(fun g s=>tR Q (g 6) (g 7) (g 0) (g 1) s):=Eq.trans rfl (by kernel_rfl)
theorem aDr (Q:aE) (n1:Nat):VV (sub PN [Y,Y,Y,Y,N,Y,N,N,Y,Y,Y]) (kV (fun n g s=>qU Q n (g 0) (g 1) (g 6) (g 7) (g 25) (g 26) (g 27) s) 176 n1) (cN 0 (fun g s=>tR Q (g 6) (g 7) (g 0) (g 1) s) aU) (GS Q)=(fun g s=>RE Q (qU Q n1) (g 27) (g 0) (g 1) (g 6) (g 7) (g 25) (g 26) s):=Eq.trans rfl (by kernel_rfl)
theorem aBg (Q:aE) (kN:Kt):VV (sub PN [Y,Y,Y,Y,N,Y,N]) kN (cN 0 (fun g s=>tR Q (g 6) (g 7) (g 0) (g 1) s) aU) (GS Q)=fun g s=>∃ n,qU Q n (g 0) (g 1) (g 6) (g 7) (g 25) (g 26) (g 27) s:=kG (L:=fun n g s=>qU Q n (g 0) (g 1) (g 6) (g 7) (g 25) (g 26) (g 27) s) (fun n1=>Eq.trans (aM (aM (aM (aDr Q n1) (dC 1 rfl)) rfl) rfl) (by kernel_rfl))
def f176 (Q:aE) (t0 t1:AV) (s:St):Prop:=aA (bt .len #[31] [t1] (s.nx+3) (adv s 12)) fun r13=>aA (bn .neq 3 r13.1 (.int .i64 2)) fun t14=>Gd (aD t14 false) r13.2 (fun k=>k t1 r13.2) fun t16 s1=>Gd (aD t14 false) s1 (fun k=>aA (cB 6 t16 (.int .i64 0)) fun v=>k v s1) fun t17 s2=>Gd (aD t14 false) s2 (fun k=>aA (aC 0 t17) fun v=>k v s2) fun t18 s3=>Gd (aD t14 false) s3 (fun k=>aA (ld 1 false t18 s3) fun v=>k v s3) fun t19 s4=>Gd (aD t14 false) s4 (fun k=>aA (un .not t19) fun v=>k v s4) fun t20 s5=>aA (aV t14 (.bool true) t20) fun t21=>aY t21
 (Q (.tup [(.int .i64 0),(.int .i64 1)]) (adv s5 2))
 (aA (zr 254) fun z6=>aA (cB 6 t1 (.int .i64 0)) fun t23=>aA (aC 5 t23) fun t24=>aA (ld 1 false t24 (adv ((adv s5 1).set s5.nx (some (.cells z6.cells 254 true true))) 7)) fun t25=>aA (bt .len #[31] [t25] (((adv s5 1).set s5.nx (some (.cells z6.cells 254 true true))).nx+5) (adv ((adv s5 1).set s5.nx (some (.cells z6.cells 254 true true))) 7)) fun r26=>∃ n,qU Q n t0 t1 (.ptr s5.nx 0) .nils t25 r26.1 (.int .i64 0) r26.2)
theorem aOt (t0 t1:AV) (s:St) {Q:aE} (h:f176 Q t0 t1 s):dE 176 [t0,t1] s Q:=aH (h:=176) (fn:=Tryz.f176) (c:=sub PN []) (show VV (sub PN []) (GS Q) aU (GS Q)=_ from (aM (aM (aM (aM (aM (YG Q) (aM (dC 0 (aBg Q _)) rfl)) rfl) rfl) rfl) rfl)) h
abbrev WW:Code:=aJ Tryz.f126
abbrev FO:=rK Tryz.f126
abbrev aLn:=aK mEv 126 (mEv.kp 126)
def CL (Q:aE) (t7 t0 t8 t9:AV) (s:St):Prop:=aL mEv 177 [t7,(.fn 75 [t0] [])] (adv s 9) fun t92 s1=>aA (aW t92 0) fun t93=>aA (aW t92 1) fun t94=>aA (bn .neq 34 t94 (.int .i64 0)) fun t96=>aY t96
 (Q (.tup [(.int .i64 0),t94]) (adv s1 5))
 (aA (bn .neq 3 t8 (.int .i64 0)) fun t99=>aY t99
 ((aQ t0=true /\
 aA (aC 0 t0) fun t102=>aA (ld 1 false t102 (adv s1 15)) fun t103=>aL mEv 81 [t103,t8,t93] (adv s1 15) fun t106 s2=>aA (aW t106 0) fun t107=>aA (aW t106 1) fun t108=>Q (.tup [t107,t108]) s2))
 (aL mEv 178 [t0,t9,t93] (adv s1 12) fun t112 s3=>aA (aW t112 0) fun t113=>aA (aW t112 1) fun t114=>Q (.tup [t113,t114]) s3))
def BB (Q:aE) (t6 t0 t7 t8 t9:AV) (s:St):Prop:=aA (bn .eql 9 t6 (.str [108,101,116])) fun t57=>aY t57
 (aL mEv 176 [t0,t7] (adv s 10) fun t60 s1=>aA (aW t60 0) fun t61=>aA (aW t60 1) fun t62=>Q (.tup [t61,t62]) s1)
 (aA (bn .eql 3 t8 (.int .i64 0)) fun t65=>Gd (aD t65 true) (adv s 10) (fun k=>k t6 (adv s 10)) fun t67 s2=>Gd (aD t65 true) s2 (fun k=>aN mEv 24 [t67] s2 k) fun t68 s3=>aA (aV t65 t68 (.bool false)) fun t69=>aY t69
 (Q (.tup [(.int .i64 0),(.int .i64 101)]) (adv s3 2))
 (aA (bn .eql 3 t8 (.int .i64 0)) fun t72=>Gd (aD t72 true) (adv s3 18) (fun k=>k t9 (adv s3 18)) fun t74 s4=>Gd (aD t72 true) s4 (fun k=>aA (bn .lss 3 t74 (.int .i64 0)) fun v=>k v s4) fun t75 s5=>Gd (aD t72 true) s5 (fun k=>k t75 s5) fun t76 s6=>Gd (aD t76 false) s6 (fun k=>k t0 s6) fun t77 s7=>Gd (aD t76 false) s7 (fun k=>aQ t77=true/\k t77 s7) fun t78 s8=>Gd (aD t76 false) s8 (fun k=>aA (aC 1 t78) fun v=>k v s8) fun t79 s9=>Gd (aD t76 false) s9 (fun k=>aA (ld 1 false t79 s9) fun v=>k v s9) fun t80 s10=>Gd (aD t76 false) s10 (fun k=>k t9 s10) fun t81 s11=>Gd (aD t76 false) s11 (fun k=>aA (cB 10 t80 t81) fun v=>k v s11) fun t82 s12=>Gd (aD t76 false) s12 (fun k=>aA (aC 2 t82) fun v=>k v s12) fun t83 s13=>Gd (aD t76 false) s13 (fun k=>aA (ld 1 false t83 s13) fun v=>k v s13) fun t84 s14=>Gd (aD t76 false) s14 (fun k=>aA (un .not t84) fun v=>k v s14) fun t85 s15=>Gd (aD t72 true) s15 (fun k=>aA (aV t76 (.bool true) t85) fun v=>k v s15) fun t86 s16=>aA (aV t72 t86 (.bool false)) fun t87=>aY t87
 (Q (.tup [(.int .i64 0),(.int .i64 100)]) (adv s16 2))
 (CL Q t7 t0 t8 t9 s16)))
theorem ZX (Q:aE):aLn (sub WW [Y,Y,Y,Y,Y,Y,Y,Y]) (FO Q) aU (FO Q)=(fun g s=>CL Q (g 7) (g 0) (g 8) (g 9) s):=Eq.trans rfl (by kernel_rfl)
theorem aCi (Q:aE):aLn (sub WW [Y,Y,Y,Y,Y,Y,Y]) (FO Q) aU (FO Q)=(fun g s=>BB Q (g 6) (g 0) (g 7) (g 8) (g 9) s):=Eq.trans (aM (ZX Q) (dC 0 rfl)) (by kernel_rfl)
def f126 (Q:aE) (t0 t1:AV) (s:St):Prop:=(t1.cells.all AV.one=true /\
 aA (aC 5 (.ptr s.nx 0)) fun t14=>aA (ld 1 false t14 (adv ((adv s 3).set s.nx (some (.cells t1.cells 33 true true))) 4)) fun t15=>aA (bt .len #[31] [t15] (((adv s 3).set s.nx (some (.cells t1.cells 33 true true))).nx+2) (adv ((adv s 3).set s.nx (some (.cells t1.cells 33 true true))) 4)) fun r16=>aA (bn .eql 3 r16.1 (.int .i64 0)) fun t17=>aY t17
 (Q (.tup [(.int .i64 0),(.int .i64 1)]) (adv r16.2 2))
 (aA (aC 5 (.ptr s.nx 0)) fun t18=>aA (ld 1 false t18 (adv r16.2 14)) fun t19=>aA (cB 6 t19 (.int .i64 0)) fun t20=>aA (aC 0 t20) fun t21=>aA (ld 1 false t21 (adv r16.2 14)) fun t22=>Gd (aD t22 false) (adv r16.2 14) (fun k=>aA (aC 5 (.ptr s.nx 0)) fun v=>k v (adv r16.2 14)) fun t24 s1=>Gd (aD t22 false) s1 (fun k=>aA (ld 1 false t24 s1) fun v=>k v s1) fun t25 s2=>Gd (aD t22 false) s2 (fun k=>aA (cB 6 t25 (.int .i64 0)) fun v=>k v s2) fun t26 s3=>Gd (aD t22 false) s3 (fun k=>aA (aC 1 t26) fun v=>k v s3) fun t27 s4=>Gd (aD t22 false) s4 (fun k=>aA (aC 0 t27) fun v=>k v s4) fun t28 s5=>Gd (aD t22 false) s5 (fun k=>aA (ld 1 false t28 s5) fun v=>k v s5) fun t29 s6=>Gd (aD t22 false) s6 (fun k=>aA (bn .neq 3 t29 (.int .i64 3)) fun v=>k v s6) fun t30 s7=>aA (aV t22 (.bool true) t30) fun t31=>aY t31
 (Q (.tup [(.int .i64 0),(.int .i64 101)]) (adv s7 2))
 (aA (aC 5 (.ptr s.nx 0)) fun t32=>aA (ld 1 false t32 (adv s7 11)) fun t33=>aA (cB 6 t33 (.int .i64 0)) fun t34=>aA (aC 1 t34) fun t35=>aA (aC 1 t35) fun t36=>aA (ld 1 false t36 (adv s7 11)) fun t37=>aA (aC 5 (.ptr s.nx 0)) fun t38=>aA (ld 1 false t38 (adv s7 11)) fun t39=>aA (lT 31 t39 (some (.int .i64 1)) none none (adv s7 11)) fun t40=>aA (bt .len #[31] [t40] (s7.nx+13) (adv s7 16)) fun r43=>aN mEv 71 [t37,r43.1] r43.2 fun t44 s8=>aL mEv 174 [t0,t37] (adv s8 4) fun t47 s9=>aL mEv 175 [t0,t37] (adv s9 8) fun t51 s10=>aA (aW t51 0) fun t52=>aA (aW t51 1) fun t53=>aY t53
 (BB Q t37 t0 t40 t44 (.int .i64 (-1)) (adv s10 2))
 (BB Q t37 t0 t40 t44 t47 (adv s10 1)))))
theorem aJh (t0 t1:AV) (s:St) {Q:aE} (h:f126 Q t0 t1 s):dE 126 [t0,t1] s Q:=aH (h:=126) (fn:=Tryz.f126) (c:=sub WW []) (show aLn (sub WW []) (FO Q) aU (FO Q)=_ from (aM (aM (aM (aM (aM (aM (aM (aCi Q) rfl) rfl) rfl) rfl) rfl) rfl) rfl)) h
abbrev bEl:Code:=aJ Tryz.f75
abbrev aVo:=rK Tryz.f75
abbrev bNk:=aK mEv 75 (mEv.kp 75)
def aJt (Q:aE) (s:St):Prop:=Q (.tup [(.int .i64 0),(.int .i64 101)]) (adv s 2)
theorem aNb (Q:aE):bNk (sub bEl [Y,Y,Y]) (aVo Q) aU (aVo Q)=(fun g s=>aJt Q s):=Eq.trans rfl (by kernel_rfl)
def f75 (Q:aE) (t0 t1:AV) (s:St):Prop:=(t1.cells.all AV.one=true /\
 aA (aC 0 (.ptr s.nx 0)) fun t10=>aA (ld 1 false t10 (adv ((adv s 3).set s.nx (some (.cells t1.cells 33 true true))) 2)) fun t11=>aY t11
 (aA (ld 6 true (.ptr s.nx 0) (adv ((adv s 3).set s.nx (some (.cells t1.cells 33 true true))) 9)) fun t13=>aL mEv 126 [t0,t13] (adv ((adv s 3).set s.nx (some (.cells t1.cells 33 true true))) 9) fun t14 s1=>aA (aW t14 0) fun t15=>aA (aW t14 1) fun t16=>Q (.tup [t15,t16]) s1)
 (aA (aC 1 (.ptr s.nx 0)) fun t17=>aA (aC 0 t17) fun t18=>aA (ld 1 false t18 (adv ((adv s 3).set s.nx (some (.cells t1.cells 33 true true))) 5)) fun t19=>aA (bn .eql 3 t19 (.int .i64 4)) fun t21=>aY t21
 (aA (aC 1 (.ptr s.nx 0)) fun t23=>aA (aC 1 t23) fun t24=>aA (ld 1 false t24 (adv ((adv s 3).set s.nx (some (.cells t1.cells 33 true true))) 16)) fun t25=>aN mEv 127 [t25] (adv ((adv s 3).set s.nx (some (.cells t1.cells 33 true true))) 16) fun t26 s2=>aA (aW t26 0) fun t27=>aA (aW t26 1) fun t28=>aA (bn .neq 34 t28 (.int .i64 0)) fun t30=>aY t30
 (Q (.tup [(.int .i64 0),(.int .i64 101)]) (adv s2 4))
 ((aQ t0=true /\
 aA (aC 0 t0) fun t33=>aA (ld 1 false t33 (adv s2 13)) fun t34=>aA (lV 24 [(1,t27)]) fun t36=>aL mEv 79 [t34,t36] (adv s2 13) fun t37 s3=>aA (aW t37 0) fun t38=>aA (aW t37 1) fun t39=>Q (.tup [t38,t39]) s3)))
 (aA (bn .eql 3 t19 (.int .i64 6)) fun t41=>aY t41
 (aA (aC 1 (.ptr s.nx 0)) fun t43=>aA (aC 1 t43) fun t44=>aA (ld 1 false t44 (adv ((adv s 3).set s.nx (some (.cells t1.cells 33 true true))) 19)) fun t45=>aN mEv 129 [t45] (adv ((adv s 3).set s.nx (some (.cells t1.cells 33 true true))) 19) fun t46 s4=>aN mEv 128 [t46] s4 fun t47 s5=>aA (aW t47 0) fun t48=>aA (aW t47 1) fun t49=>(aQ t0=true /\
 aA (aC 0 t0) fun t52=>aA (ld 1 false t52 (adv s5 10)) fun t53=>aL mEv 80 [t53,t48] (adv s5 10) fun t55 s6=>aA (aW t55 0) fun t56=>aA (aW t55 1) fun t57=>Q (.tup [t56,t57]) s6))
 (aA (bn .eql 3 t19 (.int .i64 3)) fun t59=>aY t59
 (aA (aC 1 (.ptr s.nx 0)) fun t61=>aA (aC 1 t61) fun t62=>aA (ld 1 false t62 (adv ((adv s 3).set s.nx (some (.cells t1.cells 33 true true))) 20)) fun t63=>aL mEv 130 [t0,t63] (adv ((adv s 3).set s.nx (some (.cells t1.cells 33 true true))) 20) fun t64 s7=>aA (aW t64 0) fun t65=>aA (aW t64 1) fun t66=>Q (.tup [t65,t66]) s7)
 (aJt Q (adv ((adv s 3).set s.nx (some (.cells t1.cells 33 true true))) 11))))))
theorem aUm (t0 t1:AV) (s:St) {Q:aE} (h:f75 Q t0 t1 s):dE 75 [t0,t1] s Q:=aH (h:=75) (fn:=Tryz.f75) (c:=sub bEl []) (show bNk (sub bEl []) (aVo Q) aU (aVo Q)=_ from (aM (aM (aM (aNb Q) (aM (dC 0 rfl) rfl)) rfl) rfl)) h
abbrev bKa:Code:=aJ Tryz.f30
abbrev bGy:=rK Tryz.f30
abbrev bPs:=aK mEv 30 (mEv.kp 30)
def f30 (Q:aE) (t0 t1 t2:AV) (s:St):Prop:=(t2.cells.all AV.one=true /\
 aA (lV 124 [(0,t0),(1,t1),(3,(.map (((adv s 3).set s.nx (some (.cells t2.cells 33 true true))).nx+2)))]) fun t12=>(t12.cells.all AV.one=true /\
 aA (ld 6 true (.ptr s.nx 0) (adv (((adv ((adv s 3).set s.nx (some (.cells t2.cells 33 true true))) 6).set (((adv s 3).set s.nx (some (.cells t2.cells 33 true true))).nx+2) (some (.map []))).set (((adv s 3).set s.nx (some (.cells t2.cells 33 true true))).nx+4) (some (.cells t12.cells 124 true true))) 7)) fun t15=>aL mEv 75 [(.ptr (((adv s 3).set s.nx (some (.cells t2.cells 33 true true))).nx+4) 0),t15] (adv (((adv ((adv s 3).set s.nx (some (.cells t2.cells 33 true true))) 6).set (((adv s 3).set s.nx (some (.cells t2.cells 33 true true))).nx+2) (some (.map []))).set (((adv s 3).set s.nx (some (.cells t2.cells 33 true true))).nx+4) (some (.cells t12.cells 124 true true))) 7) fun t16 s1=>aA (aW t16 0) fun t17=>aA (aW t16 1) fun t18=>Q (.tup [t17,t18]) s1))
theorem aSz (t0 t1 t2:AV) (s:St) {Q:aE} (h:f30 Q t0 t1 t2 s):dE 30 [t0,t1,t2] s Q:=aH (h:=30) (fn:=Tryz.f30) (c:=sub bKa []) (show bPs (sub bKa []) (bGy Q) aU (bGy Q)=_ from rfl) h
end
end Go.Proofs.YtdehdahimkcakaaGreatDoor
