/- Texts joined by wip/tools/pack.py: LTm,LSt,LBt,LSn. -/
import Derived.Test.YtdehdahimkcakaaGreatDoorZm
open Nat renaming reduceAdd→Z0, reduceEqDiff→Z1
set_option linter.unusedVariables false
set_option maxRecDepth 1000000
namespace Go.Proofs.YtdehdahimkcakaaGreatDoor
open Go Ai
noncomputable section
abbrev bBe:Code:=aJ Tryz.f104
abbrev bBu:=rK Tryz.f104
abbrev bHj:=aK mEv 104 (mEv.kp 104)
def f104 (Q:aG) (t0:AV) (s:St):Prop:=(t0.cells.all AV.one=true /\
 aA (zr 101) fun z2=>aA (aC 2 (.ptr s.nx 0)) fun t3=>aA (ld 1 false t3 (adv (((adv s 2).set s.nx (some (.cells t0.cells 101 true true))).set (s.nx+1) (some (.cells z2.cells 101 true true))) 5)) fun t4=>aO mEv 152 [t4] (adv (((adv s 2).set s.nx (some (.cells t0.cells 101 true true))).set (s.nx+1) (some (.cells z2.cells 101 true true))) 5) fun t5 s1=>aA (aC 2 (.ptr s.nx 0)) fun t6=>aA (dU 1 t6 t5 s1) fun s2=>aA (aC 4 (.ptr s.nx 0)) fun t7=>aA (aC 1 t7) fun t8=>aA (ld 1 false t8 (adv s2 7)) fun t9=>aO mEv 153 [t9] (adv s2 7) fun t10 s3=>aA (aC 4 (.ptr s.nx 0)) fun t11=>aA (aC 1 t11) fun t12=>aA (dU 1 t12 t10 s3) fun s4=>aA (aC 6 (.ptr s.nx 0)) fun t13=>aA (ld 1 false t13 (adv s4 5)) fun t14=>aO mEv 154 [t14] (adv s4 5) fun t15 s5=>aA (aC 6 (.ptr s.nx 0)) fun t16=>aA (dU 1 t16 t15 s5) fun s6=>aA (ld 7 true (.ptr s.nx 0) (adv s6 2)) fun t17=>aA (dU 7 (.ptr (s.nx+1) 0) t17 (adv s6 2)) fun s7=>pT ((uD [ld 7 true (.ptr (s.nx+1) 0) s7]).map xY) fun v=>Q v s7)
theorem aIx (t0:AV) (s:St) {Q:aG} (h:f104 Q t0 s):dT 104 [t0] s Q:=aH (h:=104) (fn:=Tryz.f104) (c:=sub bBe []) (show bHj (sub bBe []) (bBu Q) aY (bBu Q)=_ from rfl) h
abbrev aZx:Code:=aJ Tryz.f133
abbrev bBx:=rK Tryz.f133
abbrev bLs:=aK mEv 133 (mEv.kp 133)
def f133 (Q:aG) (t0 t1:AV) (s:St):Prop:=aL mEv 186 [t0,t1] (adv s 6) fun t7 s1=>aA (bn .geq 3 t7 (.int .i64 0)) fun t8=>Q t8 s1
theorem aJw (t0 t1:AV) (s:St) {Q:aG} (h:f133 Q t0 t1 s):dT 133 [t0,t1] s Q:=aH (h:=133) (fn:=Tryz.f133) (c:=sub aZx []) (show bLs (sub aZx []) (bBx Q) aY (bBx Q)=_ from rfl) h
abbrev OW:Code:=aJ Tryz.f186
abbrev HT:=rK Tryz.f186
abbrev XF:=aK mEv 186 (mEv.kp 186)
def FO (Q:aG) (s:St):Prop:=Q (.int .i64 (-1)) (adv s 1)
def TC (Q:aG) (ih1:AV->AV->AV->aG) (t8 t0 t1 t7:AV) (s:St):Prop:=aA (bn .add 3 t8 (.int .i64 1)) fun t18=>ih1 t0 t1 t7 t18 (adv s 2)
def vX (Q:aG) (ih1:AV->AV->AV->aG) (t0 t1 t7 t8:AV) (s:St):Prop:=aA (bn .lss 3 t8 t7) fun t9=>aZ t9
 (aA (cQ 1 t0 t8) fun t14=>aA (ld 1 false t14 (adv s 9)) fun t15=>sZ mEv 186 t1 [t15] (adv s 9) fun t16 s1=>aZ t16
 (Q t8 (adv s1 2))
 (TC Q ih1 t8 t0 t1 t7 s1))
 (FO Q (adv s 1))
def qK (Q:aG) (n:Nat):AV->AV->AV->aG:=mC (fun _ _ _ _ _ =>False) (fun ih=>vX Q ih) n
theorem aAd (Q:aG):XF (sub OW [Y,Y]) (HT Q) aY (HT Q)=(fun g s=>FO Q s):=Eq.trans rfl (by kernel_rfl)
theorem aFm (Q:aG) (n1:Nat):XF (sub OW [Y,N,Y,N,N,Y,Y,Y]) (mI (fun n g s=>qK Q n (g 0) (g 1) (g 7) (g 8) s) 186 n1) (cX 0 (fun g s=>FO Q s) aY) (HT Q)=(fun g s=>TC Q (qK Q n1) (g 8) (g 0) (g 1) (g 7) s):=Eq.trans rfl (by kernel_rfl)
theorem aEj (Q:aG) (kN:Kt):XF (sub OW [Y,N,Y,N]) kN (cX 0 (fun g s=>FO Q s) aY) (HT Q)=fun g s=>∃ n,qK Q n (g 0) (g 1) (g 7) (g 8) s:=mB (L:=fun n g s=>qK Q n (g 0) (g 1) (g 7) (g 8) s) (fun n1=>Eq.trans (aM (aM (aM (aFm Q n1) (dV 1 rfl)) rfl) rfl) (by kernel_rfl))
def f186 (Q:aG) (t0 t1:AV) (s:St):Prop:=aA (bt .len #[72] [t0] (s.nx+2) (adv s 4)) fun r7=>∃ n,qK Q n t0 t1 r7.1 (.int .i64 0) r7.2
theorem aIv (t0 t1:AV) (s:St) {Q:aG} (h:f186 Q t0 t1 s):dT 186 [t0,t1] s Q:=aH (h:=186) (fn:=Tryz.f186) (c:=sub OW []) (show XF (sub OW []) (HT Q) aY (HT Q)=_ from (aM (aM (aAd Q) (aM (dV 0 (aEj Q _)) rfl)) rfl)) h
abbrev NQ:Code:=aJ Tryz.f222
abbrev IJ:=rK Tryz.f222
abbrev YN:=aK mEv 222 (mEv.kp 222)
def CF (Q:aG) (s:St):Prop:=Q (.int .i64 (-1)) (adv s 1)
def UX (Q:aG) (ih1:AV->AV->AV->aG) (t8 t0 t1 t7:AV) (s:St):Prop:=aA (bn .add 3 t8 (.int .i64 1)) fun t18=>ih1 t0 t1 t7 t18 (adv s 2)
def uY (Q:aG) (ih1:AV->AV->AV->aG) (t0 t1 t7 t8:AV) (s:St):Prop:=aA (bn .lss 3 t8 t7) fun t9=>aZ t9
 (aA (cQ 1 t0 t8) fun t14=>aA (ld 1 false t14 (adv s 9)) fun t15=>sZ mEv 222 t1 [t15] (adv s 9) fun t16 s1=>aZ t16
 (Q t8 (adv s1 2))
 (UX Q ih1 t8 t0 t1 t7 s1))
 (CF Q (adv s 1))
def rR (Q:aG) (n:Nat):AV->AV->AV->aG:=mC (fun _ _ _ _ _ =>False) (fun ih=>uY Q ih) n
theorem aEp (Q:aG):YN (sub NQ [Y,Y]) (IJ Q) aY (IJ Q)=(fun g s=>CF Q s):=Eq.trans rfl (by kernel_rfl)
theorem aBq (Q:aG) (n1:Nat):YN (sub NQ [Y,N,Y,N,N,Y,Y,Y]) (mI (fun n g s=>rR Q n (g 0) (g 1) (g 7) (g 8) s) 222 n1) (cX 0 (fun g s=>CF Q s) aY) (IJ Q)=(fun g s=>UX Q (rR Q n1) (g 8) (g 0) (g 1) (g 7) s):=Eq.trans rfl (by kernel_rfl)
theorem aCe (Q:aG) (kN:Kt):YN (sub NQ [Y,N,Y,N]) kN (cX 0 (fun g s=>CF Q s) aY) (IJ Q)=fun g s=>∃ n,rR Q n (g 0) (g 1) (g 7) (g 8) s:=mB (L:=fun n g s=>rR Q n (g 0) (g 1) (g 7) (g 8) s) (fun n1=>Eq.trans (aM (aM (aM (aBq Q n1) (dV 1 rfl)) rfl) rfl) (by kernel_rfl))
def f222 (Q:aG) (t0 t1:AV) (s:St):Prop:=aA (bt .len #[52] [t0] (s.nx+2) (adv s 4)) fun r7=>∃ n,rR Q n t0 t1 r7.1 (.int .i64 0) r7.2
theorem aPg (t0 t1:AV) (s:St) {Q:aG} (h:f222 Q t0 t1 s):dT 222 [t0,t1] s Q:=aH (h:=222) (fn:=Tryz.f222) (c:=sub NQ []) (show YN (sub NQ []) (IJ Q) aY (IJ Q)=_ from (aM (aM (aEp Q) (aM (dV 0 (aCe Q _)) rfl)) rfl)) h
abbrev bDf:Code:=aJ Tryz.f193
abbrev bCn:=rK Tryz.f193
abbrev bKw:=aK mEv 193 (mEv.kp 193)
def f193 (Q:aG) (t0 t1:AV) (s:St):Prop:=aL mEv 222 [t0,t1] (adv s 6) fun t7 s1=>aA (bn .geq 3 t7 (.int .i64 0)) fun t8=>Q t8 s1
theorem aPj (t0 t1:AV) (s:St) {Q:aG} (h:f193 Q t0 t1 s):dT 193 [t0,t1] s Q:=aH (h:=193) (fn:=Tryz.f193) (c:=sub bDf []) (show bKw (sub bDf []) (bCn Q) aY (bCn Q)=_ from rfl) h
abbrev bOg:Code:=aJ Tryz.f31
abbrev bIm:=rK Tryz.f31
abbrev bRa:=aK mEv 31 (mEv.kp 31)
def f31 (Q:aG) (t0:AV) (s:St):Prop:=aA (bn .eql 51 t0 .nilp) fun t4=>aZ t4
 (Q (.int .i64 0) (adv s 4))
 ((aQ t0=true /\
 aA (aC 2 t0) fun t7=>aA (ld 1 false t7 (adv s 9)) fun t8=>aA (bt .len #[56] [t8] (s.nx+7) (adv s 9)) fun r9=>Q r9.1 r9.2))
theorem aVx (t0:AV) (s:St) {Q:aG} (h:f31 Q t0 s):dT 31 [t0] s Q:=aH (h:=31) (fn:=Tryz.f31) (c:=sub bOg []) (show bRa (sub bOg []) (bIm Q) aY (bIm Q)=_ from rfl) h
abbrev bLp:Code:=aJ Tryz.f53
abbrev bKo:=rK Tryz.f53
abbrev bRv:=aK mEv 53 (mEv.kp 53)
def f53 (Q:aG) (t0 t1:AV) (s:St):Prop:=aA (zr 101) fun z4=>aA (bn .lss 3 t1 (.int .i64 0)) fun t7=>Gd (aD t7 false) (adv ((adv s 2).set s.nx (some (.cells z4.cells 101 true true))) 8) (fun k=>k t1 (adv ((adv s 2).set s.nx (some (.cells z4.cells 101 true true))) 8)) fun t9 s1=>Gd (aD t7 false) s1 (fun k=>k t0 s1) fun t10 s2=>Gd (aD t7 false) s2 (fun k=>aL mEv 31 [t10] s2 k) fun t11 s3=>Gd (aD t7 false) s3 (fun k=>aA (bn .geq 3 t9 t11) fun v=>k v s3) fun t12 s4=>aA (bC t7 (.bool true) t12) fun t13=>aZ t13
 (aA (lK 101 []) fun t14=>aA (dU 7 (.ptr s.nx 0) t14 (adv s4 3)) fun s5=>pT ((uD [ld 7 true (.ptr s.nx 0) s5,some (.bool false)]).map xY) fun v=>Q v s5)
 ((aQ t0=true /\
 aA (aC 2 t0) fun t17=>aA (ld 1 false t17 (adv s4 10)) fun t18=>aA (cQ 7 t18 t1) fun t20=>aA (ld 7 true t20 (adv s4 10)) fun t21=>aO mEv 104 [t21] (adv s4 10) fun t22 s6=>aA (dU 7 (.ptr s.nx 0) t22 s6) fun s7=>pT ((uD [ld 7 true (.ptr s.nx 0) s7,some (.bool true)]).map xY) fun v=>Q v s7))
theorem aYd (t0 t1:AV) (s:St) {Q:aG} (h:f53 Q t0 t1 s):dT 53 [t0,t1] s Q:=aH (h:=53) (fn:=Tryz.f53) (c:=sub bLp []) (show bRv (sub bLp []) (bKo Q) aY (bKo Q)=_ from rfl) h
abbrev aZy:Code:=aJ Tryz.f184
abbrev aZm:=rK Tryz.f184
abbrev bMn:=aK mEv 184 (mEv.kp 184)
def f184 (Q:aG) (t0 t1:AV) (s:St):Prop:=aA (bn .eql 277 t0 .nilp) fun t9=>aZ t9
 (Q (.tup [(.int .i64 0),(.bool false)]) (adv s 6))
 ((aQ t0=true /\
 aA (aC 1 t0) fun t13=>aA (ld 1 false t13 (adv s 15)) fun t14=>aA (eE Tryz.ty 53 t14 t1 true (adv s 15)) fun t16=>aA (aS t16 0) fun t17=>aA (aS t16 1) fun t18=>Q (.tup [t17,t18]) (adv s 19)))
theorem aQp (t0 t1:AV) (s:St) {Q:aG} (h:f184 Q t0 t1 s):dT 184 [t0,t1] s Q:=aH (h:=184) (fn:=Tryz.f184) (c:=sub aZy []) (show bMn (sub aZy []) (aZm Q) aY (aZm Q)=_ from rfl) h
abbrev aKb:Code:=aJ Tryz.f185
abbrev XB:=rK Tryz.f185
abbrev bBz:=aK mEv 185 (mEv.kp 185)
def CY (Q:aG) (t0 t1:AV) (s:St):Prop:=(aQ t0=true /\
 aA (aC 1 t0) fun t32=>aA (ld 1 false t32 (adv s 11)) fun t33=>(aQ t0=true /\
 aA (aC 0 t0) fun t37=>aA (ld 1 false t37 (adv s 11)) fun t38=>aA (bt .len #[52] [t38] (s.nx+9) (adv s 11)) fun r39=>(r39.2.h (s.nx+10)=none/\aA (eN Tryz.ty 53 t33 t1 r39.1 r39.2) fun s1=>(aQ t0=true /\
 aA (aC 0 t0) fun t43=>aA (ld 1 false t43 (adv s1 11)) fun t44=>aA (kM 52 1 [(0,t1)]) fun t46=>aA (bt .append #[52,52] [t44,t46] (s1.nx+7) (adv s1 11)) fun r47=>(aQ t0=true /\
 aA (aC 0 t0) fun t49=>aA (dU 1 t49 r47.1 r47.2) fun s2=>(aQ t0=true /\
 aA (aC 0 t0) fun t52=>aA (ld 1 false t52 (adv s2 8)) fun t53=>aA (bt .len #[52] [t53] (s2.nx+4) (adv s2 8)) fun r54=>aA (bn .sub 3 r54.1 (.int .i64 1)) fun t55=>Q (.tup [t55,(.bool true)]) r54.2))))))
theorem aAw (Q:aG):bBz (sub aKb [Y,Y,Y,Y]) (XB Q) aY (XB Q)=(fun g s=>CY Q (g 0) (g 1) s):=Eq.trans rfl (by kernel_rfl)
def f185 (Q:aG) (t0 t1:AV) (s:St):Prop:=aA (bn .eql 277 t0 .nilp) fun t9=>aZ t9
 (Q (.tup [(.int .i64 (-1)),(.bool false)]) (adv s 6))
 ((aQ t0=true /\
 aA (aC 1 t0) fun t13=>aA (ld 1 false t13 (adv s 15)) fun t14=>aA (eE Tryz.ty 53 t14 t1 true (adv s 15)) fun t16=>aA (aS t16 0) fun t17=>aA (aS t16 1) fun t18=>aZ t18
 (Q (.tup [t17,(.bool false)]) (adv s 19))
 ((aQ t0=true /\
 aA (aC 1 t0) fun t23=>aA (ld 1 false t23 (adv s 21)) fun t24=>aA (bn .eql 53 t24 .nilm) fun t25=>aZ t25
 ((aQ t0=true /\
 aA (aC 1 t0) fun t29=>aA (dU 1 t29 (.map (s.nx+22)) ((adv s 26).set (s.nx+22) (some (.map [])))) fun s1=>CY Q t0 t1 s1))
 (CY Q t0 t1 (adv s 21))))))
theorem aSk (t0 t1:AV) (s:St) {Q:aG} (h:f185 Q t0 t1 s):dT 185 [t0,t1] s Q:=aH (h:=185) (fn:=Tryz.f185) (c:=sub aKb []) (show bBz (sub aKb []) (XB Q) aY (XB Q)=_ from (aM (aM (aM (aM (aAw Q) rfl) rfl) rfl) rfl)) h
abbrev zH:Code:=aJ Tryz.f183
abbrev sX:=rK Tryz.f183
abbrev EJ:=aK mEv 183 (mEv.kp 183)
def yY (Q:aG) (t3 t1:AV) (s:St):Prop:=cL mEv 108 [t3] (rch (adv s 6) [(.fn 108 [] []),t3]) (adv s 6) fun t53 s1=>aA (bn .add 9 t53 (.str [61])) fun t54=>aA (aC 3 t1) fun t55=>(clear 4 ⟨3,false,aE t55,none⟩ [⟨2,false,[],none⟩,⟨1,false,[],none⟩,⟨0,true,rch (adv s 6) [(.fn 108 [] []),t3],some (adv s 6).nx⟩]=true/\aA (ld 1 false t55 s1) fun t56=>aA (bn .add 9 t54 t56) fun t57=>Q t57 s1)
def UY (Q:aG) (ih1:AV->AV->AV->AV->aG) (t38 t1 t3 t36 t37:AV) (s:St):Prop:=aA (bn .add 3 t38 (.int .i64 1)) fun t52=>ih1 t1 t3 t36 t37 t52 (adv s 2)
def vG (Q:aG) (ih1:AV->AV->AV->AV->aG) (t1 t3 t36 t37 t38:AV) (s:St):Prop:=aA (bn .lss 3 t38 t37) fun t39=>aZ t39
 (aA (cQ 2 t36 t38) fun t40=>aA (ld 2 true t40 (adv s 5)) fun t41=>aA (zr 109) fun z7=>aA (dU 2 (.ptr (s.nx+3) 0) t41 ((adv s 5).set (s.nx+3) (some (.cells z7.cells 109 true true)))) fun s1=>aA (aC 0 (.ptr (s.nx+3) 0)) fun t42=>aA (ld 1 false t42 (adv s1 10)) fun t43=>fF mEv 206 [t43] (rch (adv s1 10) [(.fn 206 [] []),t43]) (adv s1 10) fun t44 s2=>aA (bn .add 9 (.str [32]) t44) fun t45=>aA (bn .add 9 t45 (.str [42])) fun t46=>aA (aC 1 (.ptr (s.nx+3) 0)) fun t47=>aA (ld 1 false t47 s2) fun t48=>fF mEv 206 [t48] (rch s2 [(.fn 206 [] []),t48]) s2 fun t49 s3=>aA (bn .add 9 t46 t49) fun t50=>cL mEv 156 [t3,t50] (rch s3 [(.fn 156 [] []),t3,t50]) s3 fun t51 s4=>UY Q ih1 t38 t1 t3 t36 t37 s4)
 (yY Q t3 t1 (adv s 1))
def rP (Q:aG) (n:Nat):AV->AV->AV->AV->aG:=mC (fun _ _ _ _ _ _ =>False) (fun ih=>vG Q ih) n
def yU (Q:aG) (t1 t3:AV) (s:St):Prop:=aA (aC 4 t1) fun t29=>aA (aC 1 t29) fun t30=>aA (ld 1 false t30 (adv s 6)) fun t31=>aO mEv 59 [t31] (adv s 6) fun t32 s1=>aA (bn .add 9 (.str [35]) t32) fun t33=>aL mEv 156 [t3,t33] s1 fun t34 s2=>aA (aC 6 t1) fun t35=>aA (ld 1 false t35 (adv s2 4)) fun t36=>aA (bt .len #[25] [t36] (s2.nx+2) (adv s2 4)) fun r37=>∃ n,rP Q n t1 t3 t36 r37.1 (.int .i64 0) r37.2
def SQ (Q:aG) (ih2:AV->AV->AV->AV->aG) (t20 t1 t3 t18 t19:AV) (s:St):Prop:=aA (bn .add 3 t20 (.int .i64 1)) fun t28=>ih2 t1 t3 t18 t19 t28 (adv s 2)
def wA (Q:aG) (ih2:AV->AV->AV->AV->aG) (t1 t3 t18 t19 t20:AV) (s:St):Prop:=aA (bn .lss 3 t20 t19) fun t21=>aZ t21
 (aA (cQ 1 t18 t20) fun t22=>aA (ld 1 false t22 (adv s 4)) fun t23=>aO mEv 206 [t23] (adv s 8) fun t25 s1=>aA (bn .add 9 (.str [32]) t25) fun t26=>aL mEv 156 [t3,t26] s1 fun t27 s2=>SQ Q ih2 t20 t1 t3 t18 t19 s2)
 (yU Q t1 t3 (adv s 1))
def rQ (Q:aG) (n:Nat):AV->AV->AV->AV->aG:=mC (fun _ _ _ _ _ _ =>False) (fun ih=>wA Q ih) n
theorem aFe (Q:aG):EJ (sub zH [Y,Y,Y,Y,Y,Y]) (sX Q) aY (sX Q)=(fun g s=>yY Q (g 3) (g 1) s):=Eq.trans rfl (by kernel_rfl)
theorem aBi (Q:aG) (n1:Nat):EJ (sub zH [Y,Y,Y,Y,Y,N,Y,N,N,Y,Y,Y]) (mI (fun n g s=>rP Q n (g 1) (g 3) (g 36) (g 37) (g 38) s) 183 n1) (cX 2 (fun g s=>yY Q (g 3) (g 1) s) aY) (sX Q)=(fun g s=>UY Q (rP Q n1) (g 38) (g 1) (g 3) (g 36) (g 37) s):=Eq.trans rfl (by kernel_rfl)
theorem aEu (Q:aG) (kN:Kt):EJ (sub zH [Y,Y,Y,Y,Y,N,Y,N]) kN (cX 2 (fun g s=>yY Q (g 3) (g 1) s) aY) (sX Q)=fun g s=>∃ n,rP Q n (g 1) (g 3) (g 36) (g 37) (g 38) s:=mB (L:=fun n g s=>rP Q n (g 1) (g 3) (g 36) (g 37) (g 38) s) (fun n1=>Eq.trans (aM (aM (aM (aBi Q n1) (dV 3 rfl)) rfl) rfl) (by kernel_rfl))
theorem aDo (Q:aG):EJ (sub zH [Y,Y,Y,Y]) (sX Q) aY (sX Q)=(fun g s=>yU Q (g 1) (g 3) s):=Eq.trans (aM (aM (aFe Q) (aM (dV 2 (aEu Q _)) rfl)) rfl) (by kernel_rfl)
theorem aEo (Q:aG) (n2:Nat):EJ (sub zH [Y,Y,Y,N,Y,N,N,Y,Y,Y]) (mI (fun n g s=>rQ Q n (g 1) (g 3) (g 18) (g 19) (g 20) s) 183 n2) (cX 0 (fun g s=>yU Q (g 1) (g 3) s) aY) (sX Q)=(fun g s=>SQ Q (rQ Q n2) (g 20) (g 1) (g 3) (g 18) (g 19) s):=Eq.trans rfl (by kernel_rfl)
theorem ZI (Q:aG) (kN:Kt):EJ (sub zH [Y,Y,Y,N,Y,N]) kN (cX 0 (fun g s=>yU Q (g 1) (g 3) s) aY) (sX Q)=fun g s=>∃ n,rQ Q n (g 1) (g 3) (g 18) (g 19) (g 20) s:=mB (L:=fun n g s=>rQ Q n (g 1) (g 3) (g 18) (g 19) (g 20) s) (fun n2=>Eq.trans (aM (aM (aM (aEo Q n2) (dV 1 rfl)) rfl) rfl) (by kernel_rfl))
def f183 (Q:aG) (t0:AV) (s:St):Prop:=(t0.cells.all AV.one=true /\
 aA (zr 163) fun z3=>aA (aC 0 (.ptr s.nx 0)) fun t8=>aA (ld 1 false t8 (adv ((adv ((adv s 2).set s.nx (some (.cells t0.cells 101 true true))) 1).set ((adv s 2).set s.nx (some (.cells t0.cells 101 true true))).nx (some (.cells z3.cells 163 true true))) 9)) fun t9=>fF mEv 206 [t9] (rch (adv ((adv ((adv s 2).set s.nx (some (.cells t0.cells 101 true true))) 1).set ((adv s 2).set s.nx (some (.cells t0.cells 101 true true))).nx (some (.cells z3.cells 163 true true))) 9) [(.fn 206 [] []),t9]) (adv ((adv ((adv s 2).set s.nx (some (.cells t0.cells 101 true true))) 1).set ((adv s 2).set s.nx (some (.cells t0.cells 101 true true))).nx (some (.cells z3.cells 163 true true))) 9) fun t10 s1=>aA (bn .add 9 t10 (.str [58])) fun t11=>aA (aC 1 (.ptr s.nx 0)) fun t12=>aA (ld 1 false t12 s1) fun t13=>fF mEv 206 [t13] (rch s1 [(.fn 206 [] []),t13]) s1 fun t14 s2=>aA (bn .add 9 t11 t14) fun t15=>cL mEv 156 [(.ptr ((adv s 2).set s.nx (some (.cells t0.cells 101 true true))).nx 0),t15] (rch s2 [(.fn 156 [] []),(.ptr ((adv s 2).set s.nx (some (.cells t0.cells 101 true true))).nx 0),t15]) s2 fun t16 s3=>aA (aC 2 (.ptr s.nx 0)) fun t17=>aA (ld 1 false t17 (adv s3 4)) fun t18=>aA (bt .len #[72] [t18] (s3.nx+2) (adv s3 4)) fun r19=>∃ n,rQ Q n (.ptr s.nx 0) (.ptr ((adv s 2).set s.nx (some (.cells t0.cells 101 true true))).nx 0) t18 r19.1 (.int .i64 0) r19.2)
theorem aLi (t0:AV) (s:St) {Q:aG} (h:f183 Q t0 s):dT 183 [t0] s Q:=aH (h:=183) (fn:=Tryz.f183) (c:=sub zH []) (show EJ (sub zH []) (sX Q) aY (sX Q)=_ from (aM (aM (aM (aM (aDo Q) (aM (dV 0 (ZI Q _)) rfl)) rfl) rfl) rfl)) h
abbrev aZl:Code:=aJ Tryz.f131
abbrev bAy:=rK Tryz.f131
abbrev bNt:=aK mEv 131 (mEv.kp 131)
def f131 (Q:aG) (t0 t1:AV) (s:St):Prop:=(t1.cells.all AV.one=true /\
 aA (bn .eql 51 t0 .nilp) fun t12=>aZ t12
 (Q (.tup [(.int .i64 0),(.int .i64 1)]) (adv ((adv s 3).set s.nx (some (.cells t1.cells 101 true true))) 4))
 (aA (ld 7 true (.ptr s.nx 0) (adv ((adv s 3).set s.nx (some (.cells t1.cells 101 true true))) 5)) fun t13=>aO mEv 183 [t13] (adv ((adv s 3).set s.nx (some (.cells t1.cells 101 true true))) 5) fun t14 s1=>(aQ t0=true /\
 aA (aC 0 t0) fun t18=>aL mEv 184 [t18,t14] (adv s1 10) fun t20 s2=>aA (aS t20 0) fun t21=>aA (aS t20 1) fun t22=>aZ t22
 (Q (.tup [t21,(.int .i64 0)]) (adv s2 4))
 ((aQ t0=true /\
 aA (aC 2 t0) fun t27=>aA (ld 1 false t27 (adv s2 7)) fun t28=>aA (bt .len #[56] [t28] (s2.nx+5) (adv s2 7)) fun r29=>aA (bn .eql 3 r29.1 (.int .i64 20000)) fun t30=>aZ t30
 (Q (.tup [(.int .i64 0),(.int .i64 2)]) (adv r29.2 2))
 ((aQ t0=true /\
 aA (aC 0 t0) fun t34=>aL mEv 185 [t34,t14] (adv r29.2 10) fun t36 s3=>aA (aS t36 0) fun t37=>aA (aS t36 1) fun t38=>(aQ t0=true /\
 aA (aC 2 t0) fun t42=>aA (ld 1 false t42 (adv s3 12)) fun t43=>aA (ld 7 true (.ptr s.nx 0) (adv s3 12)) fun t44=>fF mEv 104 [t44] (rch (adv s3 12) [(.fn 104 [] []),t44]) (adv s3 12) fun t45 s4=>aA (kM 56 1 [(0,t45)]) fun t46=>(s4.h (s3.nx+8)=none/\aA (bt .append #[56,56] [t43,t46] (s3.nx+8) s4) fun r47=>(aQ t0=true /\
 aA (aC 2 t0) fun t49=>(r47.2.h (s3.nx+11)=none/\aA (dU 1 t49 r47.1 r47.2) fun s5=>Q (.tup [t37,(.int .i64 0)]) (adv s5 3))))))))))))
theorem aRh (t0 t1:AV) (s:St) {Q:aG} (h:f131 Q t0 t1 s):dT 131 [t0,t1] s Q:=aH (h:=131) (fn:=Tryz.f131) (c:=sub aZl []) (show bNt (sub aZl []) (bAy Q) aY (bAy Q)=_ from rfl) h
abbrev bIx:Code:=aJ Tryz.f77
abbrev bNo:=rK Tryz.f77
abbrev bRe:=aK mEv 77 (mEv.kp 77)
def f77 (Q:aG) (t0 t1 t2:AV) (s:St):Prop:=aA (bn .lss 3 t2 (.int .i64 1)) fun t9=>Gd (aD t9 false) (adv s 13) (fun k=>k t2 (adv s 13)) fun t11 s1=>Gd (aD t9 false) s1 (fun k=>aA (bn .gtr 3 t11 (.int .i64 3)) fun v=>k v s1) fun t12 s2=>aA (bC t9 (.bool true) t12) fun t13=>Gd (aD t13 false) s2 (fun k=>k t1 s2) fun t15 s3=>Gd (aD t13 false) s3 (fun k=>aA (bt .len #[9] [t15] (s.nx+10) s3) fun r=>k r.1 r.2) fun t16 s4=>Gd (aD t13 false) s4 (fun k=>aA (bn .gtr 3 t16 (.int .i64 16384)) fun v=>k v s4) fun t17 s5=>aA (bC t13 (.bool true) t17) fun t18=>aZ t18
 (Q (.tup [(.int .i64 0),(.int .i64 1)]) (adv s5 2))
 (aA (lK 101 [(0,(.int .i64 1)),(1,t2),(3,t1)]) fun t22=>aL mEv 131 [t0,t22] (adv s5 9) fun t23 s6=>aA (aS t23 0) fun t24=>aA (aS t23 1) fun t25=>Q (.tup [t24,t25]) s6)
theorem aXd (t0 t1 t2:AV) (s:St) {Q:aG} (h:f77 Q t0 t1 t2 s):dT 77 [t0,t1,t2] s Q:=aH (h:=77) (fn:=Tryz.f77) (c:=sub bIx []) (show bRe (sub bIx []) (bNo Q) aY (bNo Q)=_ from rfl) h
abbrev bPa:Code:=aJ Tryz.f78
abbrev bOq:=rK Tryz.f78
abbrev bPg:=aK mEv 78 (mEv.kp 78)
def f78 (Q:aG) (t0 t1:AV) (s:St):Prop:=aZ t1
 (aA (lK 101 [(0,(.int .i64 2)),(1,(.int .i64 1))]) fun t8=>aL mEv 131 [t0,t8] (adv s 10) fun t9 s1=>aA (aS t9 0) fun t10=>aA (aS t9 1) fun t11=>Q (.tup [t10,t11]) s1)
 (aA (lK 101 [(0,(.int .i64 3)),(1,(.int .i64 1))]) fun t13=>aL mEv 131 [t0,t13] (adv s 10) fun t14 s2=>aA (aS t14 0) fun t15=>aA (aS t14 1) fun t16=>Q (.tup [t15,t16]) s2)
theorem aWm (t0 t1:AV) (s:St) {Q:aG} (h:f78 Q t0 t1 s):dT 78 [t0,t1] s Q:=aH (h:=78) (fn:=Tryz.f78) (c:=sub bPa []) (show bPg (sub bPa []) (bOq Q) aY (bOq Q)=_ from rfl) h
abbrev bHc:Code:=aJ Tryz.f79
abbrev bOl:=rK Tryz.f79
abbrev bPu:=aK mEv 79 (mEv.kp 79)
def f79 (Q:aG) (t0 t1:AV) (s:St):Prop:=(t1.cells.all AV.one=true /\
 aA (ld 2 true (.ptr s.nx 0) (adv ((adv s 3).set s.nx (some (.cells t1.cells 24 true true))) 3)) fun t6=>aO mEv 20 [t6] (adv ((adv s 3).set s.nx (some (.cells t1.cells 24 true true))) 3) fun t7 s1=>aA (bn .lss 3 t7 (.int .i64 0)) fun t8=>aZ t8
 (Q (.tup [(.int .i64 0),(.int .i64 1)]) (adv s1 2))
 (aA (ld 2 true (.ptr s.nx 0) (adv s1 9)) fun t10=>aO mEv 69 [t10] (adv s1 9) fun t11 s2=>aA (lK 101 [(0,(.int .i64 4)),(1,(.int .i64 2)),(4,t11)]) fun t12=>aL mEv 131 [t0,t12] s2 fun t13 s3=>aA (aS t13 0) fun t14=>aA (aS t13 1) fun t15=>Q (.tup [t14,t15]) s3))
theorem aWb (t0 t1:AV) (s:St) {Q:aG} (h:f79 Q t0 t1 s):dT 79 [t0,t1] s Q:=aH (h:=79) (fn:=Tryz.f79) (c:=sub bHc []) (show bPu (sub bHc []) (bOl Q) aY (bOl Q)=_ from rfl) h
abbrev bNh:Code:=aJ Tryz.f80
abbrev bLn:=rK Tryz.f80
abbrev bTf:=aK mEv 80 (mEv.kp 80)
def f80 (Q:aG) (t0 t1:AV) (s:St):Prop:=aO mEv 60 [t1] (adv s 5) fun t7 s1=>aA (un .not t7) fun t8=>aZ t8
 (Q (.tup [(.int .i64 0),(.int .i64 1)]) (adv s1 2))
 (aA (lK 101 [(0,(.int .i64 5)),(1,(.int .i64 3)),(5,t1)]) fun t11=>aL mEv 131 [t0,t11] (adv s1 8) fun t12 s2=>aA (aS t12 0) fun t13=>aA (aS t12 1) fun t14=>Q (.tup [t13,t14]) s2)
theorem aVt (t0 t1:AV) (s:St) {Q:aG} (h:f80 Q t0 t1 s):dT 80 [t0,t1] s Q:=aH (h:=80) (fn:=Tryz.f80) (c:=sub bNh []) (show bTf (sub bNh []) (bLn Q) aY (bLn Q)=_ from rfl) h
abbrev bBp:Code:=aJ Tryz.f187
abbrev aZk:=rK Tryz.f187
abbrev bMd:=aK mEv 187 (mEv.kp 187)
def f187 (Q:aG) (t0 t1:AV) (s:St):Prop:=(aQ t0=true /\
 aA (aC 2 t0) fun t8=>aA (ld 1 false t8 (adv s 10)) fun t9=>aA (cQ 7 t9 t1) fun t11=>aA (ld 7 true t11 (adv s 10)) fun t12=>aA (zr 101) fun z5=>aA (dU 7 (.ptr (s.nx+8) 0) t12 ((adv s 10).set (s.nx+8) (some (.cells z5.cells 101 true true)))) fun s1=>aA (aC 0 (.ptr (s.nx+8) 0)) fun t13=>aA (ld 1 false t13 (adv s1 23)) fun t14=>aA (bn .eql 3 t14 (.int .i64 4)) fun t15=>Gd (aD t15 false) (adv s1 23) (fun k=>aA (aC 0 (.ptr (s.nx+8) 0)) fun v=>k v (adv s1 23)) fun t17 s2=>Gd (aD t15 false) s2 (fun k=>aA (ld 1 false t17 s2) fun v=>k v s2) fun t18 s3=>Gd (aD t15 false) s3 (fun k=>aA (bn .eql 3 t18 (.int .i64 14)) fun v=>k v s3) fun t19 s4=>Gd (aD t15 false) s4 (fun k=>k t19 s4) fun t20 s5=>Gd (aD t20 true) s5 (fun k=>k t0 s5) fun t21 s6=>Gd (aD t20 true) s6 (fun k=>aQ t21=true/\k t21 s6) fun t22 s7=>Gd (aD t20 true) s7 (fun k=>aA (aC 2 t22) fun v=>k v s7) fun t23 s8=>Gd (aD t20 true) s8 (fun k=>aA (ld 1 false t23 s8) fun v=>k v s8) fun t24 s9=>Gd (aD t20 true) s9 (fun k=>aA (aC 2 (.ptr (s.nx+8) 0)) fun v=>k v s9) fun t25 s10=>Gd (aD t20 true) s10 (fun k=>aA (ld 1 false t25 s10) fun v=>k v s10) fun t26 s11=>Gd (aD t20 true) s11 (fun k=>aA (cQ 1 t26 (.int .i64 0)) fun v=>k v s11) fun t27 s12=>Gd (aD t20 true) s12 (fun k=>aA (ld 1 false t27 s12) fun v=>k v s12) fun t28 s13=>Gd (aD t20 true) s13 (fun k=>aA (cQ 7 t24 t28) fun v=>k v s13) fun t29 s14=>Gd (aD t20 true) s14 (fun k=>aA (aC 0 t29) fun v=>k v s14) fun t30 s15 =>
 Gd (aD t20 true) s15 (fun k=>aA (ld 1 false t30 s15) fun v=>k v s15) fun t31 s16=>Gd (aD t20 true) s16 (fun k=>aA (bn .eql 3 t31 (.int .i64 4)) fun v=>k v s16) fun t32 s17=>Gd (aD t15 false) s17 (fun k=>aA (bC t20 t32 (.bool false)) fun v=>k v s17) fun t33 s18=>aA (bC t15 (.bool true) t33) fun t34=>Q t34 s18)
theorem aJy (t0 t1:AV) (s:St) {Q:aG} (h:f187 Q t0 t1 s):dT 187 [t0,t1] s Q:=aH (h:=187) (fn:=Tryz.f187) (c:=sub bBp []) (show bMd (sub bBp []) (aZk Q) aY (aZk Q)=_ from rfl) h
abbrev RD:Code:=aJ Tryz.f135
abbrev JD:=rK Tryz.f135
abbrev YO:=aK mEv 135 (mEv.kp 135)
def FZ (Q:aG) (t5:AV) (s:St):Prop:=aA (bn .leq 3 t5 (.int .i64 1)) fun t22=>Q t22 (adv s 3)
def DE (Q:aG) (ih1:AV->AV->AV->AV->aG) (t10 t0 t5 t8 t9:AV) (s:St):Prop:=aA (bn .add 3 t10 (.int .i64 1)) fun t20=>ih1 t0 t5 t8 t9 t20 (adv s 2)
def wT (Q:aG) (ih1:AV->AV->AV->AV->aG) (t0 t5 t8 t9 t10:AV) (s:St):Prop:=aA (bn .lss 3 t10 t9) fun t11=>aZ t11
 (aA (cQ 1 t8 t10) fun t12=>aA (ld 1 false t12 (adv s 4)) fun t13=>aL mEv 187 [t0,t13] (adv s 8) fun t16 s1=>aA (un .not t16) fun t17=>aZ t17
 (aA (bn .add 3 t5 (.int .i64 1)) fun t19=>DE Q ih1 t10 t0 t19 t8 t9 (adv s1 3))
 (DE Q ih1 t10 t0 t5 t8 t9 s1))
 (FZ Q t5 (adv s 1))
def qC (Q:aG) (n:Nat):AV->AV->AV->AV->aG:=mC (fun _ _ _ _ _ _ =>False) (fun ih=>wT Q ih) n
theorem aEz (Q:aG):YO (sub RD [Y,Y,Y]) (JD Q) aY (JD Q)=(fun g s=>FZ Q (g 5) s):=Eq.trans rfl (by kernel_rfl)
theorem aEc (Q:aG) (n1:Nat):YO (sub RD [Y,Y,N,Y,N,N,Y,Y,Y]) (mI (fun n g s=>qC Q n (g 0) (g 5) (g 8) (g 9) (g 10) s) 135 n1) (cX 0 (fun g s=>FZ Q (g 5) s) aY) (JD Q)=(fun g s=>DE Q (qC Q n1) (g 10) (g 0) (g 5) (g 8) (g 9) s):=Eq.trans rfl (by kernel_rfl)
theorem aEh (Q:aG) (kN:Kt):YO (sub RD [Y,Y,N,Y,N]) kN (cX 0 (fun g s=>FZ Q (g 5) s) aY) (JD Q)=fun g s=>∃ n,qC Q n (g 0) (g 5) (g 8) (g 9) (g 10) s:=mB (L:=fun n g s=>qC Q n (g 0) (g 5) (g 8) (g 9) (g 10) s) (fun n1=>Eq.trans (aM (aM (aM (aEc Q n1) (dV 1 rfl)) rfl) rfl) (by kernel_rfl))
def f135 (Q:aG) (t0 t1:AV) (s:St):Prop:=aA (bt .len #[72] [t1] (s.nx+3) (adv s 5)) fun r9=>∃ n,qC Q n t0 (.int .i64 0) t1 r9.1 (.int .i64 0) r9.2
theorem aMv (t0 t1:AV) (s:St) {Q:aG} (h:f135 Q t0 t1 s):dT 135 [t0,t1] s Q:=aH (h:=135) (fn:=Tryz.f135) (c:=sub RD []) (show YO (sub RD []) (JD Q) aY (JD Q)=_ from (aM (aM (aM (aEz Q) (aM (dV 0 (aEh Q _)) rfl)) rfl) rfl)) h
abbrev JI:Code:=aJ Tryz.f134
abbrev CB:=rK Tryz.f134
abbrev PD:=aK mEv 134 (mEv.kp 134)
def yD (Q:aG) (t4 t7:AV) (s:St):Prop:=aA (aC 5 t4) fun t44=>aA (ld 1 false t44 (adv s 3)) fun t45=>aA (bn .eql 3 t45 (.int .i64 (-1))) fun t46=>aZ t46
 (Q t7 (adv s 5))
 (aA (aC 5 t4) fun t48=>aA (ld 1 false t48 (adv s 6)) fun t49=>Q t49 (adv s 6))
def xR (Q:aG) (ih1:AV->AV->AV->AV->AV->aG) (t14 t0 t4 t7 t12 t13:AV) (s:St):Prop:=aA (bn .add 3 t14 (.int .i64 1)) fun t43=>ih1 t0 t4 t7 t12 t13 t43 (adv s 2)
def BT (Q:aG) (ih1:AV->AV->AV->AV->AV->aG) (t10 t11 t14 t0 t4 t12 t13:AV) (s:St):Prop:=aA (bn .neq 3 t10 (.int .i64 (-2))) fun t36=>Gd (aD t36 true) (adv s 7) (fun k=>k t10 (adv s 7)) fun t38 s1=>Gd (aD t36 true) s1 (fun k=>k t11 s1) fun t39 s2=>Gd (aD t36 true) s2 (fun k=>aA (bn .neq 3 t38 t39) fun v=>k v s2) fun t40 s3=>aA (bC t36 t40 (.bool false)) fun t41=>aZ t41
 (Q (.int .i64 0) (adv s3 1))
 (xR Q ih1 t14 t0 t4 t11 t12 t13 (adv s3 2))
def wC (Q:aG) (ih1:AV->AV->AV->AV->AV->aG) (t0 t4 t7 t12 t13 t14:AV) (s:St):Prop:=aA (bn .lss 3 t14 t13) fun t15=>aZ t15
 (aA (cQ 1 t12 t14) fun t17=>aA (ld 1 false t17 (adv s 6)) fun t18=>aA (bt .min #[3,3] [t14,(.int .i64 2)] (s.nx+7) (adv s 21)) fun r20=>aA (aC 2 t4) fun t21=>aA (ixA 3 1 t21 r20.1) fun t22=>aA (ld 1 false t22 r20.2) fun t23=>(aQ t0=true /\
 aA (aC 2 t0) fun t26=>aA (ld 1 false t26 r20.2) fun t27=>aA (cQ 7 t27 t18) fun t29=>aA (aC 1 t29) fun t30=>aA (ld 1 false t30 r20.2) fun t31=>aA (bn .eql 3 t23 (.int .i64 (-1))) fun t33=>aZ t33
 (BT Q ih1 t7 t31 t14 t0 t4 t12 t13 (adv r20.2 4))
 (BT Q ih1 t23 t31 t14 t0 t4 t12 t13 (adv r20.2 2))))
 (yD Q t4 t7 (adv s 1))
def jX (Q:aG) (n:Nat):AV->AV->AV->AV->AV->aG:=mC (fun _ _ _ _ _ _ _ =>False) (fun ih=>wC Q ih) n
theorem aAf (Q:aG):PD (sub JI [Y,Y,Y]) (CB Q) aY (CB Q)=(fun g s=>yD Q (g 4) (g 7) s):=Eq.trans rfl (by kernel_rfl)
theorem aAu (Q:aG) (n1:Nat):PD (sub JI [Y,Y,N,Y,N,N,Y,Y,Y]) (mI (fun n g s=>jX Q n (g 0) (g 4) (g 7) (g 12) (g 13) (g 14) s) 134 n1) (cX 0 (fun g s=>yD Q (g 4) (g 7) s) aY) (CB Q)=(fun g s=>xR Q (jX Q n1) (g 14) (g 0) (g 4) (g 7) (g 12) (g 13) s):=Eq.trans rfl (by kernel_rfl)
theorem aEd (Q:aG) (n1:Nat):PD (sub JI [Y,Y,N,Y,N,N,Y,Y,N,N,Y,Y,Y]) (fun g s=>xR Q (jX Q n1) (g 14) (g 0) (g 4) (g 7) (g 12) (g 13) s) (cX 1 (fun g s=>xR Q (jX Q n1) (g 14) (g 0) (g 4) (g 7) (g 12) (g 13) s) (cX 0 (fun g s=>yD Q (g 4) (g 7) s) aY)) (CB Q)=(fun g s=>BT Q (jX Q n1) (g 10) (g 11) (g 14) (g 0) (g 4) (g 12) (g 13) s):=Eq.trans rfl (by kernel_rfl)
theorem aFo (Q:aG) (kN:Kt):PD (sub JI [Y,Y,N,Y,N]) kN (cX 0 (fun g s=>yD Q (g 4) (g 7) s) aY) (CB Q)=fun g s=>∃ n,jX Q n (g 0) (g 4) (g 7) (g 12) (g 13) (g 14) s:=mB (L:=fun n g s=>jX Q n (g 0) (g 4) (g 7) (g 12) (g 13) (g 14) s) (fun n1=>Eq.trans (aM (aM (aM (aAu Q n1) (dV 1 (aM (aM (aM (aEd Q n1) rfl) rfl) rfl))) rfl) rfl) (by kernel_rfl))
def f134 (Q:aG) (t0 t1 t2:AV) (s:St):Prop:=(t1.cells.all AV.one=true /\
 aA (bt .len #[72] [t2] (((adv s 2).set s.nx (some (.cells t1.cells 192 true true))).nx+2) (adv ((adv s 2).set s.nx (some (.cells t1.cells 192 true true))) 4)) fun r13=>∃ n,jX Q n t0 (.ptr s.nx 0) (.int .i64 0) t2 r13.1 (.int .i64 0) r13.2)
theorem aQz (t0 t1 t2:AV) (s:St) {Q:aG} (h:f134 Q t0 t1 t2 s):dT 134 [t0,t1,t2] s Q:=aH (h:=134) (fn:=Tryz.f134) (c:=sub JI []) (show PD (sub JI []) (CB Q) aY (CB Q)=_ from (aM (aM (aM (aAf Q) (aM (dV 0 (aFo Q _)) rfl)) rfl) rfl)) h
abbrev bCr:Code:=aJ Tryz.f132
abbrev bCl:=rK Tryz.f132
abbrev bKg:=aK mEv 132 (mEv.kp 132)
def f132 (Q:aG) (t0 t1:AV) (s:St):Prop:=aA (bn .lss 3 t0 (.int .i64 0)) fun t5=>Gd (aD t5 false) (adv s 10) (fun k=>k t0 (adv s 10)) fun t7 s1=>Gd (aD t5 false) s1 (fun k=>aA (ld 1 false t1 s1) fun v=>k v s1) fun t8 s2=>Gd (aD t5 false) s2 (fun k=>aL mEv 31 [t8] s2 k) fun t9 s3=>Gd (aD t5 false) s3 (fun k=>aA (bn .geq 3 t7 t9) fun v=>k v s3) fun t10 s4=>aA (bC t5 (.bool true) t10) fun t11=>Q t11 s4
theorem aKf (t0 t1:AV) (s:St) {Q:aG} (h:f132 Q t0 t1 s):dT 132 [t0,t1] s Q:=aH (h:=132) (fn:=Tryz.f132) (c:=sub bCr []) (show bKg (sub bCr []) (bCl Q) aY (bCl Q)=_ from rfl) h
abbrev bDk:Code:=aJ Tryz.f81
abbrev aUm:=rK Tryz.f81
abbrev bNq:=aK mEv 81 (mEv.kp 81)
def UZ (Q:aG) (t3 t1 t10 t2:AV) (s:St):Prop:=aA (ld 1 false t3 (adv s 10)) fun t71=>aA (lK 101 [(0,t1),(1,t10),(2,t2)]) fun t75=>aL mEv 131 [t71,t75] (adv s 10) fun t76 s1=>aA (aS t76 0) fun t77=>aA (aS t76 1) fun t78=>Q (.tup [t77,t78]) s1
theorem aSi (Q:aG):bNq (sub bDk [Y,Y,Y,Y,Y,Y,Y]) (aUm Q) aY (aUm Q)=(fun g s=>UZ Q (g 3) (g 1) (g 10) (g 2) s):=Eq.trans rfl (by kernel_rfl)
def f81 (Q:aG) (t0 t1 t2:AV) (s:St):Prop:=(t0.cells.all AV.one=true /\
 aA (bn .lss 3 t1 (.int .i64 0)) fun t12=>Gd (aD t12 false) (adv ((adv s 3).set s.nx (some (.cells t0.cells 51 true true))) 13) (fun k=>k t1 (adv ((adv s 3).set s.nx (some (.cells t0.cells 51 true true))) 13)) fun t14 s1=>Gd (aD t12 false) s1 (fun k=>aA (bn .geq 3 t14 (.int .i64 31)) fun v=>k v s1) fun t15 s2=>aA (bC t12 (.bool true) t15) fun t16=>Gd (aD t16 false) s2 (fun k=>k t1 s2) fun t18 s3=>Gd (aD t16 false) s3 (fun k=>aA (ixA 31 6 (gl 1) t18) fun v=>k v s3) fun t19 s4=>Gd (aD t16 false) s4 (fun k=>aA (aC 0 t19) fun v=>k v s4) fun t20 s5=>Gd (aD t16 false) s5 (fun k=>aA (ld 1 false t20 s5) fun v=>k v s5) fun t21 s6=>Gd (aD t16 false) s6 (fun k=>aA (bn .eql 3 t21 (.int .i64 0)) fun v=>k v s6) fun t22 s7=>aA (bC t16 (.bool true) t22) fun t23=>aZ t23
 (Q (.tup [(.int .i64 0),(.int .i64 101)]) (adv s7 2))
 (aA (ixA 31 6 (gl 1) t1) fun t25=>aA (ld 6 true t25 (adv s7 5)) fun t26=>aA (zr 192) fun z8=>aA (dU 6 (.ptr (s7.nx+3) 0) t26 ((adv s7 5).set (s7.nx+3) (some (.cells z8.cells 192 true true)))) fun s8=>aA (bt .len #[72] [t2] (s8.nx+3) (adv s8 29)) fun r29=>aA (aC 0 (.ptr (s7.nx+3) 0)) fun t30=>aA (ld 1 false t30 r29.2) fun t31=>aA (bn .lss 3 r29.1 t31) fun t32=>Gd (aD t32 false) r29.2 (fun k=>k t2 r29.2) fun t34 s9=>Gd (aD t32 false) s9 (fun k=>aA (bt .len #[72] [t34] (s8.nx+9) s9) fun r=>k r.1 r.2) fun t35 s10=>Gd (aD t32 false) s10 (fun k=>aA (aC 0 (.ptr (s7.nx+3) 0)) fun v=>k v s10) fun t36 s11=>Gd (aD t32 false) s11 (fun k=>aA (ld 1 false t36 s11) fun v=>k v s11) fun t37 s12=>Gd (aD t32 false) s12 (fun k=>aA (bn .gtr 3 t35 t37) fun v=>k v s12) fun t38 s13=>Gd (aD t32 false) s13 (fun k=>k t38 s13) fun t39 s14=>Gd (aD t39 true) s14 (fun k=>aA (aC 1 (.ptr (s7.nx+3) 0)) fun v=>k v s14) fun t40 s15=>Gd (aD t39 true) s15 (fun k=>aA (ld 1 false t40 s15) fun v=>k v s15) fun t41 s16=>Gd (aD t39 true) s16 (fun k=>aA (un .not t41) fun v=>k v s16) fun t42 s17=>Gd (aD t32 false) s17 (fun k=>aA (bC t39 t42 (.bool false)) fun v=>k v s17) fun t43 s18=>aA (bC t32 (.bool true) t43) fun t44=>Gd (aD t44 false) s18 (fun k=>k t2 s18) fun t46 s19=>Gd (aD t44 false) s19 (fun k=>aA (bt .len #[72] [t46] (s8.nx+21) s19) fun r=>k r.1 r.2) fun t47 s20=>Gd (aD t44 false) s20 (fun k=>aA (bn .gtr 3 t47 (.int .i64 200)) fun v=>k v s20) fun t48 s21 =>
 aA (bC t44 (.bool true) t48) fun t49=>Gd (aD t49 false) s21 (fun k=>k t2 s21) fun t51 s22=>Gd (aD t49 false) s22 (fun k=>k (.fn 132 [] [(.ptr s.nx 0)]) s22) fun t52 s23=>Gd (aD t49 false) s23 (fun k=>aL mEv 133 [t51,t52] s23 k) fun t53 s24=>aA (bC t49 (.bool true) t53) fun t54=>aZ t54
 (Q (.tup [(.int .i64 0),(.int .i64 1)]) (adv s24 2))
 (aA (ld 1 false (.ptr s.nx 0) (adv s24 5)) fun t55=>aA (ld 6 true (.ptr (s7.nx+3) 0) (adv s24 5)) fun t56=>aL mEv 134 [t55,t56,t2] (adv s24 5) fun t58 s25=>aA (bn .eql 3 t58 (.int .i64 0)) fun t61=>aZ t61
 (Q (.tup [(.int .i64 0),(.int .i64 90)]) (adv s25 5))
 (aA (bn .eql 3 t1 (.int .i64 17)) fun t64=>Gd (aD t64 true) (adv s25 12) (fun k=>aA (ld 1 false (.ptr s.nx 0) (adv s25 12)) fun v=>k v (adv s25 12)) fun t66 s26=>Gd (aD t64 true) s26 (fun k=>k t2 s26) fun t67 s27=>Gd (aD t64 true) s27 (fun k=>aL mEv 135 [t66,t67] s27 k) fun t68 s28=>Gd (aD t64 true) s28 (fun k=>aA (un .not t68) fun v=>k v s28) fun t69 s29=>aA (bC t64 t69 (.bool false)) fun t70=>aZ t70
 (Q (.tup [(.int .i64 0),(.int .i64 101)]) (adv s29 2))
 (UZ Q (.ptr s.nx 0) t1 t58 t2 s29)))))
theorem aVn (t0 t1 t2:AV) (s:St) {Q:aG} (h:f81 Q t0 t1 t2 s):dT 81 [t0,t1,t2] s Q:=aH (h:=81) (fn:=Tryz.f81) (c:=sub bDk []) (show bNq (sub bDk []) (aUm Q) aY (aUm Q)=_ from (aM (aM (aM (aM (aM (aM (aM (aSi Q) (dV 0 rfl)) rfl) rfl) rfl) rfl) rfl) rfl)) h
abbrev aYn:Code:=aJ Tryz.f221
abbrev bBd:=rK Tryz.f221
abbrev bOs:=aK mEv 221 (mEv.kp 221)
def f221 (Q:aG) (t0 t1:AV) (s:St):Prop:=aO mEv 248 [t0,t1] (adv s 6) fun t7 s1=>aA (bn .geq 3 t7 (.int .i64 0)) fun t8=>Q t8 s1
theorem aLj (t0 t1:AV) (s:St) {Q:aG} (h:f221 Q t0 t1 s):dT 221 [t0,t1] s Q:=aH (h:=221) (fn:=Tryz.f221) (c:=sub aYn []) (show bOs (sub aYn []) (bBd Q) aY (bBd Q)=_ from rfl) h
abbrev OS:Code:=aJ Tryz.f248
abbrev GZ:=rK Tryz.f248
abbrev VI:=aK mEv 248 (mEv.kp 248)
def BP (Q:aG) (s:St):Prop:=Q (.int .i64 (-1)) (adv s 1)
def TG (Q:aG) (ih1:AV->AV->AV->aG) (t8 t0 t1 t7:AV) (s:St):Prop:=aA (bn .add 3 t8 (.int .i64 1)) fun t18=>ih1 t0 t1 t7 t18 (adv s 2)
def wU (Q:aG) (ih1:AV->AV->AV->aG) (t0 t1 t7 t8:AV) (s:St):Prop:=aA (bn .lss 3 t8 t7) fun t9=>aZ t9
 (aA (cQ 1 t0 t8) fun t14=>aA (ld 1 false t14 (adv s 9)) fun t15=>aA (bn .eql 9 t1 t15) fun t16=>aZ t16
 (Q t8 (adv s 11))
 (TG Q ih1 t8 t0 t1 t7 (adv s 9)))
 (BP Q (adv s 1))
def qG (Q:aG) (n:Nat):AV->AV->AV->aG:=mC (fun _ _ _ _ _ =>False) (fun ih=>wU Q ih) n
theorem ZF (Q:aG):VI (sub OS [Y,Y]) (GZ Q) aY (GZ Q)=(fun g s=>BP Q s):=Eq.trans rfl (by kernel_rfl)
theorem ZH (Q:aG) (n1:Nat):VI (sub OS [Y,N,Y,N,N,Y,Y,Y]) (mI (fun n g s=>qG Q n (g 0) (g 1) (g 7) (g 8) s) 248 n1) (cX 0 (fun g s=>BP Q s) aY) (GZ Q)=(fun g s=>TG Q (qG Q n1) (g 8) (g 0) (g 1) (g 7) s):=Eq.trans rfl (by kernel_rfl)
theorem aCy (Q:aG) (kN:Kt):VI (sub OS [Y,N,Y,N]) kN (cX 0 (fun g s=>BP Q s) aY) (GZ Q)=fun g s=>∃ n,qG Q n (g 0) (g 1) (g 7) (g 8) s:=mB (L:=fun n g s=>qG Q n (g 0) (g 1) (g 7) (g 8) s) (fun n1=>Eq.trans (aM (aM (aM (ZH Q n1) (dV 1 rfl)) rfl) rfl) (by kernel_rfl))
def f248 (Q:aG) (t0 t1:AV) (s:St):Prop:=aA (bt .len #[52] [t0] (s.nx+2) (adv s 4)) fun r7=>∃ n,qG Q n t0 t1 r7.1 (.int .i64 0) r7.2
theorem aMk (t0 t1:AV) (s:St) {Q:aG} (h:f248 Q t0 t1 s):dT 248 [t0,t1] s Q:=aH (h:=248) (fn:=Tryz.f248) (c:=sub OS []) (show VI (sub OS []) (GZ Q) aY (GZ Q)=_ from (aM (aM (ZF Q) (aM (dV 0 (aCy Q _)) rfl)) rfl)) h
abbrev PK:Code:=aJ Tryz.f192
abbrev IZ:=rK Tryz.f192
abbrev WJ:=aK mEv 192 (mEv.kp 192)
def EB (Q:aG) (s:St):Prop:=Q (.bool false) (adv s 1)
def TN (Q:aG) (ih1:AV->AV->AV->aG) (t7 t0 t5 t6:AV) (s:St):Prop:=aA (bn .add 3 t7 (.int .i64 1)) fun t17=>ih1 t0 t5 t6 t17 (adv s 2)
def wJ (Q:aG) (ih1:AV->AV->AV->aG) (t0 t5 t6 t7:AV) (s:St):Prop:=aA (bn .lss 3 t7 t6) fun t8=>aZ t8
 (aA (cQ 1 t5 t7) fun t10=>aA (ld 1 false t10 (adv s 6)) fun t11=>aA (mF 52 t0 none (some t7) none (adv s 11)) fun t14=>aO mEv 221 [t14,t11] (adv s 11) fun t16 s1=>aZ t16
 (Q (.bool true) (adv s1 1))
 (TN Q ih1 t7 t0 t5 t6 s1))
 (EB Q (adv s 1))
def qU (Q:aG) (n:Nat):AV->AV->AV->aG:=mC (fun _ _ _ _ _ =>False) (fun ih=>wJ Q ih) n
theorem aFx (Q:aG):WJ (sub PK [Y,Y]) (IZ Q) aY (IZ Q)=(fun g s=>EB Q s):=Eq.trans rfl (by kernel_rfl)
theorem aFg (Q:aG) (n1:Nat):WJ (sub PK [Y,N,Y,N,N,Y,Y,Y]) (mI (fun n g s=>qU Q n (g 0) (g 5) (g 6) (g 7) s) 192 n1) (cX 0 (fun g s=>EB Q s) aY) (IZ Q)=(fun g s=>TN Q (qU Q n1) (g 7) (g 0) (g 5) (g 6) s):=Eq.trans rfl (by kernel_rfl)
theorem aAy (Q:aG) (kN:Kt):WJ (sub PK [Y,N,Y,N]) kN (cX 0 (fun g s=>EB Q s) aY) (IZ Q)=fun g s=>∃ n,qU Q n (g 0) (g 5) (g 6) (g 7) s:=mB (L:=fun n g s=>qU Q n (g 0) (g 5) (g 6) (g 7) s) (fun n1=>Eq.trans (aM (aM (aM (aFg Q n1) (dV 1 rfl)) rfl) rfl) (by kernel_rfl))
def f192 (Q:aG) (t0:AV) (s:St):Prop:=aA (bt .len #[52] [t0] (s.nx+2) (adv s 4)) fun r6=>∃ n,qU Q n t0 t0 r6.1 (.int .i64 0) r6.2
theorem aQb (t0:AV) (s:St) {Q:aG} (h:f192 Q t0 s):dT 192 [t0] s Q:=aH (h:=192) (fn:=Tryz.f192) (c:=sub PK []) (show WJ (sub PK []) (IZ Q) aY (IZ Q)=_ from (aM (aM (aFx Q) (aM (dV 0 (aAy Q _)) rfl)) rfl)) h
end
noncomputable section
abbrev UQ:Code:=aJ Tryz.f13
abbrev QL:=rK Tryz.f13
abbrev aDw:=aK mEv 13 (mEv.kp 13)
def FR (Q:aG) (s:St):Prop:=Q (.bool true) (adv s 1)
def tE (Q:aG) (ih1:AV->AV->aG) (t6 t0 t5:AV) (s:St):Prop:=aA (bn .add 3 t6 (.int .i64 1)) fun t30=>ih1 t0 t5 t30 (adv s 3)
def aJm (Q:aG) (ih1:AV->AV->aG) (ih2:AV->AV->AV->AV->AV->aG) (t10 t0 t5 t6 t7 t8:AV) (s:St):Prop:=aA (bn .add 3 t10 (.int .i64 1)) fun t67=>ih2 t0 t5 t6 t7 t8 t67 (adv s 3)
def CO (Q:aG) (ih1:AV->AV->aG) (ih2:AV->AV->AV->AV->AV->aG) (t0 t5 t6 t7 t8 t10:AV) (s:St):Prop:=aA (bt .len #[72] [t8] (s.nx+2) (adv s 4)) fun r64=>aA (bn .lss 3 t10 r64.1) fun t65=>aZ t65
 (aA (cQ 1 t8 t10) fun t72=>aA (ld 1 false t72 (adv r64.2 12)) fun t73=>aL mEv 53 [t7,t73] (adv r64.2 12) fun t74 s1=>aA (aS t74 0) fun t75=>aA (aS t74 1) fun t76=>aA (zr 101) fun z11=>let s2:St:=(s1.set (r64.2.nx+9) (some (.cells z11.cells 101 true true)))
 aA (dU 7 (.ptr (r64.2.nx+9) 0) t75 s2) fun s3=>aA (un .not t76) fun t78=>Gd (aD t78 false) (adv s3 7) (fun k=>aA (aC 1 (.ptr (r64.2.nx+9) 0)) fun v=>k v (adv s3 7)) fun t80 s4=>Gd (aD t78 false) s4 (fun k=>aA (ld 1 false t80 s4) fun v=>k v s4) fun t81 s5=>Gd (aD t78 false) s5 (fun k=>aA (bn .neq 3 t81 (.int .i64 1)) fun v=>k v s5) fun t82 s6=>aA (bC t78 (.bool true) t82) fun t83=>aZ t83
 (Q (.bool false) (adv s6 1))
 (aJm Q ih1 ih2 t10 t0 t5 t6 t7 t8 s6))
 (tE Q ih1 t6 t0 t5 r64.2)
def zN (Q:aG) (ih1:AV->AV->aG) (n:Nat):AV->AV->AV->AV->AV->aG:=mC (fun _ _ _ _ _ _ _ =>False) (fun ih=>CO Q ih1 ih) n
def BW (Q:aG) (ih1:AV->AV->aG) (t0 t5 t6:AV) (s:St):Prop:=aA (bt .len #[79] [t0] (s.nx+2) (adv s 4)) fun r27=>aA (bn .lss 3 t6 r27.1) fun t28=>aZ t28
 (aA (cQ 18 t0 t6) fun t34=>aA (ld 18 true t34 (adv r27.2 6)) fun t35=>aL mEv 47 [t5,t35] (adv r27.2 6) fun t36 s1=>aA (lK 58 []) fun t37=>(t37.cells.all AV.one=true /\
 let s2:St:=((adv s1 3).set (s1.nx+1) (some (.cells t37.cells 58 true true)))
 aL mEv 52 [t5,(.ptr (s1.nx+1) 0)] (adv s2 8) fun t42 s3=>aA (aS t42 0) fun t43=>aA (aS t42 1) fun t44=>aA (bn .eql 34 t44 (.int .i64 2)) fun t46=>Gd (aD t46 true) (adv s3 7) (fun k=>k t43 (adv s3 7)) fun t48 s4=>Gd (aD t46 true) s4 (fun k=>aA (bt .len #[72] [t48] (s3.nx+4) s4) fun r=>k r.1 r.2) fun t49 s5=>Gd (aD t46 true) s5 (fun k=>aA (bn .eql 3 t49 (.int .i64 0)) fun v=>k v s5) fun t50 s6=>aA (bC t46 t50 (.bool false)) fun t51=>aZ t51
 (tE Q ih1 t6 t0 t5 s6)
 (aA (bn .neq 34 t44 (.int .i64 0)) fun t53=>Gd (aD t53 false) (adv s6 10) (fun k=>k t43 (adv s6 10)) fun t55 s7=>Gd (aD t53 false) s7 (fun k=>aA (bt .len #[72] [t55] (s6.nx+4) s7) fun r=>k r.1 r.2) fun t56 s8=>Gd (aD t53 false) s8 (fun k=>k t5 s8) fun t57 s9=>Gd (aD t53 false) s9 (fun k=>aL mEv 45 [t57] s9 k) fun t58 s10=>Gd (aD t53 false) s10 (fun k=>aA (bt .len #[31] [t58] (s6.nx+7) s10) fun r=>k r.1 r.2) fun t59 s11=>Gd (aD t53 false) s11 (fun k=>aA (bn .neq 3 t56 t59) fun v=>k v s11) fun t60 s12=>aA (bC t53 (.bool true) t60) fun t61=>aZ t61
 (Q (.bool false) (adv s12 1))
 (∃ n,zN Q ih1 n t0 t5 t6 (.ptr (s1.nx+1) 0) t43 (.int .i64 0) (adv s12 1)))))
 (FR Q r27.2)
def iS (Q:aG) (n:Nat):AV->AV->aG:=mC (fun _ _ _ _ =>False) (fun ih=>BW Q ih) n
theorem aSr (Q:aG):aDw (sub UQ [Y,Y,Y,Y,Y,Y]) (QL Q) aY (QL Q)=(fun g s=>FR Q s):=Eq.trans rfl (by kernel_rfl)
theorem aLk (Q:aG) (n1:Nat):aDw (sub UQ [Y,Y,Y,Y,Y,N,Y,N,N,Y,Y]) (mI (fun n g s=>iS Q n (g 0) (g 5) (g 6) s) 13 n1) (cX 0 (fun g s=>FR Q s) aY) (QL Q)=(fun g s=>tE Q (iS Q n1) (g 6) (g 0) (g 5) s):=Eq.trans rfl (by kernel_rfl)
theorem aNk (Q:aG) (n1:Nat) (n2:Nat):aDw (sub UQ [Y,Y,Y,Y,Y,N,Y,N,N,Y,N,N,Y,Y,Y,Y,Y,Y,N,N,Y,Y]) (mI (fun n g s=>zN Q (iS Q n1) n (g 0) (g 5) (g 6) (g 7) (g 8) (g 10) s) 13 n2) (cX 2 (fun g s=>tE Q (iS Q n1) (g 6) (g 0) (g 5) s) (cX 1 (fun g s=>tE Q (iS Q n1) (g 6) (g 0) (g 5) s) (cX 0 (fun g s=>FR Q s) aY))) (QL Q)=(fun g s=>aJm Q (iS Q n1) (zN Q (iS Q n1) n2) (g 10) (g 0) (g 5) (g 6) (g 7) (g 8) s):=Eq.trans rfl (by kernel_rfl)
theorem aGu (Q:aG) (n1:Nat) (kN:Kt):aDw (sub UQ [Y,Y,Y,Y,Y,N,Y,N,N,Y,N,N,Y,Y,Y,Y,Y,Y,N]) kN (cX 2 (fun g s=>tE Q (iS Q n1) (g 6) (g 0) (g 5) s) (cX 1 (fun g s=>tE Q (iS Q n1) (g 6) (g 0) (g 5) s) (cX 0 (fun g s=>FR Q s) aY))) (QL Q)=fun g s=>∃ n,zN Q (iS Q n1) n (g 0) (g 5) (g 6) (g 7) (g 8) (g 10) s:=mB (L:=fun n g s=>zN Q (iS Q n1) n (g 0) (g 5) (g 6) (g 7) (g 8) (g 10) s) (fun n2=>Eq.trans (aM (aM (aNk Q n1 n2) (dV 3 rfl)) rfl) (by kernel_rfl))
theorem aMb (Q:aG) (kN:Kt):aDw (sub UQ [Y,Y,Y,Y,Y,N,Y,N]) kN (cX 0 (fun g s=>FR Q s) aY) (QL Q)=fun g s=>∃ n,iS Q n (g 0) (g 5) (g 6) s:=mB (L:=fun n g s=>iS Q n (g 0) (g 5) (g 6) s) (fun n1=>Eq.trans (aM (aM (aLk Q n1) (dV 1 (aM (aM (aM (aM (aM (aM (dV 2 (aGu Q n1 _)) rfl) rfl) rfl) rfl) rfl) rfl))) rfl) (by kernel_rfl))
def f13 (Q:aG) (t0:AV) (s:St):Prop:=aO mEv 42 [] (adv s 3) fun t13 s1=>aO mEv 43 [t0] (adv s1 3) fun t15 s2=>aA (un .not t13) fun t17=>Gd (aD t17 false) (adv s2 6) (fun k=>k t15 (adv s2 6)) fun t19 s3=>Gd (aD t17 false) s3 (fun k=>aA (un .not t19) fun v=>k v s3) fun t20 s4=>aA (bC t17 (.bool true) t20) fun t21=>aZ t21
 (Q t13 (adv s4 2))
 (aA (lK 88 []) fun t23=>(t23.cells.all AV.one=true /\
 let s5:St:=((adv s4 3).set (s4.nx+1) (some (.cells t23.cells 88 true true)))
 ∃ n,iS Q n t0 (.ptr (s4.nx+1) 0) (.int .i64 0) (adv s5 1)))
theorem aWx (t0:AV) (s:St) {Q:aG} (h:f13 Q t0 s):dT 13 [t0] s Q:=aH (h:=13) (fn:=Tryz.f13) (c:=sub UQ []) (show aDw (sub UQ []) (QL Q) aY (QL Q)=_ from (aM (aM (aM (aM (aM (aM (aSr Q) (aM (dV 0 (aMb Q _)) rfl)) rfl) rfl) rfl) rfl) rfl)) h
abbrev bAe:Code:=aJ Tryz.f143
abbrev aYz:=rK Tryz.f143
abbrev bHo:=aK mEv 143 (mEv.kp 143)
def f143 (Q:aG) (t0 t1:AV) (s:St):Prop:=aO mEv 24 [t1] (adv s 3) fun t6 s1=>aZ t6
 (Q (.int .i64 101) (adv s1 1))
 ((aQ t0=true /\
 aA (aC 4 t0) fun t9=>aA (ld 1 false t9 (adv s1 6)) fun t10=>aA (eE Tryz.ty 86 t10 t1 false (adv s1 6)) fun t12=>aZ t12
 (Q (.int .i64 4) (adv s1 7))
 (Q (.int .i64 0) (adv s1 7))))
theorem aGm (t0 t1:AV) (s:St) {Q:aG} (h:f143 Q t0 t1 s):dT 143 [t0,t1] s Q:=aH (h:=143) (fn:=Tryz.f143) (c:=sub bAe []) (show bHo (sub bAe []) (aYz Q) aY (aYz Q)=_ from rfl) h
abbrev aRs:Code:=aJ Tryz.f144
abbrev VM:=rK Tryz.f144
abbrev aZc:=aK mEv 144 (mEv.kp 144)
def yB (Q:aG) (t0 t3:AV) (s:St):Prop:=(aQ t0=true /\
 aA (aC 4 t0) fun t22=>aA (ld 1 false t22 (adv s 7)) fun t23=>aA (aC 0 t3) fun t24=>aA (ld 1 false t24 (adv s 7)) fun t25=>((adv s 7).h (s.nx+6)=none/\aA (eN Tryz.ty 86 t23 t25 (.bool true) (adv s 7)) fun s1=>(aQ t0=true /\
 aA (aC 0 t0) fun t28=>aA (ld 10 true t3 (adv s1 6)) fun t29=>fF mEv 95 [t29] (rch (adv s1 6) [(.fn 95 [] []),t29]) (adv s1 6) fun t30 s2=>cL mEv 190 [t28,t30] (rch s2 [(.fn 190 [] []),t28,t30]) s2 fun t31 s3=>Q (.int .i64 0) (adv s3 1))))
theorem aAo (Q:aG):aZc (sub aRs [Y,Y,Y]) (VM Q) aY (VM Q)=(fun g s=>yB Q (g 0) (g 3) s):=Eq.trans rfl (by kernel_rfl)
def f144 (Q:aG) (t0 t1:AV) (s:St):Prop:=(t1.cells.all AV.one=true /\
 let s1:St:=((adv s 2).set s.nx (some (.cells t1.cells 67 true true)))
 (aQ t0=true /\
 aA (aC 0 t0) fun t7=>aL mEv 94 [t7] (adv s1 6) fun t8 s2=>aA (bt .len #[49] [t8] (s1.nx+4) s2) fun r9=>aA (bn .eql 3 r9.1 (.int .i64 500)) fun t10=>aZ t10
 (Q (.int .i64 2) (adv r9.2 1))
 ((aQ t0=true /\
 aA (aC 4 t0) fun t13=>aA (ld 1 false t13 (adv r9.2 5)) fun t14=>aA (bn .eql 86 t14 .nilm) fun t15=>aZ t15
 (let s3:St:=((adv r9.2 10).set (r9.2.nx+6) (some (.map [])))
 (aQ t0=true /\
 aA (aC 4 t0) fun t19=>aA (dU 1 t19 (.map (r9.2.nx+6)) s3) fun s4=>yB Q t0 (.ptr s.nx 0) s4))
 (yB Q t0 (.ptr s.nx 0) (adv r9.2 5))))))
theorem aJu (t0 t1:AV) (s:St) {Q:aG} (h:f144 Q t0 t1 s):dT 144 [t0,t1] s Q:=aH (h:=144) (fn:=Tryz.f144) (c:=sub aRs []) (show aZc (sub aRs []) (VM Q) aY (VM Q)=_ from (aM (aM (aM (aAo Q) rfl) rfl) rfl)) h
abbrev bCk:Code:=aJ Tryz.f145
abbrev bBl:=rK Tryz.f145
abbrev bLo:=aK mEv 145 (mEv.kp 145)
def f145 (Q:aG) (t0 t1:AV) (s:St):Prop:=(t1.cells.all AV.one=true /\
 let s1:St:=((adv s 1).set s.nx (some (.cells t1.cells 33 true true)))
 aA (bn .neq 155 t0 .nilp) fun t5=>aZ t5
 ((aQ t0=true /\
 aA (aC 0 t0) fun t8=>aA (ld 1 false t8 (adv s1 15)) fun t9=>aA (ld 6 true (.ptr s.nx 0) (adv s1 15)) fun t10=>aA (bt .len #[31] [t9] (s1.nx+7) (adv s1 15)) fun r11=>aA (kM 31 1 [(0,(.agg [(.bool false),(.int .i64 0),(.str []),(.int .i64 0),(.int .i64 0),.nils]))]) fun t12=>(r11.2.h (s1.nx+9)=none/\aA (bt .append #[31,31] [t9,t12] (s1.nx+9) r11.2) fun r13=>aA (cQ 6 r13.1 r11.1) fun t14=>(r13.2.h (s1.nx+11)=none/\aA (dU 6 t14 t10 r13.2) fun s2=>(aQ t0=true /\
 aA (aC 0 t0) fun t16=>(clear 3327 ⟨12,true,(s1.nx+14)::aE t16,none⟩ [⟨11,false,[],none⟩,⟨10,false,[],none⟩,⟨9,true,(s1.nx+11)::aE t14,none⟩,⟨8,false,[],none⟩,⟨7,true,(s1.nx+9)::([t9,t12]).flatMap aE,none⟩,⟨6,false,[],none⟩,⟨5,false,([t9]).flatMap aE,none⟩,⟨4,false,aE (.ptr s.nx 0),none⟩,⟨3,false,aE t8,none⟩,⟨2,false,[],none⟩,⟨1,false,[],none⟩,⟨0,false,[],none⟩]=true/\s2.h (s1.nx+14)=none/\aA (dU 1 t16 r13.1 s2) fun s3=>Q (.tup []) s3))))))
 (Q (.tup []) (adv s1 2)))
theorem aOa (t0 t1:AV) (s:St) {Q:aG} (h:f145 Q t0 t1 s):dT 145 [t0,t1] s Q:=aH (h:=145) (fn:=Tryz.f145) (c:=sub bCk []) (show bLo (sub bCk []) (bBl Q) aY (bBl Q)=_ from rfl) h
abbrev tD:Code:=aJ Tryz.f149
abbrev nM:=rK Tryz.f149
abbrev uW:=aK mEv 149 (mEv.kp 149)
def yC (Q:aG) (t5 t0 t6 t3:AV) (s:St):Prop:=aA (ld 2 true t6 (adv s 8)) fun t84=>aA (kM 122 1 [(0,t84)]) fun t85=>let s1:St:=((adv s 8).set (s.nx+4) (some (.map [])))
 aA (lK 124 [(0,t5),(1,t0),(2,t85),(3,(.map (s.nx+4)))]) fun t87=>(t87.cells.all AV.one=true /\
 let s2:St:=(s1.set (s.nx+6) (some (.cells t87.cells 124 true true)))
 aA (aC 4 t3) fun t91=>aA (ld 6 true t91 (adv s2 9)) fun t92=>aL mEv 75 [(.ptr (s.nx+6) 0),t92] (adv s2 9) fun t93 s3=>aA (aS t93 0) fun t94=>aA (aS t93 1) fun t95=>aA (bn .neq 34 t95 (.int .i64 0)) fun t97=>aZ t97
 (Q t95 (adv s3 4))
 (aL mEv 53 [t5,t94] (adv s3 11) fun t102 s4=>aA (aS t102 0) fun t103=>aA (aS t102 1) fun t104=>aA (zr 101) fun z17=>let s5:St:=(s4.set (s3.nx+8) (some (.cells z17.cells 101 true true)))
 aA (dU 7 (.ptr (s3.nx+8) 0) t103 s5) fun s6=>aA (aC 1 (.ptr (s3.nx+8) 0)) fun t105=>aA (ld 1 false t105 (adv s6 5)) fun t106=>aA (aC 1 t3) fun t107=>aA (ld 1 false t107 (adv s6 5)) fun t108=>aA (bn .neq 3 t106 t108) fun t109=>aZ t109
 (Q (.int .i64 90) (adv s6 6))
 (Q (.int .i64 0) (adv s6 6))))
def UD (Q:aG) (ih1:AV->AV->AV->AV->AV->AV->aG) (t59 t0 t3 t5 t6 t57 t58:AV) (s:St):Prop:=aA (bn .add 3 t59 (.int .i64 1)) fun t81=>ih1 t0 t3 t5 t6 t57 t58 t81 (adv s 2)
def xE (Q:aG) (ih1:AV->AV->AV->AV->AV->AV->aG) (t0 t3 t5 t6 t57 t58 t59:AV) (s:St):Prop:=aA (bn .lss 3 t59 t58) fun t60=>aZ t60
 (aA (cQ 2 t57 t59) fun t61=>aA (ld 2 true t61 (adv s 5)) fun t62=>aA (zr 151) fun z11=>let s1:St:=((adv s 5).set (s.nx+3) (some (.cells z11.cells 151 true true)))
 aA (dU 2 (.ptr (s.nx+3) 0) t62 s1) fun s2=>aA (aC 0 (.ptr (s.nx+3) 0)) fun t65=>aA (ld 1 false t65 (adv s2 11)) fun t66=>aA (aC 1 (.ptr (s.nx+3) 0)) fun t67=>aA (ld 1 false t67 (adv s2 11)) fun t68=>aL mEv 77 [t5,t66,t68] (adv s2 11) fun t69 s3=>aA (aS t69 0) fun t70=>aA (aS t69 1) fun t71=>aA (bn .neq 34 t71 (.int .i64 0)) fun t73=>aZ t73
 (Q t71 (adv s3 4))
 (aA (aC 1 t6) fun t75=>aA (ld 1 false t75 (adv s3 9)) fun t76=>aA (kM 72 1 [(0,t70)]) fun t78=>aA (bt .append #[72,72] [t76,t78] (s3.nx+6) (adv s3 9)) fun r79=>aA (aC 1 t6) fun t80=>aA (dU 1 t80 r79.1 r79.2) fun s4=>UD Q ih1 t59 t0 t3 t5 t6 t57 t58 s4))
 (yC Q t5 t0 t6 t3 (adv s 1))
def rT (Q:aG) (n:Nat):AV->AV->AV->AV->AV->AV->aG:=mC (fun _ _ _ _ _ _ _ _ =>False) (fun ih=>xE Q ih) n
def ET (Q:aG) (t3 t0 t5 t6:AV) (s:St):Prop:=aA (aC 3 t3) fun t56=>aA (ld 1 false t56 (adv s 4)) fun t57=>aA (bt .len #[65] [t57] (s.nx+2) (adv s 4)) fun r58=>∃ n,rT Q n t0 t3 t5 t6 t57 r58.1 (.int .i64 0) r58.2
def yX (Q:aG) (t47 t3 t0 t5 t6:AV) (s:St):Prop:=aZ t47
 (Q (.int .i64 1) (adv s 1))
 (ET Q t3 t0 t5 t6 s)
def yN (Q:aG) (t6 t3 t0 t5:AV) (s:St):Prop:=aA (zr 175) fun z9=>let s1:St:=((adv s 2).set s.nx (some (.cells z9.cells 175 true true)))
 aA (dU 1 (.ptr s.nx 0) (.fn 191 [] []) s1) fun s2=>aA (aC 0 t6) fun t40=>aA (ld 1 false t40 (adv s2 4)) fun t41=>aO mEv 192 [t41] (adv s2 4) fun t42 s3=>aZ t42
 (Q (.int .i64 4) (adv s3 1))
 (aA (aC 0 t6) fun t44=>aA (ld 1 false t44 (adv s3 4)) fun t45=>aL mEv 193 [t45,(.fn 24 [] [])] (adv s3 4) fun t46 s4=>aZ t46
 (Q (.int .i64 101) (adv s4 1))
 (aA (ld 1 false (.ptr s.nx 0) (adv s4 5)) fun t48=>aA (aC 1 t3) fun t49=>aA (ld 1 false t49 (adv s4 5)) fun t50=>sZ mEv 149 t48 [t50] (adv s4 5) fun t51 s5=>aZ t51
 (yX Q t51 t3 t0 t5 t6 s5)
 (aA (aC 3 t3) fun t52=>aA (ld 1 false t52 (adv s5 5)) fun t53=>aL mEv 194 [t53,(.fn 195 [] [(.ptr s.nx 0)])] (adv s5 5) fun t55 s6=>yX Q t55 t3 t0 t5 t6 s6)))
def TI (Q:aG) (ih2:AV->AV->AV->AV->AV->AV->aG) (t27 t0 t3 t5 t6 t25 t26:AV) (s:St):Prop:=aA (bn .add 3 t27 (.int .i64 1)) fun t38=>ih2 t0 t3 t5 t6 t25 t26 t38 (adv s 2)
def wH (Q:aG) (ih2:AV->AV->AV->AV->AV->AV->aG) (t0 t3 t5 t6 t25 t26 t27:AV) (s:St):Prop:=aA (bn .lss 3 t27 t26) fun t28=>aZ t28
 (aA (cQ 2 t25 t27) fun t29=>aA (ld 2 true t29 (adv s 5)) fun t30=>aA (zr 151) fun z8=>let s1:St:=((adv s 5).set (s.nx+3) (some (.cells z8.cells 151 true true)))
 aA (dU 2 (.ptr (s.nx+3) 0) t30 s1) fun s2=>aA (aC 0 t6) fun t31=>aA (ld 1 false t31 (adv s2 8)) fun t32=>aA (aC 0 (.ptr (s.nx+3) 0)) fun t33=>aA (ld 1 false t33 (adv s2 8)) fun t34=>aA (kM 52 1 [(0,t34)]) fun t35=>aA (bt .append #[52,52] [t32,t35] (s2.nx+5) (adv s2 8)) fun r36=>aA (aC 0 t6) fun t37=>aA (dU 1 t37 r36.1 r36.2) fun s3=>TI Q ih2 t27 t0 t3 t5 t6 t25 t26 s3)
 (yN Q t6 t3 t0 t5 (adv s 1))
def qO (Q:aG) (n:Nat):AV->AV->AV->AV->AV->AV->aG:=mC (fun _ _ _ _ _ _ _ _ =>False) (fun ih=>wH Q ih) n
theorem aDk (Q:aG):uW (sub tD [Y,Y,Y,Y,Y,Y,Y,Y]) (nM Q) aY (nM Q)=(fun g s=>yC Q (g 5) (g 0) (g 6) (g 3) s):=Eq.trans rfl (by kernel_rfl)
theorem aCa (Q:aG) (n1:Nat):uW (sub tD [Y,Y,Y,Y,Y,Y,Y,N,Y,N,N,Y,Y,Y]) (mI (fun n g s=>rT Q n (g 0) (g 3) (g 5) (g 6) (g 57) (g 58) (g 59) s) 149 n1) (cX 3 (fun g s=>yC Q (g 5) (g 0) (g 6) (g 3) s) aY) (nM Q)=(fun g s=>UD Q (rT Q n1) (g 59) (g 0) (g 3) (g 5) (g 6) (g 57) (g 58) s):=Eq.trans rfl (by kernel_rfl)
theorem aCc (Q:aG) (kN:Kt):uW (sub tD [Y,Y,Y,Y,Y,Y,Y,N,Y,N]) kN (cX 3 (fun g s=>yC Q (g 5) (g 0) (g 6) (g 3) s) aY) (nM Q)=fun g s=>∃ n,rT Q n (g 0) (g 3) (g 5) (g 6) (g 57) (g 58) (g 59) s:=mB (L:=fun n g s=>rT Q n (g 0) (g 3) (g 5) (g 6) (g 57) (g 58) (g 59) s) (fun n1=>Eq.trans (aM (aM (aM (aCa Q n1) (dV 4 rfl)) rfl) rfl) (by kernel_rfl))
theorem aAn (Q:aG):uW (sub tD [Y,Y,Y,Y,Y,Y,Y]) (nM Q) aY (nM Q)=(fun g s=>ET Q (g 3) (g 0) (g 5) (g 6) s):=Eq.trans (aM (aDk Q) (aM (dV 3 (aCc Q _)) rfl)) (by kernel_rfl)
theorem aDs (Q:aG):uW (sub tD [Y,Y,Y,Y,Y,Y,N,N,Y,Y,Y,Y,Y]) (fun g s=>ET Q (g 3) (g 0) (g 5) (g 6) s) (cX 2 (fun g s=>ET Q (g 3) (g 0) (g 5) (g 6) s) aY) (nM Q)=(fun g s=>yX Q (g 47) (g 3) (g 0) (g 5) (g 6) s):=Eq.trans rfl (by kernel_rfl)
theorem aEq (Q:aG):uW (sub tD [Y,Y,Y,Y,Y]) (nM Q) aY (nM Q)=(fun g s=>yN Q (g 6) (g 3) (g 0) (g 5) s):=Eq.trans (aM (aM (aAn Q) (dV 2 (aM (cdA (.tmp 39) rfl (aM (cdA (.tmp 43) rfl (aM (aDs Q) rfl)) rfl)) rfl))) rfl) (by kernel_rfl)
theorem aCf (Q:aG) (n2:Nat):uW (sub tD [Y,Y,Y,Y,N,Y,N,N,Y,Y,Y]) (mI (fun n g s=>qO Q n (g 0) (g 3) (g 5) (g 6) (g 25) (g 26) (g 27) s) 149 n2) (cX 0 (fun g s=>yN Q (g 6) (g 3) (g 0) (g 5) s) aY) (nM Q)=(fun g s=>TI Q (qO Q n2) (g 27) (g 0) (g 3) (g 5) (g 6) (g 25) (g 26) s):=Eq.trans rfl (by kernel_rfl)
theorem aFn (Q:aG) (kN:Kt):uW (sub tD [Y,Y,Y,Y,N,Y,N]) kN (cX 0 (fun g s=>yN Q (g 6) (g 3) (g 0) (g 5) s) aY) (nM Q)=fun g s=>∃ n,qO Q n (g 0) (g 3) (g 5) (g 6) (g 25) (g 26) (g 27) s:=mB (L:=fun n g s=>qO Q n (g 0) (g 3) (g 5) (g 6) (g 25) (g 26) (g 27) s) (fun n2=>Eq.trans (aM (aM (aM (aCf Q n2) (dV 1 rfl)) rfl) rfl) (by kernel_rfl))
def f149 (Q:aG) (t0 t1:AV) (s:St):Prop:=(t1.cells.all AV.one=true /\
 let s1:St:=((adv s 2).set s.nx (some (.cells t1.cells 67 true true)))
 aA (aC 2 (.ptr s.nx 0)) fun t19=>aA (ld 1 false t19 (adv s1 3)) fun t20=>aA (un .not t20) fun t21=>aZ t21
 (Q (.int .i64 1) (adv s1 4))
 (aA (lK 58 []) fun t22=>(t22.cells.all AV.one=true /\
 let s2:St:=((adv s1 6).set (s1.nx+4) (some (.cells t22.cells 58 true true)))
 aA (zr 254) fun z6=>let s3:St:=((adv s2 1).set s2.nx (some (.cells z6.cells 254 true true)))
 aA (aC 3 (.ptr s.nx 0)) fun t24=>aA (ld 1 false t24 (adv s3 4)) fun t25=>aA (bt .len #[65] [t25] (s3.nx+2) (adv s3 4)) fun r26=>∃ n,qO Q n t0 (.ptr s.nx 0) (.ptr (s1.nx+4) 0) (.ptr s2.nx 0) t25 r26.1 (.int .i64 0) r26.2)))
theorem aIg (t0 t1:AV) (s:St) {Q:aG} (h:f149 Q t0 t1 s):dT 149 [t0,t1] s Q:=aH (h:=149) (fn:=Tryz.f149) (c:=sub tD []) (show uW (sub tD []) (nM Q) aY (nM Q)=_ from (aM (aM (aM (aM (aM (aEq Q) (aM (dV 0 (aFn Q _)) rfl)) rfl) rfl) rfl) rfl)) h
abbrev NJ:Code:=aJ Tryz.f150
abbrev JJ:=rK Tryz.f150
abbrev VO:=aK mEv 150 (mEv.kp 150)
def xV (Q:aG) (t0:AV) (s:St):Prop:=(aQ t0=true /\
 aA (aC 1 t0) fun t23=>aA (ld 1 false t23 (adv s 15)) fun t24=>(aQ t0=true /\
 aA (aC 1 t0) fun t27=>aA (ld 1 false t27 (adv s 15)) fun t28=>aA (bt .len #[72] [t28] (s.nx+9) (adv s 15)) fun r29=>aA (bn .sub 3 r29.1 (.int .i64 1)) fun t30=>aA (mF 72 t24 none (some t30) none r29.2) fun t31=>(aQ t0=true /\
 aA (aC 1 t0) fun t33=>(r29.2.h (s.nx+14)=none/\aA (dU 1 t33 t31 r29.2) fun s1=>Q (.bool true) (adv s1 1)))))
def LH (Q:aG) (ih1:AV->AV->aG) (t3 t0:AV) (s:St):Prop:=aA (ld 10 true t3 (adv s 1)) fun t19=>aA (zr 67) fun z3=>let s1:St:=((adv s 3).set (s.nx+1) (some (.cells z3.cells 67 true true)))
 aA (dU 10 (.ptr (s.nx+1) 0) t19 s1) fun s2=>aL mEv 196 [t0] (adv s2 6) fun t16 s3=>aA (aS t16 0) fun t17=>aA (aS t16 1) fun t18=>ih1 t0 (.ptr (s.nx+1) 0) t18 s3
def kV (Q:aG) (ih1:AV->AV->aG) (t0 t3 t4:AV) (s:St):Prop:=aZ t4
 (LH Q ih1 t3 t0 (adv s 1))
 (xV Q t0 (adv s 1))
def lL (Q:aG) (n:Nat):AV->AV->aG:=mC (fun _ _ _ _ =>False) (fun ih=>kV Q ih) n
theorem aDm (Q:aG):VO (sub NJ [Y,Y,Y]) (JJ Q) aY (JJ Q)=(fun g s=>xV Q (g 0) s):=Eq.trans rfl (by kernel_rfl)
theorem aCk (Q:aG) (n1:Nat):VO (sub NJ [Y,Y,N,Y,N,N,Y,Y]) (mI (fun n g s=>lL Q n (g 0) (g 3) (g 4) s) 150 n1) (cX 0 (fun g s=>xV Q (g 0) s) aY) (JJ Q)=(fun g s=>LH Q (lL Q n1) (g 3) (g 0) s):=Eq.trans rfl (by kernel_rfl)
theorem aBf (Q:aG) (kN:Kt):VO (sub NJ [Y,Y,N,Y,N]) kN (cX 0 (fun g s=>xV Q (g 0) s) aY) (JJ Q)=fun g s=>∃ n,lL Q n (g 0) (g 3) (g 4) s:=mB (L:=fun n g s=>lL Q n (g 0) (g 3) (g 4) s) (fun n1=>Eq.trans (aM (aM (aCk Q n1) (dV 1 rfl)) rfl) (by kernel_rfl))
def f150 (Q:aG) (t0:AV) (s:St):Prop:=aL mEv 98 [t0] (adv s 4) fun t6 s1=>aA (bn .eql 3 t6 (.int .i64 0)) fun t7=>aZ t7
 (Q (.bool false) (adv s1 1))
 (aL mEv 196 [t0] (adv s1 8) fun t10 s2=>aA (aS t10 0) fun t11=>aA (aS t10 1) fun t12=>aA (zr 67) fun z3=>let s3:St:=(s2.set (s1.nx+5) (some (.cells z3.cells 67 true true)))
 aA (dU 10 (.ptr (s1.nx+5) 0) t11 s3) fun s4=>∃ n,lL Q n t0 (.ptr (s1.nx+5) 0) t12 s4)
theorem aNt (t0:AV) (s:St) {Q:aG} (h:f150 Q t0 s):dT 150 [t0] s Q:=aH (h:=150) (fn:=Tryz.f150) (c:=sub NJ []) (show VO (sub NJ []) (JJ Q) aY (JJ Q)=_ from (aM (aM (aM (aDm Q) (aM (dV 0 (aBf Q _)) rfl)) rfl) rfl)) h
abbrev NM:Code:=aJ Tryz.f151
abbrev IN:=rK Tryz.f151
abbrev XD:=aK mEv 151 (mEv.kp 151)
def yJ (Q:aG) (t0:AV) (s:St):Prop:=(aQ t0=true /\
 aA (aC 1 t0) fun t23=>aA (ld 1 false t23 (adv s 15)) fun t24=>(aQ t0=true /\
 aA (aC 1 t0) fun t27=>aA (ld 1 false t27 (adv s 15)) fun t28=>aA (bt .len #[72] [t28] (s.nx+9) (adv s 15)) fun r29=>aA (bn .sub 3 r29.1 (.int .i64 1)) fun t30=>aA (mF 72 t24 none (some t30) none r29.2) fun t31=>(aQ t0=true /\
 aA (aC 1 t0) fun t33=>(r29.2.h (s.nx+14)=none/\aA (dU 1 t33 t31 r29.2) fun s1=>Q (.bool true) (adv s1 1)))))
def LO (Q:aG) (ih1:AV->AV->aG) (t3 t0:AV) (s:St):Prop:=aA (ld 6 true t3 (adv s 1)) fun t19=>aA (zr 33) fun z3=>let s1:St:=((adv s 3).set (s.nx+1) (some (.cells z3.cells 33 true true)))
 aA (dU 6 (.ptr (s.nx+1) 0) t19 s1) fun s2=>aL mEv 198 [t0] (adv s2 6) fun t16 s3=>aA (aS t16 0) fun t17=>aA (aS t16 1) fun t18=>ih1 t0 (.ptr (s.nx+1) 0) t18 s3
def kO (Q:aG) (ih1:AV->AV->aG) (t0 t3 t4:AV) (s:St):Prop:=aZ t4
 (LO Q ih1 t3 t0 (adv s 1))
 (yJ Q t0 (adv s 1))
def lU (Q:aG) (n:Nat):AV->AV->aG:=mC (fun _ _ _ _ =>False) (fun ih=>kO Q ih) n
theorem aCb (Q:aG):XD (sub NM [Y,Y,Y]) (IN Q) aY (IN Q)=(fun g s=>yJ Q (g 0) s):=Eq.trans rfl (by kernel_rfl)
theorem aBt (Q:aG) (n1:Nat):XD (sub NM [Y,Y,N,Y,N,N,Y,Y]) (mI (fun n g s=>lU Q n (g 0) (g 3) (g 4) s) 151 n1) (cX 0 (fun g s=>yJ Q (g 0) s) aY) (IN Q)=(fun g s=>LO Q (lU Q n1) (g 3) (g 0) s):=Eq.trans rfl (by kernel_rfl)
theorem ZM (Q:aG) (kN:Kt):XD (sub NM [Y,Y,N,Y,N]) kN (cX 0 (fun g s=>yJ Q (g 0) s) aY) (IN Q)=fun g s=>∃ n,lU Q n (g 0) (g 3) (g 4) s:=mB (L:=fun n g s=>lU Q n (g 0) (g 3) (g 4) s) (fun n1=>Eq.trans (aM (aM (aBt Q n1) (dV 1 rfl)) rfl) (by kernel_rfl))
def f151 (Q:aG) (t0:AV) (s:St):Prop:=aL mEv 197 [t0] (adv s 4) fun t6 s1=>aA (bn .eql 3 t6 (.int .i64 0)) fun t7=>aZ t7
 (Q (.bool false) (adv s1 1))
 (aL mEv 198 [t0] (adv s1 8) fun t10 s2=>aA (aS t10 0) fun t11=>aA (aS t10 1) fun t12=>aA (zr 33) fun z3=>let s3:St:=(s2.set (s1.nx+5) (some (.cells z3.cells 33 true true)))
 aA (dU 6 (.ptr (s1.nx+5) 0) t11 s3) fun s4=>∃ n,lU Q n t0 (.ptr (s1.nx+5) 0) t12 s4)
theorem aGj (t0:AV) (s:St) {Q:aG} (h:f151 Q t0 s):dT 151 [t0] s Q:=aH (h:=151) (fn:=Tryz.f151) (c:=sub NM []) (show XD (sub NM []) (IN Q) aY (IN Q)=_ from (aM (aM (aM (aCb Q) (aM (dV 0 (ZM Q _)) rfl)) rfl) rfl)) h
abbrev bMr:Code:=aJ Tryz.f94
abbrev bGw:=rK Tryz.f94
abbrev bQh:=aK mEv 94 (mEv.kp 94)
def f94 (Q:aG) (t0:AV) (s:St):Prop:=aA (bn .eql 153 t0 .nilp) fun t4=>aZ t4
 (Q .nils (adv s 4))
 ((aQ t0=true /\
 aA (aC 0 t0) fun t7=>aA (ld 1 false t7 (adv s 9)) fun t8=>aL mEv 146 [t8] (adv s 9) fun t9 s1=>Q t9 s1))
theorem aVh (t0:AV) (s:St) {Q:aG} (h:f94 Q t0 s):dT 94 [t0] s Q:=aH (h:=94) (fn:=Tryz.f94) (c:=sub bMr []) (show bQh (sub bMr []) (bGw Q) aY (bGw Q)=_ from rfl) h
abbrev bKp:Code:=aJ Tryz.f95
abbrev bHi:=rK Tryz.f95
abbrev bPf:=aK mEv 95 (mEv.kp 95)
def f95 (Q:aG) (t0:AV) (s:St):Prop:=(t0.cells.all AV.one=true /\
 let s1:St:=((adv s 2).set s.nx (some (.cells t0.cells 67 true true)))
 aA (zr 67) fun z2=>let s2:St:=(s1.set (s.nx+1) (some (.cells z2.cells 67 true true)))
 aA (aC 3 (.ptr s.nx 0)) fun t3=>aA (ld 1 false t3 (adv s2 5)) fun t4=>aO mEv 147 [t4] (adv s2 5) fun t5 s3=>aA (aC 3 (.ptr s.nx 0)) fun t6=>aA (dU 1 t6 t5 s3) fun s4=>aA (aC 4 (.ptr s.nx 0)) fun t7=>aA (ld 6 true t7 (adv s4 5)) fun t8=>aO mEv 97 [t8] (adv s4 5) fun t9 s5=>aA (aC 4 (.ptr s.nx 0)) fun t10=>aA (dU 6 t10 t9 s5) fun s6=>aA (ld 10 true (.ptr s.nx 0) (adv s6 2)) fun t11=>aA (dU 10 (.ptr (s.nx+1) 0) t11 (adv s6 2)) fun s7=>pT ((uD [ld 10 true (.ptr (s.nx+1) 0) s7]).map xY) fun v=>Q v s7)
theorem aTf (t0:AV) (s:St) {Q:aG} (h:f95 Q t0 s):dT 95 [t0] s Q:=aH (h:=95) (fn:=Tryz.f95) (c:=sub bKp []) (show bPf (sub bKp []) (bHi Q) aY (bHi Q)=_ from rfl) h
abbrev bLa:Code:=aJ Tryz.f96
abbrev bKv:=rK Tryz.f96
abbrev bTg:=aK mEv 96 (mEv.kp 96)
def f96 (Q:aG) (t0:AV) (s:St):Prop:=aA (bn .eql 155 t0 .nilp) fun t4=>aZ t4
 (Q .nils (adv s 4))
 ((aQ t0=true /\
 aA (aC 0 t0) fun t7=>aA (ld 1 false t7 (adv s 9)) fun t8=>aL mEv 148 [t8] (adv s 9) fun t9 s1=>Q t9 s1))
theorem aVb (t0:AV) (s:St) {Q:aG} (h:f96 Q t0 s):dT 96 [t0] s Q:=aH (h:=96) (fn:=Tryz.f96) (c:=sub bLa []) (show bTg (sub bLa []) (bKv Q) aY (bKv Q)=_ from rfl) h
abbrev aGo:Code:=aJ Tryz.f97
abbrev aBc:=rK Tryz.f97
abbrev aWk:=aK mEv 97 (mEv.kp 97)
def HY (Q:aG) (t1 t2:AV) (s:St):Prop:=aA (ld 6 true t1 (adv s 2)) fun t25=>aA (dU 6 t2 t25 (adv s 2)) fun s1=>pT ((uD [ld 6 true t2 s1]).map xY) fun v=>Q v s1
def aJh (Q:aG) (ih1:AV->AV->AV->aG) (t11 t1 t2 t10:AV) (s:St):Prop:=aA (bn .add 3 t11 (.int .i64 1)) fun t24=>ih1 t1 t2 t10 t24 (adv s 2)
def tX (Q:aG) (ih1:AV->AV->AV->aG) (t1 t2 t10 t11:AV) (s:St):Prop:=aA (bn .lss 3 t11 t10) fun t12=>aZ t12
 (aA (aC 5 t1) fun t14=>aA (ld 1 false t14 (adv s 14)) fun t15=>aA (aC 5 t1) fun t17=>aA (ld 1 false t17 (adv s 14)) fun t18=>aA (cQ 6 t18 t11) fun t20=>aA (ld 6 true t20 (adv s 14)) fun t21=>fF mEv 97 [t21] (rch (adv s 14) [(.fn 97 [] []),t21]) (adv s 14) fun t22 s1=>aA (cQ 6 t15 t11) fun t23=>(s1.h (s.nx+13)=none/\aA (dU 6 t23 t22 s1) fun s2=>aJh Q ih1 t11 t1 t2 t10 s2))
 (HY Q t1 t2 (adv s 1))
def xH (Q:aG) (n:Nat):AV->AV->AV->aG:=mC (fun _ _ _ _ _ =>False) (fun ih=>tX Q ih) n
theorem aGg (Q:aG):aWk (sub aGo [Y,Y,Y]) (aBc Q) aY (aBc Q)=(fun g s=>HY Q (g 1) (g 2) s):=Eq.trans rfl (by kernel_rfl)
theorem aPv (Q:aG) (n1:Nat):aWk (sub aGo [Y,Y,N,Y,N,N,Y,Y,Y]) (mI (fun n g s=>xH Q n (g 1) (g 2) (g 10) (g 11) s) 97 n1) (cX 0 (fun g s=>HY Q (g 1) (g 2) s) aY) (aBc Q)=(fun g s=>aJh Q (xH Q n1) (g 11) (g 1) (g 2) (g 10) s):=Eq.trans rfl (by kernel_rfl)
theorem aGe (Q:aG) (kN:Kt):aWk (sub aGo [Y,Y,N,Y,N]) kN (cX 0 (fun g s=>HY Q (g 1) (g 2) s) aY) (aBc Q)=fun g s=>∃ n,xH Q n (g 1) (g 2) (g 10) (g 11) s:=mB (L:=fun n g s=>xH Q n (g 1) (g 2) (g 10) (g 11) s) (fun n1=>Eq.trans (aM (aM (aM (aPv Q n1) (dV 1 rfl)) rfl) rfl) (by kernel_rfl))
def f97 (Q:aG) (t0:AV) (s:St):Prop:=(t0.cells.all AV.one=true /\
 let s1:St:=((adv s 2).set s.nx (some (.cells t0.cells 33 true true)))
 aA (zr 33) fun z2=>let s2:St:=(s1.set (s.nx+1) (some (.cells z2.cells 33 true true)))
 aA (aC 5 (.ptr s.nx 0)) fun t4=>aA (ld 1 false t4 (adv s2 5)) fun t5=>aL mEv 148 [t5] (adv s2 5) fun t6 s3=>aA (aC 5 (.ptr s.nx 0)) fun t7=>aA (dU 1 t7 t6 s3) fun s4=>aA (aC 5 (.ptr s.nx 0)) fun t8=>aA (ld 1 false t8 (adv s4 4)) fun t9=>aA (bt .len #[31] [t9] (s4.nx+2) (adv s4 4)) fun r10=>∃ n,xH Q n (.ptr s.nx 0) (.ptr (s.nx+1) 0) r10.1 (.int .i64 0) r10.2)
theorem aVl (t0:AV) (s:St) {Q:aG} (h:f97 Q t0 s):dT 97 [t0] s Q:=aH (h:=97) (fn:=Tryz.f97) (c:=sub aGo []) (show aWk (sub aGo []) (aBc Q) aY (aBc Q)=_ from (aM (aM (aM (aGg Q) (aM (dV 0 (aGe Q _)) rfl)) rfl) rfl)) h
abbrev bOe:Code:=aJ Tryz.f98
abbrev bJr:=rK Tryz.f98
abbrev bTl:=aK mEv 98 (mEv.kp 98)
def f98 (Q:aG) (t0:AV) (s:St):Prop:=aA (bn .eql 153 t0 .nilp) fun t4=>aZ t4
 (Q (.int .i64 0) (adv s 4))
 ((aQ t0=true /\
 aA (aC 1 t0) fun t7=>aA (ld 1 false t7 (adv s 9)) fun t8=>aA (bt .len #[72] [t8] (s.nx+7) (adv s 9)) fun r9=>Q r9.1 r9.2))
theorem VS (t0:AV) (s:St) {Q:aG} (h:f98 Q t0 s):dT 98 [t0] s Q:=aH (h:=98) (fn:=Tryz.f98) (c:=sub bOe []) (show bTl (sub bOe []) (bJr Q) aY (bJr Q)=_ from rfl) h
abbrev bBa:Code:=aJ Tryz.f100
abbrev bCe:=rK Tryz.f100
abbrev bJg:=aK mEv 100 (mEv.kp 100)
def f100 (Q:aG) (t0:AV) (s:St):Prop:=aA (bn .neq 153 t0 .nilp) fun t3=>aZ t3
 ((aQ t0=true /\
 aA (aC 1 t0) fun t7=>aA (ld 1 false t7 (adv s 17)) fun t8=>(aQ t0=true /\
 aA (aC 0 t0) fun t11=>aA (ld 1 false t11 (adv s 17)) fun t12=>aA (bt .len #[49] [t12] (s.nx+11) (adv s 17)) fun r13=>aA (kM 72 1 [(0,r13.1)]) fun t14=>(r13.2.h (s.nx+13)=none/\aA (bt .append #[72,72] [t8,t14] (s.nx+13) r13.2) fun r15=>(aQ t0=true /\
 aA (aC 1 t0) fun t17=>(r15.2.h (s.nx+16)=none/\aA (dU 1 t17 r15.1 r15.2) fun s1=>Q (.tup []) s1))))))
 (Q (.tup []) (adv s 2))
theorem aOi (t0:AV) (s:St) {Q:aG} (h:f100 Q t0 s):dT 100 [t0] s Q:=aH (h:=100) (fn:=Tryz.f100) (c:=sub bBa []) (show bJg (sub bBa []) (bCe Q) aY (bCe Q)=_ from rfl) h
abbrev bAp:Code:=aJ Tryz.f101
abbrev aYp:=rK Tryz.f101
abbrev bKn:=aK mEv 101 (mEv.kp 101)
def f101 (Q:aG) (t0:AV) (s:St):Prop:=aA (bn .neq 155 t0 .nilp) fun t3=>aZ t3
 ((aQ t0=true /\
 aA (aC 1 t0) fun t7=>aA (ld 1 false t7 (adv s 17)) fun t8=>(aQ t0=true /\
 aA (aC 0 t0) fun t11=>aA (ld 1 false t11 (adv s 17)) fun t12=>aA (bt .len #[31] [t12] (s.nx+11) (adv s 17)) fun r13=>aA (kM 72 1 [(0,r13.1)]) fun t14=>(r13.2.h (s.nx+13)=none/\aA (bt .append #[72,72] [t8,t14] (s.nx+13) r13.2) fun r15=>(aQ t0=true /\
 aA (aC 1 t0) fun t17=>(r15.2.h (s.nx+16)=none/\aA (dU 1 t17 r15.1 r15.2) fun s1=>Q (.tup []) s1))))))
 (Q (.tup []) (adv s 2))
theorem aMn (t0:AV) (s:St) {Q:aG} (h:f101 Q t0 s):dT 101 [t0] s Q:=aH (h:=101) (fn:=Tryz.f101) (c:=sub bAp []) (show bKn (sub bAp []) (aYp Q) aY (aYp Q)=_ from rfl) h
abbrev aZf:Code:=aJ Tryz.f102
abbrev aYk:=rK Tryz.f102
abbrev bOd:=aK mEv 102 (mEv.kp 102)
def f102 (Q:aG) (t0:AV) (s:St):Prop:=aL mEv 150 [t0] (adv s 3) fun t4 s1=>aL mEv 94 [t0] (adv s1 3) fun t6 s2=>Q t6 s2
theorem aJx (t0:AV) (s:St) {Q:aG} (h:f102 Q t0 s):dT 102 [t0] s Q:=aH (h:=102) (fn:=Tryz.f102) (c:=sub aZf []) (show bOd (sub aZf []) (aYk Q) aY (aYk Q)=_ from rfl) h
abbrev bAq:Code:=aJ Tryz.f103
abbrev bAn:=rK Tryz.f103
abbrev bHu:=aK mEv 103 (mEv.kp 103)
def f103 (Q:aG) (t0:AV) (s:St):Prop:=aL mEv 151 [t0] (adv s 3) fun t4 s1=>aL mEv 96 [t0] (adv s1 3) fun t6 s2=>Q t6 s2
theorem aPw (t0:AV) (s:St) {Q:aG} (h:f103 Q t0 s):dT 103 [t0] s Q:=aH (h:=103) (fn:=Tryz.f103) (c:=sub bAq []) (show bHu (sub bAq []) (bAn Q) aY (bAn Q)=_ from rfl) h
abbrev aZo:Code:=aJ Tryz.f190
abbrev bCc:=rK Tryz.f190
abbrev bMh:=aK mEv 190 (mEv.kp 190)
def f190 (Q:aG) (t0 t1:AV) (s:St):Prop:=(t1.cells.all AV.one=true /\
 let s1:St:=((adv s 1).set s.nx (some (.cells t1.cells 67 true true)))
 aA (bn .neq 153 t0 .nilp) fun t5=>aZ t5
 ((aQ t0=true /\
 aA (aC 0 t0) fun t9=>aA (ld 1 false t9 (adv s1 13)) fun t10=>aA (ld 10 true (.ptr s.nx 0) (adv s1 13)) fun t11=>aA (kM 49 1 [(0,t11)]) fun t12=>((adv s1 13).h (s1.nx+9)=none/\aA (bt .append #[49,49] [t10,t12] (s1.nx+9) (adv s1 13)) fun r13=>(aQ t0=true /\
 aA (aC 0 t0) fun t15=>(r13.2.h (s1.nx+12)=none/\aA (dU 1 t15 r13.1 r13.2) fun s2=>Q (.tup []) s2)))))
 (Q (.tup []) (adv s1 2)))
theorem aGp (t0 t1:AV) (s:St) {Q:aG} (h:f190 Q t0 t1 s):dT 190 [t0,t1] s Q:=aH (h:=190) (fn:=Tryz.f190) (c:=sub aZo []) (show bMh (sub aZo []) (bCc Q) aY (bCc Q)=_ from rfl) h
abbrev bDd:Code:=aJ Tryz.f191
abbrev bCq:=rK Tryz.f191
abbrev bHb:=aK mEv 191 (mEv.kp 191)
def f191 (Q:aG) (t0:AV) (s:St):Prop:=aA (bn .lss 3 t0 (.int .i64 1)) fun t4=>Gd (aD t4 false) (adv s 8) (fun k=>k t0 (adv s 8)) fun t6 s1=>Gd (aD t4 false) s1 (fun k=>aA (bn .gtr 3 t6 (.int .i64 3)) fun v=>k v s1) fun t7 s2=>aA (bC t4 (.bool true) t7) fun t8=>Q t8 s2
theorem aIw (t0:AV) (s:St) {Q:aG} (h:f191 Q t0 s):dT 191 [t0] s Q:=aH (h:=191) (fn:=Tryz.f191) (c:=sub bDd []) (show bHb (sub bDd []) (bCq Q) aY (bCq Q)=_ from rfl) h
abbrev bAk:Code:=aJ Tryz.f194
abbrev aYr:=rK Tryz.f194
abbrev bJk:=aK mEv 194 (mEv.kp 194)
def f194 (Q:aG) (t0 t1:AV) (s:St):Prop:=aL mEv 223 [t0,t1] (adv s 6) fun t7 s1=>aA (bn .geq 3 t7 (.int .i64 0)) fun t8=>Q t8 s1
theorem aOf (t0 t1:AV) (s:St) {Q:aG} (h:f194 Q t0 t1 s):dT 194 [t0,t1] s Q:=aH (h:=194) (fn:=Tryz.f194) (c:=sub bAk []) (show bJk (sub bAk []) (aYr Q) aY (aYr Q)=_ from rfl) h
abbrev bDi:Code:=aJ Tryz.f195
abbrev aZh:=rK Tryz.f195
abbrev bKt:=aK mEv 195 (mEv.kp 195)
def f195 (Q:aG) (t0 t1:AV) (s:St):Prop:=(t0.cells.all AV.one=true /\
 let s1:St:=((adv s 2).set s.nx (some (.cells t0.cells 151 true true)))
 aA (ld 1 false t1 (adv s1 5)) fun t4=>aA (aC 1 (.ptr s.nx 0)) fun t5=>aA (ld 1 false t5 (adv s1 5)) fun t6=>sZ mEv 195 t4 [t6] (adv s1 5) fun t7 s2=>Q t7 s2)
theorem aPs (t0 t1:AV) (s:St) {Q:aG} (h:f195 Q t0 t1 s):dT 195 [t0,t1] s Q:=aH (h:=195) (fn:=Tryz.f195) (c:=sub bDi []) (show bKt (sub bDi []) (aZh Q) aY (aZh Q)=_ from rfl) h
abbrev aZn:Code:=aJ Tryz.f196
abbrev bCw:=rK Tryz.f196
abbrev bKl:=aK mEv 196 (mEv.kp 196)
def f196 (Q:aG) (t0:AV) (s:St):Prop:=aA (zr 67) fun z2=>let s1:St:=((adv s 2).set s.nx (some (.cells z2.cells 67 true true)))
 aA (zr 67) fun z4=>let s2:St:=((adv s1 1).set s1.nx (some (.cells z4.cells 67 true true)))
 aA (bn .eql 153 t0 .nilp) fun t8=>Gd (aD t8 false) (adv s2 12) (fun k=>k t0 (adv s2 12)) fun t10 s3=>Gd (aD t8 false) s3 (fun k=>aQ t10=true/\k t10 s3) fun t11 s4=>Gd (aD t8 false) s4 (fun k=>aA (aC 0 t11) fun v=>k v s4) fun t12 s5=>Gd (aD t8 false) s5 (fun k=>aA (ld 1 false t12 s5) fun v=>k v s5) fun t13 s6=>Gd (aD t8 false) s6 (fun k=>aA (bt .len #[49] [t13] (s2.nx+7) s6) fun r=>k r.1 r.2) fun t14 s7=>Gd (aD t8 false) s7 (fun k=>k t0 s7) fun t15 s8=>Gd (aD t8 false) s8 (fun k=>fF mEv 224 [t15] (rch s8 [(.fn 224 [] []),t15]) s8 k) fun t16 s9=>Gd (aD t8 false) s9 (fun k=>aA (bn .eql 3 t14 t16) fun v=>k v s9) fun t17 s10=>aA (bC t8 (.bool true) t17) fun t18=>aZ t18
 (aA (ld 10 true (.ptr s1.nx 0) (adv s10 3)) fun t19=>aA (dU 10 (.ptr s.nx 0) t19 (adv s10 3)) fun s11=>pT ((uD [ld 10 true (.ptr s.nx 0) s11,some (.bool false)]).map xY) fun v=>Q v s11)
 ((aQ t0=true /\
 aA (aC 0 t0) fun t22=>aA (ld 1 false t22 (adv s10 7)) fun t23=>aA (bt .len #[49] [t23] (s10.nx+4) (adv s10 7)) fun r24=>aA (bn .sub 3 r24.1 (.int .i64 1)) fun t25=>(aQ t0=true /\
 aA (aC 0 t0) fun t28=>aA (ld 1 false t28 (adv r24.2 9)) fun t29=>aA (cQ 10 t29 t25) fun t31=>aA (ld 10 true t31 (adv r24.2 9)) fun t32=>aA (zr 67) fun z6=>let s12:St:=((adv r24.2 9).set (r24.2.nx+7) (some (.cells z6.cells 67 true true)))
 aA (dU 10 (.ptr (r24.2.nx+7) 0) t32 s12) fun s13=>(aQ t0=true /\
 aA (aC 0 t0) fun t35=>aA (ld 1 false t35 (adv s13 8)) fun t36=>aA (ld 10 true (.ptr s1.nx 0) (adv s13 8)) fun t38=>aA (cQ 10 t36 t25) fun t39=>((adv s13 8).h (s13.nx+7)=none/\aA (dU 10 t39 t38 (adv s13 8)) fun s14=>(aQ t0=true /\
 aA (aC 0 t0) fun t43=>aA (ld 1 false t43 (adv s14 10)) fun t44=>aA (mF 49 t44 none (some t25) none (adv s14 10)) fun t46=>(aQ t0=true /\
 aA (aC 0 t0) fun t48=>aA (dU 1 t48 t46 (adv s14 10)) fun s15=>aA (ld 10 true (.ptr (r24.2.nx+7) 0) (adv s15 3)) fun t49=>aA (dU 10 (.ptr s.nx 0) t49 (adv s15 3)) fun s16=>pT ((uD [ld 10 true (.ptr s.nx 0) s16,some (.bool true)]).map xY) fun v=>Q v s16)))))))
theorem aMu (t0:AV) (s:St) {Q:aG} (h:f196 Q t0 s):dT 196 [t0] s Q:=aH (h:=196) (fn:=Tryz.f196) (c:=sub aZn []) (show bKl (sub aZn []) (bCw Q) aY (bCw Q)=_ from rfl) h
abbrev aYo:Code:=aJ Tryz.f197
abbrev bAh:=rK Tryz.f197
abbrev bLh:=aK mEv 197 (mEv.kp 197)
def f197 (Q:aG) (t0:AV) (s:St):Prop:=aA (bn .eql 155 t0 .nilp) fun t4=>aZ t4
 (Q (.int .i64 0) (adv s 4))
 ((aQ t0=true /\
 aA (aC 1 t0) fun t7=>aA (ld 1 false t7 (adv s 9)) fun t8=>aA (bt .len #[72] [t8] (s.nx+7) (adv s 9)) fun r9=>Q r9.1 r9.2))
theorem aRv (t0:AV) (s:St) {Q:aG} (h:f197 Q t0 s):dT 197 [t0] s Q:=aH (h:=197) (fn:=Tryz.f197) (c:=sub aYo []) (show bLh (sub aYo []) (bAh Q) aY (bAh Q)=_ from rfl) h
abbrev bAl:Code:=aJ Tryz.f198
abbrev bAb:=rK Tryz.f198
abbrev bJs:=aK mEv 198 (mEv.kp 198)
def f198 (Q:aG) (t0:AV) (s:St):Prop:=aA (zr 33) fun z2=>let s1:St:=((adv s 2).set s.nx (some (.cells z2.cells 33 true true)))
 aA (zr 33) fun z4=>let s2:St:=((adv s1 1).set s1.nx (some (.cells z4.cells 33 true true)))
 aA (bn .eql 155 t0 .nilp) fun t8=>Gd (aD t8 false) (adv s2 12) (fun k=>k t0 (adv s2 12)) fun t10 s3=>Gd (aD t8 false) s3 (fun k=>aQ t10=true/\k t10 s3) fun t11 s4=>Gd (aD t8 false) s4 (fun k=>aA (aC 0 t11) fun v=>k v s4) fun t12 s5=>Gd (aD t8 false) s5 (fun k=>aA (ld 1 false t12 s5) fun v=>k v s5) fun t13 s6=>Gd (aD t8 false) s6 (fun k=>aA (bt .len #[31] [t13] (s2.nx+7) s6) fun r=>k r.1 r.2) fun t14 s7=>Gd (aD t8 false) s7 (fun k=>k t0 s7) fun t15 s8=>Gd (aD t8 false) s8 (fun k=>fF mEv 225 [t15] (rch s8 [(.fn 225 [] []),t15]) s8 k) fun t16 s9=>Gd (aD t8 false) s9 (fun k=>aA (bn .eql 3 t14 t16) fun v=>k v s9) fun t17 s10=>aA (bC t8 (.bool true) t17) fun t18=>aZ t18
 (aA (ld 6 true (.ptr s1.nx 0) (adv s10 3)) fun t19=>aA (dU 6 (.ptr s.nx 0) t19 (adv s10 3)) fun s11=>pT ((uD [ld 6 true (.ptr s.nx 0) s11,some (.bool false)]).map xY) fun v=>Q v s11)
 ((aQ t0=true /\
 aA (aC 0 t0) fun t22=>aA (ld 1 false t22 (adv s10 7)) fun t23=>aA (bt .len #[31] [t23] (s10.nx+4) (adv s10 7)) fun r24=>aA (bn .sub 3 r24.1 (.int .i64 1)) fun t25=>(aQ t0=true /\
 aA (aC 0 t0) fun t28=>aA (ld 1 false t28 (adv r24.2 9)) fun t29=>aA (cQ 6 t29 t25) fun t31=>aA (ld 6 true t31 (adv r24.2 9)) fun t32=>aA (zr 33) fun z6=>let s12:St:=((adv r24.2 9).set (r24.2.nx+7) (some (.cells z6.cells 33 true true)))
 aA (dU 6 (.ptr (r24.2.nx+7) 0) t32 s12) fun s13=>(aQ t0=true /\
 aA (aC 0 t0) fun t35=>aA (ld 1 false t35 (adv s13 8)) fun t36=>aA (ld 6 true (.ptr s1.nx 0) (adv s13 8)) fun t38=>aA (cQ 6 t36 t25) fun t39=>((adv s13 8).h (s13.nx+7)=none/\aA (dU 6 t39 t38 (adv s13 8)) fun s14=>(aQ t0=true /\
 aA (aC 0 t0) fun t43=>aA (ld 1 false t43 (adv s14 10)) fun t44=>aA (mF 31 t44 none (some t25) none (adv s14 10)) fun t46=>(aQ t0=true /\
 aA (aC 0 t0) fun t48=>aA (dU 1 t48 t46 (adv s14 10)) fun s15=>aA (ld 6 true (.ptr (r24.2.nx+7) 0) (adv s15 3)) fun t49=>aA (dU 6 (.ptr s.nx 0) t49 (adv s15 3)) fun s16=>pT ((uD [ld 6 true (.ptr s.nx 0) s16,some (.bool true)]).map xY) fun v=>Q v s16)))))))
theorem aJc (t0:AV) (s:St) {Q:aG} (h:f198 Q t0 s):dT 198 [t0] s Q:=aH (h:=198) (fn:=Tryz.f198) (c:=sub bAl []) (show bJs (sub bAl []) (bAb Q) aY (bAb Q)=_ from rfl) h
abbrev QN:Code:=aJ Tryz.f223
abbrev GW:=rK Tryz.f223
abbrev YU:=aK mEv 223 (mEv.kp 223)
def DB (Q:aG) (s:St):Prop:=Q (.int .i64 (-1)) (adv s 1)
def SW (Q:aG) (ih1:AV->AV->AV->aG) (t8 t0 t1 t7:AV) (s:St):Prop:=aA (bn .add 3 t8 (.int .i64 1)) fun t18=>ih1 t0 t1 t7 t18 (adv s 2)
def xF (Q:aG) (ih1:AV->AV->AV->aG) (t0 t1 t7 t8:AV) (s:St):Prop:=aA (bn .lss 3 t8 t7) fun t9=>aZ t9
 (aA (cQ 2 t0 t8) fun t14=>aA (ld 2 true t14 (adv s 9)) fun t15=>sZ mEv 223 t1 [t15] (adv s 9) fun t16 s1=>aZ t16
 (Q t8 (adv s1 2))
 (SW Q ih1 t8 t0 t1 t7 s1))
 (DB Q (adv s 1))
def qW (Q:aG) (n:Nat):AV->AV->AV->aG:=mC (fun _ _ _ _ _ =>False) (fun ih=>xF Q ih) n
theorem aDi (Q:aG):YU (sub QN [Y,Y]) (GW Q) aY (GW Q)=(fun g s=>DB Q s):=Eq.trans rfl (by kernel_rfl)
theorem aFc (Q:aG) (n1:Nat):YU (sub QN [Y,N,Y,N,N,Y,Y,Y]) (mI (fun n g s=>qW Q n (g 0) (g 1) (g 7) (g 8) s) 223 n1) (cX 0 (fun g s=>DB Q s) aY) (GW Q)=(fun g s=>SW Q (qW Q n1) (g 8) (g 0) (g 1) (g 7) s):=Eq.trans rfl (by kernel_rfl)
theorem aCo (Q:aG) (kN:Kt):YU (sub QN [Y,N,Y,N]) kN (cX 0 (fun g s=>DB Q s) aY) (GW Q)=fun g s=>∃ n,qW Q n (g 0) (g 1) (g 7) (g 8) s:=mB (L:=fun n g s=>qW Q n (g 0) (g 1) (g 7) (g 8) s) (fun n1=>Eq.trans (aM (aM (aM (aFc Q n1) (dV 1 rfl)) rfl) rfl) (by kernel_rfl))
def f223 (Q:aG) (t0 t1:AV) (s:St):Prop:=aA (bt .len #[65] [t0] (s.nx+2) (adv s 4)) fun r7=>∃ n,qW Q n t0 t1 r7.1 (.int .i64 0) r7.2
theorem aSt (t0 t1:AV) (s:St) {Q:aG} (h:f223 Q t0 t1 s):dT 223 [t0,t1] s Q:=aH (h:=223) (fn:=Tryz.f223) (c:=sub QN []) (show YU (sub QN []) (GW Q) aY (GW Q)=_ from (aM (aM (aDi Q) (aM (dV 0 (aCo Q _)) rfl)) rfl)) h
abbrev aZs:Code:=aJ Tryz.f224
abbrev bBt:=rK Tryz.f224
abbrev bMi:=aK mEv 224 (mEv.kp 224)
def f224 (Q:aG) (t0:AV) (s:St):Prop:=aA (bn .eql 153 t0 .nilp) fun t4=>Gd (aD t4 false) (adv s 11) (fun k=>k t0 (adv s 11)) fun t6 s1=>Gd (aD t4 false) s1 (fun k=>aQ t6=true/\k t6 s1) fun t7 s2=>Gd (aD t4 false) s2 (fun k=>aA (aC 1 t7) fun v=>k v s2) fun t8 s3=>Gd (aD t4 false) s3 (fun k=>aA (ld 1 false t8 s3) fun v=>k v s3) fun t9 s4=>Gd (aD t4 false) s4 (fun k=>aA (bt .len #[72] [t9] (s.nx+8) s4) fun r=>k r.1 r.2) fun t10 s5=>Gd (aD t4 false) s5 (fun k=>aA (bn .eql 3 t10 (.int .i64 0)) fun v=>k v s5) fun t11 s6=>aA (bC t4 (.bool true) t11) fun t12=>aZ t12
 (Q (.int .i64 0) (adv s6 1))
 ((aQ t0=true /\
 aA (aC 1 t0) fun t15=>aA (ld 1 false t15 (adv s6 13)) fun t16=>(aQ t0=true /\
 aA (aC 1 t0) fun t19=>aA (ld 1 false t19 (adv s6 13)) fun t20=>aA (bt .len #[72] [t20] (s6.nx+8) (adv s6 13)) fun r21=>aA (bn .sub 3 r21.1 (.int .i64 1)) fun t22=>aA (cQ 1 t16 t22) fun t23=>aA (ld 1 false t23 r21.2) fun t24=>Q t24 r21.2)))
theorem aGc (t0:AV) (s:St) {Q:aG} (h:f224 Q t0 s):dT 224 [t0] s Q:=aH (h:=224) (fn:=Tryz.f224) (c:=sub aZs []) (show bMi (sub aZs []) (bBt Q) aY (bBt Q)=_ from rfl) h
abbrev bCg:Code:=aJ Tryz.f225
abbrev bAt:=rK Tryz.f225
abbrev bMc:=aK mEv 225 (mEv.kp 225)
def f225 (Q:aG) (t0:AV) (s:St):Prop:=aA (bn .eql 155 t0 .nilp) fun t4=>Gd (aD t4 false) (adv s 11) (fun k=>k t0 (adv s 11)) fun t6 s1=>Gd (aD t4 false) s1 (fun k=>aQ t6=true/\k t6 s1) fun t7 s2=>Gd (aD t4 false) s2 (fun k=>aA (aC 1 t7) fun v=>k v s2) fun t8 s3=>Gd (aD t4 false) s3 (fun k=>aA (ld 1 false t8 s3) fun v=>k v s3) fun t9 s4=>Gd (aD t4 false) s4 (fun k=>aA (bt .len #[72] [t9] (s.nx+8) s4) fun r=>k r.1 r.2) fun t10 s5=>Gd (aD t4 false) s5 (fun k=>aA (bn .eql 3 t10 (.int .i64 0)) fun v=>k v s5) fun t11 s6=>aA (bC t4 (.bool true) t11) fun t12=>aZ t12
 (Q (.int .i64 0) (adv s6 1))
 ((aQ t0=true /\
 aA (aC 1 t0) fun t15=>aA (ld 1 false t15 (adv s6 13)) fun t16=>(aQ t0=true /\
 aA (aC 1 t0) fun t19=>aA (ld 1 false t19 (adv s6 13)) fun t20=>aA (bt .len #[72] [t20] (s6.nx+8) (adv s6 13)) fun r21=>aA (bn .sub 3 r21.1 (.int .i64 1)) fun t22=>aA (cQ 1 t16 t22) fun t23=>aA (ld 1 false t23 r21.2) fun t24=>Q t24 r21.2)))
theorem aLu (t0:AV) (s:St) {Q:aG} (h:f225 Q t0 s):dT 225 [t0] s Q:=aH (h:=225) (fn:=Tryz.f225) (c:=sub bCg []) (show bMc (sub bCg []) (bAt Q) aY (bAt Q)=_ from rfl) h
end
noncomputable section
abbrev CD:Code:=aJ Tryz.f175
abbrev zD:=rK Tryz.f175
abbrev IP:=aK mEv 175 (mEv.kp 175)
def uR (Q:aG) (s:St):Prop:=Q (.tup [(.int .i64 0),(.bool false)]) (adv s 2)
def tT (Q:aG) (ih1:AV->AV->aG) (t6 t0 t1:AV) (s:St):Prop:=aA (bn .sub 3 t6 (.int .i64 1)) fun t17=>ih1 t0 t1 t17 (adv s 3)
def SF (Q:aG) (ih1:AV->AV->aG) (ih2:AV->AV->AV->aG) (t7 t0 t1 t6:AV) (s:St):Prop:=aA (bn .sub 3 t7 (.int .i64 1)) fun t31=>ih2 t0 t1 t6 t31 (adv s 3)
def xD (Q:aG) (ih1:AV->AV->aG) (ih2:AV->AV->AV->aG) (t0 t1 t6 t7:AV) (s:St):Prop:=aA (bn .geq 3 t7 (.int .i64 0)) fun t29=>aZ t29
 ((aQ t0=true /\
 aA (aC 2 t0) fun t34=>aA (ld 1 false t34 (adv s 15)) fun t35=>aA (cQ 2 t35 t6) fun t37=>aA (aC 0 t37) fun t38=>aA (ld 1 false t38 (adv s 15)) fun t39=>aA (cQ 1 t39 t7) fun t41=>aA (ld 1 false t41 (adv s 15)) fun t42=>aA (bn .eql 9 t42 t1) fun t44=>aZ t44
 ((aQ t0=true /\
 aA (aC 2 t0) fun t47=>aA (ld 1 false t47 (adv s 28)) fun t48=>aA (cQ 2 t48 t6) fun t50=>aA (aC 1 t50) fun t51=>aA (ld 1 false t51 (adv s 28)) fun t52=>aA (cQ 1 t52 t7) fun t54=>aA (ld 1 false t54 (adv s 28)) fun t55=>Q (.tup [t55,(.bool true)]) (adv s 28)))
 (SF Q ih1 ih2 t7 t0 t1 t6 (adv s 15))))
 (tT Q ih1 t6 t0 t1 (adv s 2))
def qL (Q:aG) (ih1:AV->AV->aG) (n:Nat):AV->AV->AV->aG:=mC (fun _ _ _ _ _ =>False) (fun ih=>xD Q ih1 ih) n
def vZ (Q:aG) (ih1:AV->AV->aG) (t0 t1 t6:AV) (s:St):Prop:=aA (bn .geq 3 t6 (.int .i64 0)) fun t15=>aZ t15
 ((aQ t0=true /\
 aA (aC 2 t0) fun t20=>aA (ld 1 false t20 (adv s 13)) fun t21=>aA (cQ 2 t21 t6) fun t23=>aA (aC 0 t23) fun t24=>aA (ld 1 false t24 (adv s 13)) fun t25=>aA (bt .len #[52] [t25] (s.nx+10) (adv s 13)) fun r26=>aA (bn .sub 3 r26.1 (.int .i64 1)) fun t27=>∃ n,qL Q ih1 n t0 t1 t6 t27 r26.2))
 (uR Q (adv s 2))
def gB (Q:aG) (n:Nat):AV->AV->aG:=mC (fun _ _ _ _ =>False) (fun ih=>vZ Q ih) n
theorem aCz (Q:aG):IP (sub CD [Y,Y]) (zD Q) aY (zD Q)=(fun g s=>uR Q s):=Eq.trans rfl (by kernel_rfl)
theorem aAt (Q:aG) (n1:Nat):IP (sub CD [Y,N,Y,N,N,Y,Y]) (mI (fun n g s=>gB Q n (g 0) (g 1) (g 6) s) 175 n1) (cX 0 (fun g s=>uR Q s) aY) (zD Q)=(fun g s=>tT Q (gB Q n1) (g 6) (g 0) (g 1) s):=Eq.trans rfl (by kernel_rfl)
theorem aEm (Q:aG) (n1:Nat) (n2:Nat):IP (sub CD [Y,N,Y,N,N,Y,N,N,Y,N,N,Y,Y]) (mI (fun n g s=>qL Q (gB Q n1) n (g 0) (g 1) (g 6) (g 7) s) 175 n2) (cX 2 (fun g s=>tT Q (gB Q n1) (g 6) (g 0) (g 1) s) (cX 1 (fun g s=>tT Q (gB Q n1) (g 6) (g 0) (g 1) s) (cX 0 (fun g s=>uR Q s) aY))) (zD Q)=(fun g s=>SF Q (gB Q n1) (qL Q (gB Q n1) n2) (g 7) (g 0) (g 1) (g 6) s):=Eq.trans rfl (by kernel_rfl)
theorem aDf (Q:aG) (n1:Nat) (kN:Kt):IP (sub CD [Y,N,Y,N,N,Y,N,N,Y,N]) kN (cX 2 (fun g s=>tT Q (gB Q n1) (g 6) (g 0) (g 1) s) (cX 1 (fun g s=>tT Q (gB Q n1) (g 6) (g 0) (g 1) s) (cX 0 (fun g s=>uR Q s) aY))) (zD Q)=fun g s=>∃ n,qL Q (gB Q n1) n (g 0) (g 1) (g 6) (g 7) s:=mB (L:=fun n g s=>qL Q (gB Q n1) n (g 0) (g 1) (g 6) (g 7) s) (fun n2=>Eq.trans (aM (aM (aEm Q n1 n2) (dV 3 rfl)) rfl) (by kernel_rfl))
theorem aFb (Q:aG) (kN:Kt):IP (sub CD [Y,N,Y,N]) kN (cX 0 (fun g s=>uR Q s) aY) (zD Q)=fun g s=>∃ n,gB Q n (g 0) (g 1) (g 6) s:=mB (L:=fun n g s=>gB Q n (g 0) (g 1) (g 6) s) (fun n1=>Eq.trans (aM (aM (aAt Q n1) (dV 1 (aM (dV 2 (aDf Q n1 _)) rfl))) rfl) (by kernel_rfl))
def f175 (Q:aG) (t0 t1:AV) (s:St):Prop:=(aQ t0=true /\
 aA (aC 2 t0) fun t10=>aA (ld 1 false t10 (adv s 9)) fun t11=>aA (bt .len #[122] [t11] (s.nx+6) (adv s 9)) fun r12=>aA (bn .sub 3 r12.1 (.int .i64 1)) fun t13=>∃ n,gB Q n t0 t1 t13 r12.2)
theorem aIe (t0 t1:AV) (s:St) {Q:aG} (h:f175 Q t0 t1 s):dT 175 [t0,t1] s Q:=aH (h:=175) (fn:=Tryz.f175) (c:=sub CD []) (show IP (sub CD []) (zD Q) aY (zD Q)=_ from (aM (aM (aCz Q) (aM (dV 0 (aFb Q _)) rfl)) rfl)) h
abbrev QW:Code:=aJ Tryz.f174
abbrev HQ:=rK Tryz.f174
abbrev VX:=aK mEv 174 (mEv.kp 174)
def EG (Q:aG) (s:St):Prop:=Q (.int .i64 (-1)) (adv s 1)
def RS (Q:aG) (ih1:AV->AV->aG) (t5 t0 t1:AV) (s:St):Prop:=aA (bn .sub 3 t5 (.int .i64 1)) fun t15=>ih1 t0 t1 t15 (adv s 3)
def vD (Q:aG) (ih1:AV->AV->aG) (t0 t1 t5:AV) (s:St):Prop:=aA (bn .geq 3 t5 (.int .i64 0)) fun t13=>aZ t13
 ((aQ t0=true /\
 aA (aC 1 t0) fun t18=>aA (ld 1 false t18 (adv s 12)) fun t19=>aA (cQ 10 t19 t5) fun t21=>aA (aC 0 t21) fun t22=>aA (ld 1 false t22 (adv s 12)) fun t23=>aA (bn .eql 9 t23 t1) fun t25=>aZ t25
 (Q t5 (adv s 14))
 (RS Q ih1 t5 t0 t1 (adv s 12))))
 (EG Q (adv s 2))
def qH (Q:aG) (n:Nat):AV->AV->aG:=mC (fun _ _ _ _ =>False) (fun ih=>vD Q ih) n
theorem aCu (Q:aG):VX (sub QW [Y,Y]) (HQ Q) aY (HQ Q)=(fun g s=>EG Q s):=Eq.trans rfl (by kernel_rfl)
theorem aFv (Q:aG) (n1:Nat):VX (sub QW [Y,N,Y,N,N,Y,Y]) (mI (fun n g s=>qH Q n (g 0) (g 1) (g 5) s) 174 n1) (cX 0 (fun g s=>EG Q s) aY) (HQ Q)=(fun g s=>RS Q (qH Q n1) (g 5) (g 0) (g 1) s):=Eq.trans rfl (by kernel_rfl)
theorem aDc (Q:aG) (kN:Kt):VX (sub QW [Y,N,Y,N]) kN (cX 0 (fun g s=>EG Q s) aY) (HQ Q)=fun g s=>∃ n,qH Q n (g 0) (g 1) (g 5) s:=mB (L:=fun n g s=>qH Q n (g 0) (g 1) (g 5) s) (fun n1=>Eq.trans (aM (aM (aFv Q n1) (dV 1 rfl)) rfl) (by kernel_rfl))
def f174 (Q:aG) (t0 t1:AV) (s:St):Prop:=(aQ t0=true /\
 aA (aC 1 t0) fun t8=>aA (ld 1 false t8 (adv s 8)) fun t9=>aA (bt .len #[49] [t9] (s.nx+5) (adv s 8)) fun r10=>aA (bn .sub 3 r10.1 (.int .i64 1)) fun t11=>∃ n,qH Q n t0 t1 t11 r10.2)
theorem aKh (t0 t1:AV) (s:St) {Q:aG} (h:f174 Q t0 t1 s):dT 174 [t0,t1] s Q:=aH (h:=174) (fn:=Tryz.f174) (c:=sub QW []) (show VX (sub QW []) (HQ Q) aY (HQ Q)=_ from (aM (aM (aCu Q) (aM (dV 0 (aDc Q _)) rfl)) rfl)) h
abbrev OT:Code:=aJ Tryz.f177
abbrev HU:=rK Tryz.f177
abbrev VQ:=aK mEv 177 (mEv.kp 177)
def GC (Q:aG) (t6:AV) (s:St):Prop:=Q (.tup [t6,(.int .i64 0)]) (adv s 3)
def TQ (Q:aG) (ih1:AV->AV->AV->AV->aG) (t13 t1 t6 t11 t12:AV) (s:St):Prop:=aA (bn .add 3 t13 (.int .i64 1)) fun t30=>ih1 t1 t6 t11 t12 t30 (adv s 2)
def xA (Q:aG) (ih1:AV->AV->AV->AV->aG) (t1 t6 t11 t12 t13:AV) (s:St):Prop:=aA (bn .lss 3 t13 t12) fun t14=>aZ t14
 (aA (cQ 6 t11 t13) fun t15=>aA (ld 6 true t15 (adv s 5)) fun t16=>aA (zr 33) fun z8=>aA (dU 6 (.ptr (s.nx+3) 0) t16 ((adv s 5).set (s.nx+3) (some (.cells z8.cells 33 true true)))) fun s1=>aA (ld 6 true (.ptr (s.nx+3) 0) (adv s1 8)) fun t19=>sZ mEv 177 t1 [t19] (adv s1 8) fun t20 s2=>aA (aS t20 0) fun t21=>aA (aS t20 1) fun t22=>aA (bn .neq 34 t22 (.int .i64 0)) fun t24=>aZ t24
 (Q (.tup [.nils,t22]) (adv s2 5))
 (aA (kM 72 1 [(0,t21)]) fun t28=>aA (bt .append #[72,72] [t6,t28] (s2.nx+5) (adv s2 7)) fun r29=>TQ Q ih1 t13 t1 r29.1 t11 t12 r29.2))
 (GC Q t6 (adv s 1))
def rD (Q:aG) (n:Nat):AV->AV->AV->AV->aG:=mC (fun _ _ _ _ _ _ =>False) (fun ih=>xA Q ih) n
theorem aFh (Q:aG):VQ (sub OT [Y,Y,Y]) (HU Q) aY (HU Q)=(fun g s=>GC Q (g 6) s):=Eq.trans rfl (by kernel_rfl)
theorem aDd (Q:aG) (n1:Nat):VQ (sub OT [Y,Y,N,Y,N,N,Y,Y,Y]) (mI (fun n g s=>rD Q n (g 1) (g 6) (g 11) (g 12) (g 13) s) 177 n1) (cX 0 (fun g s=>GC Q (g 6) s) aY) (HU Q)=(fun g s=>TQ Q (rD Q n1) (g 13) (g 1) (g 6) (g 11) (g 12) s):=Eq.trans rfl (by kernel_rfl)
theorem aBe (Q:aG) (kN:Kt):VQ (sub OT [Y,Y,N,Y,N]) kN (cX 0 (fun g s=>GC Q (g 6) s) aY) (HU Q)=fun g s=>∃ n,rD Q n (g 1) (g 6) (g 11) (g 12) (g 13) s:=mB (L:=fun n g s=>rD Q n (g 1) (g 6) (g 11) (g 12) (g 13) s) (fun n1=>Eq.trans (aM (aM (aM (aDd Q n1) (dV 1 rfl)) rfl) rfl) (by kernel_rfl))
def f177 (Q:aG) (t0 t1:AV) (s:St):Prop:=aA (bt .len #[31] [t0] (s.nx+4) (adv s 6)) fun r12=>∃ n,rD Q n t1 .nils t0 r12.1 (.int .i64 0) r12.2
theorem aNr (t0 t1:AV) (s:St) {Q:aG} (h:f177 Q t0 t1 s):dT 177 [t0,t1] s Q:=aH (h:=177) (fn:=Tryz.f177) (c:=sub OT []) (show VQ (sub OT []) (HU Q) aY (HU Q)=_ from (aM (aM (aM (aFh Q) (aM (dV 0 (aBe Q _)) rfl)) rfl) rfl)) h
abbrev IX:Code:=aJ Tryz.f178
abbrev zI:=rK Tryz.f178
abbrev OO:=aK mEv 178 (mEv.kp 178)
def DJ (Q:aG) (t19 t20:AV) (s:St):Prop:=Q (.tup [t19,t20]) (adv s 4)
def uL (Q:aG) (t1 t9 t0 t10 t8:AV) (s:St):Prop:=aO mEv 206 [t1] (adv s 4) fun t78 s1=>aA (bn .add 9 (.str [102]) t78) fun t79=>aL mEv 156 [t9,t79] s1 fun t80 s2=>(aQ t0=true /\
 aA (aC 3 t0) fun t84=>aA (ld 1 false t84 (adv s2 11)) fun t85=>(clear 0 ⟨4,true,rch (adv s2 11) [(.fn 108 [] []),t9],some (adv s2 11).nx⟩ [⟨3,false,aE t84,none⟩,⟨2,false,[],none⟩,⟨1,false,[],none⟩,⟨0,false,[],none⟩]=true/\cL mEv 108 [t9] (rch (adv s2 11) [(.fn 108 [] []),t9]) (adv s2 11) fun t86 s3=>aA (eE Tryz.ty 53 t85 t86 true s3) fun t87=>aA (aS t87 0) fun t88=>aA (aS t87 1) fun t89=>aZ t89
 (Q (.tup [t88,(.int .i64 0)]) (adv s3 4))
 ((aQ t0=true /\
 aA (aC 2 t0) fun t94=>aA (ld 1 false t94 (adv s3 11)) fun t95=>(aQ t0=true /\
 aA (aC 1 t0) fun t98=>aA (ld 1 false t98 (adv s3 11)) fun t99=>aA (ld 2 true t10 (adv s3 24)) fun t102=>aA (kM 122 1 [(0,t102)]) fun t103=>aA (mF 49 t99 none (some t1) none (adv s3 24)) fun t106=>(aQ t0=true /\
 aA (aC 2 t0) fun t108=>(clear 397 ⟨9,true,(s3.nx+20)::aE t108,none⟩ [⟨8,false,[],none⟩,⟨7,false,[],none⟩,⟨6,false,aE t99,none⟩,⟨5,false,[],none⟩,⟨4,false,[],none⟩,⟨3,false,[],none⟩,⟨2,false,aE t10,none⟩,⟨1,false,[],none⟩,⟨0,false,[],none⟩]=true/\(adv s3 24).h (s3.nx+20)=none/\aA (dU 1 t108 t103 (adv s3 24)) fun s4=>(aQ t0=true /\
 aA (aC 1 t0) fun t110=>(s4.h (s3.nx+23)=none/\aA (dU 1 t110 t106 s4) fun s5=>aA (aC 4 t8) fun t113=>aA (ld 6 true t113 (adv s5 9)) fun t114=>aL mEv 75 [t0,t114] (adv s5 9) fun t115 s6=>aA (aS t115 0) fun t116=>aA (aS t115 1) fun t117=>(aQ t0=true /\
 aA (aC 2 t0) fun t123=>aA (dU 1 t123 t95 (adv s6 10)) fun s7=>(aQ t0=true /\
 aA (aC 1 t0) fun t125=>aA (dU 1 t125 t99 s7) fun s8=>aA (bn .eql 34 t117 (.int .i64 0)) fun t127=>aZ t127
 ((aQ t0=true /\
 aA (aC 3 t0) fun t130=>aA (ld 1 false t130 (adv s8 9)) fun t131=>(clear 0 ⟨4,true,rch (adv s8 9) [(.fn 108 [] []),t9],some (adv s8 9).nx⟩ [⟨3,false,aE t130,none⟩,⟨2,false,[],none⟩,⟨1,false,[],none⟩,⟨0,false,[],none⟩]=true/\cL mEv 108 [t9] (rch (adv s8 9) [(.fn 108 [] []),t9]) (adv s8 9) fun t132 s9=>(s9.h (s8.nx+8)=none/\aA (eN Tryz.ty 53 t131 t132 t116 s9) fun s10=>DJ Q t116 t117 s10))))
 (DJ Q t116 t117 (adv s8 2)))))))))))))
def TS (Q:aG) (ih1:AV->AV->AV->AV->AV->AV->AV->AV->aG) (t40 t0 t1 t2 t8 t9 t10 t38 t39:AV) (s:St):Prop:=aA (bn .add 3 t40 (.int .i64 1)) fun t76=>ih1 t0 t1 t2 t8 t9 t10 t38 t39 t76 (adv s 2)
def vK (Q:aG) (ih1:AV->AV->AV->AV->AV->AV->AV->AV->aG) (t0 t1 t2 t8 t9 t10 t38 t39 t40:AV) (s:St):Prop:=aA (bn .lss 3 t40 t39) fun t41=>aZ t41
 (aA (cQ 2 t38 t40) fun t43=>aA (ld 2 true t43 (adv s 7)) fun t44=>aA (zr 151) fun z12=>aA (dU 2 (.ptr (s.nx+4) 0) t44 ((adv s 7).set (s.nx+4) (some (.cells z12.cells 151 true true)))) fun s1=>(aQ t0=true /\
 aA (aC 0 t0) fun t48=>aA (ld 1 false t48 (adv s1 15)) fun t49=>aA (cQ 1 t2 t40) fun t52=>aA (ld 1 false t52 (adv s1 15)) fun t53=>cL mEv 53 [t49,t53] (rch (adv s1 15) [(.fn 53 [] []),t49,t53]) (adv s1 15) fun t54 s2=>aA (aS t54 0) fun t55=>aA (aS t54 1) fun t56=>(clear 0 ⟨12,true,(s1.nx+12)::[],none⟩ [⟨11,false,[],none⟩,⟨10,false,[],none⟩,⟨9,false,[],none⟩,⟨8,true,rch (adv s1 15) [(.fn 53 [] []),t49,t53],some (adv s1 15).nx⟩,⟨7,false,aE t52,none⟩,⟨6,false,[],none⟩,⟨5,false,[],none⟩,⟨4,false,[],none⟩,⟨3,false,aE t48,none⟩,⟨2,false,[],none⟩,⟨1,false,[],none⟩,⟨0,false,[],none⟩]=true/\s2.h (s1.nx+12)=none/\aA (zr 101) fun z13=>((s2.set (s1.nx+12) (some (.cells z13.cells 101 true true))).h (s1.nx+13)=none/\aA (dU 7 (.ptr (s1.nx+12) 0) t55 (s2.set (s1.nx+12) (some (.cells z13.cells 101 true true)))) fun s3=>aA (aC 1 (.ptr (s1.nx+12) 0)) fun t57=>aA (ld 1 false t57 (adv s3 5)) fun t58=>aA (aC 1 (.ptr (s.nx+4) 0)) fun t59=>aA (ld 1 false t59 (adv s3 5)) fun t60=>aA (bn .neq 3 t58 t60) fun t61=>aZ t61
 (Q (.tup [(.int .i64 0),(.int .i64 90)]) (adv s3 7))
 (aA (aC 0 t10) fun t62=>aA (ld 1 false t62 (adv s3 13)) fun t63=>aA (aC 0 (.ptr (s.nx+4) 0)) fun t64=>aA (ld 1 false t64 (adv s3 13)) fun t65=>aA (kM 52 1 [(0,t65)]) fun t66=>aA (bt .append #[52,52] [t63,t66] (s3.nx+10) (adv s3 13)) fun r67=>aA (aC 0 t10) fun t68=>aA (dU 1 t68 r67.1 r67.2) fun s4=>aA (cQ 1 t2 t40) fun t71=>aA (ld 1 false t71 (adv s4 7)) fun t72=>aO mEv 206 [t72] (adv s4 7) fun t73 s5=>aA (bn .add 9 t73 (.str [32])) fun t74=>aL mEv 156 [t9,t74] s5 fun t75 s6=>TS Q ih1 t40 t0 t1 t2 t8 t9 t10 t38 t39 s6)))))
 (uL Q t1 t9 t0 t10 t8 (adv s 1))
def qQ (Q:aG) (n:Nat):AV->AV->AV->AV->AV->AV->AV->AV->aG:=mC (fun _ _ _ _ _ _ _ _ _ _ =>False) (fun ih=>vK Q ih) n
theorem aEg (Q:aG):OO (sub IX [Y,Y,Y,Y,Y,Y,Y,Y,Y,Y,Y,Y,Y]) (zI Q) aY (zI Q)=(fun g s=>DJ Q (g 19) (g 20) s):=Eq.trans rfl (by kernel_rfl)
theorem ZJ (Q:aG):OO (sub IX [Y,Y,Y,Y,Y,Y]) (zI Q) aY (zI Q)=(fun g s=>uL Q (g 1) (g 9) (g 0) (g 10) (g 8) s):=Eq.trans (aM (aM (aM (aM (aM (aM (aM (aEg Q) rfl) rfl) rfl) rfl) rfl) rfl) rfl) (by kernel_rfl)
theorem aDq (Q:aG) (n1:Nat):OO (sub IX [Y,Y,Y,Y,Y,N,Y,N,N,Y,Y,Y]) (mI (fun n g s=>qQ Q n (g 0) (g 1) (g 2) (g 8) (g 9) (g 10) (g 38) (g 39) (g 40) s) 178 n1) (cX 0 (fun g s=>uL Q (g 1) (g 9) (g 0) (g 10) (g 8) s) aY) (zI Q)=(fun g s=>TS Q (qQ Q n1) (g 40) (g 0) (g 1) (g 2) (g 8) (g 9) (g 10) (g 38) (g 39) s):=Eq.trans rfl (by kernel_rfl)
theorem ZV (Q:aG) (kN:Kt):OO (sub IX [Y,Y,Y,Y,Y,N,Y,N]) kN (cX 0 (fun g s=>uL Q (g 1) (g 9) (g 0) (g 10) (g 8) s) aY) (zI Q)=fun g s=>∃ n,qQ Q n (g 0) (g 1) (g 2) (g 8) (g 9) (g 10) (g 38) (g 39) (g 40) s:=mB (L:=fun n g s=>qQ Q n (g 0) (g 1) (g 2) (g 8) (g 9) (g 10) (g 38) (g 39) (g 40) s) (fun n1=>Eq.trans (aM (aM (aM (aDq Q n1) (dV 1 rfl)) rfl) rfl) (by kernel_rfl))
def f178 (Q:aG) (t0 t1 t2:AV) (s:St):Prop:=(aQ t0=true /\
 aA (aC 1 t0) fun t23=>aA (ld 1 false t23 (adv s 11)) fun t24=>aA (cQ 10 t24 t1) fun t26=>aA (ld 10 true t26 (adv s 11)) fun t27=>aA (zr 67) fun z8=>aA (dU 10 (.ptr (s.nx+9) 0) t27 ((adv s 11).set (s.nx+9) (some (.cells z8.cells 67 true true)))) fun s1=>aA (bt .len #[72] [t2] (s1.nx+1) (adv s1 6)) fun r29=>aA (aC 3 (.ptr (s.nx+9) 0)) fun t30=>aA (ld 1 false t30 r29.2) fun t31=>aA (bt .len #[65] [t31] (s1.nx+4) r29.2) fun r32=>aA (bn .neq 3 r29.1 r32.1) fun t33=>aZ t33
 (Q (.tup [(.int .i64 0),(.int .i64 1)]) (adv r32.2 2))
 (aA (lK 163 []) fun t34=>aA (zr 163) fun z9=>aA (dU 2 (.ptr (r32.2.nx+1) 0) t34 ((adv r32.2 3).set (r32.2.nx+1) (some (.cells z9.cells 163 true true)))) fun s2=>aA (lK 254 [(1,t2)]) fun t36=>aA (zr 254) fun z10=>aA (dU 2 (.ptr (s2.nx+2) 0) t36 ((adv s2 4).set (s2.nx+2) (some (.cells z10.cells 254 true true)))) fun s3=>aA (aC 3 (.ptr (s.nx+9) 0)) fun t37=>aA (ld 1 false t37 (adv s3 4)) fun t38=>aA (bt .len #[65] [t38] (s3.nx+2) (adv s3 4)) fun r39=>∃ n,qQ Q n t0 t1 t2 (.ptr (s.nx+9) 0) (.ptr (r32.2.nx+1) 0) (.ptr (s2.nx+2) 0) t38 r39.1 (.int .i64 0) r39.2))
theorem aLb (t0 t1 t2:AV) (s:St) {Q:aG} (h:f178 Q t0 t1 t2 s):dT 178 [t0,t1,t2] s Q:=aH (h:=178) (fn:=Tryz.f178) (c:=sub IX []) (show OO (sub IX []) (zI Q) aY (zI Q)=_ from (aM (aM (aM (aM (aM (aM (ZJ Q) (aM (dV 0 (ZV Q _)) rfl)) rfl) rfl) rfl) rfl) rfl)) h
abbrev aPz:Code:=aJ Tryz.f130
abbrev XW:=rK Tryz.f130
abbrev bAu:=aK mEv 130 (mEv.kp 130)
def UJ (Q:aG) (t0 t8:AV) (s:St):Prop:=aL mEv 178 [t0,t8,.nils] (adv s 7) fun t79 s1=>aA (aS t79 0) fun t80=>aA (aS t79 1) fun t81=>Q (.tup [t80,t81]) s1
theorem aDx (Q:aG):bAu (sub aPz [Y,Y,Y,Y,Y,Y]) (XW Q) aY (XW Q)=(fun g s=>UJ Q (g 0) (g 8) s):=Eq.trans rfl (by kernel_rfl)
def f130 (Q:aG) (t0 t1:AV) (s:St):Prop:=aA (bn .eql 9 t1 (.str [116,114,117,101])) fun t10=>Gd (aD t10 false) (adv s 8) (fun k=>k t1 (adv s 8)) fun t12 s1=>Gd (aD t10 false) s1 (fun k=>aA (bn .eql 9 t12 (.str [102,97,108,115,101])) fun v=>k v s1) fun t13 s2=>aA (bC t10 (.bool true) t13) fun t14=>aZ t14
 ((aQ t0=true /\
 aA (aC 0 t0) fun t17=>aA (ld 1 false t17 (adv s2 11)) fun t18=>aA (bn .eql 9 t1 (.str [116,114,117,101])) fun t20=>aL mEv 78 [t18,t20] (adv s2 11) fun t21 s3=>aA (aS t21 0) fun t22=>aA (aS t21 1) fun t23=>Q (.tup [t22,t23]) s3))
 (aO mEv 24 [t1] (adv s2 2) fun t25 s4=>aZ t25
 (Q (.tup [(.int .i64 0),(.int .i64 101)]) (adv s4 2))
 (aL mEv 175 [t0,t1] (adv s4 8) fun t29 s5=>aA (aS t29 0) fun t30=>aA (aS t29 1) fun t31=>aZ t31
 (Q (.tup [t30,(.int .i64 0)]) (adv s5 4))
 (aL mEv 174 [t0,t1] (adv s5 5) fun t36 s6=>aA (bn .lss 3 t36 (.int .i64 0)) fun t39=>aZ t39
 (Q (.tup [(.int .i64 0),(.int .i64 100)]) (adv s6 5))
 ((aQ t0=true /\
 aA (aC 1 t0) fun t43=>aA (ld 1 false t43 (adv s6 13)) fun t44=>aA (cQ 10 t44 t36) fun t46=>aA (aC 2 t46) fun t47=>aA (ld 1 false t47 (adv s6 13)) fun t48=>aA (un .not t48) fun t49=>aZ t49
 ((aQ t0=true /\
 aA (aC 0 t0) fun t52=>aA (ld 1 false t52 (adv s6 31)) fun t53=>(aQ t0=true /\
 aA (aC 1 t0) fun t57=>aA (ld 1 false t57 (adv s6 31)) fun t58=>aA (cQ 10 t58 t36) fun t60=>aA (aC 1 t60) fun t61=>aA (ld 1 false t61 (adv s6 31)) fun t62=>cL mEv 77 [t53,t1,t62] (rch (adv s6 31) [(.fn 77 [] []),t53,t1,t62]) (adv s6 31) fun t63 s7=>aA (aS t63 0) fun t64=>aA (aS t63 1) fun t65=>Q (.tup [t64,t65]) s7)))
 ((aQ t0=true /\
 aA (aC 1 t0) fun t69=>aA (ld 1 false t69 (adv s6 24)) fun t70=>aA (cQ 10 t70 t36) fun t72=>aA (aC 3 t72) fun t73=>aA (ld 1 false t73 (adv s6 24)) fun t74=>aA (bt .len #[65] [t74] (s6.nx+21) (adv s6 24)) fun r75=>aA (bn .gtr 3 r75.1 (.int .i64 0)) fun t76=>aZ t76
 (Q (.tup [(.int .i64 0),(.int .i64 1)]) (adv r75.2 2))
 (UJ Q t0 t36 r75.2))))))))
theorem aMt (t0 t1:AV) (s:St) {Q:aG} (h:f130 Q t0 t1 s):dT 130 [t0,t1] s Q:=aH (h:=130) (fn:=Tryz.f130) (c:=sub aPz []) (show bAu (sub aPz []) (XW Q) aY (XW Q)=_ from (aM (aM (aM (aM (aM (aM (aDx Q) (dV 0 rfl)) rfl) rfl) rfl) rfl) rfl)) h
abbrev QF:Code:=aJ Tryz.f176
abbrev HP:=rK Tryz.f176
abbrev YA:=aK mEv 176 (mEv.kp 176)
def tK (Q:aG) (t6 t7 t0 t1:AV) (s:St):Prop:=aA (aC 0 t6) fun t75=>aA (ld 1 false t75 (adv s 3)) fun t76=>aL mEv 193 [t76,(.fn 24 [] [])] (adv s 3) fun t77 s1=>aZ t77
 (Q (.tup [(.int .i64 0),(.int .i64 101)]) (adv s1 2))
 (aA (aC 0 t6) fun t78=>aA (ld 1 false t78 (adv s1 3)) fun t79=>aO mEv 192 [t79] (adv s1 3) fun t80 s2=>aZ t80
 (Q (.tup [(.int .i64 0),(.int .i64 4)]) (adv s2 2))
 (aL mEv 177 [t7,(.fn 75 [t0] [])] (adv s2 11) fun t85 s3=>aA (aS t85 0) fun t86=>aA (aS t85 1) fun t87=>aA (aC 1 t6) fun t88=>aA (dU 1 t88 t86 s3) fun s4=>aA (bn .neq 34 t87 (.int .i64 0)) fun t90=>aZ t90
 (Q (.tup [(.int .i64 0),t87]) (adv s4 5))
 ((aQ t0=true /\
 aA (aC 2 t0) fun t95=>aA (ld 1 false t95 (adv s4 13)) fun t96=>aA (ld 2 true t6 (adv s4 13)) fun t97=>aA (kM 122 1 [(0,t97)]) fun t98=>((adv s4 13).h (s4.nx+9)=none/\aA (bt .append #[122,122] [t96,t98] (s4.nx+9) (adv s4 13)) fun r99=>(aQ t0=true /\
 aA (aC 2 t0) fun t101=>(r99.2.h (s4.nx+12)=none/\aA (dU 1 t101 r99.1 r99.2) fun s5=>aA (cQ 6 t1 (.int .i64 1)) fun t105=>aA (ld 6 true t105 (adv s5 10)) fun t106=>aL mEv 75 [t0,t106] (adv s5 10) fun t107 s6=>aA (aS t107 0) fun t108=>aA (aS t107 1) fun t109=>(aQ t0=true /\
 aA (aC 2 t0) fun t113=>aA (ld 1 false t113 (adv s6 15)) fun t114=>(aQ t0=true /\
 aA (aC 2 t0) fun t117=>aA (ld 1 false t117 (adv s6 15)) fun t118=>aA (bt .len #[122] [t118] (s6.nx+9) (adv s6 15)) fun r119=>aA (bn .sub 3 r119.1 (.int .i64 1)) fun t120=>aA (mF 122 t114 none (some t120) none r119.2) fun t121=>(aQ t0=true /\
 aA (aC 2 t0) fun t123=>(r119.2.h (s6.nx+14)=none/\aA (dU 1 t123 t121 r119.2) fun s7=>Q (.tup [t108,t109]) (adv s7 4))))))))))))
def SB (Q:aG) (ih1:AV->AV->AV->AV->AV->AV->aG) (t27 t0 t1 t6 t7 t25 t26:AV) (s:St):Prop:=aA (bn .add 3 t27 (.int .i64 1)) fun t74=>ih1 t0 t1 t6 t7 t25 t26 t74 (adv s 2)
def vB (Q:aG) (ih1:AV->AV->AV->AV->AV->AV->aG) (t0 t1 t6 t7 t25 t26 t27:AV) (s:St):Prop:=aA (bn .lss 3 t27 t26) fun t28=>aZ t28
 (aA (cQ 6 t25 t27) fun t29=>aA (ld 6 true t29 (adv s 5)) fun t30=>aA (zr 33) fun z9=>aA (dU 6 (.ptr (s.nx+3) 0) t30 ((adv s 5).set (s.nx+3) (some (.cells z9.cells 33 true true)))) fun s1=>aA (aC 0 (.ptr (s.nx+3) 0)) fun t31=>aA (ld 1 false t31 (adv s1 25)) fun t32=>aA (un .not t32) fun t33=>Gd (aD t33 false) (adv s1 25) (fun k=>aA (aC 5 (.ptr (s.nx+3) 0)) fun v=>k v (adv s1 25)) fun t35 s2=>Gd (aD t33 false) s2 (fun k=>aA (ld 1 false t35 s2) fun v=>k v s2) fun t36 s3=>Gd (aD t33 false) s3 (fun k=>aA (bt .len #[31] [t36] (s1.nx+6) s3) fun r=>k r.1 r.2) fun t37 s4=>Gd (aD t33 false) s4 (fun k=>aA (bn .neq 3 t37 (.int .i64 2)) fun v=>k v s4) fun t38 s5=>aA (bC t33 (.bool true) t38) fun t39=>Gd (aD t39 false) s5 (fun k=>aA (aC 5 (.ptr (s.nx+3) 0)) fun v=>k v s5) fun t41 s6=>Gd (aD t39 false) s6 (fun k=>aA (ld 1 false t41 s6) fun v=>k v s6) fun t42 s7=>Gd (aD t39 false) s7 (fun k=>aA (cQ 6 t42 (.int .i64 0)) fun v=>k v s7) fun t43 s8=>Gd (aD t39 false) s8 (fun k=>aA (aC 0 t43) fun v=>k v s8) fun t44 s9=>Gd (aD t39 false) s9 (fun k=>aA (ld 1 false t44 s9) fun v=>k v s9) fun t45 s10=>aA (bC t39 (.bool true) t45) fun t46=>Gd (aD t46 false) s10 (fun k=>aA (aC 5 (.ptr (s.nx+3) 0)) fun v=>k v s10) fun t48 s11=>Gd (aD t46 false) s11 (fun k=>aA (ld 1 false t48 s11) fun v=>k v s11) fun t49 s12=>Gd (aD t46 false) s12 (fun k=>aA (cQ 6 t49 (.int .i64 0)) fun v=>k v s12) fun t50 s13=>Gd (aD t46 false) s13 (fun k=>aA (aC 1 t50) fun v=>k v s13) fun t51 s14 =>
 Gd (aD t46 false) s14 (fun k=>aA (aC 0 t51) fun v=>k v s14) fun t52 s15=>Gd (aD t46 false) s15 (fun k=>aA (ld 1 false t52 s15) fun v=>k v s15) fun t53 s16=>Gd (aD t46 false) s16 (fun k=>aA (bn .neq 3 t53 (.int .i64 3)) fun v=>k v s16) fun t54 s17=>aA (bC t46 (.bool true) t54) fun t55=>aZ t55
 (Q (.tup [(.int .i64 0),(.int .i64 1)]) (adv s17 2))
 (aA (aC 0 t6) fun t56=>aA (ld 1 false t56 (adv s17 12)) fun t57=>aA (aC 5 (.ptr (s.nx+3) 0)) fun t58=>aA (ld 1 false t58 (adv s17 12)) fun t59=>aA (cQ 6 t59 (.int .i64 0)) fun t60=>aA (aC 1 t60) fun t61=>aA (aC 1 t61) fun t62=>aA (ld 1 false t62 (adv s17 12)) fun t63=>aA (kM 52 1 [(0,t63)]) fun t64=>((adv s17 12).h (s17.nx+9)=none/\aA (bt .append #[52,52] [t57,t64] (s17.nx+9) (adv s17 12)) fun r65=>aA (aC 0 t6) fun t66=>(r65.2.h (s17.nx+11)=none/\aA (dU 1 t66 r65.1 r65.2) fun s18=>aA (aC 5 (.ptr (s.nx+3) 0)) fun t68=>aA (ld 1 false t68 (adv s18 8)) fun t69=>aA (cQ 6 t69 (.int .i64 1)) fun t70=>aA (ld 6 true t70 (adv s18 8)) fun t71=>aA (kM 31 1 [(0,t71)]) fun t72=>aA (bt .append #[31,31] [t7,t72] (s18.nx+6) (adv s18 8)) fun r73=>SB Q ih1 t27 t0 t1 t6 r73.1 t25 t26 r73.2))))
 (tK Q t6 t7 t0 t1 (adv s 1))
def qD (Q:aG) (n:Nat):AV->AV->AV->AV->AV->AV->aG:=mC (fun _ _ _ _ _ _ _ _ =>False) (fun ih=>vB Q ih) n
theorem ZT (Q:aG):YA (sub QF [Y,Y,Y,Y,Y]) (HP Q) aY (HP Q)=(fun g s=>tK Q (g 6) (g 7) (g 0) (g 1) s):=Eq.trans rfl (by kernel_rfl)
theorem ZG (Q:aG) (n1:Nat):YA (sub QF [Y,Y,Y,Y,N,Y,N,N,Y,Y,Y]) (mI (fun n g s=>qD Q n (g 0) (g 1) (g 6) (g 7) (g 25) (g 26) (g 27) s) 176 n1) (cX 0 (fun g s=>tK Q (g 6) (g 7) (g 0) (g 1) s) aY) (HP Q)=(fun g s=>SB Q (qD Q n1) (g 27) (g 0) (g 1) (g 6) (g 7) (g 25) (g 26) s):=Eq.trans rfl (by kernel_rfl)
theorem aBs (Q:aG) (kN:Kt):YA (sub QF [Y,Y,Y,Y,N,Y,N]) kN (cX 0 (fun g s=>tK Q (g 6) (g 7) (g 0) (g 1) s) aY) (HP Q)=fun g s=>∃ n,qD Q n (g 0) (g 1) (g 6) (g 7) (g 25) (g 26) (g 27) s:=mB (L:=fun n g s=>qD Q n (g 0) (g 1) (g 6) (g 7) (g 25) (g 26) (g 27) s) (fun n1=>Eq.trans (aM (aM (aM (ZG Q n1) (dV 1 rfl)) rfl) rfl) (by kernel_rfl))
def f176 (Q:aG) (t0 t1:AV) (s:St):Prop:=aA (bt .len #[31] [t1] (s.nx+3) (adv s 12)) fun r13=>aA (bn .neq 3 r13.1 (.int .i64 2)) fun t14=>Gd (aD t14 false) r13.2 (fun k=>k t1 r13.2) fun t16 s1=>Gd (aD t14 false) s1 (fun k=>aA (cQ 6 t16 (.int .i64 0)) fun v=>k v s1) fun t17 s2=>Gd (aD t14 false) s2 (fun k=>aA (aC 0 t17) fun v=>k v s2) fun t18 s3=>Gd (aD t14 false) s3 (fun k=>aA (ld 1 false t18 s3) fun v=>k v s3) fun t19 s4=>Gd (aD t14 false) s4 (fun k=>aA (un .not t19) fun v=>k v s4) fun t20 s5=>aA (bC t14 (.bool true) t20) fun t21=>aZ t21
 (Q (.tup [(.int .i64 0),(.int .i64 1)]) (adv s5 2))
 (aA (zr 254) fun z6=>aA (cQ 6 t1 (.int .i64 0)) fun t23=>aA (aC 5 t23) fun t24=>aA (ld 1 false t24 (adv ((adv s5 1).set s5.nx (some (.cells z6.cells 254 true true))) 7)) fun t25=>aA (bt .len #[31] [t25] (((adv s5 1).set s5.nx (some (.cells z6.cells 254 true true))).nx+5) (adv ((adv s5 1).set s5.nx (some (.cells z6.cells 254 true true))) 7)) fun r26=>∃ n,qD Q n t0 t1 (.ptr s5.nx 0) .nils t25 r26.1 (.int .i64 0) r26.2)
theorem aHy (t0 t1:AV) (s:St) {Q:aG} (h:f176 Q t0 t1 s):dT 176 [t0,t1] s Q:=aH (h:=176) (fn:=Tryz.f176) (c:=sub QF []) (show YA (sub QF []) (HP Q) aY (HP Q)=_ from (aM (aM (aM (aM (aM (ZT Q) (aM (dV 0 (aBs Q _)) rfl)) rfl) rfl) rfl) rfl)) h
abbrev WK:Code:=aJ Tryz.f126
abbrev JC:=rK Tryz.f126
abbrev aKl:=aK mEv 126 (mEv.kp 126)
def FI (Q:aG) (t7 t0 t8 t9:AV) (s:St):Prop:=aL mEv 177 [t7,(.fn 75 [t0] [])] (adv s 9) fun t92 s1=>aA (aS t92 0) fun t93=>aA (aS t92 1) fun t94=>aA (bn .neq 34 t94 (.int .i64 0)) fun t96=>aZ t96
 (Q (.tup [(.int .i64 0),t94]) (adv s1 5))
 (aA (bn .neq 3 t8 (.int .i64 0)) fun t99=>aZ t99
 ((aQ t0=true /\
 aA (aC 0 t0) fun t102=>aA (ld 1 false t102 (adv s1 15)) fun t103=>aL mEv 81 [t103,t8,t93] (adv s1 15) fun t106 s2=>aA (aS t106 0) fun t107=>aA (aS t106 1) fun t108=>Q (.tup [t107,t108]) s2))
 (aL mEv 178 [t0,t9,t93] (adv s1 12) fun t112 s3=>aA (aS t112 0) fun t113=>aA (aS t112 1) fun t114=>Q (.tup [t113,t114]) s3))
def FE (Q:aG) (t6 t0 t7 t8 t9:AV) (s:St):Prop:=aA (bn .eql 9 t6 (.str [108,101,116])) fun t57=>aZ t57
 (aL mEv 176 [t0,t7] (adv s 10) fun t60 s1=>aA (aS t60 0) fun t61=>aA (aS t60 1) fun t62=>Q (.tup [t61,t62]) s1)
 (aA (bn .eql 3 t8 (.int .i64 0)) fun t65=>Gd (aD t65 true) (adv s 10) (fun k=>k t6 (adv s 10)) fun t67 s2=>Gd (aD t65 true) s2 (fun k=>aO mEv 24 [t67] s2 k) fun t68 s3=>aA (bC t65 t68 (.bool false)) fun t69=>aZ t69
 (Q (.tup [(.int .i64 0),(.int .i64 101)]) (adv s3 2))
 (aA (bn .eql 3 t8 (.int .i64 0)) fun t72=>Gd (aD t72 true) (adv s3 18) (fun k=>k t9 (adv s3 18)) fun t74 s4=>Gd (aD t72 true) s4 (fun k=>aA (bn .lss 3 t74 (.int .i64 0)) fun v=>k v s4) fun t75 s5=>Gd (aD t72 true) s5 (fun k=>k t75 s5) fun t76 s6=>Gd (aD t76 false) s6 (fun k=>k t0 s6) fun t77 s7=>Gd (aD t76 false) s7 (fun k=>aQ t77=true/\k t77 s7) fun t78 s8=>Gd (aD t76 false) s8 (fun k=>aA (aC 1 t78) fun v=>k v s8) fun t79 s9=>Gd (aD t76 false) s9 (fun k=>aA (ld 1 false t79 s9) fun v=>k v s9) fun t80 s10=>Gd (aD t76 false) s10 (fun k=>k t9 s10) fun t81 s11=>Gd (aD t76 false) s11 (fun k=>aA (cQ 10 t80 t81) fun v=>k v s11) fun t82 s12=>Gd (aD t76 false) s12 (fun k=>aA (aC 2 t82) fun v=>k v s12) fun t83 s13=>Gd (aD t76 false) s13 (fun k=>aA (ld 1 false t83 s13) fun v=>k v s13) fun t84 s14=>Gd (aD t76 false) s14 (fun k=>aA (un .not t84) fun v=>k v s14) fun t85 s15=>Gd (aD t72 true) s15 (fun k=>aA (bC t76 (.bool true) t85) fun v=>k v s15) fun t86 s16=>aA (bC t72 t86 (.bool false)) fun t87=>aZ t87
 (Q (.tup [(.int .i64 0),(.int .i64 100)]) (adv s16 2))
 (FI Q t7 t0 t8 t9 s16)))
theorem aDh (Q:aG):aKl (sub WK [Y,Y,Y,Y,Y,Y,Y,Y]) (JC Q) aY (JC Q)=(fun g s=>FI Q (g 7) (g 0) (g 8) (g 9) s):=Eq.trans rfl (by kernel_rfl)
theorem aBy (Q:aG):aKl (sub WK [Y,Y,Y,Y,Y,Y,Y]) (JC Q) aY (JC Q)=(fun g s=>FE Q (g 6) (g 0) (g 7) (g 8) (g 9) s):=Eq.trans (aM (aDh Q) (dV 0 rfl)) (by kernel_rfl)
def f126 (Q:aG) (t0 t1:AV) (s:St):Prop:=(t1.cells.all AV.one=true /\
 aA (aC 5 (.ptr s.nx 0)) fun t14=>aA (ld 1 false t14 (adv ((adv s 3).set s.nx (some (.cells t1.cells 33 true true))) 4)) fun t15=>aA (bt .len #[31] [t15] (((adv s 3).set s.nx (some (.cells t1.cells 33 true true))).nx+2) (adv ((adv s 3).set s.nx (some (.cells t1.cells 33 true true))) 4)) fun r16=>aA (bn .eql 3 r16.1 (.int .i64 0)) fun t17=>aZ t17
 (Q (.tup [(.int .i64 0),(.int .i64 1)]) (adv r16.2 2))
 (aA (aC 5 (.ptr s.nx 0)) fun t18=>aA (ld 1 false t18 (adv r16.2 14)) fun t19=>aA (cQ 6 t19 (.int .i64 0)) fun t20=>aA (aC 0 t20) fun t21=>aA (ld 1 false t21 (adv r16.2 14)) fun t22=>Gd (aD t22 false) (adv r16.2 14) (fun k=>aA (aC 5 (.ptr s.nx 0)) fun v=>k v (adv r16.2 14)) fun t24 s1=>Gd (aD t22 false) s1 (fun k=>aA (ld 1 false t24 s1) fun v=>k v s1) fun t25 s2=>Gd (aD t22 false) s2 (fun k=>aA (cQ 6 t25 (.int .i64 0)) fun v=>k v s2) fun t26 s3=>Gd (aD t22 false) s3 (fun k=>aA (aC 1 t26) fun v=>k v s3) fun t27 s4=>Gd (aD t22 false) s4 (fun k=>aA (aC 0 t27) fun v=>k v s4) fun t28 s5=>Gd (aD t22 false) s5 (fun k=>aA (ld 1 false t28 s5) fun v=>k v s5) fun t29 s6=>Gd (aD t22 false) s6 (fun k=>aA (bn .neq 3 t29 (.int .i64 3)) fun v=>k v s6) fun t30 s7=>aA (bC t22 (.bool true) t30) fun t31=>aZ t31
 (Q (.tup [(.int .i64 0),(.int .i64 101)]) (adv s7 2))
 (aA (aC 5 (.ptr s.nx 0)) fun t32=>aA (ld 1 false t32 (adv s7 11)) fun t33=>aA (cQ 6 t33 (.int .i64 0)) fun t34=>aA (aC 1 t34) fun t35=>aA (aC 1 t35) fun t36=>aA (ld 1 false t36 (adv s7 11)) fun t37=>aA (aC 5 (.ptr s.nx 0)) fun t38=>aA (ld 1 false t38 (adv s7 11)) fun t39=>aA (mF 31 t39 (some (.int .i64 1)) none none (adv s7 11)) fun t40=>aA (bt .len #[31] [t40] (s7.nx+13) (adv s7 16)) fun r43=>aO mEv 71 [t37,r43.1] r43.2 fun t44 s8=>aL mEv 174 [t0,t37] (adv s8 4) fun t47 s9=>aL mEv 175 [t0,t37] (adv s9 8) fun t51 s10=>aA (aS t51 0) fun t52=>aA (aS t51 1) fun t53=>aZ t53
 (FE Q t37 t0 t40 t44 (.int .i64 (-1)) (adv s10 2))
 (FE Q t37 t0 t40 t44 t47 (adv s10 1)))))
theorem aHs (t0 t1:AV) (s:St) {Q:aG} (h:f126 Q t0 t1 s):dT 126 [t0,t1] s Q:=aH (h:=126) (fn:=Tryz.f126) (c:=sub WK []) (show aKl (sub WK []) (JC Q) aY (JC Q)=_ from (aM (aM (aM (aM (aM (aM (aM (aBy Q) rfl) rfl) rfl) rfl) rfl) rfl) rfl)) h
abbrev bFm:Code:=aJ Tryz.f75
abbrev aTs:=rK Tryz.f75
abbrev bMe:=aK mEv 75 (mEv.kp 75)
def aOz (Q:aG) (s:St):Prop:=Q (.tup [(.int .i64 0),(.int .i64 101)]) (adv s 2)
theorem aHj (Q:aG):bMe (sub bFm [Y,Y,Y]) (aTs Q) aY (aTs Q)=(fun g s=>aOz Q s):=Eq.trans rfl (by kernel_rfl)
def f75 (Q:aG) (t0 t1:AV) (s:St):Prop:=(t1.cells.all AV.one=true /\
 aA (aC 0 (.ptr s.nx 0)) fun t10=>aA (ld 1 false t10 (adv ((adv s 3).set s.nx (some (.cells t1.cells 33 true true))) 2)) fun t11=>aZ t11
 (aA (ld 6 true (.ptr s.nx 0) (adv ((adv s 3).set s.nx (some (.cells t1.cells 33 true true))) 9)) fun t13=>aL mEv 126 [t0,t13] (adv ((adv s 3).set s.nx (some (.cells t1.cells 33 true true))) 9) fun t14 s1=>aA (aS t14 0) fun t15=>aA (aS t14 1) fun t16=>Q (.tup [t15,t16]) s1)
 (aA (aC 1 (.ptr s.nx 0)) fun t17=>aA (aC 0 t17) fun t18=>aA (ld 1 false t18 (adv ((adv s 3).set s.nx (some (.cells t1.cells 33 true true))) 5)) fun t19=>aA (bn .eql 3 t19 (.int .i64 4)) fun t21=>aZ t21
 (aA (aC 1 (.ptr s.nx 0)) fun t23=>aA (aC 1 t23) fun t24=>aA (ld 1 false t24 (adv ((adv s 3).set s.nx (some (.cells t1.cells 33 true true))) 16)) fun t25=>aO mEv 127 [t25] (adv ((adv s 3).set s.nx (some (.cells t1.cells 33 true true))) 16) fun t26 s2=>aA (aS t26 0) fun t27=>aA (aS t26 1) fun t28=>aA (bn .neq 34 t28 (.int .i64 0)) fun t30=>aZ t30
 (Q (.tup [(.int .i64 0),(.int .i64 101)]) (adv s2 4))
 ((aQ t0=true /\
 aA (aC 0 t0) fun t33=>aA (ld 1 false t33 (adv s2 13)) fun t34=>aA (lK 24 [(1,t27)]) fun t36=>aL mEv 79 [t34,t36] (adv s2 13) fun t37 s3=>aA (aS t37 0) fun t38=>aA (aS t37 1) fun t39=>Q (.tup [t38,t39]) s3)))
 (aA (bn .eql 3 t19 (.int .i64 6)) fun t41=>aZ t41
 (aA (aC 1 (.ptr s.nx 0)) fun t43=>aA (aC 1 t43) fun t44=>aA (ld 1 false t44 (adv ((adv s 3).set s.nx (some (.cells t1.cells 33 true true))) 19)) fun t45=>aO mEv 129 [t45] (adv ((adv s 3).set s.nx (some (.cells t1.cells 33 true true))) 19) fun t46 s4=>aO mEv 128 [t46] s4 fun t47 s5=>aA (aS t47 0) fun t48=>aA (aS t47 1) fun t49=>(aQ t0=true /\
 aA (aC 0 t0) fun t52=>aA (ld 1 false t52 (adv s5 10)) fun t53=>aL mEv 80 [t53,t48] (adv s5 10) fun t55 s6=>aA (aS t55 0) fun t56=>aA (aS t55 1) fun t57=>Q (.tup [t56,t57]) s6))
 (aA (bn .eql 3 t19 (.int .i64 3)) fun t59=>aZ t59
 (aA (aC 1 (.ptr s.nx 0)) fun t61=>aA (aC 1 t61) fun t62=>aA (ld 1 false t62 (adv ((adv s 3).set s.nx (some (.cells t1.cells 33 true true))) 20)) fun t63=>aL mEv 130 [t0,t63] (adv ((adv s 3).set s.nx (some (.cells t1.cells 33 true true))) 20) fun t64 s7=>aA (aS t64 0) fun t65=>aA (aS t64 1) fun t66=>Q (.tup [t65,t66]) s7)
 (aOz Q (adv ((adv s 3).set s.nx (some (.cells t1.cells 33 true true))) 11))))))
theorem aUw (t0 t1:AV) (s:St) {Q:aG} (h:f75 Q t0 t1 s):dT 75 [t0,t1] s Q:=aH (h:=75) (fn:=Tryz.f75) (c:=sub bFm []) (show bMe (sub bFm []) (aTs Q) aY (aTs Q)=_ from (aM (aM (aM (aHj Q) (aM (dV 0 rfl) rfl)) rfl) rfl)) h
abbrev bOi:Code:=aJ Tryz.f30
abbrev bLj:=rK Tryz.f30
abbrev bSx:=aK mEv 30 (mEv.kp 30)
def f30 (Q:aG) (t0 t1 t2:AV) (s:St):Prop:=(t2.cells.all AV.one=true /\
 aA (lK 124 [(0,t0),(1,t1),(3,(.map (((adv s 3).set s.nx (some (.cells t2.cells 33 true true))).nx+2)))]) fun t12=>(t12.cells.all AV.one=true /\
 aA (ld 6 true (.ptr s.nx 0) (adv (((adv ((adv s 3).set s.nx (some (.cells t2.cells 33 true true))) 6).set (((adv s 3).set s.nx (some (.cells t2.cells 33 true true))).nx+2) (some (.map []))).set (((adv s 3).set s.nx (some (.cells t2.cells 33 true true))).nx+4) (some (.cells t12.cells 124 true true))) 7)) fun t15=>aL mEv 75 [(.ptr (((adv s 3).set s.nx (some (.cells t2.cells 33 true true))).nx+4) 0),t15] (adv (((adv ((adv s 3).set s.nx (some (.cells t2.cells 33 true true))) 6).set (((adv s 3).set s.nx (some (.cells t2.cells 33 true true))).nx+2) (some (.map []))).set (((adv s 3).set s.nx (some (.cells t2.cells 33 true true))).nx+4) (some (.cells t12.cells 124 true true))) 7) fun t16 s1=>aA (aS t16 0) fun t17=>aA (aS t16 1) fun t18=>Q (.tup [t17,t18]) s1))
theorem aUr (t0 t1 t2:AV) (s:St) {Q:aG} (h:f30 Q t0 t1 t2 s):dT 30 [t0,t1,t2] s Q:=aH (h:=30) (fn:=Tryz.f30) (c:=sub bOi []) (show bSx (sub bOi []) (bLj Q) aY (bLj Q)=_ from rfl) h
end
noncomputable section
abbrev bGd:Code:=aJ Tryz.f47
abbrev aYj:=rK Tryz.f47
abbrev bLf:=aK mEv 47 (mEv.kp 47)
def aMx (Q:aG) (t0 t3:AV) (s:St):Prop:=aA (aC 1 t3) fun t36=>aA (ld 1 false t36 (adv s 5)) fun t37=>aL mEv 51 [t0,t37] (adv s 5) fun t38 s1=>Q t38 s1
theorem aNq (Q:aG):bLf (sub bGd [Y,Y]) (aYj Q) aY (aYj Q)=(fun g s=>aMx Q (g 0) (g 3) s):=Eq.trans rfl (by kernel_rfl)
def f47 (Q:aG) (t0 t1:AV) (s:St):Prop:=(t1.cells.all AV.one=true /\
 let s1:St:=((adv s 2).set s.nx (some (.cells t1.cells 93 true true)))
 aA (aC 0 (.ptr s.nx 0)) fun t5=>aA (ld 1 false t5 (adv s1 2)) fun t6=>aA (bn .eql 3 t6 (.int .i64 0)) fun t8=>aZ t8
 (aA (aC 2 (.ptr s.nx 0)) fun t10=>aA (aC 0 t10) fun t11=>aA (ld 1 false t11 (adv s1 13)) fun t12=>aA (aC 2 (.ptr s.nx 0)) fun t13=>aA (aC 1 t13) fun t14=>aA (ld 1 false t14 (adv s1 13)) fun t15=>aL mEv 91 [t0,t12,t15] (adv s1 13) fun t16 s2=>Q t16 s2)
 (aA (bn .eql 3 t6 (.int .i64 1)) fun t18=>aZ t18
 (aA (aC 2 (.ptr s.nx 0)) fun t20=>aA (ld 10 true t20 (adv s1 11)) fun t21=>aL mEv 99 [t0,t21] (adv s1 11) fun t22 s3=>Q t22 s3)
 (aA (bn .eql 3 t6 (.int .i64 2)) fun t24=>aZ t24
 (aA (aC 12 (.ptr s.nx 0)) fun t26=>aA (ld 6 true t26 (adv s1 13)) fun t27=>aL mEv 92 [t0,t27] (adv s1 13) fun t28 s4=>Q t28 s4)
 (aA (bn .eql 3 t6 (.int .i64 3)) fun t30=>aZ t30
 (aA (aC 1 (.ptr s.nx 0)) fun t32=>aA (ld 1 false t32 (adv s1 15)) fun t33=>aL mEv 50 [t0,t33] (adv s1 15) fun t34 s5=>Q t34 s5)
 (aMx Q t0 (.ptr s.nx 0) (adv s1 10))))))
theorem aXp (t0 t1:AV) (s:St) {Q:aG} (h:f47 Q t0 t1 s):dT 47 [t0,t1] s Q:=aH (h:=47) (fn:=Tryz.f47) (c:=sub bGd []) (show bLf (sub bGd []) (aYj Q) aY (aYj Q)=_ from (aM (aM (aNq Q) (aM (dV 0 rfl) rfl)) rfl)) h
abbrev aJf:Code:=aJ Tryz.f44
abbrev aAp:=rK Tryz.f44
abbrev aWv:=aK mEv 44 (mEv.kp 44)
def HC (Q:aG) (t3:AV) (s:St):Prop:=Q t3 (adv s 2)
def aSy (Q:aG) (ih1:AV->AV->aG) (t13 t3 t12:AV) (s:St):Prop:=aA (bn .add 3 t13 (.int .i64 1)) fun t24=>ih1 t3 t12 t24 (adv s 2)
def uA (Q:aG) (ih1:AV->AV->aG) (t3 t12 t13:AV) (s:St):Prop:=aA (bn .lss 3 t13 t12) fun t14=>aZ t14
 (aA (cQ 10 t3 t13) fun t20=>aA (ld 10 true t20 (adv s 12)) fun t21=>aO mEv 95 [t21] (adv s 12) fun t22 s1=>aA (cQ 10 t3 t13) fun t23=>aA (dU 10 t23 t22 s1) fun s2=>aSy Q ih1 t13 t3 t12 s2)
 (HC Q t3 (adv s 1))
def tF (Q:aG) (n:Nat):AV->AV->aG:=mC (fun _ _ _ _ =>False) (fun ih=>uA Q ih) n
theorem aMe (Q:aG):aWv (sub aJf [Y,Y,Y,Y]) (aAp Q) aY (aAp Q)=(fun g s=>HC Q (g 3) s):=Eq.trans rfl (by kernel_rfl)
theorem aMf (Q:aG) (n1:Nat):aWv (sub aJf [Y,Y,Y,N,Y,N,N,Y,Y,Y]) (mI (fun n g s=>tF Q n (g 3) (g 12) (g 13) s) 44 n1) (cX 0 (fun g s=>HC Q (g 3) s) aY) (aAp Q)=(fun g s=>aSy Q (tF Q n1) (g 13) (g 3) (g 12) s):=Eq.trans rfl (by kernel_rfl)
theorem aNb (Q:aG) (kN:Kt):aWv (sub aJf [Y,Y,Y,N,Y,N]) kN (cX 0 (fun g s=>HC Q (g 3) s) aY) (aAp Q)=fun g s=>∃ n,tF Q n (g 3) (g 12) (g 13) s:=mB (L:=fun n g s=>tF Q n (g 3) (g 12) (g 13) s) (fun n1=>Eq.trans (aM (aM (aM (aMf Q n1) (dV 1 rfl)) rfl) rfl) (by kernel_rfl))
def f44 (Q:aG) (t0:AV) (s:St):Prop:=aA (bn .eql 81 t0 .nilp) fun t6=>aZ t6
 (Q .nils (adv s 4))
 ((aQ t0=true /\
 aA (aC 0 t0) fun t9=>aL mEv 94 [t9] (adv s 8) fun t10 s1=>aA (bt .len #[49] [t10] (s1.nx+1) (adv s1 3)) fun r12=>∃ n,tF Q n t10 r12.1 (.int .i64 0) r12.2))
theorem aUd (t0:AV) (s:St) {Q:aG} (h:f44 Q t0 s):dT 44 [t0] s Q:=aH (h:=44) (fn:=Tryz.f44) (c:=sub aJf []) (show aWv (sub aJf []) (aAp Q) aY (aAp Q)=_ from (aM (aM (aM (aM (aMe Q) (aM (dV 0 (aNb Q _)) rfl)) rfl) rfl) rfl)) h
abbrev aKe:Code:=aJ Tryz.f45
abbrev aEn:=rK Tryz.f45
abbrev aXn:=aK mEv 45 (mEv.kp 45)
def IH (Q:aG) (t3:AV) (s:St):Prop:=Q t3 (adv s 2)
def aQc (Q:aG) (ih1:AV->AV->aG) (t13 t3 t12:AV) (s:St):Prop:=aA (bn .add 3 t13 (.int .i64 1)) fun t24=>ih1 t3 t12 t24 (adv s 2)
def tJ (Q:aG) (ih1:AV->AV->aG) (t3 t12 t13:AV) (s:St):Prop:=aA (bn .lss 3 t13 t12) fun t14=>aZ t14
 (aA (cQ 6 t3 t13) fun t20=>aA (ld 6 true t20 (adv s 12)) fun t21=>aO mEv 97 [t21] (adv s 12) fun t22 s1=>aA (cQ 6 t3 t13) fun t23=>aA (dU 6 t23 t22 s1) fun s2=>aQc Q ih1 t13 t3 t12 s2)
 (IH Q t3 (adv s 1))
def tI (Q:aG) (n:Nat):AV->AV->aG:=mC (fun _ _ _ _ =>False) (fun ih=>tJ Q ih) n
theorem aGq (Q:aG):aXn (sub aKe [Y,Y,Y,Y]) (aEn Q) aY (aEn Q)=(fun g s=>IH Q (g 3) s):=Eq.trans rfl (by kernel_rfl)
theorem aKa (Q:aG) (n1:Nat):aXn (sub aKe [Y,Y,Y,N,Y,N,N,Y,Y,Y]) (mI (fun n g s=>tI Q n (g 3) (g 12) (g 13) s) 45 n1) (cX 0 (fun g s=>IH Q (g 3) s) aY) (aEn Q)=(fun g s=>aQc Q (tI Q n1) (g 13) (g 3) (g 12) s):=Eq.trans rfl (by kernel_rfl)
theorem aQk (Q:aG) (kN:Kt):aXn (sub aKe [Y,Y,Y,N,Y,N]) kN (cX 0 (fun g s=>IH Q (g 3) s) aY) (aEn Q)=fun g s=>∃ n,tI Q n (g 3) (g 12) (g 13) s:=mB (L:=fun n g s=>tI Q n (g 3) (g 12) (g 13) s) (fun n1=>Eq.trans (aM (aM (aM (aKa Q n1) (dV 1 rfl)) rfl) rfl) (by kernel_rfl))
def f45 (Q:aG) (t0:AV) (s:St):Prop:=aA (bn .eql 81 t0 .nilp) fun t6=>aZ t6
 (Q .nils (adv s 4))
 ((aQ t0=true /\
 aA (aC 2 t0) fun t9=>aL mEv 96 [t9] (adv s 8) fun t10 s1=>aA (bt .len #[31] [t10] (s1.nx+1) (adv s1 3)) fun r12=>∃ n,tI Q n t10 r12.1 (.int .i64 0) r12.2))
theorem aVd (t0:AV) (s:St) {Q:aG} (h:f45 Q t0 s):dT 45 [t0] s Q:=aH (h:=45) (fn:=Tryz.f45) (c:=sub aKe []) (show aXn (sub aKe []) (aEn Q) aY (aEn Q)=_ from (aM (aM (aM (aM (aGq Q) (aM (dV 0 (aQk Q _)) rfl)) rfl) rfl) rfl)) h
abbrev bKr:Code:=aJ Tryz.f46
abbrev bIu:=rK Tryz.f46
abbrev bRo:=aK mEv 46 (mEv.kp 46)
def f46 (Q:aG) (t0:AV) (s:St):Prop:=aA (bn .eql 81 t0 .nilp) fun t4=>aZ t4
 (Q (.int .i64 0) (adv s 4))
 ((aQ t0=true /\
 aA (aC 0 t0) fun t7=>aL mEv 98 [t7] (adv s 8) fun t8 s1=>Q t8 s1))
theorem aTu (t0:AV) (s:St) {Q:aG} (h:f46 Q t0 s):dT 46 [t0] s Q:=aH (h:=46) (fn:=Tryz.f46) (c:=sub bKr []) (show bRo (sub bKr []) (bIu Q) aY (bIu Q)=_ from rfl) h
abbrev aIo:Code:=aJ Tryz.f52
abbrev aFf:=rK Tryz.f52
abbrev aYe:=aK mEv 52 (mEv.kp 52)
def MS (Q:aG) (t6:AV) (s:St):Prop:=Q (.tup [t6,(.int .i64 0)]) (adv s 3)
def aQa (Q:aG) (ih1:AV->AV->AV->AV->AV->aG) (t17 t1 t6 t7 t15 t16:AV) (s:St):Prop:=aA (bn .add 3 t17 (.int .i64 1)) fun t35=>ih1 t1 t6 t7 t15 t16 t35 (adv s 2)
def DA (Q:aG) (ih1:AV->AV->AV->AV->AV->aG) (t1 t6 t7 t15 t16 t17:AV) (s:St):Prop:=aA (bn .lss 3 t17 t16) fun t18=>aZ t18
 (aA (cQ 6 t15 t17) fun t19=>aA (ld 6 true t19 (adv s 5)) fun t20=>aA (zr 33) fun z9=>let s1:St:=((adv s 5).set (s.nx+3) (some (.cells z9.cells 33 true true)))
 aA (dU 6 (.ptr (s.nx+3) 0) t20 s1) fun s2=>aA (ld 6 true (.ptr (s.nx+3) 0) (adv s2 9)) fun t24=>aL mEv 30 [t1,t7,t24] (adv s2 9) fun t25 s3=>aA (aS t25 0) fun t26=>aA (aS t25 1) fun t27=>aA (bn .neq 34 t27 (.int .i64 0)) fun t29=>aZ t29
 (Q (.tup [.nils,t27]) (adv s3 5))
 (aA (kM 72 1 [(0,t26)]) fun t33=>aA (bt .append #[72,72] [t6,t33] (s3.nx+5) (adv s3 7)) fun r34=>aQa Q ih1 t17 t1 r34.1 t7 t15 t16 r34.2))
 (MS Q t6 (adv s 1))
def zM (Q:aG) (n:Nat):AV->AV->AV->AV->AV->aG:=mC (fun _ _ _ _ _ _ _ =>False) (fun ih=>DA Q ih) n
theorem aPo (Q:aG):aYe (sub aIo [Y,Y,Y,Y]) (aFf Q) aY (aFf Q)=(fun g s=>MS Q (g 6) s):=Eq.trans rfl (by kernel_rfl)
theorem aHt (Q:aG) (n1:Nat):aYe (sub aIo [Y,Y,Y,N,Y,N,N,Y,Y,Y]) (mI (fun n g s=>zM Q n (g 1) (g 6) (g 7) (g 15) (g 16) (g 17) s) 52 n1) (cX 0 (fun g s=>MS Q (g 6) s) aY) (aFf Q)=(fun g s=>aQa Q (zM Q n1) (g 17) (g 1) (g 6) (g 7) (g 15) (g 16) s):=Eq.trans rfl (by kernel_rfl)
theorem aLx (Q:aG) (kN:Kt):aYe (sub aIo [Y,Y,Y,N,Y,N]) kN (cX 0 (fun g s=>MS Q (g 6) s) aY) (aFf Q)=fun g s=>∃ n,zM Q n (g 1) (g 6) (g 7) (g 15) (g 16) (g 17) s:=mB (L:=fun n g s=>zM Q n (g 1) (g 6) (g 7) (g 15) (g 16) (g 17) s) (fun n1=>Eq.trans (aM (aM (aM (aHt Q n1) (dV 1 rfl)) rfl) rfl) (by kernel_rfl))
def f52 (Q:aG) (t0 t1:AV) (s:St):Prop:=aL mEv 44 [t0] (adv s 6) fun t13 s1=>aL mEv 45 [t0] (adv s1 4) fun t15 s2=>aA (bt .len #[31] [t15] (s1.nx+2) s2) fun r16=>∃ n,zM Q n t1 .nils t13 t15 r16.1 (.int .i64 0) r16.2
theorem aUv (t0 t1:AV) (s:St) {Q:aG} (h:f52 Q t0 t1 s):dT 52 [t0,t1] s Q:=aH (h:=52) (fn:=Tryz.f52) (c:=sub aIo []) (show aYe (sub aIo []) (aFf Q) aY (aFf Q)=_ from (aM (aM (aM (aM (aPo Q) (aM (dV 0 (aLx Q _)) rfl)) rfl) rfl) rfl)) h
abbrev bJp:Code:=aJ Tryz.f91
abbrev bMv:=rK Tryz.f91
abbrev bSk:=aK mEv 91 (mEv.kp 91)
def f91 (Q:aG) (t0 t1 t2:AV) (s:St):Prop:=aA (bn .eql 81 t0 .nilp) fun t9=>Gd (aD t9 false) (adv s 16) (fun k=>k t2 (adv s 16)) fun t11 s1=>Gd (aD t9 false) s1 (fun k=>aA (bn .lss 3 t11 (.int .i64 1)) fun v=>k v s1) fun t12 s2=>aA (bC t9 (.bool true) t12) fun t13=>Gd (aD t13 false) s2 (fun k=>k t2 s2) fun t15 s3=>Gd (aD t13 false) s3 (fun k=>aA (bn .gtr 3 t15 (.int .i64 3)) fun v=>k v s3) fun t16 s4=>aA (bC t13 (.bool true) t16) fun t17=>Gd (aD t17 false) s4 (fun k=>k t1 s4) fun t19 s5=>Gd (aD t17 false) s5 (fun k=>aA (bt .len #[9] [t19] (s.nx+13) s5) fun r=>k r.1 r.2) fun t20 s6=>Gd (aD t17 false) s6 (fun k=>aA (bn .gtr 3 t20 (.int .i64 16384)) fun v=>k v s6) fun t21 s7=>aA (bC t17 (.bool true) t21) fun t22=>aZ t22
 (Q (.int .i64 1) (adv s7 1))
 (aL mEv 143 [t0,t1] (adv s7 4) fun t25 s8=>aA (bn .neq 34 t25 (.int .i64 0)) fun t27=>aZ t27
 (Q t25 (adv s8 4))
 (aA (lK 67 [(0,t1),(1,t2)]) fun t32=>aL mEv 144 [t0,t32] (adv s8 8) fun t33 s9=>Q t33 s9))
theorem aUt (t0 t1 t2:AV) (s:St) {Q:aG} (h:f91 Q t0 t1 t2 s):dT 91 [t0,t1,t2] s Q:=aH (h:=91) (fn:=Tryz.f91) (c:=sub bJp []) (show bSk (sub bJp []) (bMv Q) aY (bMv Q)=_ from rfl) h
abbrev bHs:Code:=aJ Tryz.f99
abbrev bIj:=rK Tryz.f99
abbrev bSg:=aK mEv 99 (mEv.kp 99)
def f99 (Q:aG) (t0 t1:AV) (s:St):Prop:=(t1.cells.all AV.one=true /\
 let s1:St:=((adv s 2).set s.nx (some (.cells t1.cells 67 true true)))
 aA (bn .eql 81 t0 .nilp) fun t8=>aZ t8
 (Q (.int .i64 1) (adv s1 3))
 (aA (aC 0 (.ptr s.nx 0)) fun t10=>aA (ld 1 false t10 (adv s1 7)) fun t11=>aL mEv 143 [t0,t11] (adv s1 7) fun t12 s2=>aA (bn .neq 34 t12 (.int .i64 0)) fun t14=>aZ t14
 (Q t12 (adv s2 4))
 (cL mEv 44 [t0] (rch (adv s2 7) [(.fn 44 [] []),t0]) (adv s2 7) fun t17 s3=>(clear 0 ⟨2,false,aE (.ptr s.nx 0),none⟩ [⟨1,true,rch (adv s2 7) [(.fn 44 [] []),t0],some (adv s2 7).nx⟩,⟨0,false,[],none⟩]=true/\aA (ld 10 true (.ptr s.nx 0) s3) fun t18=>fF mEv 149 [t17,t18] (rch s3 [(.fn 149 [] []),t17,t18]) s3 fun t19 s4=>aA (bn .neq 34 t19 (.int .i64 0)) fun t21=>aZ t21
 (Q t19 (adv s4 4))
 (aA (ld 10 true (.ptr s.nx 0) (adv s4 6)) fun t24=>aL mEv 144 [t0,t24] (adv s4 6) fun t25 s5=>Q t25 s5)))))
theorem aUy (t0 t1:AV) (s:St) {Q:aG} (h:f99 Q t0 t1 s):dT 99 [t0,t1] s Q:=aH (h:=99) (fn:=Tryz.f99) (c:=sub bHs []) (show bSg (sub bHs []) (bIj Q) aY (bIj Q)=_ from rfl) h
abbrev bKs:Code:=aJ Tryz.f92
abbrev bLr:=rK Tryz.f92
abbrev bPo:=aK mEv 92 (mEv.kp 92)
def f92 (Q:aG) (t0 t1:AV) (s:St):Prop:=(t1.cells.all AV.one=true /\
 let s1:St:=((adv s 2).set s.nx (some (.cells t1.cells 33 true true)))
 aA (bn .eql 81 t0 .nilp) fun t11=>aZ t11
 (Q (.int .i64 1) (adv s1 3))
 (aA (lK 58 []) fun t12=>(t12.cells.all AV.one=true /\
 let s2:St:=((adv s1 5).set (s1.nx+3) (some (.cells t12.cells 58 true true)))
 cL mEv 44 [t0] (rch (adv s2 10) [(.fn 44 [] []),t0]) (adv s2 10) fun t17 s3=>(clear 0 ⟨3,false,aE (.ptr s.nx 0),none⟩ [⟨2,true,rch (adv s2 10) [(.fn 44 [] []),t0],some (adv s2 10).nx⟩,⟨1,false,[],none⟩,⟨0,false,[],none⟩]=true/\aA (ld 6 true (.ptr s.nx 0) s3) fun t18=>cL mEv 30 [(.ptr (s1.nx+3) 0),t17,t18] (rch s3 [(.fn 30 [] []),(.ptr (s1.nx+3) 0),t17,t18]) s3 fun t19 s4=>aA (aS t19 0) fun t20=>aA (aS t19 1) fun t21=>aA (bn .neq 34 t21 (.int .i64 0)) fun t23=>aZ t23
 (Q t21 (adv s4 4))
 (aL mEv 53 [(.ptr (s1.nx+3) 0),t20] (adv s4 11) fun t28 s5=>aA (aS t28 0) fun t29=>aA (aS t28 1) fun t30=>aA (zr 101) fun z8=>let s6:St:=(s5.set (s4.nx+8) (some (.cells z8.cells 101 true true)))
 aA (dU 7 (.ptr (s4.nx+8) 0) t29 s6) fun s7=>aA (aC 1 (.ptr (s4.nx+8) 0)) fun t31=>aA (ld 1 false t31 (adv s7 3)) fun t32=>aA (bn .neq 3 t32 (.int .i64 1)) fun t33=>aZ t33
 (Q (.int .i64 90) (adv s7 4))
 ((aQ t0=true /\
 aA (aC 2 t0) fun t36=>aL mEv 96 [t36] (adv s7 9) fun t37 s8=>aA (bt .len #[31] [t37] (s7.nx+7) s8) fun r38=>aA (bn .eql 3 r38.1 (.int .i64 500)) fun t39=>aZ t39
 (Q (.int .i64 2) (adv r38.2 1))
 ((aQ t0=true /\
 aA (aC 2 t0) fun t42=>aA (ld 6 true (.ptr s.nx 0) (adv r38.2 6)) fun t43=>fF mEv 97 [t43] (rch (adv r38.2 6) [(.fn 97 [] []),t43]) (adv r38.2 6) fun t44 s9=>cL mEv 145 [t42,t44] (rch s9 [(.fn 145 [] []),t42,t44]) s9 fun t45 s10=>Q (.int .i64 0) (adv s10 1))))))))))
theorem aWz (t0 t1:AV) (s:St) {Q:aG} (h:f92 Q t0 t1 s):dT 92 [t0,t1] s Q:=aH (h:=92) (fn:=Tryz.f92) (c:=sub bKs []) (show bPo (sub bKs []) (bLr Q) aY (bLr Q)=_ from rfl) h
abbrev SD:Code:=aJ Tryz.f50
abbrev LI:=rK Tryz.f50
abbrev aCm:=aK mEv 50 (mEv.kp 50)
def QC (Q:aG) (s:St):Prop:=Q (.int .i64 0) (adv s 1)
def aRq (Q:aG) (ih1:AV->AV->aG) (t17 t0 t16:AV) (s:St):Prop:=aA (bn .add 3 t17 (.int .i64 1)) fun t27=>ih1 t0 t16 t27 (adv s 2)
def GB (Q:aG) (ih1:AV->AV->aG) (t0 t16 t17:AV) (s:St):Prop:=aA (bn .lss 3 t17 t16) fun t18=>aZ t18
 ((aQ t0=true /\
 aA (aC 0 t0) fun t21=>aL mEv 100 [t21] (adv s 5) fun t22 s1=>(aQ t0=true /\
 aA (aC 2 t0) fun t25=>aL mEv 101 [t25] (adv s1 4) fun t26 s2=>aRq Q ih1 t17 t0 t16 s2)))
 (QC Q (adv s 1))
def AA (Q:aG) (n:Nat):AV->AV->aG:=mC (fun _ _ _ _ =>False) (fun ih=>GB Q ih) n
def NU (Q:aG) (t1 t0:AV) (s:St):Prop:=∃ n,AA Q n t0 t1 (.int .i64 0) (adv s 2)
def XQ (Q:aG) (t5 t1 t0:AV) (s:St):Prop:=aZ t5
 (Q (.int .i64 1) (adv s 1))
 (aL mEv 46 [t0] (adv s 6) fun t13 s1=>aA (bn .sub 3 (.int .i64 100) t13) fun t14=>aA (bn .gtr 3 t1 t14) fun t15=>aZ t15
 (Q (.int .i64 2) (adv s1 1))
 (NU Q t1 t0 s1))
theorem aHg (Q:aG):aCm (sub SD [Y,Y,Y]) (LI Q) aY (LI Q)=(fun g s=>QC Q s):=Eq.trans rfl (by kernel_rfl)
theorem aKt (Q:aG) (n1:Nat):aCm (sub SD [Y,Y,N,Y,N,N,Y,Y,Y]) (mI (fun n g s=>AA Q n (g 0) (g 16) (g 17) s) 50 n1) (cX 1 (fun g s=>QC Q s) aY) (LI Q)=(fun g s=>aRq Q (AA Q n1) (g 17) (g 0) (g 16) s):=Eq.trans rfl (by kernel_rfl)
theorem aRr (Q:aG) (kN:Kt):aCm (sub SD [Y,Y,N,Y,N]) kN (cX 1 (fun g s=>QC Q s) aY) (LI Q)=fun g s=>∃ n,AA Q n (g 0) (g 16) (g 17) s:=mB (L:=fun n g s=>AA Q n (g 0) (g 16) (g 17) s) (fun n1=>Eq.trans (aM (aM (aM (aKt Q n1) (dV 2 rfl)) rfl) rfl) (by kernel_rfl))
theorem aQh (Q:aG):aCm (sub SD [Y,Y]) (LI Q) aY (LI Q)=(fun g s=>NU Q (g 1) (g 0) s):=Eq.trans (aM (aHg Q) (aM (dV 1 (aRr Q _)) rfl)) (by kernel_rfl)
theorem aRf (Q:aG):aCm (sub SD [Y,N,N,Y]) (fun g s=>NU Q (g 1) (g 0) s) (cX 0 (fun g s=>NU Q (g 1) (g 0) s) aY) (LI Q)=(fun g s=>XQ Q (g 5) (g 1) (g 0) s):=Eq.trans rfl (by kernel_rfl)
def f50 (Q:aG) (t0 t1:AV) (s:St):Prop:=aA (bn .eql 81 t0 .nilp) fun t7=>aZ t7
 (XQ Q t7 t1 t0 (adv s 4))
 (aA (bn .lss 3 t1 (.int .i64 0)) fun t9=>XQ Q t9 t1 t0 (adv s 7))
theorem aTn (t0 t1:AV) (s:St) {Q:aG} (h:f50 Q t0 t1 s):dT 50 [t0,t1] s Q:=aH (h:=50) (fn:=Tryz.f50) (c:=sub SD []) (show aCm (sub SD []) (LI Q) aY (LI Q)=_ from (aM (aM (aQh Q) (dV 0 (aM (aRf Q) rfl))) rfl)) h
abbrev GI:Code:=aJ Tryz.f51
abbrev AH:=rK Tryz.f51
abbrev LA:=aK mEv 51 (mEv.kp 51)
def zP (Q:aG) (s:St):Prop:=Q (.int .i64 0) (adv s 1)
def CE (Q:aG) (ih1:AV->AV->aG) (t18 t0 t17:AV) (s:St):Prop:=aA (bn .add 3 t18 (.int .i64 1)) fun t44=>ih1 t0 t17 t44 (adv s 2)
def zT (Q:aG) (ih1:AV->AV->aG) (t0 t18 t17:AV) (s:St):Prop:=(aQ t0=true /\
 aA (aC 2 t0) fun t42=>aL mEv 103 [t42] (adv s 4) fun t43 s1=>CE Q ih1 t18 t0 t17 s1)
def aNi (Q:aG) (ih1:AV->AV->aG) (ih2:AV->AV->AV->AV->AV->aG) (t29 t0 t17 t18 t27 t28:AV) (s:St):Prop:=aA (bn .add 3 t29 (.int .i64 1)) fun t39=>ih2 t0 t17 t18 t27 t28 t39 (adv s 2)
def tW (Q:aG) (ih1:AV->AV->aG) (ih2:AV->AV->AV->AV->AV->aG) (t0 t17 t18 t27 t28 t29:AV) (s:St):Prop:=aA (bn .lss 3 t29 t28) fun t30=>aZ t30
 (aA (cQ 10 t27 t29) fun t31=>aA (ld 10 true t31 (adv s 5)) fun t32=>aA (zr 67) fun z6=>let s1:St:=((adv s 5).set (s.nx+3) (some (.cells z6.cells 67 true true)))
 aA (dU 10 (.ptr (s.nx+3) 0) t32 s1) fun s2=>(aQ t0=true /\
 aA (aC 4 t0) fun t35=>aA (ld 1 false t35 (adv s2 7)) fun t36=>aA (aC 0 (.ptr (s.nx+3) 0)) fun t37=>aA (ld 1 false t37 (adv s2 7)) fun t38=>((adv s2 7).h (s2.nx+6)=none/\aA (eN Tryz.ty 86 t36 t38 (.bool true) (adv s2 7)) fun s3=>aNi Q ih1 ih2 t29 t0 t17 t18 t27 t28 s3)))
 (zT Q ih1 t0 t18 t17 (adv s 1))
def rA (Q:aG) (ih1:AV->AV->aG) (n:Nat):AV->AV->AV->AV->AV->aG:=mC (fun _ _ _ _ _ _ _ =>False) (fun ih=>tW Q ih1 ih) n
def CM (Q:aG) (ih1:AV->AV->aG) (t0 t17 t18:AV) (s:St):Prop:=aA (bn .lss 3 t18 t17) fun t19=>aZ t19
 (let s1:St:=((adv s 6).set (s.nx+2) (some (.map [])))
 (aQ t0=true /\
 aA (aC 4 t0) fun t23=>aA (dU 1 t23 (.map (s.nx+2)) s1) fun s2=>(aQ t0=true /\
 aA (aC 0 t0) fun t26=>aL mEv 102 [t26] (adv s2 6) fun t27 s3=>aA (bt .len #[49] [t27] (s2.nx+4) s3) fun r28=>∃ n,rA Q ih1 n t0 t17 t18 t27 r28.1 (.int .i64 0) r28.2)))
 (zP Q (adv s 1))
def gW (Q:aG) (n:Nat):AV->AV->aG:=mC (fun _ _ _ _ =>False) (fun ih=>CM Q ih) n
def MO (Q:aG) (t1 t0:AV) (s:St):Prop:=∃ n,gW Q n t0 t1 (.int .i64 0) (adv s 2)
def VP (Q:aG) (t7 t1 t0:AV) (s:St):Prop:=aZ t7
 (Q (.int .i64 1) (adv s 1))
 (aL mEv 46 [t0] (adv s 5) fun t15 s1=>aA (bn .gtr 3 t1 t15) fun t16=>aZ t16
 (Q (.int .i64 5) (adv s1 1))
 (MO Q t1 t0 s1))
theorem aIr (Q:aG):LA (sub GI [Y,Y,Y]) (AH Q) aY (AH Q)=(fun g s=>zP Q s):=Eq.trans rfl (by kernel_rfl)
theorem aNl (Q:aG) (n1:Nat):LA (sub GI [Y,Y,N,Y,N,N,Y,Y,Y]) (mI (fun n g s=>gW Q n (g 0) (g 17) (g 18) s) 51 n1) (cX 1 (fun g s=>zP Q s) aY) (AH Q)=(fun g s=>CE Q (gW Q n1) (g 18) (g 0) (g 17) s):=Eq.trans rfl (by kernel_rfl)
theorem aRd (Q:aG) (n1:Nat):LA (sub GI [Y,Y,N,Y,N,N,Y,Y,N,N,Y,Y]) (fun g s=>CE Q (gW Q n1) (g 18) (g 0) (g 17) s) (cX 2 (fun g s=>CE Q (gW Q n1) (g 18) (g 0) (g 17) s) (cX 1 (fun g s=>zP Q s) aY)) (AH Q)=(fun g s=>zT Q (gW Q n1) (g 0) (g 18) (g 17) s):=Eq.trans rfl (by kernel_rfl)
theorem aOt (Q:aG) (n1:Nat) (n2:Nat):LA (sub GI [Y,Y,N,Y,N,N,Y,Y,N,N,Y,N,Y,N,N,Y,Y,Y]) (mI (fun n g s=>rA Q (gW Q n1) n (g 0) (g 17) (g 18) (g 27) (g 28) (g 29) s) 51 n2) (cX 3 (fun g s=>zT Q (gW Q n1) (g 0) (g 18) (g 17) s) (cX 2 (fun g s=>CE Q (gW Q n1) (g 18) (g 0) (g 17) s) (cX 1 (fun g s=>zP Q s) aY))) (AH Q)=(fun g s=>aNi Q (gW Q n1) (rA Q (gW Q n1) n2) (g 29) (g 0) (g 17) (g 18) (g 27) (g 28) s):=Eq.trans rfl (by kernel_rfl)
theorem aSj (Q:aG) (n1:Nat) (kN:Kt):LA (sub GI [Y,Y,N,Y,N,N,Y,Y,N,N,Y,N,Y,N]) kN (cX 3 (fun g s=>zT Q (gW Q n1) (g 0) (g 18) (g 17) s) (cX 2 (fun g s=>CE Q (gW Q n1) (g 18) (g 0) (g 17) s) (cX 1 (fun g s=>zP Q s) aY))) (AH Q)=fun g s=>∃ n,rA Q (gW Q n1) n (g 0) (g 17) (g 18) (g 27) (g 28) (g 29) s:=mB (L:=fun n g s=>rA Q (gW Q n1) n (g 0) (g 17) (g 18) (g 27) (g 28) (g 29) s) (fun n2=>Eq.trans (aM (aM (aM (aOt Q n1 n2) (dV 4 rfl)) rfl) rfl) (by kernel_rfl))
theorem aQj (Q:aG) (kN:Kt):LA (sub GI [Y,Y,N,Y,N]) kN (cX 1 (fun g s=>zP Q s) aY) (AH Q)=fun g s=>∃ n,gW Q n (g 0) (g 17) (g 18) s:=mB (L:=fun n g s=>gW Q n (g 0) (g 17) (g 18) s) (fun n1=>Eq.trans (aM (aM (aM (aNl Q n1) (dV 2 (aM (aM (aRd Q n1) (aM (dV 3 (aSj Q n1 _)) rfl)) rfl))) rfl) rfl) (by kernel_rfl))
theorem aLq (Q:aG):LA (sub GI [Y,Y]) (AH Q) aY (AH Q)=(fun g s=>MO Q (g 1) (g 0) s):=Eq.trans (aM (aIr Q) (aM (dV 1 (aQj Q _)) rfl)) (by kernel_rfl)
theorem aKw (Q:aG):LA (sub GI [Y,N,N,Y]) (fun g s=>MO Q (g 1) (g 0) s) (cX 0 (fun g s=>MO Q (g 1) (g 0) s) aY) (AH Q)=(fun g s=>VP Q (g 7) (g 1) (g 0) s):=Eq.trans rfl (by kernel_rfl)
def f51 (Q:aG) (t0 t1:AV) (s:St):Prop:=aA (bn .eql 81 t0 .nilp) fun t9=>aZ t9
 (VP Q t9 t1 t0 (adv s 4))
 (aA (bn .lss 3 t1 (.int .i64 0)) fun t11=>VP Q t11 t1 t0 (adv s 7))
theorem aXk (t0 t1:AV) (s:St) {Q:aG} (h:f51 Q t0 t1 s):dT 51 [t0,t1] s Q:=aH (h:=51) (fn:=Tryz.f51) (c:=sub GI []) (show LA (sub GI []) (AH Q) aY (AH Q)=_ from (aM (aM (aLq Q) (dV 0 (aM (aKw Q) rfl))) rfl)) h
end
end Go.Proofs.YtdehdahimkcakaaGreatDoor
