/- Texts joined by wip/tools/pack.py: LSn,LCl,Awa. -/
import Derived.Test.YtdehdahimkcakaaGreatDoorYn
open Nat (reduceAdd reduceEqDiff)
set_option linter.unusedVariables false
namespace Go.Proofs.YtdehdahimkcakaaGreatDoor
open Go Ai
noncomputable section
set_option maxRecDepth 1000000
abbrev bDf:Code:=aJ Tryz.f47
abbrev aWl:=rK Tryz.f47
abbrev bJf:=aK mEv 47 (mEv.kp 47)
def aJc (Q:aE) (t0 t3:AV) (s:St):Prop:=aA (aC 1 t3) fun t36=>aA (ld 1 false t36 (adv s 5)) fun t37=>aL mEv 51 [t0,t37] (adv s 5) fun t38 s1=>Q t38 s1
theorem aIy (Q:aE):bJf (sub bDf [Y,Y]) (aWl Q) aU (aWl Q)=(fun g s=>aJc Q (g 0) (g 3) s):=Eq.trans rfl (by kernel_rfl)
def f47 (Q:aE) (t0 t1:AV) (s:St):Prop:=(t1.cells.all AV.one=true /\
 let s1:St:=((adv s 2).set s.nx (some (.cells t1.cells 93 true true)))
 aA (aC 0 (.ptr s.nx 0)) fun t5=>aA (ld 1 false t5 (adv s1 2)) fun t6=>aA (bn .eql 3 t6 (.int .i64 0)) fun t8=>aX t8
 (aA (aC 2 (.ptr s.nx 0)) fun t10=>aA (aC 0 t10) fun t11=>aA (ld 1 false t11 (adv s1 13)) fun t12=>aA (aC 2 (.ptr s.nx 0)) fun t13=>aA (aC 1 t13) fun t14=>aA (ld 1 false t14 (adv s1 13)) fun t15=>aL mEv 91 [t0,t12,t15] (adv s1 13) fun t16 s2=>Q t16 s2)
 (aA (bn .eql 3 t6 (.int .i64 1)) fun t18=>aX t18
 (aA (aC 2 (.ptr s.nx 0)) fun t20=>aA (ld 10 true t20 (adv s1 11)) fun t21=>aL mEv 99 [t0,t21] (adv s1 11) fun t22 s3=>Q t22 s3)
 (aA (bn .eql 3 t6 (.int .i64 2)) fun t24=>aX t24
 (aA (aC 12 (.ptr s.nx 0)) fun t26=>aA (ld 6 true t26 (adv s1 13)) fun t27=>aL mEv 92 [t0,t27] (adv s1 13) fun t28 s4=>Q t28 s4)
 (aA (bn .eql 3 t6 (.int .i64 3)) fun t30=>aX t30
 (aA (aC 1 (.ptr s.nx 0)) fun t32=>aA (ld 1 false t32 (adv s1 15)) fun t33=>aL mEv 50 [t0,t33] (adv s1 15) fun t34 s5=>Q t34 s5)
 (aJc Q t0 (.ptr s.nx 0) (adv s1 10))))))
theorem aSt (t0 t1:AV) (s:St) {Q:aE} (h:f47 Q t0 t1 s):dG 47 [t0,t1] s Q:=aH (h:=47) (fn:=Tryz.f47) (c:=sub bDf []) (show bJf (sub bDf []) (aWl Q) aU (aWl Q)=_ from (aM (aM (aIy Q) (aM (dD 0 rfl) rfl)) rfl)) h
abbrev aMl:Code:=aJ Tryz.f44
abbrev YH:=rK Tryz.f44
abbrev aTw:=aK mEv 44 (mEv.kp 44)
def GK (Q:aE) (t3:AV) (s:St):Prop:=Q t3 (adv s 2)
def aQt (Q:aE) (ih1:AV->AV->aE) (t13 t3 t12:AV) (s:St):Prop:=aA (bn .add 3 t13 (.int .i64 1)) fun t24=>ih1 t3 t12 t24 (adv s 2)
def sN (Q:aE) (ih1:AV->AV->aE) (t3 t12 t13:AV) (s:St):Prop:=aA (bn .lss 3 t13 t12) fun t14=>aX t14
 (aA (cC 10 t3 t13) fun t20=>aA (ld 10 true t20 (adv s 12)) fun t21=>aN mEv 95 [t21] (adv s 12) fun t22 s1=>aA (cC 10 t3 t13) fun t23=>aA (dN 10 t23 t22 s1) fun s2=>aQt Q ih1 t13 t3 t12 s2)
 (GK Q t3 (adv s 1))
def sK (Q:aE) (n:Nat):AV->AV->aE:=kH (fun _ _ _ _ =>False) (fun ih=>sN Q ih) n
theorem aQc (Q:aE):aTw (sub aMl [Y,Y,Y,Y]) (YH Q) aU (YH Q)=(fun g s=>GK Q (g 3) s):=Eq.trans rfl (by kernel_rfl)
theorem aPn (Q:aE) (n1:Nat):aTw (sub aMl [Y,Y,Y,N,Y,N,N,Y,Y,Y]) (lH (fun n g s=>sK Q n (g 3) (g 12) (g 13) s) 44 n1) (cP 0 (fun g s=>GK Q (g 3) s) aU) (YH Q)=(fun g s=>aQt Q (sK Q n1) (g 13) (g 3) (g 12) s):=Eq.trans rfl (by kernel_rfl)
theorem aNh (Q:aE) (kN:Kt):aTw (sub aMl [Y,Y,Y,N,Y,N]) kN (cP 0 (fun g s=>GK Q (g 3) s) aU) (YH Q)=fun g s=>∃ n,sK Q n (g 3) (g 12) (g 13) s:=kI (L:=fun n g s=>sK Q n (g 3) (g 12) (g 13) s) (fun n1=>Eq.trans (aM (aM (aM (aPn Q n1) (dD 1 rfl)) rfl) rfl) (by kernel_rfl))
def f44 (Q:aE) (t0:AV) (s:St):Prop:=aA (bn .eql 81 t0 .nilp) fun t6=>aX t6
 (Q .nils (adv s 4))
 ((aQ t0=true /\
 aA (aC 0 t0) fun t9=>aL mEv 94 [t9] (adv s 8) fun t10 s1=>aA (bt .len #[49] [t10] (s1.nx+1) (adv s1 3)) fun r12=>∃ n,sK Q n t10 r12.1 (.int .i64 0) r12.2))
theorem aTe (t0:AV) (s:St) {Q:aE} (h:f44 Q t0 s):dG 44 [t0] s Q:=aH (h:=44) (fn:=Tryz.f44) (c:=sub aMl []) (show aTw (sub aMl []) (YH Q) aU (YH Q)=_ from (aM (aM (aM (aM (aQc Q) (aM (dD 0 (aNh Q _)) rfl)) rfl) rfl) rfl)) h
abbrev aFo:Code:=aJ Tryz.f45
abbrev aDg:=rK Tryz.f45
abbrev aSs:=aK mEv 45 (mEv.kp 45)
def FO (Q:aE) (t3:AV) (s:St):Prop:=Q t3 (adv s 2)
def aMt (Q:aE) (ih1:AV->AV->aE) (t13 t3 t12:AV) (s:St):Prop:=aA (bn .add 3 t13 (.int .i64 1)) fun t24=>ih1 t3 t12 t24 (adv s 2)
def sP (Q:aE) (ih1:AV->AV->aE) (t3 t12 t13:AV) (s:St):Prop:=aA (bn .lss 3 t13 t12) fun t14=>aX t14
 (aA (cC 6 t3 t13) fun t20=>aA (ld 6 true t20 (adv s 12)) fun t21=>aN mEv 97 [t21] (adv s 12) fun t22 s1=>aA (cC 6 t3 t13) fun t23=>aA (dN 6 t23 t22 s1) fun s2=>aMt Q ih1 t13 t3 t12 s2)
 (FO Q t3 (adv s 1))
def sI (Q:aE) (n:Nat):AV->AV->aE:=kH (fun _ _ _ _ =>False) (fun ih=>sP Q ih) n
theorem aPo (Q:aE):aSs (sub aFo [Y,Y,Y,Y]) (aDg Q) aU (aDg Q)=(fun g s=>FO Q (g 3) s):=Eq.trans rfl (by kernel_rfl)
theorem aGx (Q:aE) (n1:Nat):aSs (sub aFo [Y,Y,Y,N,Y,N,N,Y,Y,Y]) (lH (fun n g s=>sI Q n (g 3) (g 12) (g 13) s) 45 n1) (cP 0 (fun g s=>FO Q (g 3) s) aU) (aDg Q)=(fun g s=>aMt Q (sI Q n1) (g 13) (g 3) (g 12) s):=Eq.trans rfl (by kernel_rfl)
theorem aGb (Q:aE) (kN:Kt):aSs (sub aFo [Y,Y,Y,N,Y,N]) kN (cP 0 (fun g s=>FO Q (g 3) s) aU) (aDg Q)=fun g s=>∃ n,sI Q n (g 3) (g 12) (g 13) s:=kI (L:=fun n g s=>sI Q n (g 3) (g 12) (g 13) s) (fun n1=>Eq.trans (aM (aM (aM (aGx Q n1) (dD 1 rfl)) rfl) rfl) (by kernel_rfl))
def f45 (Q:aE) (t0:AV) (s:St):Prop:=aA (bn .eql 81 t0 .nilp) fun t6=>aX t6
 (Q .nils (adv s 4))
 ((aQ t0=true /\
 aA (aC 2 t0) fun t9=>aL mEv 96 [t9] (adv s 8) fun t10 s1=>aA (bt .len #[31] [t10] (s1.nx+1) (adv s1 3)) fun r12=>∃ n,sI Q n t10 r12.1 (.int .i64 0) r12.2))
theorem aSo (t0:AV) (s:St) {Q:aE} (h:f45 Q t0 s):dG 45 [t0] s Q:=aH (h:=45) (fn:=Tryz.f45) (c:=sub aFo []) (show aSs (sub aFo []) (aDg Q) aU (aDg Q)=_ from (aM (aM (aM (aM (aPo Q) (aM (dD 0 (aGb Q _)) rfl)) rfl) rfl) rfl)) h
abbrev bKm:Code:=aJ Tryz.f46
abbrev bLy:=rK Tryz.f46
abbrev bOp:=aK mEv 46 (mEv.kp 46)
def f46 (Q:aE) (t0:AV) (s:St):Prop:=aA (bn .eql 81 t0 .nilp) fun t4=>aX t4
 (Q (.int .i64 0) (adv s 4))
 ((aQ t0=true /\
 aA (aC 0 t0) fun t7=>aL mEv 98 [t7] (adv s 8) fun t8 s1=>Q t8 s1))
theorem aVc (t0:AV) (s:St) {Q:aE} (h:f46 Q t0 s):dG 46 [t0] s Q:=aH (h:=46) (fn:=Tryz.f46) (c:=sub bKm []) (show bOp (sub bKm []) (bLy Q) aU (bLy Q)=_ from rfl) h
abbrev bIi:Code:=aJ Tryz.f91
abbrev bIo:=rK Tryz.f91
abbrev bQr:=aK mEv 91 (mEv.kp 91)
def f91 (Q:aE) (t0 t1 t2:AV) (s:St):Prop:=aA (bn .eql 81 t0 .nilp) fun t9=>Gd (aD t9 false) (adv s 16) (fun k=>k t2 (adv s 16)) fun t11 s1=>Gd (aD t9 false) s1 (fun k=>aA (bn .lss 3 t11 (.int .i64 1)) fun v=>k v s1) fun t12 s2=>aA (aZ t9 (.bool true) t12) fun t13=>Gd (aD t13 false) s2 (fun k=>k t2 s2) fun t15 s3=>Gd (aD t13 false) s3 (fun k=>aA (bn .gtr 3 t15 (.int .i64 3)) fun v=>k v s3) fun t16 s4=>aA (aZ t13 (.bool true) t16) fun t17=>Gd (aD t17 false) s4 (fun k=>k t1 s4) fun t19 s5=>Gd (aD t17 false) s5 (fun k=>aA (bt .len #[9] [t19] (s.nx+13) s5) fun r=>k r.1 r.2) fun t20 s6=>Gd (aD t17 false) s6 (fun k=>aA (bn .gtr 3 t20 (.int .i64 16384)) fun v=>k v s6) fun t21 s7=>aA (aZ t17 (.bool true) t21) fun t22=>aX t22
 (Q (.int .i64 1) (adv s7 1))
 (aL mEv 143 [t0,t1] (adv s7 4) fun t25 s8=>aA (bn .neq 34 t25 (.int .i64 0)) fun t27=>aX t27
 (Q t25 (adv s8 4))
 (aA (lS 67 [(0,t1),(1,t2)]) fun t32=>aL mEv 144 [t0,t32] (adv s8 8) fun t33 s9=>Q t33 s9))
theorem aSx (t0 t1 t2:AV) (s:St) {Q:aE} (h:f91 Q t0 t1 t2 s):dG 91 [t0,t1,t2] s Q:=aH (h:=91) (fn:=Tryz.f91) (c:=sub bIi []) (show bQr (sub bIi []) (bIo Q) aU (bIo Q)=_ from rfl) h
abbrev bMd:Code:=aJ Tryz.f99
abbrev bLg:=rK Tryz.f99
abbrev bOf:=aK mEv 99 (mEv.kp 99)
def f99 (Q:aE) (t0 t1:AV) (s:St):Prop:=(t1.cells.all AV.one=true /\
 let s1:St:=((adv s 2).set s.nx (some (.cells t1.cells 67 true true)))
 aA (bn .eql 81 t0 .nilp) fun t8=>aX t8
 (Q (.int .i64 1) (adv s1 3))
 (aA (aC 0 (.ptr s.nx 0)) fun t10=>aA (ld 1 false t10 (adv s1 7)) fun t11=>aL mEv 143 [t0,t11] (adv s1 7) fun t12 s2=>aA (bn .neq 34 t12 (.int .i64 0)) fun t14=>aX t14
 (Q t12 (adv s2 4))
 (cI mEv 44 [t0] (rch (adv s2 7) [(.fn 44 [] []),t0]) (adv s2 7) fun t17 s3=>(clear 0 ⟨2,false,aF (.ptr s.nx 0),none⟩ [⟨1,true,rch (adv s2 7) [(.fn 44 [] []),t0],some (adv s2 7).nx⟩,⟨0,false,[],none⟩]=true/\aA (ld 10 true (.ptr s.nx 0) s3) fun t18=>eL mEv 149 [t17,t18] (rch s3 [(.fn 149 [] []),t17,t18]) s3 fun t19 s4=>aA (bn .neq 34 t19 (.int .i64 0)) fun t21=>aX t21
 (Q t19 (adv s4 4))
 (aA (ld 10 true (.ptr s.nx 0) (adv s4 6)) fun t24=>aL mEv 144 [t0,t24] (adv s4 6) fun t25 s5=>Q t25 s5)))))
theorem aTq (t0 t1:AV) (s:St) {Q:aE} (h:f99 Q t0 t1 s):dG 99 [t0,t1] s Q:=aH (h:=99) (fn:=Tryz.f99) (c:=sub bMd []) (show bOf (sub bMd []) (bLg Q) aU (bLg Q)=_ from rfl) h
abbrev bMq:Code:=aJ Tryz.f92
abbrev bHz:=rK Tryz.f92
abbrev bQm:=aK mEv 92 (mEv.kp 92)
def f92 (Q:aE) (t0 t1:AV) (s:St):Prop:=(t1.cells.all AV.one=true /\
 let s1:St:=((adv s 2).set s.nx (some (.cells t1.cells 33 true true)))
 aA (bn .eql 81 t0 .nilp) fun t11=>aX t11
 (Q (.int .i64 1) (adv s1 3))
 (aA (lS 58 []) fun t12=>(t12.cells.all AV.one=true /\
 let s2:St:=((adv s1 5).set (s1.nx+3) (some (.cells t12.cells 58 true true)))
 cI mEv 44 [t0] (rch (adv s2 10) [(.fn 44 [] []),t0]) (adv s2 10) fun t17 s3=>(clear 0 ⟨3,false,aF (.ptr s.nx 0),none⟩ [⟨2,true,rch (adv s2 10) [(.fn 44 [] []),t0],some (adv s2 10).nx⟩,⟨1,false,[],none⟩,⟨0,false,[],none⟩]=true/\aA (ld 6 true (.ptr s.nx 0) s3) fun t18=>cI mEv 30 [(.ptr (s1.nx+3) 0),t17,t18] (rch s3 [(.fn 30 [] []),(.ptr (s1.nx+3) 0),t17,t18]) s3 fun t19 s4=>aA (aV t19 0) fun t20=>aA (aV t19 1) fun t21=>aA (bn .neq 34 t21 (.int .i64 0)) fun t23=>aX t23
 (Q t21 (adv s4 4))
 (aL mEv 53 [(.ptr (s1.nx+3) 0),t20] (adv s4 11) fun t28 s5=>aA (aV t28 0) fun t29=>aA (aV t28 1) fun t30=>aA (zr 101) fun z8=>let s6:St:=(s5.set (s4.nx+8) (some (.cells z8.cells 101 true true)))
 aA (dN 7 (.ptr (s4.nx+8) 0) t29 s6) fun s7=>aA (aC 1 (.ptr (s4.nx+8) 0)) fun t31=>aA (ld 1 false t31 (adv s7 3)) fun t32=>aA (bn .neq 3 t32 (.int .i64 1)) fun t33=>aX t33
 (Q (.int .i64 90) (adv s7 4))
 ((aQ t0=true /\
 aA (aC 2 t0) fun t36=>aL mEv 96 [t36] (adv s7 9) fun t37 s8=>aA (bt .len #[31] [t37] (s7.nx+7) s8) fun r38=>aA (bn .eql 3 r38.1 (.int .i64 500)) fun t39=>aX t39
 (Q (.int .i64 2) (adv r38.2 1))
 ((aQ t0=true /\
 aA (aC 2 t0) fun t42=>aA (ld 6 true (.ptr s.nx 0) (adv r38.2 6)) fun t43=>eL mEv 97 [t43] (rch (adv r38.2 6) [(.fn 97 [] []),t43]) (adv r38.2 6) fun t44 s9=>cI mEv 145 [t42,t44] (rch s9 [(.fn 145 [] []),t42,t44]) s9 fun t45 s10=>Q (.int .i64 0) (adv s10 1))))))))))
theorem aVo (t0 t1:AV) (s:St) {Q:aE} (h:f92 Q t0 t1 s):dG 92 [t0,t1] s Q:=aH (h:=92) (fn:=Tryz.f92) (c:=sub bMq []) (show bQm (sub bMq []) (bHz Q) aU (bHz Q)=_ from rfl) h
abbrev TD:Code:=aJ Tryz.f50
abbrev IX:=rK Tryz.f50
abbrev XX:=aK mEv 50 (mEv.kp 50)
def OE (Q:aE) (s:St):Prop:=Q (.int .i64 0) (adv s 1)
def aHf (Q:aE) (ih1:AV->AV->aE) (t17 t0 t16:AV) (s:St):Prop:=aA (bn .add 3 t17 (.int .i64 1)) fun t27=>ih1 t0 t16 t27 (adv s 2)
def EP (Q:aE) (ih1:AV->AV->aE) (t0 t16 t17:AV) (s:St):Prop:=aA (bn .lss 3 t17 t16) fun t18=>aX t18
 ((aQ t0=true /\
 aA (aC 0 t0) fun t21=>aL mEv 100 [t21] (adv s 5) fun t22 s1=>(aQ t0=true /\
 aA (aC 2 t0) fun t25=>aL mEv 101 [t25] (adv s1 4) fun t26 s2=>aHf Q ih1 t17 t0 t16 s2)))
 (OE Q (adv s 1))
def zB (Q:aE) (n:Nat):AV->AV->aE:=kH (fun _ _ _ _ =>False) (fun ih=>EP Q ih) n
def LC (Q:aE) (t1 t0:AV) (s:St):Prop:=∃ n,zB Q n t0 t1 (.int .i64 0) (adv s 2)
def UA (Q:aE) (t5 t1 t0:AV) (s:St):Prop:=aX t5
 (Q (.int .i64 1) (adv s 1))
 (aL mEv 46 [t0] (adv s 6) fun t13 s1=>aA (bn .sub 3 (.int .i64 100) t13) fun t14=>aA (bn .gtr 3 t1 t14) fun t15=>aX t15
 (Q (.int .i64 2) (adv s1 1))
 (LC Q t1 t0 s1))
theorem aIr (Q:aE):XX (sub TD [Y,Y,Y]) (IX Q) aU (IX Q)=(fun g s=>OE Q s):=Eq.trans rfl (by kernel_rfl)
theorem aLq (Q:aE) (n1:Nat):XX (sub TD [Y,Y,N,Y,N,N,Y,Y,Y]) (lH (fun n g s=>zB Q n (g 0) (g 16) (g 17) s) 50 n1) (cP 1 (fun g s=>OE Q s) aU) (IX Q)=(fun g s=>aHf Q (zB Q n1) (g 17) (g 0) (g 16) s):=Eq.trans rfl (by kernel_rfl)
theorem aJx (Q:aE) (kN:Kt):XX (sub TD [Y,Y,N,Y,N]) kN (cP 1 (fun g s=>OE Q s) aU) (IX Q)=fun g s=>∃ n,zB Q n (g 0) (g 16) (g 17) s:=kI (L:=fun n g s=>zB Q n (g 0) (g 16) (g 17) s) (fun n1=>Eq.trans (aM (aM (aM (aLq Q n1) (dD 2 rfl)) rfl) rfl) (by kernel_rfl))
theorem aGf (Q:aE):XX (sub TD [Y,Y]) (IX Q) aU (IX Q)=(fun g s=>LC Q (g 1) (g 0) s):=Eq.trans (aM (aIr Q) (aM (dD 1 (aJx Q _)) rfl)) (by kernel_rfl)
theorem aHr (Q:aE):XX (sub TD [Y,N,N,Y]) (fun g s=>LC Q (g 1) (g 0) s) (cP 0 (fun g s=>LC Q (g 1) (g 0) s) aU) (IX Q)=(fun g s=>UA Q (g 5) (g 1) (g 0) s):=Eq.trans rfl (by kernel_rfl)
def f50 (Q:aE) (t0 t1:AV) (s:St):Prop:=aA (bn .eql 81 t0 .nilp) fun t7=>aX t7
 (UA Q t7 t1 t0 (adv s 4))
 (aA (bn .lss 3 t1 (.int .i64 0)) fun t9=>UA Q t9 t1 t0 (adv s 7))
theorem aUc (t0 t1:AV) (s:St) {Q:aE} (h:f50 Q t0 t1 s):dG 50 [t0,t1] s Q:=aH (h:=50) (fn:=Tryz.f50) (c:=sub TD []) (show XX (sub TD []) (IX Q) aU (IX Q)=_ from (aM (aM (aGf Q) (dD 0 (aM (aHr Q) rfl))) rfl)) h
abbrev ET:Code:=aJ Tryz.f51
abbrev zG:=rK Tryz.f51
abbrev IK:=aK mEv 51 (mEv.kp 51)
def yG (Q:aE) (s:St):Prop:=Q (.int .i64 0) (adv s 1)
def AS (Q:aE) (ih1:AV->AV->aE) (t18 t0 t17:AV) (s:St):Prop:=aA (bn .add 3 t18 (.int .i64 1)) fun t44=>ih1 t0 t17 t44 (adv s 2)
def yF (Q:aE) (ih1:AV->AV->aE) (t0 t18 t17:AV) (s:St):Prop:=(aQ t0=true /\
 aA (aC 2 t0) fun t42=>aL mEv 103 [t42] (adv s 4) fun t43 s1=>AS Q ih1 t18 t0 t17 s1)
def aNu (Q:aE) (ih1:AV->AV->aE) (ih2:AV->AV->AV->AV->AV->aE) (t29 t0 t17 t18 t27 t28:AV) (s:St):Prop:=aA (bn .add 3 t29 (.int .i64 1)) fun t39=>ih2 t0 t17 t18 t27 t28 t39 (adv s 2)
def tM (Q:aE) (ih1:AV->AV->aE) (ih2:AV->AV->AV->AV->AV->aE) (t0 t17 t18 t27 t28 t29:AV) (s:St):Prop:=aA (bn .lss 3 t29 t28) fun t30=>aX t30
 (aA (cC 10 t27 t29) fun t31=>aA (ld 10 true t31 (adv s 5)) fun t32=>aA (zr 67) fun z6=>let s1:St:=((adv s 5).set (s.nx+3) (some (.cells z6.cells 67 true true)))
 aA (dN 10 (.ptr (s.nx+3) 0) t32 s1) fun s2=>(aQ t0=true /\
 aA (aC 4 t0) fun t35=>aA (ld 1 false t35 (adv s2 7)) fun t36=>aA (aC 0 (.ptr (s.nx+3) 0)) fun t37=>aA (ld 1 false t37 (adv s2 7)) fun t38=>((adv s2 7).h (s2.nx+6)=none/\aA (eH Tryz.ty 86 t36 t38 (.bool true) (adv s2 7)) fun s3=>aNu Q ih1 ih2 t29 t0 t17 t18 t27 t28 s3)))
 (yF Q ih1 t0 t18 t17 (adv s 1))
def qT (Q:aE) (ih1:AV->AV->aE) (n:Nat):AV->AV->AV->AV->AV->aE:=kH (fun _ _ _ _ _ _ _ =>False) (fun ih=>tM Q ih1 ih) n
def CY (Q:aE) (ih1:AV->AV->aE) (t0 t17 t18:AV) (s:St):Prop:=aA (bn .lss 3 t18 t17) fun t19=>aX t19
 (let s1:St:=((adv s 6).set (s.nx+2) (some (.map [])))
 (aQ t0=true /\
 aA (aC 4 t0) fun t23=>aA (dN 1 t23 (.map (s.nx+2)) s1) fun s2=>(aQ t0=true /\
 aA (aC 0 t0) fun t26=>aL mEv 102 [t26] (adv s2 6) fun t27 s3=>aA (bt .len #[49] [t27] (s2.nx+4) s3) fun r28=>∃ n,qT Q ih1 n t0 t17 t18 t27 r28.1 (.int .i64 0) r28.2)))
 (yG Q (adv s 1))
def gP (Q:aE) (n:Nat):AV->AV->aE:=kH (fun _ _ _ _ =>False) (fun ih=>CY Q ih) n
def NO (Q:aE) (t1 t0:AV) (s:St):Prop:=∃ n,gP Q n t0 t1 (.int .i64 0) (adv s 2)
def UN (Q:aE) (t7 t1 t0:AV) (s:St):Prop:=aX t7
 (Q (.int .i64 1) (adv s 1))
 (aL mEv 46 [t0] (adv s 5) fun t15 s1=>aA (bn .gtr 3 t1 t15) fun t16=>aX t16
 (Q (.int .i64 5) (adv s1 1))
 (NO Q t1 t0 s1))
theorem aLc (Q:aE):IK (sub ET [Y,Y,Y]) (zG Q) aU (zG Q)=(fun g s=>yG Q s):=Eq.trans rfl (by kernel_rfl)
theorem aNx (Q:aE) (n1:Nat):IK (sub ET [Y,Y,N,Y,N,N,Y,Y,Y]) (lH (fun n g s=>gP Q n (g 0) (g 17) (g 18) s) 51 n1) (cP 1 (fun g s=>yG Q s) aU) (zG Q)=(fun g s=>AS Q (gP Q n1) (g 18) (g 0) (g 17) s):=Eq.trans rfl (by kernel_rfl)
theorem aIc (Q:aE) (n1:Nat):IK (sub ET [Y,Y,N,Y,N,N,Y,Y,N,N,Y,Y]) (fun g s=>AS Q (gP Q n1) (g 18) (g 0) (g 17) s) (cP 2 (fun g s=>AS Q (gP Q n1) (g 18) (g 0) (g 17) s) (cP 1 (fun g s=>yG Q s) aU)) (zG Q)=(fun g s=>yF Q (gP Q n1) (g 0) (g 18) (g 17) s):=Eq.trans rfl (by kernel_rfl)
theorem aOd (Q:aE) (n1:Nat) (n2:Nat):IK (sub ET [Y,Y,N,Y,N,N,Y,Y,N,N,Y,N,Y,N,N,Y,Y,Y]) (lH (fun n g s=>qT Q (gP Q n1) n (g 0) (g 17) (g 18) (g 27) (g 28) (g 29) s) 51 n2) (cP 3 (fun g s=>yF Q (gP Q n1) (g 0) (g 18) (g 17) s) (cP 2 (fun g s=>AS Q (gP Q n1) (g 18) (g 0) (g 17) s) (cP 1 (fun g s=>yG Q s) aU))) (zG Q)=(fun g s=>aNu Q (gP Q n1) (qT Q (gP Q n1) n2) (g 29) (g 0) (g 17) (g 18) (g 27) (g 28) s):=Eq.trans rfl (by kernel_rfl)
theorem aFr (Q:aE) (n1:Nat) (kN:Kt):IK (sub ET [Y,Y,N,Y,N,N,Y,Y,N,N,Y,N,Y,N]) kN (cP 3 (fun g s=>yF Q (gP Q n1) (g 0) (g 18) (g 17) s) (cP 2 (fun g s=>AS Q (gP Q n1) (g 18) (g 0) (g 17) s) (cP 1 (fun g s=>yG Q s) aU))) (zG Q)=fun g s=>∃ n,qT Q (gP Q n1) n (g 0) (g 17) (g 18) (g 27) (g 28) (g 29) s:=kI (L:=fun n g s=>qT Q (gP Q n1) n (g 0) (g 17) (g 18) (g 27) (g 28) (g 29) s) (fun n2=>Eq.trans (aM (aM (aM (aOd Q n1 n2) (dD 4 rfl)) rfl) rfl) (by kernel_rfl))
theorem aEg (Q:aE) (kN:Kt):IK (sub ET [Y,Y,N,Y,N]) kN (cP 1 (fun g s=>yG Q s) aU) (zG Q)=fun g s=>∃ n,gP Q n (g 0) (g 17) (g 18) s:=kI (L:=fun n g s=>gP Q n (g 0) (g 17) (g 18) s) (fun n1=>Eq.trans (aM (aM (aM (aNx Q n1) (dD 2 (aM (aM (aIc Q n1) (aM (dD 3 (aFr Q n1 _)) rfl)) rfl))) rfl) rfl) (by kernel_rfl))
theorem aHu (Q:aE):IK (sub ET [Y,Y]) (zG Q) aU (zG Q)=(fun g s=>NO Q (g 1) (g 0) s):=Eq.trans (aM (aLc Q) (aM (dD 1 (aEg Q _)) rfl)) (by kernel_rfl)
theorem aHp (Q:aE):IK (sub ET [Y,N,N,Y]) (fun g s=>NO Q (g 1) (g 0) s) (cP 0 (fun g s=>NO Q (g 1) (g 0) s) aU) (zG Q)=(fun g s=>UN Q (g 7) (g 1) (g 0) s):=Eq.trans rfl (by kernel_rfl)
def f51 (Q:aE) (t0 t1:AV) (s:St):Prop:=aA (bn .eql 81 t0 .nilp) fun t9=>aX t9
 (UN Q t9 t1 t0 (adv s 4))
 (aA (bn .lss 3 t1 (.int .i64 0)) fun t11=>UN Q t11 t1 t0 (adv s 7))
theorem aTv (t0 t1:AV) (s:St) {Q:aE} (h:f51 Q t0 t1 s):dG 51 [t0,t1] s Q:=aH (h:=51) (fn:=Tryz.f51) (c:=sub ET []) (show IK (sub ET []) (zG Q) aU (zG Q)=_ from (aM (aM (aHu Q) (dD 0 (aM (aHp Q) rfl))) rfl)) h
end
noncomputable section
set_option maxRecDepth 1000000
abbrev aJe:Code:=aJ Tryz.f43
abbrev aBu:=rK Tryz.f43
abbrev aUb:=aK mEv 43 (mEv.kp 43)
def HZ (Q:aE) (t3:AV) (s:St):Prop:=aA (lS 33 []) fun t57=>aN mEv 93 [t3,t57] (adv s 5) fun t58 s1=>aA (bn .eql 3 t58 (.int .i64 0)) fun t59=>Q t59 s1
def HU (Q:aE) (ih1:AV->AV->aE) (t4 t0 t3:AV) (s:St):Prop:=aA (bn .add 3 t4 (.int .i64 1)) fun t14=>ih1 t0 t3 t14 (adv s 3)
def gV (Q:aE) (ih1:AV->AV->aE) (t0 t3 t4:AV) (s:St):Prop:=aA (bt .len #[79] [t0] (s.nx+2) (adv s 4)) fun r11=>aA (bn .lss 3 t4 r11.1) fun t12=>aX t12
 (aA (cC 18 t0 t4) fun t17=>aA (ld 18 true t17 (adv r11.2 6)) fun t18=>aA (zr 93) fun z5=>aA (dN 18 (.ptr (r11.2.nx+4) 0) t18 ((adv r11.2 6).set (r11.2.nx+4) (some (.cells z5.cells 93 true true)))) fun s1=>aA (aC 12 (.ptr (r11.2.nx+4) 0)) fun t19=>aA (ld 6 true t19 (adv s1 24)) fun t20=>aN mEv 33 [t20] (adv s1 24) fun t21 s2=>aA (bn .gtr 3 t21 (.int .i64 60)) fun t22=>Gd (aD t22 false) s2 (fun k=>aA (aC 12 (.ptr (r11.2.nx+4) 0)) fun v=>k v s2) fun t24 s3=>Gd (aD t22 false) s3 (fun k=>aA (ld 6 true t24 s3) fun v=>k v s3) fun t25 s4=>Gd (aD t22 false) s4 (fun k=>aN mEv 74 [t25] s4 k) fun t26 s5=>Gd (aD t22 false) s5 (fun k=>aA (bn .gtr 3 t26 (.int .i64 64)) fun v=>k v s5) fun t27 s6=>aA (aZ t22 (.bool true) t27) fun t28=>Gd (aD t28 false) s6 (fun k=>aA (aC 2 (.ptr (r11.2.nx+4) 0)) fun v=>k v s6) fun t30 s7=>Gd (aD t28 false) s7 (fun k=>aA (aC 4 t30) fun v=>k v s7) fun t31 s8=>Gd (aD t28 false) s8 (fun k=>aA (ld 6 true t31 s8) fun v=>k v s8) fun t32 s9=>Gd (aD t28 false) s9 (fun k=>aN mEv 33 [t32] s9 k) fun t33 s10=>Gd (aD t28 false) s10 (fun k=>aA (bn .gtr 3 t33 (.int .i64 60)) fun v=>k v s10) fun t34 s11=>aA (aZ t28 (.bool true) t34) fun t35=>Gd (aD t35 false) s11 (fun k=>aA (aC 2 (.ptr (r11.2.nx+4) 0)) fun v=>k v s11) fun t37 s12=>Gd (aD t35 false) s12 (fun k=>aA (aC 0 t37) fun v=>k v s12) fun t38 s13=>Gd (aD t35 false) s13 (fun k=>aA (ld 1 false t38 s13) fun v=>k v s13) fun t39 s14 =>
 Gd (aD t35 false) s14 (fun k=>aA (bt .len #[9] [t39] (s1.nx+21) s14) fun r=>k r.1 r.2) fun t40 s15=>Gd (aD t35 false) s15 (fun k=>aA (bn .gtr 3 t40 (.int .i64 200)) fun v=>k v s15) fun t41 s16=>aA (aZ t35 (.bool true) t41) fun t42=>aX t42
 (Q (.bool false) (adv s16 1))
 (aA (aC 0 (.ptr (r11.2.nx+4) 0)) fun t43=>aA (ld 1 false t43 (adv s16 8)) fun t44=>aA (bn .eql 3 t44 (.int .i64 0)) fun t45=>Gd (aD t45 false) (adv s16 8) (fun k=>aA (aC 0 (.ptr (r11.2.nx+4) 0)) fun v=>k v (adv s16 8)) fun t47 s17=>Gd (aD t45 false) s17 (fun k=>aA (ld 1 false t47 s17) fun v=>k v s17) fun t48 s18=>Gd (aD t45 false) s18 (fun k=>aA (bn .eql 3 t48 (.int .i64 1)) fun v=>k v s18) fun t49 s19=>aA (aZ t45 (.bool true) t49) fun t50=>aX t50
 (aA (aC 2 (.ptr (r11.2.nx+4) 0)) fun t52=>aA (ld 10 true t52 (adv s19 6)) fun t53=>aA (kZ 49 1 [(0,t53)]) fun t54=>aA (bt .append #[49,49] [t3,t54] (s19.nx+4) (adv s19 6)) fun r55=>HU Q ih1 t4 t0 r55.1 r55.2)
 (HU Q ih1 t4 t0 t3 s19)))
 (HZ Q t3 r11.2)
def lV (Q:aE) (n:Nat):AV->AV->aE:=kH (fun _ _ _ _ =>False) (fun ih=>gV Q ih) n
theorem aIo (Q:aE):aUb (sub aJe [Y,Y,Y,Y]) (aBu Q) aU (aBu Q)=(fun g s=>HZ Q (g 3) s):=Eq.trans rfl (by kernel_rfl)
theorem aMe (Q:aE) (n1:Nat):aUb (sub aJe [Y,Y,Y,N,Y,N,N,Y,Y]) (lH (fun n g s=>lV Q n (g 0) (g 3) (g 4) s) 43 n1) (cP 0 (fun g s=>HZ Q (g 3) s) aU) (aBu Q)=(fun g s=>HU Q (lV Q n1) (g 4) (g 0) (g 3) s):=Eq.trans rfl (by kernel_rfl)
theorem aMu (Q:aE) (kN:Kt):aUb (sub aJe [Y,Y,Y,N,Y,N]) kN (cP 0 (fun g s=>HZ Q (g 3) s) aU) (aBu Q)=fun g s=>∃ n,lV Q n (g 0) (g 3) (g 4) s:=kI (L:=fun n g s=>lV Q n (g 0) (g 3) (g 4) s) (fun n1=>Eq.trans (aM (aM (aMe Q n1) (dD 1 rfl)) rfl) (by kernel_rfl))
def f43 (Q:aE) (t0:AV) (s:St):Prop:=aA (bt .len #[79] [t0] (s.nx+2) (adv s 4)) fun r7=>aA (bn .gtr 3 r7.1 (.int .i64 60)) fun t8=>aX t8
 (Q (.bool false) (adv r7.2 1))
 (∃ n,lV Q n t0 .nils (.int .i64 0) (adv r7.2 2))
theorem aUi (t0:AV) (s:St) {Q:aE} (h:f43 Q t0 s):dG 43 [t0] s Q:=aH (h:=43) (fn:=Tryz.f43) (c:=sub aJe []) (show aUb (sub aJe []) (aBu Q) aU (aBu Q)=_ from (aM (aM (aM (aM (aIo Q) (aM (dD 0 (aMu Q _)) rfl)) rfl) rfl) rfl)) h
end
noncomputable section
set_option maxRecDepth 100000
theorem bJe:((iJ mEv 1000 42 [] St.empty).map Prod.fst)=some (.bool true):=by kernel_rfl
theorem aRi:bB mEv 42 [] (.bool true):=aKy rfl bJe
end
end Go.Proofs.YtdehdahimkcakaaGreatDoor
