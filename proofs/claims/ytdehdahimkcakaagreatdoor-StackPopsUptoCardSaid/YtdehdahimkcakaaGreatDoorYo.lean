/- Texts joined by wip/tools/pack.py: LSn,LCl,Awa. -/
import Derived.Test.YtdehdahimkcakaaGreatDoorYn
open Nat (reduceAdd reduceEqDiff)
set_option linter.unusedVariables false
namespace Go.Proofs.YtdehdahimkcakaaGreatDoor
open Go Ai
noncomputable section
set_option maxRecDepth 1000000
abbrev bCf:Code:=aJ Tryz.f47
abbrev aSc:=rK Tryz.f47
abbrev bJo:=aK mEv 47 (mEv.kp 47)
def aGg (Q:aE) (t0 t3:AV) (s:St):Prop:=aA (aC 1 t3) fun t36=>aA (ld 1 false t36 (adv s 5)) fun t37=>aL mEv 51 [t0,t37] (adv s 5) fun t38 s1=>Q t38 s1
theorem aOy (Q:aE):bJo (sub bCf [Y,Y]) (aSc Q) aU (aSc Q)=(fun g s=>aGg Q (g 0) (g 3) s):=Eq.trans rfl (by kernel_rfl)
def f47 (Q:aE) (t0 t1:AV) (s:St):Prop:=(t1.cells.all AV.one=true /\
 let s1:St:=((adv s 2).set s.nx (some (.cells t1.cells 93 true true)))
 aA (aC 0 (.ptr s.nx 0)) fun t5=>aA (ld 1 false t5 (adv s1 2)) fun t6=>aA (bn .eql 3 t6 (.int .i64 0)) fun t8=>aY t8
 (aA (aC 2 (.ptr s.nx 0)) fun t10=>aA (aC 0 t10) fun t11=>aA (ld 1 false t11 (adv s1 13)) fun t12=>aA (aC 2 (.ptr s.nx 0)) fun t13=>aA (aC 1 t13) fun t14=>aA (ld 1 false t14 (adv s1 13)) fun t15=>aL mEv 91 [t0,t12,t15] (adv s1 13) fun t16 s2=>Q t16 s2)
 (aA (bn .eql 3 t6 (.int .i64 1)) fun t18=>aY t18
 (aA (aC 2 (.ptr s.nx 0)) fun t20=>aA (ld 10 true t20 (adv s1 11)) fun t21=>aL mEv 99 [t0,t21] (adv s1 11) fun t22 s3=>Q t22 s3)
 (aA (bn .eql 3 t6 (.int .i64 2)) fun t24=>aY t24
 (aA (aC 12 (.ptr s.nx 0)) fun t26=>aA (ld 6 true t26 (adv s1 13)) fun t27=>aL mEv 92 [t0,t27] (adv s1 13) fun t28 s4=>Q t28 s4)
 (aA (bn .eql 3 t6 (.int .i64 3)) fun t30=>aY t30
 (aA (aC 1 (.ptr s.nx 0)) fun t32=>aA (ld 1 false t32 (adv s1 15)) fun t33=>aL mEv 50 [t0,t33] (adv s1 15) fun t34 s5=>Q t34 s5)
 (aGg Q t0 (.ptr s.nx 0) (adv s1 10))))))
theorem aUp (t0 t1:AV) (s:St) {Q:aE} (h:f47 Q t0 t1 s):dE 47 [t0,t1] s Q:=aH (h:=47) (fn:=Tryz.f47) (c:=sub bCf []) (show bJo (sub bCf []) (aSc Q) aU (aSc Q)=_ from (aM (aM (aOy Q) (aM (dC 0 rfl) rfl)) rfl)) h
abbrev aGd:Code:=aJ Tryz.f44
abbrev aAb:=rK Tryz.f44
abbrev aVb:=aK mEv 44 (mEv.kp 44)
def GU (Q:aE) (t3:AV) (s:St):Prop:=Q t3 (adv s 2)
def aFr (Q:aE) (ih1:AV->AV->aE) (t13 t3 t12:AV) (s:St):Prop:=aA (bn .add 3 t13 (.int .i64 1)) fun t24=>ih1 t3 t12 t24 (adv s 2)
def tL (Q:aE) (ih1:AV->AV->aE) (t3 t12 t13:AV) (s:St):Prop:=aA (bn .lss 3 t13 t12) fun t14=>aY t14
 (aA (cB 10 t3 t13) fun t20=>aA (ld 10 true t20 (adv s 12)) fun t21=>aN mEv 95 [t21] (adv s 12) fun t22 s1=>aA (cB 10 t3 t13) fun t23=>aA (dN 10 t23 t22 s1) fun s2=>aFr Q ih1 t13 t3 t12 s2)
 (GU Q t3 (adv s 1))
def sJ (Q:aE) (n:Nat):AV->AV->aE:=jX (fun _ _ _ _ =>False) (fun ih=>tL Q ih) n
theorem aNh (Q:aE):aVb (sub aGd [Y,Y,Y,Y]) (aAb Q) aU (aAb Q)=(fun g s=>GU Q (g 3) s):=Eq.trans rfl (by kernel_rfl)
theorem aRc (Q:aE) (n1:Nat):aVb (sub aGd [Y,Y,Y,N,Y,N,N,Y,Y,Y]) (kV (fun n g s=>sJ Q n (g 3) (g 12) (g 13) s) 44 n1) (cN 0 (fun g s=>GU Q (g 3) s) aU) (aAb Q)=(fun g s=>aFr Q (sJ Q n1) (g 13) (g 3) (g 12) s):=Eq.trans rfl (by kernel_rfl)
theorem aKu (Q:aE) (kN:Kt):aVb (sub aGd [Y,Y,Y,N,Y,N]) kN (cN 0 (fun g s=>GU Q (g 3) s) aU) (aAb Q)=fun g s=>∃ n,sJ Q n (g 3) (g 12) (g 13) s:=kG (L:=fun n g s=>sJ Q n (g 3) (g 12) (g 13) s) (fun n1=>Eq.trans (aM (aM (aM (aRc Q n1) (dC 1 rfl)) rfl) rfl) (by kernel_rfl))
def f44 (Q:aE) (t0:AV) (s:St):Prop:=aA (bn .eql 81 t0 .nilp) fun t6=>aY t6
 (Q .nils (adv s 4))
 ((aQ t0=true /\
 aA (aC 0 t0) fun t9=>aL mEv 94 [t9] (adv s 8) fun t10 s1=>aA (bt .len #[49] [t10] (s1.nx+1) (adv s1 3)) fun r12=>∃ n,sJ Q n t10 r12.1 (.int .i64 0) r12.2))
theorem aVx (t0:AV) (s:St) {Q:aE} (h:f44 Q t0 s):dE 44 [t0] s Q:=aH (h:=44) (fn:=Tryz.f44) (c:=sub aGd []) (show aVb (sub aGd []) (aAb Q) aU (aAb Q)=_ from (aM (aM (aM (aM (aNh Q) (aM (dC 0 (aKu Q _)) rfl)) rfl) rfl) rfl)) h
abbrev aOg:Code:=aJ Tryz.f45
abbrev aCl:=rK Tryz.f45
abbrev aRy:=aK mEv 45 (mEv.kp 45)
def FT (Q:aE) (t3:AV) (s:St):Prop:=Q t3 (adv s 2)
def aGr (Q:aE) (ih1:AV->AV->aE) (t13 t3 t12:AV) (s:St):Prop:=aA (bn .add 3 t13 (.int .i64 1)) fun t24=>ih1 t3 t12 t24 (adv s 2)
def tN (Q:aE) (ih1:AV->AV->aE) (t3 t12 t13:AV) (s:St):Prop:=aA (bn .lss 3 t13 t12) fun t14=>aY t14
 (aA (cB 6 t3 t13) fun t20=>aA (ld 6 true t20 (adv s 12)) fun t21=>aN mEv 97 [t21] (adv s 12) fun t22 s1=>aA (cB 6 t3 t13) fun t23=>aA (dN 6 t23 t22 s1) fun s2=>aGr Q ih1 t13 t3 t12 s2)
 (FT Q t3 (adv s 1))
def sI (Q:aE) (n:Nat):AV->AV->aE:=jX (fun _ _ _ _ =>False) (fun ih=>tN Q ih) n
theorem aIk (Q:aE):aRy (sub aOg [Y,Y,Y,Y]) (aCl Q) aU (aCl Q)=(fun g s=>FT Q (g 3) s):=Eq.trans rfl (by kernel_rfl)
theorem aHr (Q:aE) (n1:Nat):aRy (sub aOg [Y,Y,Y,N,Y,N,N,Y,Y,Y]) (kV (fun n g s=>sI Q n (g 3) (g 12) (g 13) s) 45 n1) (cN 0 (fun g s=>FT Q (g 3) s) aU) (aCl Q)=(fun g s=>aGr Q (sI Q n1) (g 13) (g 3) (g 12) s):=Eq.trans rfl (by kernel_rfl)
theorem aPp (Q:aE) (kN:Kt):aRy (sub aOg [Y,Y,Y,N,Y,N]) kN (cN 0 (fun g s=>FT Q (g 3) s) aU) (aCl Q)=fun g s=>∃ n,sI Q n (g 3) (g 12) (g 13) s:=kG (L:=fun n g s=>sI Q n (g 3) (g 12) (g 13) s) (fun n1=>Eq.trans (aM (aM (aM (aHr Q n1) (dC 1 rfl)) rfl) rfl) (by kernel_rfl))
def f45 (Q:aE) (t0:AV) (s:St):Prop:=aA (bn .eql 81 t0 .nilp) fun t6=>aY t6
 (Q .nils (adv s 4))
 ((aQ t0=true /\
 aA (aC 2 t0) fun t9=>aL mEv 96 [t9] (adv s 8) fun t10 s1=>aA (bt .len #[31] [t10] (s1.nx+1) (adv s1 3)) fun r12=>∃ n,sI Q n t10 r12.1 (.int .i64 0) r12.2))
theorem aUl (t0:AV) (s:St) {Q:aE} (h:f45 Q t0 s):dE 45 [t0] s Q:=aH (h:=45) (fn:=Tryz.f45) (c:=sub aOg []) (show aRy (sub aOg []) (aCl Q) aU (aCl Q)=_ from (aM (aM (aM (aM (aIk Q) (aM (dC 0 (aPp Q _)) rfl)) rfl) rfl) rfl)) h
abbrev bLq:Code:=aJ Tryz.f46
abbrev bMi:=rK Tryz.f46
abbrev bQq:=aK mEv 46 (mEv.kp 46)
def f46 (Q:aE) (t0:AV) (s:St):Prop:=aA (bn .eql 81 t0 .nilp) fun t4=>aY t4
 (Q (.int .i64 0) (adv s 4))
 ((aQ t0=true /\
 aA (aC 0 t0) fun t7=>aL mEv 98 [t7] (adv s 8) fun t8 s1=>Q t8 s1))
theorem aSh (t0:AV) (s:St) {Q:aE} (h:f46 Q t0 s):dE 46 [t0] s Q:=aH (h:=46) (fn:=Tryz.f46) (c:=sub bLq []) (show bQq (sub bLq []) (bMi Q) aU (bMi Q)=_ from rfl) h
abbrev bLj:Code:=aJ Tryz.f91
abbrev bJk:=rK Tryz.f91
abbrev bRj:=aK mEv 91 (mEv.kp 91)
def f91 (Q:aE) (t0 t1 t2:AV) (s:St):Prop:=aA (bn .eql 81 t0 .nilp) fun t9=>Gd (aD t9 false) (adv s 16) (fun k=>k t2 (adv s 16)) fun t11 s1=>Gd (aD t9 false) s1 (fun k=>aA (bn .lss 3 t11 (.int .i64 1)) fun v=>k v s1) fun t12 s2=>aA (aV t9 (.bool true) t12) fun t13=>Gd (aD t13 false) s2 (fun k=>k t2 s2) fun t15 s3=>Gd (aD t13 false) s3 (fun k=>aA (bn .gtr 3 t15 (.int .i64 3)) fun v=>k v s3) fun t16 s4=>aA (aV t13 (.bool true) t16) fun t17=>Gd (aD t17 false) s4 (fun k=>k t1 s4) fun t19 s5=>Gd (aD t17 false) s5 (fun k=>aA (bt .len #[9] [t19] (s.nx+13) s5) fun r=>k r.1 r.2) fun t20 s6=>Gd (aD t17 false) s6 (fun k=>aA (bn .gtr 3 t20 (.int .i64 16384)) fun v=>k v s6) fun t21 s7=>aA (aV t17 (.bool true) t21) fun t22=>aY t22
 (Q (.int .i64 1) (adv s7 1))
 (aL mEv 143 [t0,t1] (adv s7 4) fun t25 s8=>aA (bn .neq 34 t25 (.int .i64 0)) fun t27=>aY t27
 (Q t25 (adv s8 4))
 (aA (lV 67 [(0,t1),(1,t2)]) fun t32=>aL mEv 144 [t0,t32] (adv s8 8) fun t33 s9=>Q t33 s9))
theorem aTd (t0 t1 t2:AV) (s:St) {Q:aE} (h:f91 Q t0 t1 t2 s):dE 91 [t0,t1,t2] s Q:=aH (h:=91) (fn:=Tryz.f91) (c:=sub bLj []) (show bRj (sub bLj []) (bJk Q) aU (bJk Q)=_ from rfl) h
abbrev bIv:Code:=aJ Tryz.f99
abbrev bLh:=rK Tryz.f99
abbrev bOy:=aK mEv 99 (mEv.kp 99)
def f99 (Q:aE) (t0 t1:AV) (s:St):Prop:=(t1.cells.all AV.one=true /\
 let s1:St:=((adv s 2).set s.nx (some (.cells t1.cells 67 true true)))
 aA (bn .eql 81 t0 .nilp) fun t8=>aY t8
 (Q (.int .i64 1) (adv s1 3))
 (aA (aC 0 (.ptr s.nx 0)) fun t10=>aA (ld 1 false t10 (adv s1 7)) fun t11=>aL mEv 143 [t0,t11] (adv s1 7) fun t12 s2=>aA (bn .neq 34 t12 (.int .i64 0)) fun t14=>aY t14
 (Q t12 (adv s2 4))
 (cH mEv 44 [t0] (rch (adv s2 7) [(.fn 44 [] []),t0]) (adv s2 7) fun t17 s3=>(clear 0 ⟨2,false,aF (.ptr s.nx 0),none⟩ [⟨1,true,rch (adv s2 7) [(.fn 44 [] []),t0],some (adv s2 7).nx⟩,⟨0,false,[],none⟩]=true/\aA (ld 10 true (.ptr s.nx 0) s3) fun t18=>eL mEv 149 [t17,t18] (rch s3 [(.fn 149 [] []),t17,t18]) s3 fun t19 s4=>aA (bn .neq 34 t19 (.int .i64 0)) fun t21=>aY t21
 (Q t19 (adv s4 4))
 (aA (ld 10 true (.ptr s.nx 0) (adv s4 6)) fun t24=>aL mEv 144 [t0,t24] (adv s4 6) fun t25 s5=>Q t25 s5)))))
theorem aRu (t0 t1:AV) (s:St) {Q:aE} (h:f99 Q t0 t1 s):dE 99 [t0,t1] s Q:=aH (h:=99) (fn:=Tryz.f99) (c:=sub bIv []) (show bOy (sub bIv []) (bLh Q) aU (bLh Q)=_ from rfl) h
abbrev bGt:Code:=aJ Tryz.f92
abbrev bNn:=rK Tryz.f92
abbrev bNr:=aK mEv 92 (mEv.kp 92)
def f92 (Q:aE) (t0 t1:AV) (s:St):Prop:=(t1.cells.all AV.one=true /\
 let s1:St:=((adv s 2).set s.nx (some (.cells t1.cells 33 true true)))
 aA (bn .eql 81 t0 .nilp) fun t11=>aY t11
 (Q (.int .i64 1) (adv s1 3))
 (aA (lV 58 []) fun t12=>(t12.cells.all AV.one=true /\
 let s2:St:=((adv s1 5).set (s1.nx+3) (some (.cells t12.cells 58 true true)))
 cH mEv 44 [t0] (rch (adv s2 10) [(.fn 44 [] []),t0]) (adv s2 10) fun t17 s3=>(clear 0 ⟨3,false,aF (.ptr s.nx 0),none⟩ [⟨2,true,rch (adv s2 10) [(.fn 44 [] []),t0],some (adv s2 10).nx⟩,⟨1,false,[],none⟩,⟨0,false,[],none⟩]=true/\aA (ld 6 true (.ptr s.nx 0) s3) fun t18=>cH mEv 30 [(.ptr (s1.nx+3) 0),t17,t18] (rch s3 [(.fn 30 [] []),(.ptr (s1.nx+3) 0),t17,t18]) s3 fun t19 s4=>aA (aW t19 0) fun t20=>aA (aW t19 1) fun t21=>aA (bn .neq 34 t21 (.int .i64 0)) fun t23=>aY t23
 (Q t21 (adv s4 4))
 (aL mEv 53 [(.ptr (s1.nx+3) 0),t20] (adv s4 11) fun t28 s5=>aA (aW t28 0) fun t29=>aA (aW t28 1) fun t30=>aA (zr 101) fun z8=>let s6:St:=(s5.set (s4.nx+8) (some (.cells z8.cells 101 true true)))
 aA (dN 7 (.ptr (s4.nx+8) 0) t29 s6) fun s7=>aA (aC 1 (.ptr (s4.nx+8) 0)) fun t31=>aA (ld 1 false t31 (adv s7 3)) fun t32=>aA (bn .neq 3 t32 (.int .i64 1)) fun t33=>aY t33
 (Q (.int .i64 90) (adv s7 4))
 ((aQ t0=true /\
 aA (aC 2 t0) fun t36=>aL mEv 96 [t36] (adv s7 9) fun t37 s8=>aA (bt .len #[31] [t37] (s7.nx+7) s8) fun r38=>aA (bn .eql 3 r38.1 (.int .i64 500)) fun t39=>aY t39
 (Q (.int .i64 2) (adv r38.2 1))
 ((aQ t0=true /\
 aA (aC 2 t0) fun t42=>aA (ld 6 true (.ptr s.nx 0) (adv r38.2 6)) fun t43=>eL mEv 97 [t43] (rch (adv r38.2 6) [(.fn 97 [] []),t43]) (adv r38.2 6) fun t44 s9=>cH mEv 145 [t42,t44] (rch s9 [(.fn 145 [] []),t42,t44]) s9 fun t45 s10=>Q (.int .i64 0) (adv s10 1))))))))))
theorem aSs (t0 t1:AV) (s:St) {Q:aE} (h:f92 Q t0 t1 s):dE 92 [t0,t1] s Q:=aH (h:=92) (fn:=Tryz.f92) (c:=sub bGt []) (show bNr (sub bGt []) (bNn Q) aU (bNn Q)=_ from rfl) h
abbrev TQ:Code:=aJ Tryz.f50
abbrev KD:=rK Tryz.f50
abbrev aAn:=aK mEv 50 (mEv.kp 50)
def MF (Q:aE) (s:St):Prop:=Q (.int .i64 0) (adv s 1)
def aOk (Q:aE) (ih1:AV->AV->aE) (t17 t0 t16:AV) (s:St):Prop:=aA (bn .add 3 t17 (.int .i64 1)) fun t27=>ih1 t0 t16 t27 (adv s 2)
def BL (Q:aE) (ih1:AV->AV->aE) (t0 t16 t17:AV) (s:St):Prop:=aA (bn .lss 3 t17 t16) fun t18=>aY t18
 ((aQ t0=true /\
 aA (aC 0 t0) fun t21=>aL mEv 100 [t21] (adv s 5) fun t22 s1=>(aQ t0=true /\
 aA (aC 2 t0) fun t25=>aL mEv 101 [t25] (adv s1 4) fun t26 s2=>aOk Q ih1 t17 t0 t16 s2)))
 (MF Q (adv s 1))
def zC (Q:aE) (n:Nat):AV->AV->aE:=jX (fun _ _ _ _ =>False) (fun ih=>BL Q ih) n
def OF (Q:aE) (t1 t0:AV) (s:St):Prop:=∃ n,zC Q n t0 t1 (.int .i64 0) (adv s 2)
def UE (Q:aE) (t5 t1 t0:AV) (s:St):Prop:=aY t5
 (Q (.int .i64 1) (adv s 1))
 (aL mEv 46 [t0] (adv s 6) fun t13 s1=>aA (bn .sub 3 (.int .i64 100) t13) fun t14=>aA (bn .gtr 3 t1 t14) fun t15=>aY t15
 (Q (.int .i64 2) (adv s1 1))
 (OF Q t1 t0 s1))
theorem aNe (Q:aE):aAn (sub TQ [Y,Y,Y]) (KD Q) aU (KD Q)=(fun g s=>MF Q s):=Eq.trans rfl (by kernel_rfl)
theorem aEv (Q:aE) (n1:Nat):aAn (sub TQ [Y,Y,N,Y,N,N,Y,Y,Y]) (kV (fun n g s=>zC Q n (g 0) (g 16) (g 17) s) 50 n1) (cN 1 (fun g s=>MF Q s) aU) (KD Q)=(fun g s=>aOk Q (zC Q n1) (g 17) (g 0) (g 16) s):=Eq.trans rfl (by kernel_rfl)
theorem aEt (Q:aE) (kN:Kt):aAn (sub TQ [Y,Y,N,Y,N]) kN (cN 1 (fun g s=>MF Q s) aU) (KD Q)=fun g s=>∃ n,zC Q n (g 0) (g 16) (g 17) s:=kG (L:=fun n g s=>zC Q n (g 0) (g 16) (g 17) s) (fun n1=>Eq.trans (aM (aM (aM (aEv Q n1) (dC 2 rfl)) rfl) rfl) (by kernel_rfl))
theorem aNt (Q:aE):aAn (sub TQ [Y,Y]) (KD Q) aU (KD Q)=(fun g s=>OF Q (g 1) (g 0) s):=Eq.trans (aM (aNe Q) (aM (dC 1 (aEt Q _)) rfl)) (by kernel_rfl)
theorem aHg (Q:aE):aAn (sub TQ [Y,N,N,Y]) (fun g s=>OF Q (g 1) (g 0) s) (cN 0 (fun g s=>OF Q (g 1) (g 0) s) aU) (KD Q)=(fun g s=>UE Q (g 5) (g 1) (g 0) s):=Eq.trans rfl (by kernel_rfl)
def f50 (Q:aE) (t0 t1:AV) (s:St):Prop:=aA (bn .eql 81 t0 .nilp) fun t7=>aY t7
 (UE Q t7 t1 t0 (adv s 4))
 (aA (bn .lss 3 t1 (.int .i64 0)) fun t9=>UE Q t9 t1 t0 (adv s 7))
theorem aWb (t0 t1:AV) (s:St) {Q:aE} (h:f50 Q t0 t1 s):dE 50 [t0,t1] s Q:=aH (h:=50) (fn:=Tryz.f50) (c:=sub TQ []) (show aAn (sub TQ []) (KD Q) aU (KD Q)=_ from (aM (aM (aNt Q) (dC 0 (aM (aHg Q) rfl))) rfl)) h
abbrev FL:Code:=aJ Tryz.f51
abbrev zQ:=rK Tryz.f51
abbrev JC:=aK mEv 51 (mEv.kp 51)
def zF (Q:aE) (s:St):Prop:=Q (.int .i64 0) (adv s 1)
def DT (Q:aE) (ih1:AV->AV->aE) (t18 t0 t17:AV) (s:St):Prop:=aA (bn .add 3 t18 (.int .i64 1)) fun t44=>ih1 t0 t17 t44 (adv s 2)
def yS (Q:aE) (ih1:AV->AV->aE) (t0 t18 t17:AV) (s:St):Prop:=(aQ t0=true /\
 aA (aC 2 t0) fun t42=>aL mEv 103 [t42] (adv s 4) fun t43 s1=>DT Q ih1 t18 t0 t17 s1)
def aMg (Q:aE) (ih1:AV->AV->aE) (ih2:AV->AV->AV->AV->AV->aE) (t29 t0 t17 t18 t27 t28:AV) (s:St):Prop:=aA (bn .add 3 t29 (.int .i64 1)) fun t39=>ih2 t0 t17 t18 t27 t28 t39 (adv s 2)
def sS (Q:aE) (ih1:AV->AV->aE) (ih2:AV->AV->AV->AV->AV->aE) (t0 t17 t18 t27 t28 t29:AV) (s:St):Prop:=aA (bn .lss 3 t29 t28) fun t30=>aY t30
 (aA (cB 10 t27 t29) fun t31=>aA (ld 10 true t31 (adv s 5)) fun t32=>aA (zr 67) fun z6=>let s1:St:=((adv s 5).set (s.nx+3) (some (.cells z6.cells 67 true true)))
 aA (dN 10 (.ptr (s.nx+3) 0) t32 s1) fun s2=>(aQ t0=true /\
 aA (aC 4 t0) fun t35=>aA (ld 1 false t35 (adv s2 7)) fun t36=>aA (aC 0 (.ptr (s.nx+3) 0)) fun t37=>aA (ld 1 false t37 (adv s2 7)) fun t38=>((adv s2 7).h (s2.nx+6)=none/\aA (eI Tryz.ty 86 t36 t38 (.bool true) (adv s2 7)) fun s3=>aMg Q ih1 ih2 t29 t0 t17 t18 t27 t28 s3)))
 (yS Q ih1 t0 t18 t17 (adv s 1))
def qF (Q:aE) (ih1:AV->AV->aE) (n:Nat):AV->AV->AV->AV->AV->aE:=jX (fun _ _ _ _ _ _ _ =>False) (fun ih=>sS Q ih1 ih) n
def CJ (Q:aE) (ih1:AV->AV->aE) (t0 t17 t18:AV) (s:St):Prop:=aA (bn .lss 3 t18 t17) fun t19=>aY t19
 (let s1:St:=((adv s 6).set (s.nx+2) (some (.map [])))
 (aQ t0=true /\
 aA (aC 4 t0) fun t23=>aA (dN 1 t23 (.map (s.nx+2)) s1) fun s2=>(aQ t0=true /\
 aA (aC 0 t0) fun t26=>aL mEv 102 [t26] (adv s2 6) fun t27 s3=>aA (bt .len #[49] [t27] (s2.nx+4) s3) fun r28=>∃ n,qF Q ih1 n t0 t17 t18 t27 r28.1 (.int .i64 0) r28.2)))
 (zF Q (adv s 1))
def gO (Q:aE) (n:Nat):AV->AV->aE:=jX (fun _ _ _ _ =>False) (fun ih=>CJ Q ih) n
def MW (Q:aE) (t1 t0:AV) (s:St):Prop:=∃ n,gO Q n t0 t1 (.int .i64 0) (adv s 2)
def XS (Q:aE) (t7 t1 t0:AV) (s:St):Prop:=aY t7
 (Q (.int .i64 1) (adv s 1))
 (aL mEv 46 [t0] (adv s 5) fun t15 s1=>aA (bn .gtr 3 t1 t15) fun t16=>aY t16
 (Q (.int .i64 5) (adv s1 1))
 (MW Q t1 t0 s1))
theorem aRe (Q:aE):JC (sub FL [Y,Y,Y]) (zQ Q) aU (zQ Q)=(fun g s=>zF Q s):=Eq.trans rfl (by kernel_rfl)
theorem aKh (Q:aE) (n1:Nat):JC (sub FL [Y,Y,N,Y,N,N,Y,Y,Y]) (kV (fun n g s=>gO Q n (g 0) (g 17) (g 18) s) 51 n1) (cN 1 (fun g s=>zF Q s) aU) (zQ Q)=(fun g s=>DT Q (gO Q n1) (g 18) (g 0) (g 17) s):=Eq.trans rfl (by kernel_rfl)
theorem aMs (Q:aE) (n1:Nat):JC (sub FL [Y,Y,N,Y,N,N,Y,Y,N,N,Y,Y]) (fun g s=>DT Q (gO Q n1) (g 18) (g 0) (g 17) s) (cN 2 (fun g s=>DT Q (gO Q n1) (g 18) (g 0) (g 17) s) (cN 1 (fun g s=>zF Q s) aU)) (zQ Q)=(fun g s=>yS Q (gO Q n1) (g 0) (g 18) (g 17) s):=Eq.trans rfl (by kernel_rfl)
theorem aMz (Q:aE) (n1:Nat) (n2:Nat):JC (sub FL [Y,Y,N,Y,N,N,Y,Y,N,N,Y,N,Y,N,N,Y,Y,Y]) (kV (fun n g s=>qF Q (gO Q n1) n (g 0) (g 17) (g 18) (g 27) (g 28) (g 29) s) 51 n2) (cN 3 (fun g s=>yS Q (gO Q n1) (g 0) (g 18) (g 17) s) (cN 2 (fun g s=>DT Q (gO Q n1) (g 18) (g 0) (g 17) s) (cN 1 (fun g s=>zF Q s) aU))) (zQ Q)=(fun g s=>aMg Q (gO Q n1) (qF Q (gO Q n1) n2) (g 29) (g 0) (g 17) (g 18) (g 27) (g 28) s):=Eq.trans rfl (by kernel_rfl)
theorem aEx (Q:aE) (n1:Nat) (kN:Kt):JC (sub FL [Y,Y,N,Y,N,N,Y,Y,N,N,Y,N,Y,N]) kN (cN 3 (fun g s=>yS Q (gO Q n1) (g 0) (g 18) (g 17) s) (cN 2 (fun g s=>DT Q (gO Q n1) (g 18) (g 0) (g 17) s) (cN 1 (fun g s=>zF Q s) aU))) (zQ Q)=fun g s=>∃ n,qF Q (gO Q n1) n (g 0) (g 17) (g 18) (g 27) (g 28) (g 29) s:=kG (L:=fun n g s=>qF Q (gO Q n1) n (g 0) (g 17) (g 18) (g 27) (g 28) (g 29) s) (fun n2=>Eq.trans (aM (aM (aM (aMz Q n1 n2) (dC 4 rfl)) rfl) rfl) (by kernel_rfl))
theorem aFe (Q:aE) (kN:Kt):JC (sub FL [Y,Y,N,Y,N]) kN (cN 1 (fun g s=>zF Q s) aU) (zQ Q)=fun g s=>∃ n,gO Q n (g 0) (g 17) (g 18) s:=kG (L:=fun n g s=>gO Q n (g 0) (g 17) (g 18) s) (fun n1=>Eq.trans (aM (aM (aM (aKh Q n1) (dC 2 (aM (aM (aMs Q n1) (aM (dC 3 (aEx Q n1 _)) rfl)) rfl))) rfl) rfl) (by kernel_rfl))
theorem aGj (Q:aE):JC (sub FL [Y,Y]) (zQ Q) aU (zQ Q)=(fun g s=>MW Q (g 1) (g 0) s):=Eq.trans (aM (aRe Q) (aM (dC 1 (aFe Q _)) rfl)) (by kernel_rfl)
theorem aHl (Q:aE):JC (sub FL [Y,N,N,Y]) (fun g s=>MW Q (g 1) (g 0) s) (cN 0 (fun g s=>MW Q (g 1) (g 0) s) aU) (zQ Q)=(fun g s=>XS Q (g 7) (g 1) (g 0) s):=Eq.trans rfl (by kernel_rfl)
def f51 (Q:aE) (t0 t1:AV) (s:St):Prop:=aA (bn .eql 81 t0 .nilp) fun t9=>aY t9
 (XS Q t9 t1 t0 (adv s 4))
 (aA (bn .lss 3 t1 (.int .i64 0)) fun t11=>XS Q t11 t1 t0 (adv s 7))
theorem aUe (t0 t1:AV) (s:St) {Q:aE} (h:f51 Q t0 t1 s):dE 51 [t0,t1] s Q:=aH (h:=51) (fn:=Tryz.f51) (c:=sub FL []) (show JC (sub FL []) (zQ Q) aU (zQ Q)=_ from (aM (aM (aGj Q) (dC 0 (aM (aHl Q) rfl))) rfl)) h
end
noncomputable section
set_option maxRecDepth 1000000
abbrev aOn:Code:=aJ Tryz.f43
abbrev aEe:=rK Tryz.f43
abbrev aUi:=aK mEv 43 (mEv.kp 43)
def ID (Q:aE) (t3:AV) (s:St):Prop:=aA (lV 33 []) fun t57=>aN mEv 93 [t3,t57] (adv s 5) fun t58 s1=>aA (bn .eql 3 t58 (.int .i64 0)) fun t59=>Q t59 s1
def HS (Q:aE) (ih1:AV->AV->aE) (t4 t0 t3:AV) (s:St):Prop:=aA (bn .add 3 t4 (.int .i64 1)) fun t14=>ih1 t0 t3 t14 (adv s 3)
def gV (Q:aE) (ih1:AV->AV->aE) (t0 t3 t4:AV) (s:St):Prop:=aA (bt .len #[79] [t0] (s.nx+2) (adv s 4)) fun r11=>aA (bn .lss 3 t4 r11.1) fun t12=>aY t12
 (aA (cB 18 t0 t4) fun t17=>aA (ld 18 true t17 (adv r11.2 6)) fun t18=>aA (zr 93) fun z5=>aA (dN 18 (.ptr (r11.2.nx+4) 0) t18 ((adv r11.2 6).set (r11.2.nx+4) (some (.cells z5.cells 93 true true)))) fun s1=>aA (aC 12 (.ptr (r11.2.nx+4) 0)) fun t19=>aA (ld 6 true t19 (adv s1 24)) fun t20=>aN mEv 33 [t20] (adv s1 24) fun t21 s2=>aA (bn .gtr 3 t21 (.int .i64 60)) fun t22=>Gd (aD t22 false) s2 (fun k=>aA (aC 12 (.ptr (r11.2.nx+4) 0)) fun v=>k v s2) fun t24 s3=>Gd (aD t22 false) s3 (fun k=>aA (ld 6 true t24 s3) fun v=>k v s3) fun t25 s4=>Gd (aD t22 false) s4 (fun k=>aN mEv 74 [t25] s4 k) fun t26 s5=>Gd (aD t22 false) s5 (fun k=>aA (bn .gtr 3 t26 (.int .i64 64)) fun v=>k v s5) fun t27 s6=>aA (aV t22 (.bool true) t27) fun t28=>Gd (aD t28 false) s6 (fun k=>aA (aC 2 (.ptr (r11.2.nx+4) 0)) fun v=>k v s6) fun t30 s7=>Gd (aD t28 false) s7 (fun k=>aA (aC 4 t30) fun v=>k v s7) fun t31 s8=>Gd (aD t28 false) s8 (fun k=>aA (ld 6 true t31 s8) fun v=>k v s8) fun t32 s9=>Gd (aD t28 false) s9 (fun k=>aN mEv 33 [t32] s9 k) fun t33 s10=>Gd (aD t28 false) s10 (fun k=>aA (bn .gtr 3 t33 (.int .i64 60)) fun v=>k v s10) fun t34 s11=>aA (aV t28 (.bool true) t34) fun t35=>Gd (aD t35 false) s11 (fun k=>aA (aC 2 (.ptr (r11.2.nx+4) 0)) fun v=>k v s11) fun t37 s12=>Gd (aD t35 false) s12 (fun k=>aA (aC 0 t37) fun v=>k v s12) fun t38 s13=>Gd (aD t35 false) s13 (fun k=>aA (ld 1 false t38 s13) fun v=>k v s13) fun t39 s14 =>
 Gd (aD t35 false) s14 (fun k=>aA (bt .len #[9] [t39] (s1.nx+21) s14) fun r=>k r.1 r.2) fun t40 s15=>Gd (aD t35 false) s15 (fun k=>aA (bn .gtr 3 t40 (.int .i64 200)) fun v=>k v s15) fun t41 s16=>aA (aV t35 (.bool true) t41) fun t42=>aY t42
 (Q (.bool false) (adv s16 1))
 (aA (aC 0 (.ptr (r11.2.nx+4) 0)) fun t43=>aA (ld 1 false t43 (adv s16 8)) fun t44=>aA (bn .eql 3 t44 (.int .i64 0)) fun t45=>Gd (aD t45 false) (adv s16 8) (fun k=>aA (aC 0 (.ptr (r11.2.nx+4) 0)) fun v=>k v (adv s16 8)) fun t47 s17=>Gd (aD t45 false) s17 (fun k=>aA (ld 1 false t47 s17) fun v=>k v s17) fun t48 s18=>Gd (aD t45 false) s18 (fun k=>aA (bn .eql 3 t48 (.int .i64 1)) fun v=>k v s18) fun t49 s19=>aA (aV t45 (.bool true) t49) fun t50=>aY t50
 (aA (aC 2 (.ptr (r11.2.nx+4) 0)) fun t52=>aA (ld 10 true t52 (adv s19 6)) fun t53=>aA (lE 49 1 [(0,t53)]) fun t54=>aA (bt .append #[49,49] [t3,t54] (s19.nx+4) (adv s19 6)) fun r55=>HS Q ih1 t4 t0 r55.1 r55.2)
 (HS Q ih1 t4 t0 t3 s19)))
 (ID Q t3 r11.2)
def lY (Q:aE) (n:Nat):AV->AV->aE:=jX (fun _ _ _ _ =>False) (fun ih=>gV Q ih) n
theorem aHd (Q:aE):aUi (sub aOn [Y,Y,Y,Y]) (aEe Q) aU (aEe Q)=(fun g s=>ID Q (g 3) s):=Eq.trans rfl (by kernel_rfl)
theorem aQq (Q:aE) (n1:Nat):aUi (sub aOn [Y,Y,Y,N,Y,N,N,Y,Y]) (kV (fun n g s=>lY Q n (g 0) (g 3) (g 4) s) 43 n1) (cN 0 (fun g s=>ID Q (g 3) s) aU) (aEe Q)=(fun g s=>HS Q (lY Q n1) (g 4) (g 0) (g 3) s):=Eq.trans rfl (by kernel_rfl)
theorem aPx (Q:aE) (kN:Kt):aUi (sub aOn [Y,Y,Y,N,Y,N]) kN (cN 0 (fun g s=>ID Q (g 3) s) aU) (aEe Q)=fun g s=>∃ n,lY Q n (g 0) (g 3) (g 4) s:=kG (L:=fun n g s=>lY Q n (g 0) (g 3) (g 4) s) (fun n1=>Eq.trans (aM (aM (aQq Q n1) (dC 1 rfl)) rfl) (by kernel_rfl))
def f43 (Q:aE) (t0:AV) (s:St):Prop:=aA (bt .len #[79] [t0] (s.nx+2) (adv s 4)) fun r7=>aA (bn .gtr 3 r7.1 (.int .i64 60)) fun t8=>aY t8
 (Q (.bool false) (adv r7.2 1))
 (∃ n,lY Q n t0 .nils (.int .i64 0) (adv r7.2 2))
theorem aTo (t0:AV) (s:St) {Q:aE} (h:f43 Q t0 s):dE 43 [t0] s Q:=aH (h:=43) (fn:=Tryz.f43) (c:=sub aOn []) (show aUi (sub aOn []) (aEe Q) aU (aEe Q)=_ from (aM (aM (aM (aM (aHd Q) (aM (dC 0 (aPx Q _)) rfl)) rfl) rfl) rfl)) h
end
noncomputable section
set_option maxRecDepth 100000
theorem bKs:((iM mEv 1000 42 [] St.empty).map Prod.fst)=some (.bool true):=by kernel_rfl
theorem aVh:bA mEv 42 [] (.bool true):=aIo rfl bKs
end
end Go.Proofs.YtdehdahimkcakaaGreatDoor
