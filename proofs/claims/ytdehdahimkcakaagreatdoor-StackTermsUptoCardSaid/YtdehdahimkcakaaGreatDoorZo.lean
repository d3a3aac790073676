/- Texts joined by wip/tools/pack.py: LCl,Awa. -/
import Derived.Test.YtdehdahimkcakaaGreatDoorZn
open Nat renaming reduceAdd→Z0, reduceEqDiff→Z1
set_option linter.unusedVariables false
namespace Go.Proofs.YtdehdahimkcakaaGreatDoor
open Go Ai
noncomputable section
set_option maxRecDepth 1000000
abbrev aKm:Code:=aJ Tryz.f43
abbrev aBp:=rK Tryz.f43
abbrev aTa:=aK mEv 43 (mEv.kp 43)
def GU (Q:aG) (t3:AV) (s:St):Prop:=aA (lK 33 []) fun t57=>aO mEv 93 [t3,t57] (adv s 5) fun t58 s1=>aA (bn .eql 3 t58 (.int .i64 0)) fun t59=>Q t59 s1
def JA (Q:aG) (ih1:AV->AV->aG) (t4 t0 t3:AV) (s:St):Prop:=aA (bn .add 3 t4 (.int .i64 1)) fun t14=>ih1 t0 t3 t14 (adv s 3)
def hJ (Q:aG) (ih1:AV->AV->aG) (t0 t3 t4:AV) (s:St):Prop:=aA (bt .len #[79] [t0] (s.nx+2) (adv s 4)) fun r11=>aA (bn .lss 3 t4 r11.1) fun t12=>aZ t12
 (aA (cQ 18 t0 t4) fun t17=>aA (ld 18 true t17 (adv r11.2 6)) fun t18=>aA (zr 93) fun z5=>aA (dU 18 (.ptr (r11.2.nx+4) 0) t18 ((adv r11.2 6).set (r11.2.nx+4) (some (.cells z5.cells 93 true true)))) fun s1=>aA (aC 12 (.ptr (r11.2.nx+4) 0)) fun t19=>aA (ld 6 true t19 (adv s1 24)) fun t20=>aO mEv 33 [t20] (adv s1 24) fun t21 s2=>aA (bn .gtr 3 t21 (.int .i64 60)) fun t22=>Gd (aD t22 false) s2 (fun k=>aA (aC 12 (.ptr (r11.2.nx+4) 0)) fun v=>k v s2) fun t24 s3=>Gd (aD t22 false) s3 (fun k=>aA (ld 6 true t24 s3) fun v=>k v s3) fun t25 s4=>Gd (aD t22 false) s4 (fun k=>aO mEv 74 [t25] s4 k) fun t26 s5=>Gd (aD t22 false) s5 (fun k=>aA (bn .gtr 3 t26 (.int .i64 64)) fun v=>k v s5) fun t27 s6=>aA (bC t22 (.bool true) t27) fun t28=>Gd (aD t28 false) s6 (fun k=>aA (aC 2 (.ptr (r11.2.nx+4) 0)) fun v=>k v s6) fun t30 s7=>Gd (aD t28 false) s7 (fun k=>aA (aC 4 t30) fun v=>k v s7) fun t31 s8=>Gd (aD t28 false) s8 (fun k=>aA (ld 6 true t31 s8) fun v=>k v s8) fun t32 s9=>Gd (aD t28 false) s9 (fun k=>aO mEv 33 [t32] s9 k) fun t33 s10=>Gd (aD t28 false) s10 (fun k=>aA (bn .gtr 3 t33 (.int .i64 60)) fun v=>k v s10) fun t34 s11=>aA (bC t28 (.bool true) t34) fun t35=>Gd (aD t35 false) s11 (fun k=>aA (aC 2 (.ptr (r11.2.nx+4) 0)) fun v=>k v s11) fun t37 s12=>Gd (aD t35 false) s12 (fun k=>aA (aC 0 t37) fun v=>k v s12) fun t38 s13=>Gd (aD t35 false) s13 (fun k=>aA (ld 1 false t38 s13) fun v=>k v s13) fun t39 s14 =>
 Gd (aD t35 false) s14 (fun k=>aA (bt .len #[9] [t39] (s1.nx+21) s14) fun r=>k r.1 r.2) fun t40 s15=>Gd (aD t35 false) s15 (fun k=>aA (bn .gtr 3 t40 (.int .i64 200)) fun v=>k v s15) fun t41 s16=>aA (bC t35 (.bool true) t41) fun t42=>aZ t42
 (Q (.bool false) (adv s16 1))
 (aA (aC 0 (.ptr (r11.2.nx+4) 0)) fun t43=>aA (ld 1 false t43 (adv s16 8)) fun t44=>aA (bn .eql 3 t44 (.int .i64 0)) fun t45=>Gd (aD t45 false) (adv s16 8) (fun k=>aA (aC 0 (.ptr (r11.2.nx+4) 0)) fun v=>k v (adv s16 8)) fun t47 s17=>Gd (aD t45 false) s17 (fun k=>aA (ld 1 false t47 s17) fun v=>k v s17) fun t48 s18=>Gd (aD t45 false) s18 (fun k=>aA (bn .eql 3 t48 (.int .i64 1)) fun v=>k v s18) fun t49 s19=>aA (bC t45 (.bool true) t49) fun t50=>aZ t50
 (aA (aC 2 (.ptr (r11.2.nx+4) 0)) fun t52=>aA (ld 10 true t52 (adv s19 6)) fun t53=>aA (kM 49 1 [(0,t53)]) fun t54=>aA (bt .append #[49,49] [t3,t54] (s19.nx+4) (adv s19 6)) fun r55=>JA Q ih1 t4 t0 r55.1 r55.2)
 (JA Q ih1 t4 t0 t3 s19)))
 (GU Q t3 r11.2)
def mM (Q:aG) (n:Nat):AV->AV->aG:=mC (fun _ _ _ _ =>False) (fun ih=>hJ Q ih) n
theorem aSh (Q:aG):aTa (sub aKm [Y,Y,Y,Y]) (aBp Q) aY (aBp Q)=(fun g s=>GU Q (g 3) s):=Eq.trans rfl (by kernel_rfl)
theorem aOh (Q:aG) (n1:Nat):aTa (sub aKm [Y,Y,Y,N,Y,N,N,Y,Y]) (mI (fun n g s=>mM Q n (g 0) (g 3) (g 4) s) 43 n1) (cX 0 (fun g s=>GU Q (g 3) s) aY) (aBp Q)=(fun g s=>JA Q (mM Q n1) (g 4) (g 0) (g 3) s):=Eq.trans rfl (by kernel_rfl)
theorem aOp (Q:aG) (kN:Kt):aTa (sub aKm [Y,Y,Y,N,Y,N]) kN (cX 0 (fun g s=>GU Q (g 3) s) aY) (aBp Q)=fun g s=>∃ n,mM Q n (g 0) (g 3) (g 4) s:=mB (L:=fun n g s=>mM Q n (g 0) (g 3) (g 4) s) (fun n1=>Eq.trans (aM (aM (aOh Q n1) (dV 1 rfl)) rfl) (by kernel_rfl))
def f43 (Q:aG) (t0:AV) (s:St):Prop:=aA (bt .len #[79] [t0] (s.nx+2) (adv s 4)) fun r7=>aA (bn .gtr 3 r7.1 (.int .i64 60)) fun t8=>aZ t8
 (Q (.bool false) (adv r7.2 1))
 (∃ n,mM Q n t0 .nils (.int .i64 0) (adv r7.2 2))
theorem aTk (t0:AV) (s:St) {Q:aG} (h:f43 Q t0 s):dT 43 [t0] s Q:=aH (h:=43) (fn:=Tryz.f43) (c:=sub aKm []) (show aTa (sub aKm []) (aBp Q) aY (aBp Q)=_ from (aM (aM (aM (aM (aSh Q) (aM (dV 0 (aOp Q _)) rfl)) rfl) rfl) rfl)) h
end
noncomputable section
set_option maxRecDepth 100000
theorem bIc:((iW mEv 1000 42 [] St.empty).map Prod.fst)=some (.bool true):=by kernel_rfl
theorem aTx:bE mEv 42 [] (.bool true):=aNd rfl bIc
end
end Go.Proofs.YtdehdahimkcakaaGreatDoor
