/- Texts joined by wip/tools/pack.py: Shelf,Whole. -/
import Derived.Shelf.Strconv.Itoa0
import Derived.Shelf.Strconv.Itoa1
import Derived.Shelf.LaysM
import Derived.Shelf.Strconv.Itoa2
import Derived.Shelf.Strconv.Itoa3
import Derived.Test.YtdehdahimkcakaaGreatDoorProg
import Derived.Ground.NamesProg
import Derived.Test.YtdehdahimkcakaaGreatDoorXo
open Nat renaming reduceAdd→Z0, reduceEqDiff→Z1
set_option linter.unusedVariables false
set_option maxRecDepth 100000
namespace Go.Proofs
open Go.Shelf
noncomputable section
def Tryz.laysM171_ren:Go.Shelf.Ren:=⟨fun | 171=>206 | 243=>235 | 246=>236 | 283=>263 | 284=>264 | 285=>265 | 286=>266 | 129=>280 | 317=>279 | 318=>281 | 319=>282 | 320=>283 | 337=>287 | 338=>288 | n=>n,fun | 3=>3 | 9=>9 | 2=>2 | 4=>4 | 171=>304 | 0=>0 | 53=>159 | 37=>161 | 5=>5 | 173=>307 | 212=>310 | 51=>211 | 20=>20 | 213=>311 | 46=>213 | 232=>317 | 233=>318 | n=>n,fun | 17=>5 | 18=>6 | 19=>7 | n=>n⟩
theorem Tryz.laysM171:Go.Proofs.LaysM.n171 Tryz.prog Tryz.laysM171_ren:={
 mixed:=by kernel_rfl
 f129:=Tryz.func280.trans (congrArg some (by kernel_rfl))
 f171:=Tryz.func206.trans (congrArg some (by kernel_rfl))
 f243:=Tryz.func235.trans (congrArg some (by kernel_rfl))
 f246:=Tryz.func236.trans (congrArg some (by kernel_rfl))
 f283:=Tryz.func263.trans (congrArg some (by kernel_rfl))
 f284:=Tryz.func264.trans (congrArg some (by kernel_rfl))
 f285:=Tryz.func265.trans (congrArg some (by kernel_rfl))
 f286:=Tryz.func266.trans (congrArg some (by kernel_rfl))
 f317:=Tryz.func279.trans (congrArg some (by kernel_rfl))
 f318:=Tryz.func281.trans (congrArg some (by kernel_rfl))
 f319:=Tryz.func282.trans (congrArg some (by kernel_rfl))
 f320:=Tryz.func283.trans (congrArg some (by kernel_rfl))
 f337:=Tryz.func287.trans (congrArg some (by kernel_rfl))
 f338:=Tryz.func288.trans (congrArg some (by kernel_rfl))
 t0:=Tryz.underlying0
 a0:=Tryz.isAgg0
 z0:=Tryz.sizeOf0
 v0:=Tryz.zeroValue0
 t2:=Tryz.underlying2
 a2:=Tryz.isAgg2
 z2:=Tryz.sizeOf2
 v2:=Tryz.zeroValue2
 t3:=Tryz.underlying3
 a3:=Tryz.isAgg3
 z3:=Tryz.sizeOf3
 v3:=Tryz.zeroValue3
 t4:=Tryz.underlying4
 a4:=Tryz.isAgg4
 z4:=Tryz.sizeOf4
 v4:=Tryz.zeroValue4
 t5:=Tryz.underlying5
 a5:=Tryz.isAgg5
 z5:=Tryz.sizeOf5
 v5:=Tryz.zeroValue5
 t9:=Tryz.underlying9
 a9:=Tryz.isAgg9
 z9:=Tryz.sizeOf9
 v9:=Tryz.zeroValue9
 t20:=Tryz.underlying20
 a20:=Tryz.isAgg20
 z20:=Tryz.sizeOf20
 v20:=Tryz.zeroValue20
 t37:=Tryz.underlying161
 a37:=Tryz.isAgg161
 z37:=Tryz.sizeOf161
 v37:=Tryz.zeroValue161
 t46:=Tryz.underlying213
 a46:=Tryz.isAgg213
 z46:=Tryz.sizeOf213
 v46:=Tryz.zeroValue213
 t51:=Tryz.underlying211
 a51:=Tryz.isAgg211
 z51:=Tryz.sizeOf211
 v51:=Tryz.zeroValue211
 t53:=Tryz.underlying159
 a53:=Tryz.isAgg159
 z53:=Tryz.sizeOf159
 v53:=Tryz.zeroValue159
 t171:=Tryz.underlying304
 a171:=Tryz.isAgg304
 z171:=Tryz.sizeOf304
 v171:=Tryz.zeroValue304
 t173:=Tryz.underlying307
 a173:=Tryz.isAgg307
 z173:=Tryz.sizeOf307
 v173:=Tryz.zeroValue307
 t212:=Tryz.underlying310
 a212:=Tryz.isAgg310
 z212:=Tryz.sizeOf310
 v212:=Tryz.zeroValue310
 t213:=Tryz.underlying311
 a213:=Tryz.isAgg311
 z213:=Tryz.sizeOf311
 t232:=Tryz.underlying317
 a232:=Tryz.isAgg317
 z232:=Tryz.sizeOf317
 v232:=Tryz.zeroValue317
 t233:=Tryz.underlying318
 a233:=Tryz.isAgg318
 z233:=Tryz.sizeOf318
 v233:=Tryz.zeroValue318
 g17:=by kernel_rfl
 g18:=by kernel_rfl
 g19:=by kernel_rfl
 i0:=by kernel_rfl
 i2:=by kernel_rfl
 i3:=by kernel_rfl
 i4:=by kernel_rfl
 i5:=by kernel_rfl
 i9:=by kernel_rfl
 i20:=by kernel_rfl
 i37:=by kernel_rfl
 i46:=by kernel_rfl
 i51:=by kernel_rfl
 i53:=by kernel_rfl
 i171:=by kernel_rfl
 i173:=by kernel_rfl
 i212:=by kernel_rfl
 i232:=by kernel_rfl
 i233:=by kernel_rfl
 m17:=by kernel_rfl
 m18:=by kernel_rfl
 m19:=by kernel_rfl }
open Go.RowKit Go.Sort Go.Lib in
theorem Tryz.strconv_Itoa (n:Int) (h0:-9223372036854775808<=n) (h1:n<=9223372036854775807) (w:World) (htab:Lib.TabIs Tryz.prog w "internal/strconv.uint64pow10" .u64 Lib.pow10Tab) :
  Calls Tryz.prog 206 #[.int .i64 n] w fun e w'=>e=.returned (.string ⟨(Lib.itoa n).toArray⟩)/\∃ k os,w'=grow (w.drewN k) os:=Any.strconv_Itoa Tryz.laysM171 n h0 h1 w htab
end
end Go.Proofs
namespace Go.Proofs.YtdehdahimkcakaaGreatDoor
open Go Ai
noncomputable section
theorem aIf {T:Ty} (hT:dO Tryz.prog T) (h:T=Tryz.ty):xU Tryz.prog T Tryz.eqOk:=fun t ht=>by subst h;have ht:Nat.beq t 109=true:=ht;obtain rfl:=jS ht;exact bKa (t0:=3) (t1:=3) (f0:=(Tryz.prog.fieldsOf 109).toList[0]!) (f1:=(Tryz.prog.fieldsOf 109).toList[1]!) hT (by kernel_rfl) (by kernel_rfl) (by kernel_rfl) (by kernel_rfl) (of_decide_eq_true (by kernel_rfl)) (of_decide_eq_true (by kernel_rfl)) (by kernel_rfl) (by kernel_rfl) (by kernel_rfl) (by kernel_rfl) (by kernel_rfl) (by kernel_rfl) (by kernel_rfl) (by kernel_rfl) (by kernel_rfl)
theorem UX:fP Tryz.prog Tryz.ty Tryz.glob 206 GV:=YT (fun n h0 h1 w ht=>Tryz.strconv_Itoa n h0 h1 w ht) (aZc (by kernel_rfl:Tryz.prog.funcs[206]?=some Tryz.f206) (by kernel_rfl) (by kernel_rfl)) (g:=5) (by kernel_rfl) (by kernel_rfl)
theorem VM:fP Tryz.prog Tryz.ty Tryz.glob 232 UI:=aCp (by kernel_rfl:Tryz.prog.funcs[232]?=some Tryz.f232) (by kernel_rfl) (by kernel_rfl) (by kernel_rfl) (by kernel_rfl)
theorem TO:fP Tryz.prog Tryz.ty Tryz.glob 271 IS:=QX (by kernel_rfl:Tryz.prog.funcs[271]?=some Tryz.f271) (by kernel_rfl) (by kernel_rfl) (by kernel_rfl) (by kernel_rfl)
theorem VH:fP Tryz.prog Tryz.ty Tryz.glob 285 oO:=AP (by kernel_rfl:Tryz.prog.funcs[285]?=some Tryz.f285) (by kernel_rfl) (by kernel_rfl) (by kernel_rfl) (by kernel_rfl)
theorem VK:fP Tryz.prog Tryz.ty Tryz.glob 286 (AH 5):=MC (t:=161) (by kernel_rfl:Tryz.prog.funcs[286]?=some Tryz.f286) (by kernel_rfl) (by kernel_rfl) (by kernel_rfl) (by kernel_rfl) (by kernel_rfl) (by kernel_rfl) (by kernel_rfl:eN Tryz.ty 5=some (1,false))
theorem WJ (f:FuncId) (g:List AV->St->Option (AV×St)) (h:Tryz.env0.prim f=some g):fP Tryz.prog Tryz.ty Tryz.glob f g:=by
 have h:Tryz.prim0 Tryz.ty f=some g:=h;unfold Tryz.prim0 at h;generalize hb:bO _ f=b at h
 cases b with
 | false=>cases h
 | true =>
  simp only [cond_true] at h;unfold Tryz.primT at h
  split at h
  ·exact absurd hb (by decide)
  ·exact absurd hb (by decide)
  ·exact absurd hb (by decide)
  ·exact absurd hb (by decide)
  ·exact absurd hb (by decide)
  ·exact absurd hb (by decide)
  ·cases h;exact UX
  ·cases h;exact VM
  ·cases h;exact TO
  ·cases h;exact VH
  ·cases h;exact VK
  ·cases h
theorem rF:AZ Tryz.prog Tryz.env0 where
 mixed:=by kernel_rfl
 ty:=IZ
 eq:=aIf IZ rfl
 fns:=fun f fn h=>⟨UF f fn h,FT f fn h⟩
 prim:=WJ
theorem aQk:fP Tryz.prog Tryz.ty Tryz.glob 146 (eZ Tryz.ty 67):=jE (t:=49) (z:=10) (ag:=true) (b:=((dN Tryz.ty 67).getD 0)) (zv:=((zero Tryz.ty 67).getD .undef)) rF (fun x s Q h=>aJo x s (by unfold bFa;exact h)) (by kernel_rfl) (by kernel_rfl) (by kernel_rfl) (by kernel_rfl) (by decide) (by kernel_rfl)
theorem aRt:fP Tryz.prog Tryz.ty Tryz.glob 147 (eZ Tryz.ty 151):=jE (t:=65) (z:=2) (ag:=true) (b:=((dN Tryz.ty 151).getD 0)) (zv:=((zero Tryz.ty 151).getD .undef)) rF (fun x s Q h=>aGv x s (by unfold bFg;exact h)) (by kernel_rfl) (by kernel_rfl) (by kernel_rfl) (by kernel_rfl) (by decide) (by kernel_rfl)
theorem aRf:fP Tryz.prog Tryz.ty Tryz.glob 148 (eZ Tryz.ty 33):=jE (t:=31) (z:=6) (ag:=true) (b:=((dN Tryz.ty 33).getD 0)) (zv:=((zero Tryz.ty 33).getD .undef)) rF (fun x s Q h=>aEi x s (by unfold bGg;exact h)) (by kernel_rfl) (by kernel_rfl) (by kernel_rfl) (by kernel_rfl) (by decide) (by kernel_rfl)
theorem aPt:fP Tryz.prog Tryz.ty Tryz.glob 152 (eZ Tryz.ty 3):=jE (t:=72) (z:=1) (ag:=false) (b:=((dN Tryz.ty 3).getD 0)) (zv:=((zero Tryz.ty 3).getD .undef)) rF (fun x s Q h=>aKw x s (by unfold bEf;exact h)) (by kernel_rfl) (by kernel_rfl) (by kernel_rfl) (by kernel_rfl) (by decide) (by kernel_rfl)
theorem aQv:fP Tryz.prog Tryz.ty Tryz.glob 153 (eZ Tryz.ty 211):=jE (t:=22) (z:=1) (ag:=false) (b:=((dN Tryz.ty 211).getD 0)) (zv:=((zero Tryz.ty 211).getD .undef)) rF (fun x s Q h=>aGa x s (by unfold bFw;exact h)) (by kernel_rfl) (by kernel_rfl) (by kernel_rfl) (by kernel_rfl) (by decide) (by kernel_rfl)
theorem aSr:fP Tryz.prog Tryz.ty Tryz.glob 154 (eZ Tryz.ty 109):=jE (t:=25) (z:=2) (ag:=true) (b:=((dN Tryz.ty 109).getD 0)) (zv:=((zero Tryz.ty 109).getD .undef)) rF (fun x s Q h=>aEc x s (by unfold bHy;exact h)) (by kernel_rfl) (by kernel_rfl) (by kernel_rfl) (by kernel_rfl) (by decide) (by kernel_rfl)
theorem aIj (f:FuncId) (g:List AV->St->Option (AV×St)) (h:mEv.prim f=some g):fP Tryz.prog Tryz.ty Tryz.glob f g:=by
 have h:Tryz.prim Tryz.ty f=some g:=h;unfold Tryz.prim at h;generalize hb:bO _ f=b at h
 cases b with
 | false=>cases h
 | true =>
  simp only [cond_true] at h;unfold Tryz.primT at h
  split at h
  ·cases h;exact aQk
  ·cases h;exact aRt
  ·cases h;exact aRf
  ·cases h;exact aPt
  ·cases h;exact aQv
  ·cases h;exact aSr
  ·cases h;exact UX
  ·cases h;exact VM
  ·cases h;exact TO
  ·cases h;exact VH
  ·cases h;exact VK
  ·cases h
theorem env_ok:AZ Tryz.prog mEv where
 mixed:=by kernel_rfl
 ty:=IZ
 eq:=aIf IZ rfl
 fns:=fun f fn h=>⟨UF f fn h,FT f fn h⟩
 prim:=aIj
end
end Go.Proofs.YtdehdahimkcakaaGreatDoor
