/- Texts joined by wip/tools/pack.py: Shelf,Whole. -/
import Derived.Shelf.Strconv.Itoa0
import Derived.Shelf.Strconv.Itoa1
import Derived.Shelf.LaysM
import Derived.Shelf.Strconv.Itoa2
import Derived.Shelf.Strconv.Itoa3
import Derived.Test.YtdehdahimkcakaaGreatDoorProg
import Derived.Ground.NamesProg
import Derived.Test.YtdehdahimkcakaaGreatDoorZo
open Nat renaming reduceAdd→Z0, reduceEqDiff→Z1
set_option linter.unusedVariables false
set_option maxRecDepth 100000
namespace Go.Proofs
open Go.Shelf
noncomputable section
def Tryz.laysM171_ren:Go.Shelf.Ren:=⟨fun | 171=>206 | 243=>235 | 246=>236 | 283=>263 | 284=>264 | 285=>265 | 286=>266 | 129=>280 | 317=>279 | 318=>281 | 319=>282 | 320=>283 | 337=>287 | 338=>288 | n=>n,fun | 3=>3 | 9=>9 | 2=>2 | 4=>4 | 171=>304 | 0=>0 | 53=>159 | 37=>161 | 5=>5 | 173=>307 | 212=>310 | 51=>211 | 20=>20 | 213=>311 | 46=>213 | 232=>317 | 233=>318 | n=>n,fun | 17=>5 | 18=>6 | 19=>7 | n=>n⟩
theorem Tryz.laysM171:Go.Proofs.LaysM.n171 Tryz.prog Tryz.laysM171_ren:={
 mixed:=by kernel_rfl
 f129:=Tryz.func280.trans (congrArg some (by kernel_rfl))
 f171:=Tryz.func206.trans (congrArg some (by kernel_rfl))
 f243:=Tryz.func235.trans (congrArg some (by kernel_rfl))
 f246:=Tryz.func236.trans (congrArg some (by kernel_rfl))
 f283:=Tryz.func263.trans (congrArg some (by kernel_rfl))
 f284:=Tryz.func264.trans (congrArg some (by kernel_rfl))
 f285:=Tryz.func265.trans (congrArg some (by kernel_rfl))
 f286:=Tryz.func266.trans (congrArg some (by kernel_rfl))
 f317:=Tryz.func279.trans (congrArg some (by kernel_rfl))
 f318:=Tryz.func281.trans (congrArg some (by kernel_rfl))
 f319:=Tryz.func282.trans (congrArg some (by kernel_rfl))
 f320:=Tryz.func283.trans (congrArg some (by kernel_rfl))
 f337:=Tryz.func287.trans (congrArg some (by kernel_rfl))
 f338:=Tryz.func288.trans (congrArg some (by kernel_rfl))
 t0:=Tryz.underlying0
 a0:=Tryz.isAgg0
 z0:=Tryz.sizeOf0
 v0:=Tryz.zeroValue0
 t2:=Tryz.underlying2
 a2:=Tryz.isAgg2
 z2:=Tryz.sizeOf2
 v2:=Tryz.zeroValue2
 t3:=Tryz.underlying3
 a3:=Tryz.isAgg3
 z3:=Tryz.sizeOf3
 v3:=Tryz.zeroValue3
 t4:=Tryz.underlying4
 a4:=Tryz.isAgg4
 z4:=Tryz.sizeOf4
 v4:=Tryz.zeroValue4
 t5:=Tryz.underlying5
 a5:=Tryz.isAgg5
 z5:=Tryz.sizeOf5
 v5:=Tryz.zeroValue5
 t9:=Tryz.underlying9
 a9:=Tryz.isAgg9
 z9:=Tryz.sizeOf9
 v9:=Tryz.zeroValue9
 t20:=Tryz.underlying20
 a20:=Tryz.isAgg20
 z20:=Tryz.sizeOf20
 v20:=Tryz.zeroValue20
 t37:=Tryz.underlying161
 a37:=Tryz.isAgg161
 z37:=Tryz.sizeOf161
 v37:=Tryz.zeroValue161
 t46:=Tryz.underlying213
 a46:=Tryz.isAgg213
 z46:=Tryz.sizeOf213
 v46:=Tryz.zeroValue213
 t51:=Tryz.underlying211
 a51:=Tryz.isAgg211
 z51:=Tryz.sizeOf211
 v51:=Tryz.zeroValue211
 t53:=Tryz.underlying159
 a53:=Tryz.isAgg159
 z53:=Tryz.sizeOf159
 v53:=Tryz.zeroValue159
 t171:=Tryz.underlying304
 a171:=Tryz.isAgg304
 z171:=Tryz.sizeOf304
 v171:=Tryz.zeroValue304
 t173:=Tryz.underlying307
 a173:=Tryz.isAgg307
 z173:=Tryz.sizeOf307
 v173:=Tryz.zeroValue307
 t212:=Tryz.underlying310
 a212:=Tryz.isAgg310
 z212:=Tryz.sizeOf310
 v212:=Tryz.zeroValue310
 t213:=Tryz.underlying311
 a213:=Tryz.isAgg311
 z213:=Tryz.sizeOf311
 t232:=Tryz.underlying317
 a232:=Tryz.isAgg317
 z232:=Tryz.sizeOf317
 v232:=Tryz.zeroValue317
 t233:=Tryz.underlying318
 a233:=Tryz.isAgg318
 z233:=Tryz.sizeOf318
 v233:=Tryz.zeroValue318
 g17:=by kernel_rfl
 g18:=by kernel_rfl
 g19:=by kernel_rfl
 i0:=by kernel_rfl
 i2:=by kernel_rfl
 i3:=by kernel_rfl
 i4:=by kernel_rfl
 i5:=by kernel_rfl
 i9:=by kernel_rfl
 i20:=by kernel_rfl
 i37:=by kernel_rfl
 i46:=by kernel_rfl
 i51:=by kernel_rfl
 i53:=by kernel_rfl
 i171:=by kernel_rfl
 i173:=by kernel_rfl
 i212:=by kernel_rfl
 i232:=by kernel_rfl
 i233:=by kernel_rfl
 m17:=by kernel_rfl
 m18:=by kernel_rfl
 m19:=by kernel_rfl }
open Go.RowKit Go.Sort Go.Lib in
theorem Tryz.strconv_Itoa (n:Int) (h0:-9223372036854775808<=n) (h1:n<=9223372036854775807) (w:World) (htab:Lib.TabIs Tryz.prog w "internal/strconv.uint64pow10" .u64 Lib.pow10Tab) :
  Calls Tryz.prog 206 #[.int .i64 n] w fun e w'=>e=.returned (.string ⟨(Lib.itoa n).toArray⟩)/\∃ k os,w'=grow (w.drewN k) os:=Any.strconv_Itoa Tryz.laysM171 n h0 h1 w htab
end
end Go.Proofs
namespace Go.Proofs.YtdehdahimkcakaaGreatDoor
open Go Ai
noncomputable section
theorem aMc {T:Ty} (hT:dQ Tryz.prog T) (h:T=Tryz.ty):yR Tryz.prog T Tryz.eqOk:=fun t ht=>by subst h;have ht:Nat.beq t 151=true:=ht;obtain rfl:=iN ht;exact bOk (t0:=9) (t1:=3) (f0:=(Tryz.prog.fieldsOf 151).toList[0]!) (f1:=(Tryz.prog.fieldsOf 151).toList[1]!) hT (by kernel_rfl) (by kernel_rfl) (by kernel_rfl) (by kernel_rfl) (of_decide_eq_true (by kernel_rfl)) (of_decide_eq_true (by kernel_rfl)) (by kernel_rfl) (by kernel_rfl) (by kernel_rfl) (by kernel_rfl) (by kernel_rfl) (by kernel_rfl) (by kernel_rfl) (by kernel_rfl) (by kernel_rfl)
theorem WT:fJ Tryz.prog Tryz.ty Tryz.glob 206 IS:=aBd (fun n h0 h1 w ht=>Tryz.strconv_Itoa n h0 h1 w ht) (bFk (by kernel_rfl:Tryz.prog.funcs[206]?=some Tryz.f206) (by kernel_rfl) (by kernel_rfl)) (g:=5) (by kernel_rfl) (by kernel_rfl)
theorem XM:fJ Tryz.prog Tryz.ty Tryz.glob 232 XY:=aBg (by kernel_rfl:Tryz.prog.funcs[232]?=some Tryz.f232) (by kernel_rfl) (by kernel_rfl) (by kernel_rfl) (by kernel_rfl)
theorem YX:fJ Tryz.prog Tryz.ty Tryz.glob 271 JP:=TX (by kernel_rfl:Tryz.prog.funcs[271]?=some Tryz.f271) (by kernel_rfl) (by kernel_rfl) (by kernel_rfl) (by kernel_rfl)
theorem YJ:fJ Tryz.prog Tryz.ty Tryz.glob 285 lF:=CK (by kernel_rfl:Tryz.prog.funcs[285]?=some Tryz.f285) (by kernel_rfl) (by kernel_rfl) (by kernel_rfl) (by kernel_rfl)
theorem WM:fJ Tryz.prog Tryz.ty Tryz.glob 286 (BL 5):=OE (t:=161) (by kernel_rfl:Tryz.prog.funcs[286]?=some Tryz.f286) (by kernel_rfl) (by kernel_rfl) (by kernel_rfl) (by kernel_rfl) (by kernel_rfl) (by kernel_rfl) (by kernel_rfl:eU Tryz.ty 5=some (1,false))
theorem aEa (f:FuncId) (g:List AV->St->Option (AV×St)) (h:Tryz.env0.prim f=some g):fJ Tryz.prog Tryz.ty Tryz.glob f g:=by
 have h:Tryz.prim0 Tryz.ty f=some g:=h;unfold Tryz.prim0 at h;generalize hb:bN _ f=b at h
 cases b with
 | false=>cases h
 | true =>
  simp only [cond_true] at h;unfold Tryz.primT at h
  split at h
  ·exact absurd hb (by decide)
  ·exact absurd hb (by decide)
  ·exact absurd hb (by decide)
  ·exact absurd hb (by decide)
  ·exact absurd hb (by decide)
  ·exact absurd hb (by decide)
  ·cases h;exact WT
  ·cases h;exact XM
  ·cases h;exact YX
  ·cases h;exact YJ
  ·cases h;exact WM
  ·cases h
theorem sQ:DI Tryz.prog Tryz.env0 where
 mixed:=by kernel_rfl
 ty:=KH
 eq:=aMc KH rfl
 fns:=fun f fn h=>⟨WC f fn h,HS f fn h⟩
 prim:=aEa
theorem aXs:fJ Tryz.prog Tryz.ty Tryz.glob 146 (cK Tryz.ty 67):=jB (t:=49) (z:=10) (ag:=true) (b:=((dW Tryz.ty 67).getD 0)) (zv:=((zero Tryz.ty 67).getD .undef)) sQ (fun x s Q h=>aSp x s (by unfold bJo;exact h)) (by kernel_rfl) (by kernel_rfl) (by kernel_rfl) (by kernel_rfl) (by decide) (by kernel_rfl)
theorem aXw:fJ Tryz.prog Tryz.ty Tryz.glob 147 (cK Tryz.ty 151):=jB (t:=65) (z:=2) (ag:=true) (b:=((dW Tryz.ty 151).getD 0)) (zv:=((zero Tryz.ty 151).getD .undef)) sQ (fun x s Q h=>aLm x s (by unfold bNg;exact h)) (by kernel_rfl) (by kernel_rfl) (by kernel_rfl) (by kernel_rfl) (by decide) (by kernel_rfl)
theorem aTe:fJ Tryz.prog Tryz.ty Tryz.glob 148 (cK Tryz.ty 33):=jB (t:=31) (z:=6) (ag:=true) (b:=((dW Tryz.ty 33).getD 0)) (zv:=((zero Tryz.ty 33).getD .undef)) sQ (fun x s Q h=>aJj x s (by unfold bKj;exact h)) (by kernel_rfl) (by kernel_rfl) (by kernel_rfl) (by kernel_rfl) (by decide) (by kernel_rfl)
theorem aVv:fJ Tryz.prog Tryz.ty Tryz.glob 152 (cK Tryz.ty 3):=jB (t:=72) (z:=1) (ag:=false) (b:=((dW Tryz.ty 3).getD 0)) (zv:=((zero Tryz.ty 3).getD .undef)) sQ (fun x s Q h=>aKz x s (by unfold bKq;exact h)) (by kernel_rfl) (by kernel_rfl) (by kernel_rfl) (by kernel_rfl) (by decide) (by kernel_rfl)
theorem aXl:fJ Tryz.prog Tryz.ty Tryz.glob 153 (cK Tryz.ty 211):=jB (t:=22) (z:=1) (ag:=false) (b:=((dW Tryz.ty 211).getD 0)) (zv:=((zero Tryz.ty 211).getD .undef)) sQ (fun x s Q h=>aJe x s (by unfold bMz;exact h)) (by kernel_rfl) (by kernel_rfl) (by kernel_rfl) (by kernel_rfl) (by decide) (by kernel_rfl)
theorem aWr:fJ Tryz.prog Tryz.ty Tryz.glob 154 (cK Tryz.ty 109):=jB (t:=25) (z:=2) (ag:=true) (b:=((dW Tryz.ty 109).getD 0)) (zv:=((zero Tryz.ty 109).getD .undef)) sQ (fun x s Q h=>aOq x s (by unfold bHl;exact h)) (by kernel_rfl) (by kernel_rfl) (by kernel_rfl) (by kernel_rfl) (by decide) (by kernel_rfl)
theorem aSl (f:FuncId) (g:List AV->St->Option (AV×St)) (h:mEv.prim f=some g):fJ Tryz.prog Tryz.ty Tryz.glob f g:=by
 have h:Tryz.prim Tryz.ty f=some g:=h;unfold Tryz.prim at h;generalize hb:bN _ f=b at h
 cases b with
 | false=>cases h
 | true =>
  simp only [cond_true] at h;unfold Tryz.primT at h
  split at h
  ·cases h;exact aXs
  ·cases h;exact aXw
  ·cases h;exact aTe
  ·cases h;exact aVv
  ·cases h;exact aXl
  ·cases h;exact aWr
  ·cases h;exact WT
  ·cases h;exact XM
  ·cases h;exact YX
  ·cases h;exact YJ
  ·cases h;exact WM
  ·cases h
theorem env_ok:DI Tryz.prog mEv where
 mixed:=by kernel_rfl
 ty:=KH
 eq:=aMc KH rfl
 fns:=fun f fn h=>⟨WC f fn h,HS f fn h⟩
 prim:=aSl
end
end Go.Proofs.YtdehdahimkcakaaGreatDoor
