/- Texts joined by wip/tools/pack.py: Prim. -/
import Derived.Lib.MakeNoZero
import Derived.Lib.Bytealg
import Derived.Test.YtdehdahimkcakaaGreatDoorXh
open Nat renaming reduceAdd→Z0, reduceEqDiff→Z1
set_option linter.unusedSimpArgs false
set_option linter.unusedVariables false
namespace Go.Proofs.YtdehdahimkcakaaGreatDoor.Ai
open Go
noncomputable section
section
variable {P:Program} {T:Ty} {F:Fz} {ρ:fD} {s:St} {W:World}
def fP (P:Program) (T:Ty) (glob:Nat->Option (List AV)) (f:FuncId) (g:List AV->St->Option (AV×St)):Prop :=
 ∀ (args:List AV) (s:St) (r:AV) (s':St),g args s=some (r,s') ->
  ∀ (vals:Array Value) (ρ:fD) (F:Fz) (W:World),CR T F ρ args vals.toList->R T F ρ s W->GlobOk T glob F W->cY P T s.nx s ρ F W r s' (callFunc f vals)
theorem mL {f:FuncId} {fn:Func} {e:Array Value->Sem Value} (hf:P.funcs[f]?=some fn) (hname:(fn.name == "runtime.NumGoroutine")=false)
  (hb:fn.body.isNone=true) (hn:Extern.findNext fn=none) (he:Extern.find fn=some e) {vals:Array Value} {r:AV} {s':St} (h:iS P T s.nx s ρ F W r s' (e vals)):cY P T s.nx s ρ F W r s' (callFunc f vals):=by
 obtain ⟨v,W',ρ',F',h1,h2,h3,h4,h5,h6⟩:=h;refine .inl ⟨v,W',?_,ρ',F',h2,h3,h4,h5,h6⟩;rw [run_callFunc_extern hf hname hb hn he,h1];rfl
theorem aCp {glob:Nat->Option (List AV)} {f:FuncId} {fn:Func} (hf:P.funcs[f]?=some fn) (hname:(fn.name == "runtime.NumGoroutine")=false)
  (hb:fn.body.isNone=true) (hn:Extern.findNext fn=none) (he:Extern.find fn=some Extern.AbiNoEscape.same):fP P T glob f UI:=by
 intro args s r s' hg vals ρ F W hcr hR hG;unfold UI at hg
 split at hg
 ·rename_i x;simp only [m000,m001] at hg;obtain ⟨rfl,rfl⟩:=hg;obtain ⟨u,rfl,hu⟩:=hcr.single;exact mL hf hname hb hn he (cX.does hR _ ⟨u,rfl,hu⟩)
 ·cases hg
theorem OO (b:UInt8) (m:Nat):(b==UInt8.ofNat m)=Nat.beq b.toNat (m % 256):=by
 have e:(b=UInt8.ofNat m)↔b.toNat=m % 256:=by
  constructor
  ·intro h;rw [h];simp
  ·intro h;apply UInt8.toNat_inj.1;rw [h];simp
 by_cases h:b=UInt8.ofNat m
 ·rw [beq_iff_eq.2 h,e.1 h];simp
 ·rw [beq_eq_false_iff_ne.2 h]
  cases hb:Nat.beq b.toNat (m % 256) with
  | false=>rfl
  | true=>exact absurd (e.2 (jS hb)) h
theorem aTj (m:Nat):∀ (l:List UInt8) (i:Nat),IP (m % 256) l i=(if Lib.indexByte l (UInt8.ofNat m)=-1 then -1 else (i:Int)+Lib.indexByte l (UInt8.ofNat m)):=by
 intro l
 induction l with
 | nil=>intro i;rfl
 | cons b l ih =>
  intro i;unfold IP Lib.indexByte;rw [<- OO];have hge:=Lib.indexByte_ge l (UInt8.ofNat m)
  cases h:(b==UInt8.ofNat m) with
  | true=>simp
  | false =>
   simp only [cond_false,m015,if_false];rw [ih (i+1)];by_cases h2:Lib.indexByte l (UInt8.ofNat m)=-1
   ·simp [h2]
   ·have h3:(Lib.indexByte l (UInt8.ofNat m)==-1)=false:=by simpa using h2
    rw [if_neg h2,h3];simp only [m015,if_false];rw [if_neg (by omega)];omega
theorem AP {glob:Nat->Option (List AV)} {f:FuncId} {fn:Func} (hf:P.funcs[f]?=some fn) (hname:(fn.name == "runtime.NumGoroutine")=false)
  (hb:fn.body.isNone=true) (hn:Extern.findNext fn=none) (he:Extern.find fn=some Extern.BytealgIndexByte.indexByte):fP P T glob f oO:=by
 intro args s r s' hg vals ρ F W hcr hR hG;unfold oO at hg
 split at hg
 ·rename_i b c;simp only [m000,m001] at hg;obtain ⟨rfl,rfl⟩:=hg;obtain ⟨u,v,rfl,hu,hv⟩:=hcr.two
  cases hu with
  | str _ b' h1 =>
  cases hv with
  | int _ _ =>
  refine mL hf hname hb hn he (cX.does hR _ ⟨_,Lib.run_indexByteString b' c W,?_⟩);rw [h1]
  have:IP (c.toNat % 256) b 0=Lib.indexByte b c.toNat.toUInt8:=by
   rw [aTj];change (if Lib.indexByte b c.toNat.toUInt8=-1 then (-1:Int) else ((0:Nat):Int)+Lib.indexByte b c.toNat.toUInt8)=_
   split
   ·rename_i h;rw [h]
   ·simp
  rw [this];exact .int _ _
 ·cases hg
theorem XT (m:Nat):∀ (l:List UInt8),JA (m % 256) l=Lib.countByte l (UInt8.ofNat m):=by
 intro l
 induction l with
 | nil=>rfl
 | cons b l ih =>unfold JA Lib.countByte;rw [<- OO,ih,List.count_cons];unfold Lib.countByte;cases h:(b==UInt8.ofNat m)<;>simp [Nat.add_comm]
theorem QX {glob:Nat->Option (List AV)} {f:FuncId} {fn:Func} (hf:P.funcs[f]?=some fn) (hname:(fn.name == "runtime.NumGoroutine")=false)
  (hb:fn.body.isNone=true) (hn:Extern.findNext fn=none) (he:Extern.find fn=some Extern.BytealgCount.count):fP P T glob f IS:=by
 intro args s r s' hg vals ρ F W hcr hR hG;unfold IS at hg
 split at hg
 ·rename_i b c;simp only [m000,m001] at hg;obtain ⟨rfl,rfl⟩:=hg;obtain ⟨u,v,rfl,hu,hv⟩:=hcr.two
  cases hu with
  | str _ b' h1 =>
  cases hv with
  | int _ _ =>
  refine mL hf hname hb hn he (cX.does hR _ ⟨_,Lib.run_countString b' c W,?_⟩);rw [h1,XT];exact .int _ _
 ·cases hg
theorem MC {glob:Nat->Option (List AV)} {f:FuncId} {fn:Func} {t e:TypeId} {ag:Bool} (hf:P.funcs[f]?=some fn) (hname:(fn.name == "runtime.NumGoroutine")=false)
  (hb:fn.body.isNone=true) (hn:Extern.findNext fn=none) (he:Extern.find fn=some (Extern.BytealgMakeNoZero.makeNoZero fn.params fn.resultTypes)) (hrt:fn.resultTypes=#[t]) (ht:P.underlying t=some (.slice e)) (hl:eN T e=some (1,ag)):fP P T glob f (AH e):=by
 intro args s r s' hg vals ρ F W hcr hR hG;unfold AH at hg
 split at hg
 ·rename_i n
  split at hg
  ·rename_i hcond;simp only [m000,m001] at hg;obtain ⟨rfl,rfl⟩:=hg;obtain ⟨u,rfl,hu⟩:=hcr.single
   cases hu with
   | int _ _ =>
   have hmost:(most:Int)=1099511627776:=by decide
   obtain ⟨k,rfl⟩:=Int.eq_ofNat_of_zero_le hcond.1;obtain ⟨cs,h1,h2,h3⟩:=Lib.run_makeNoZero W (P:=P) fn.params t e ht k (by omega);have hnew:s.new (.cells (List.replicate ((k:Int).toNat) .undef) e false true)=⟨((⟨s.h,s.nx+1⟩:St).set s.nx (some (.cells (List.replicate k .undef) e false true))).h,s.nx+1⟩:=rfl;have hid:ρ s.nx=none:=hR.fresh _ (bH _);have hRd:R T F ρ s W.drew.drew:=hR.drew.drew
   have ho:OR T F ρ cs.size (.cells (List.replicate k .undef) e false true) (.cells cs e) :=
    ⟨rfl,rfl,by simpa using h2,(fun h=>(nomatch h)),fun j a b=>by rw [List.getElem_replicate];exact .undef _,fun _ j _ hh=>by simp at hh⟩
   obtain ⟨r1,r2⟩:=hRd.born (s':=s.new (.cells (List.replicate k .undef) e false true)) hid _ _ cs.size ho rfl (HS _) (Nat.lt_succ_self _);refine mL hf hname hb hn he ⟨_,_,_,F,by rw [hrt];exact h1,?_,r1,r2.drew.drew,fun i hi hne=>dT hne _,HS _⟩;exact .ref _ _ _ _ _ _ cs.size cs.size 1 ag (cQ _ _) hl (by simpa using h2) (fun k hk=>(nomatch hk)) (fun _=>by simp)
  ·cases hg
 ·cases hg
end
end
end Go.Proofs.YtdehdahimkcakaaGreatDoor.Ai
