/- Texts joined by wip/tools/pack.py: Itoa. -/
import Derived.Lib.ItoaNum
import Derived.Sort.Grow
import Derived.Deep.Draws
import Derived.Test.YtdehdahimkcakaaGreatDoorXk
open Nat renaming reduceAdd→Z0, reduceEqDiff→Z1
set_option linter.unusedSimpArgs false
set_option linter.unusedVariables false
namespace Go.Proofs.YtdehdahimkcakaaGreatDoor.Ai
open Go
noncomputable section
section
variable {P:Program} {T:Ty} {F:Fz} {ρ:fD} {s:St} {W:World}
theorem UG:∀ (f u:Nat),u < 10 ^ f->0 < f->uO f u=Lib.decDigits u:=by
 intro f
 induction f with
 | zero=>intro u _ h;omega
 | succ f ih =>
  intro u hu _;unfold uO;rw [Lib.decDigits];by_cases h:u < 10
  ·have:Nat.blt u 10=true:=by simp [Nat.blt];omega
   rw [this,dif_pos h];rfl
  ·have:Nat.blt u 10=false:=by
    cases hb:Nat.blt u 10 with
    | false=>rfl
    | true=>exact absurd (by simp [Nat.blt] at hb;omega) h
   rw [this,dif_neg h,cond_false]
   have hf:0 < f:=by
    rcases MZ f with rfl | h0
    ·simp at hu;omega
    ·exact h0
   rw [ih (u / 10) (by rw [Nat.pow_succ] at hu;omega) hf]
theorem aKo (n:Int) (h0:-9223372036854775808<=n) (h1:n<=9223372036854775807):cM n=Lib.itoa n:=by
 have hp:(10:Nat) ^ 20=100000000000000000000:=by decide
 unfold cM Lib.itoa
 split
 ·rw [UG 20 _ (by omega) (by decide)]
 ·rw [UG 20 _ (by omega) (by decide)]
theorem wW (k:Nat) (os:Array Obj) {β:Nat} (h:β < W.heap.size):(Sort.grow (W.drewN k) os).heap[β]?=W.heap[β]?:=by show (W.heap++os)[β]?=_;rw [Array.getElem?_append_left h]
theorem ZD (k:Nat) (os:Array Obj) {β:Nat} {o:Obj} (h:W.heap[β]?=some o):(Sort.grow (W.drewN k) os).heap[β]?=some o:=by
 have hlt:β < W.heap.size:=by
  rcases zP β W.heap.size with h' | h'
  ·exact h'
  ·rw [Array.getElem?_eq_none h'] at h;cases h
 rw [wW k os hlt];exact h
theorem aBo (k:Nat) (os:Array Obj) {a:Addr} {v:Value} (h:W.cell? a=some v):(Sort.grow (W.drewN k) os).cell? a=some v:=by have hlt:=World.block_lt_of_cell? W a h;unfold World.cell? at h ⊢;rw [wW k os hlt];exact h
theorem R.grow (h:R T F ρ s W) (k:Nat) (os:Array Obj):R T F ρ s (Sort.grow (W.drewN k) os)/\dM s ρ F W s ρ F (Sort.grow (W.drewN k) os):=by
 refine ⟨⟨fun id b hb=>?_,h.inj,fun a v ha=>⟨aBo k os (h.fz a v ha).1,(h.fz a v ha).2⟩,h.fresh⟩,
  ⟨rE.refl _,oA.refl _,rfl,rfl,rfl,?_,fun β hb _=>wW k os hb,fun _ hl _=>hl,fun _ _ ha _ _=>ha⟩⟩
 ·obtain ⟨β,z,o,h1,h2,h3⟩:=h.blk id b hb;exact ⟨β,z,o,h1,ZD k os h2,h3⟩
 ·show W.heap.size<=(W.heap++os).size;simp
theorem aYm {glob:Nat->Option (List AV)} {nm:String} {g:Nat} {zs:List Int} {kd:IntKind} (hg:P.globalNamed nm=some g) (hgl:glob g=some (zs.map fun z=>AV.int kd z)) (hz:zs≠[]) (hG:GlobOk T glob F W) (hR:R T F ρ s W):Lib.TabIs P W nm kd zs:=by
 obtain ⟨⟨w,hw⟩,h2⟩:=hG g _ hgl;obtain ⟨C,e,fr,h3,h4⟩:=h2 (by simpa using hz);unfold Lib.TabIs World.var?;rw [hg];simp only [Option.bind_some,h3,m000];rw [m002] at h4;apply Array.ext
 ·simpa using h4
 ·intro i hi hi2;have hi3:i < (zs.map fun z=>AV.int kd z).length:=by simp;omega
  obtain ⟨k1,k2⟩:=hw i hi3;have k3:=(hR.fz _ _ k1).1;unfold World.cell? at k3;simp only [h3,Option.isSome_none,m015,if_false] at k3;rw [m016 hi] at k3;simp only [m000] at k3;rw [k3];simp only [m070] at k2;generalize w i=v at k2;cases k2;simp
theorem aZc {f:FuncId} {fn:Func} (hf:P.funcs[f]?=some fn) (hname:(fn.name == "runtime.NumGoroutine")=false) (hb:fn.body.isNone=false):∀ args w,(callFunc f args).run P w=.ok (.enter f args) w:=by intro args w;simp only [callFunc,Sem.run_bind,run_program,Result.andThen_ok,hf,hname,hb,m015,if_false,Sem.run_pure]
theorem YT {glob:Nat->Option (List AV)} {f:FuncId}
  (hc:∀ (n:Int) (_:-9223372036854775808<=n) (_:n<=9223372036854775807) (w:World) (_:Lib.TabIs P w "internal/strconv.uint64pow10" .u64 Lib.pow10Tab),Calls P f #[.int .i64 n] w fun e w'=>e=.returned (.string ⟨(Lib.itoa n).toArray⟩)/\∃ k os,w'=Sort.grow (w.drewN k) os)
  (he:∀ args w,(callFunc f args).run P w=.ok (.enter f args) w) {g:Nat} (hg:P.globalNamed "internal/strconv.uint64pow10" = some g) (hgl:glob g=some (Lib.pow10Tab.map fun z=>AV.int .u64 z)):fP P T glob f GV:=by
 intro args s r s' hga vals ρ F W hcr hR hG;unfold GV at hga
 split at hga
 ·rename_i n
  split at hga
  ·rename_i hn;simp only [m000,m001] at hga;obtain ⟨rfl,rfl⟩:=hga;obtain ⟨u,rfl,hu⟩:=hcr.single
   cases hu with
   | int _ _ =>
   refine .inr (.inr ⟨f,_,he _ _,?_⟩);refine (hc n hn.1 hn.2 W (aYm hg hgl (by decide) hG hR)).mono fun e W' h=>?_;obtain ⟨rfl,k,os,rfl⟩:=h;obtain ⟨r1,r2⟩:=hR.grow k os;exact ⟨ρ,F,by rw [aKo n hn.1 hn.2];exact .str _ _ (by simp),r1,r2,fun _ _ _=>rfl,bH _⟩
  ·cases hga
 ·cases hga
end
end
end Go.Proofs.YtdehdahimkcakaaGreatDoor.Ai
