/- Texts joined by wip/tools/pack.py: SimE,Walk1,bE,Walk2,Walk3. -/
import Derived.Orders
import Derived.Test.YtdehdahimkcakaaGreatDoorYe
open Nat (reduceAdd reduceEqDiff)
set_option linter.unusedSimpArgs false
set_option linter.unusedVariables false
noncomputable section
namespace Go.Proofs.YtdehdahimkcakaaGreatDoor.Ai
open Go
section
variable {P:Program} {T:Ty} {F:Fz} {ρ ρ':eZ} {s:St} {W:World}
def St.part (s:St) (p:Nat->Bool):St:=⟨fun m=>cond (p m) (s.h m) none,s.nx⟩
def St.join (s t:St) (p:Nat->Bool) (n:Nat):St:=⟨fun m=>cond (p m) (t.h m) (s.h m),n⟩
theorem VE {p:Nat->Bool} {m:Nat} (h:p m=true):(s.part p).h m=s.h m:=by simp [St.part,h]
theorem kO {p:Nat->Bool} {m:Nat} (h:(s.part p).h m≠none):p m=true/\s.h m≠none:=by
 cases hp:p m with
 | true=>rw [VE hp] at h;exact ⟨rfl,h⟩
 | false=>simp [St.part,hp] at h
theorem R.part (h:R T F ρ s W) (p:Nat->Bool):R T F ρ (s.part p) W:=by refine ⟨fun id b hb=>?_,fun i j β z1 z2 hi hj=>h.inj i j β z1 z2 (kO hi).2 (kO hj).2,fun a v ha=>⟨(h.fz a v ha).1,fun i z hi=>(h.fz a v ha).2 i z (kO hi).2⟩,h.fresh⟩;obtain ⟨h1,h2⟩:=kO (s:=s) (p:=p) (m:=id) (by rw [hb];simp);rw [VE h1] at hb;exact h.blk id b hb
theorem rD {t:St} {p:Nat->Bool} {n m:Nat} (h:p m=true):(s.join t p n).h m=t.h m:=by simp [St.join,h]
theorem nJ {t:St} {p:Nat->Bool} {n m:Nat} (h:p m=false):(s.join t p n).h m=s.h m:=by simp [St.join,h]
theorem PZ (hR:R T F ρ s W) {p:Nat->Bool} {t:St} {F':Fz} {W':World} (hS:dF (s.part p) ρ F W t ρ' F' W') (hR':R T F' ρ' t W') {n:Nat} (hn:t.nx<=n) :
  R T F' ρ' (s.join t p n) W'/\dF s ρ F W (s.join t p n) ρ' F' W':=by
 have hsub:∀ β,uW ρ (s.part p) β->uW ρ s β:=fun β ⟨i,z,h1,h2⟩=>⟨i,z,(kO h1).2,h2⟩;have hnot:∀ m β z,p m=false->s.h m≠none->ρ m=some (β,z)->¬ uW ρ (s.part p) β:=fun m β z hp hm hρ ⟨i,z',h1,h2⟩=>by obtain ⟨q1,q2⟩:=kO h1;have:=hR.inj i m β z' z q2 hm h2 hρ;rw [this,hp] at q1;cases q1
 have hlt:∀ m β z,s.h m≠none->ρ m=some (β,z)->β < W.heap.size:=fun m β z hm hρ=>by obtain ⟨b,hb⟩:=Option.ne_none_iff_exists'.1 hm;obtain ⟨β',z',o,h1,h2,h3,h4⟩:=hR.lt hb;rw [hρ] at h1;cases h1;exact h4
 have hold:∀ m,s.h m≠none->ρ' m=ρ m:=fun m hm=>by obtain ⟨b,hb⟩:=Option.ne_none_iff_exists'.1 hm;obtain ⟨β',z',o,h1,_⟩:=hR.lt hb;rw [hS.rho _ _ h1,h1]
 refine ⟨⟨fun m b hb=>?_,fun i j β z1 z2 hi hj h1 h2=>?_,fun a v ha=>⟨(hR'.fz a v ha).1,fun i z hi hc=>?_⟩,fun i hi=>hR'.fresh i (FM hn hi)⟩,
  ⟨hS.rho,hS.fz,hS.os,hS.tape,hS.output,hS.size,fun β hβ hl=>hS.same β hβ fun h=>hl (hsub β h),fun β ⟨i,z,h1,h2⟩ hβ=>?_,fun a v ha hb hl=>hS.cold a v ha hb fun h=>hl (hsub _ h)⟩⟩
 ·cases hp:p m with
  | true=>rw [rD hp] at hb;exact hR'.blk m b hb
  | false =>rw [nJ hp] at hb;obtain ⟨β,z,o,k1,k2,k3,k4⟩:=hR.lt hb;exact ⟨β,z,o,hS.rho _ _ k1,by rw [hS.same β k4 (hnot m β z hp (by rw [hb];simp) k1)];exact k2,k3.mono hS.fz hS.rho⟩
 ·have mixed:∀ i j β z1 z2,p i=true->p j=false->t.h i≠none->s.h j≠none->ρ' i=some (β,z1)->ρ' j=some (β,z2)->False:=by
   intro i j β z1 z2 hpi hpj hi hj h1 h2;rw [hold j hj] at h2;exact hnot j β z2 hpj hj h2 (hS.born β ⟨i,z1,hi,h1⟩ (hlt j β z2 hj h2))
  cases hpi:p i with
  | true =>
   rw [rD hpi] at hi
   cases hpj:p j with
   | true=>rw [rD hpj] at hj;exact hR'.inj i j β z1 z2 hi hj h1 h2
   | false=>rw [nJ hpj] at hj;exact (mixed i j β z1 z2 hpi hpj hi hj h1 h2).elim
  | false =>
   rw [nJ hpi] at hi
   cases hpj:p j with
   | true=>rw [rD hpj] at hj;exact (mixed j i β z2 z1 hpj hpi hj hi h2 h1).elim
   | false =>rw [nJ hpj] at hj;rw [hold i hi] at h1;rw [hold j hj] at h2;exact hR.inj i j β z1 z2 hi hj h1 h2
 ·cases hpi:p i with
  | true=>rw [rD hpi] at hi;exact (hR'.fz a v ha).2 i z hi hc
  | false =>rw [nJ hpi] at hi;rw [hold i hi] at hc;exact (hR.fz a v (hS.cold a v ha (hlt i _ z hi hc) (hnot i _ z hpi hi hc))).2 i z hi hc
 ·cases hpi:p i with
  | true=>rw [rD hpi] at h1;exact hsub β (hS.born β ⟨i,z,h1,h2⟩ hβ)
  | false =>rw [nJ hpi] at h1;rw [hold i h1] at h2;exact ⟨i,z,h1,h2⟩
end
end Go.Proofs.YtdehdahimkcakaaGreatDoor.Ai
namespace Go.Proofs.YtdehdahimkcakaaGreatDoor.Ai
open Go
section
variable {P:Program} {T:Ty} {F:Fz} {ρ ρ':eZ} {s:St} {W:World}
def cZ (X:Cx):Prop:=∀ f args s r s',X.call true f args s=some (r,s')->s'=s/\∀ n,X.call true f args ⟨s.h,n⟩=some (r,⟨s.h,n⟩)
theorem bHh (T:Ty) (s:St) (n:Nat):∀ k v,pur T ⟨s.h,n⟩ k v=pur T s k v:=by
 intro k
 induction k with
 | zero=>intro v;unfold pur;rfl
 | succ k ih =>intro v;have e:pur T ⟨s.h,n⟩ k=pur T s k:=funext ih;unfold pur;simp only [e]
theorem tJ (E:lI) (cl:FuncId->List AV->St->Option (AV×St)) (f:FuncId):cZ (cx E cl f):=by
 intro g args s r s' h;have h:gN E cl f true g args s=some (r,s'):=h
 have goal:∀ s',gN E cl f true g args s=some (r,s')->s'=s/\∀ n,gN E cl f true g args ⟨s.h,n⟩=some (r,⟨s.h,n⟩):=by
  intro s' h;have e:∀ n,pur E.P ⟨s.h,n⟩ 12=pur E.P s 12:=fun n=>funext (bHh E.P s n 12);unfold gN at h ⊢
  split at h
  ·rename_i hp;simp only [if_pos hp,e]
   cases hl:dH (pur E.P s 12) args with
   | none=>rw [hl] at h;cases h
   | some as =>
    rw [hl] at h;simp only [Option.bind_some] at h ⊢
    cases hc:cl g as.1 St.empty with
    | none=>rw [hc] at h;cases h
    | some q =>
     rw [hc] at h;simp only [Option.bind_some] at h ⊢
     cases hv:pur E.P q.2 12 q.1 with
     | none=>rw [hv] at h;cases h
     | some v =>
      rw [hv] at h;simp only [Option.bind_some] at h ⊢
      split at h
      ·rename_i hcond;simp only [m000,m001] at h;obtain ⟨rfl,rfl⟩:=h;exact ⟨rfl,fun n=>by rw [if_pos hcond]⟩
      ·simp at h
  ·simp at h
 exact goal s' h
theorem gU {s t:St} {r:AV} {q:Option AV} (h:q.map (·,s)=some (r,t)):t=s/\q=some r:=by
 cases q with
 | none=>cases h
 | some x=>simp only [Option.map_some,m000,m001] at h;exact ⟨h.2.symm,by rw [h.1]⟩
theorem sL {X:Cx} {b:Builtin} {ats:Array TypeId} {args:List AV} {id:Nat} {r:AV} {t:St} (h:bK X b ats args id s=some (r,t)) (hw:b≠.append/\b≠.copy/\b≠.unsafeString) :
  t=s/\∀ n,bK X b ats args id ⟨s.h,n⟩=some (r,⟨s.h,n⟩):=by
 unfold bK at h
 split at h
 ·rename_i x
  cases hd:(ats[0]?).bind (eH X.P) with
  | none=>rw [hd] at h;cases h
  | some d =>
   rw [hd] at h;simp only [Option.bind_some] at h
   split at h
   ·rename_i hl
    cases hn:vW x s with
    | none=>rw [hn] at h;cases h
    | some k =>rw [hn] at h;simp only [Option.map_some,m000,m001] at h;obtain ⟨rfl,rfl⟩:=h;refine ⟨rfl,fun n=>?_⟩;simp only [bK,hd,Option.bind_some,if_pos hl];rw [show vW x ⟨s.h,n⟩=vW x s from rfl,hn];rfl
   ·cases h
 ·rename_i x
  cases hd:(ats[0]?).bind (eH X.P) with
  | none=>rw [hd] at h;cases h
  | some d =>
   rw [hd] at h;simp only [Option.bind_some] at h
   split at h
   ·cases hn:RK x with
    | none=>rw [hn] at h;cases h
    | some k =>rw [hn] at h;simp only [Option.map_some,m000,m001] at h;obtain ⟨rfl,rfl⟩:=h;refine ⟨rfl,fun n=>?_⟩;simp only [bK,hd,Option.bind_some,hn];rfl
   ·cases h
 ·obtain ⟨h1,h2⟩:=gU h;exact ⟨h1,fun n=>by simp only [bK,h2];rfl⟩
 ·obtain ⟨h1,h2⟩:=gU h;exact ⟨h1,fun n=>by simp only [bK,h2];rfl⟩
 ·exact absurd rfl hw.1
 ·exact absurd rfl hw.2.1
 ·split at h
  ·simp only [m000,m001] at h;obtain ⟨rfl,rfl⟩:=h;exact ⟨rfl,fun n=>rfl⟩
  ·rename_i i off _ cap _
   cases hb:s.h i with
   | none=>rw [hb] at h;cases h
   | some bk =>
    rw [hb] at h
    cases bk with
    | cells c e' ex wr =>
     simp only at h
     split at h
     ·rename_i hc;simp only [m000,m001] at h;obtain ⟨rfl,rfl⟩:=h;refine ⟨rfl,fun n=>?_⟩;simp only [bK,hb];rw [if_pos hc]
     ·cases h
    | _=>cases h
  ·cases h
 ·exact absurd rfl hw.2.2
 ·cases h
theorem yI {X:Cx} (hp:cZ X) {id:Nat} {e:Operand->AV} {o:Oper} {r:AV} {t:St} (h:fP X true id e o s=some (r,t)) (hw:cA o.op=false) :
  t=s/\∀ n,fP X true id e o ⟨s.h,n⟩=some (r,⟨s.h,n⟩):=by
 unfold fP at h ⊢
 cases ho:o.op with
 | move x=>simp only [ho,m000,m001] at h ⊢;exact ⟨h.2.symm,fun n=>⟨h.1,trivial⟩⟩
 | assign x=>simp only [ho,m000,m001] at h ⊢;exact ⟨h.2.symm,fun n=>⟨h.1,trivial⟩⟩
 | pick c a b =>
  simp only [ho] at h ⊢
  cases hb:KX (e c) with
  | none=>rw [hb] at h;cases h
  | some q=>rw [hb] at h;simp only [Option.bind_some,m000,m001] at h ⊢;exact ⟨h.2.symm,fun n=>⟨h.1,trivial⟩⟩
 | alloc=>rw [ho] at hw;cases hw
 | box=>rw [ho] at hw;cases hw
 | store=>rw [ho] at hw;cases hw
 | mapUpdate=>rw [ho] at hw;cases hw
 | makeSlice=>rw [ho] at hw;cases hw
 | makeMap=>rw [ho] at hw;cases hw
 | build=>simp only [ho] at h ⊢;obtain ⟨h1,h2⟩:=gU h;exact ⟨h1,fun n=>by rw [h2];rfl⟩
 | buildSlice=>simp only [ho] at h ⊢;obtain ⟨h1,h2⟩:=gU h;exact ⟨h1,fun n=>by rw [h2];rfl⟩
 | binOp=>simp only [ho] at h ⊢;obtain ⟨h1,h2⟩:=gU h;exact ⟨h1,fun n=>by rw [h2];rfl⟩
 | unOp=>simp only [ho] at h ⊢;obtain ⟨h1,h2⟩:=gU h;exact ⟨h1,fun n=>by rw [h2];rfl⟩
 | fieldAddr=>simp only [ho] at h ⊢;obtain ⟨h1,h2⟩:=gU h;exact ⟨h1,fun n=>by rw [h2];rfl⟩
 | field=>simp only [ho] at h ⊢;obtain ⟨h1,h2⟩:=gU h;exact ⟨h1,fun n=>by rw [h2];rfl⟩
 | indexAddr=>simp only [ho] at h ⊢;obtain ⟨h1,h2⟩:=gU h;exact ⟨h1,fun n=>by rw [h2];rfl⟩
 | index=>simp only [ho] at h ⊢;obtain ⟨h1,h2⟩:=gU h;exact ⟨h1,fun n=>by rw [h2];rfl⟩
 | convert src dst x =>simp only [ho] at h ⊢;obtain ⟨h1,h2⟩:=gU h;exact ⟨h1,fun n=>by rw [show mH X.P src dst (e x) ⟨s.h,n⟩=mH X.P src dst (e x) s from rfl,h2];rfl⟩
 | slice ty x lo hi mx =>simp only [ho] at h ⊢;obtain ⟨h1,h2⟩:=gU h;exact ⟨h1,fun n=>by rw [show gA X.P ty (e x) (lo.map e) (hi.map e) (mx.map e) ⟨s.h,n⟩=gA X.P ty (e x) (lo.map e) (hi.map e) (mx.map e) s from rfl,h2];rfl⟩
 | lookup ty m k ok =>simp only [ho] at h ⊢;obtain ⟨h1,h2⟩:=gU h;exact ⟨h1,fun n=>by rw [show eA X.P ty (e m) (e k) ok ⟨s.h,n⟩=eA X.P ty (e m) (e k) ok s from rfl,h2];rfl⟩
 | load ty a =>
  simp only [ho] at h ⊢
  cases hl:eP X.P ty with
  | none=>rw [hl] at h;cases h
  | some l =>rw [hl] at h;simp only [Option.bind_some] at h ⊢;obtain ⟨h1,h2⟩:=gU h;exact ⟨h1,fun n=>by rw [show load l.1 l.2 (e a) ⟨s.h,n⟩=load l.1 l.2 (e a) s from rfl,h2];rfl⟩
 | nilCheck x =>
  simp only [ho] at h ⊢
  split at h<;>first | (cases h;done) | (simp only [m000,m001] at h ⊢;exact ⟨h.2.symm,fun n=>⟨h.1,trivial⟩⟩)
 | makeInterface ty x =>
  simp only [ho] at h ⊢
  split at h
  ·cases h
  ·cases h
  ·simp only [m000,m001] at h;exact ⟨h.2.symm,fun n=>by simp only [h.1]⟩
 | makeFunc fn a b =>cases fn<;>simp only [ho] at h ⊢<;>first | (cases h;done) | (simp only [m000,m001] at h ⊢;exact ⟨h.2.symm,fun n=>⟨h.1,trivial⟩⟩)
 | extract x i =>
  simp only [ho] at h ⊢
  split at h
  ·rename_i vs _;obtain ⟨h1,h2⟩:=gU h;exact ⟨h1,fun n=>by simp only [h2];rfl⟩
  ·cases h
 | call c =>
  simp only [ho] at h ⊢
  cases hc:c.callee with
  | value f =>
   simp only [hc] at h ⊢
   split at h
   ·exact hp _ _ _ _ _ h
   ·cases h
  | invoke a b=>simp only [hc] at h;cases h
  | builtin b =>
   simp only [hc] at h ⊢;rw [ho] at hw
   exact sL h (by
    refine ⟨?_,?_,?_⟩<;>(intro hb;subst hb;simp [cA,hc] at hw))
 | _=>simp only [ho] at h;cases h
theorem QU {X:Cx} {b:Builtin} {ats:Array TypeId} {args:List AV} {id:Nat} {r:AV} {t:St} (h:bK X b ats args id s=some (r,t)):t.nx=s.nx:=by
 by_cases hb:b≠.append/\b≠.copy/\b≠.unsafeString
 ·rw [(sL h hb).1]
 ·have grown_nx:∀ e z b c (s1:St),dM e z b c id s1=some (r,t)->t.nx=s1.nx:=fun e z b c s1 h=>by
   unfold dM at h
   split at h
   ·simp only [jV,m000,m001] at h;obtain ⟨_,rfl⟩:=h;rfl
   ·cases h
  have append_nx:∀ e z b x c,bL e z b x c id s=some (r,t)->t.nx=s.nx:=fun e z b x c h=>by
   unfold bL at h
   split at h
   ·split at h<;>first | (cases h;done) | (simp only [m000,m001] at h;obtain ⟨_,rfl⟩:=h;rfl)
   ·split at h
    ·cases h
    ·split at h
     ·exact grown_nx _ _ _ _ _ h
     ·split at h
      ·exact grown_nx _ _ _ _ _ h
      ·cases h
     ·split at h
      ·split at h
       ·split at h
        ·split at h
         ·split at h
          ·simp only [m000,m001] at h;obtain ⟨_,rfl⟩:=h;rfl
          ·cases h
         ·exact grown_nx _ _ _ _ _ h
        ·split at h
         ·simp only [m000,m001] at h;obtain ⟨_,rfl⟩:=h;rfl
         ·split at h
          ·exact grown_nx _ _ _ _ (s.set _ none) h
          ·cases h
       ·cases h
      ·cases h
     ·cases h
  unfold bK at h
  split at h
  ·exact absurd ⟨by simp,by simp,by simp⟩ hb
  ·exact absurd ⟨by simp,by simp,by simp⟩ hb
  ·exact absurd ⟨by simp,by simp,by simp⟩ hb
  ·exact absurd ⟨by simp,by simp,by simp⟩ hb
  ·split at h
   ·split at h
    ·split at h
     ·exact append_nx _ _ _ _ _ h
     ·cases h
    ·cases h
   ·split at h
    ·split at h
     ·cases hc:aR _ _ s with
      | none=>rw [hc] at h;cases h
      | some c=>rw [hc] at h;exact append_nx _ _ _ _ _ h
     ·cases h
    ·cases h
   ·split at h
    ·split at h
     ·cases hc:aR _ _ s with
      | none=>rw [hc] at h;cases h
      | some c=>rw [hc] at h;exact append_nx _ _ _ _ _ h
     ·cases h
    ·cases h
   ·cases h
  ·split at h
   ·split at h
    ·split at h
     ·cases h
     ·cases hc:aR _ _ s with
      | none=>rw [hc] at h;cases h
      | some c =>
       rw [hc] at h;simp only [Option.bind_some] at h;unfold pA at h
       split at h
       ·simp only [m000,m001] at h;obtain ⟨_,rfl⟩:=h;rfl
       ·simp only [m000,m001] at h;obtain ⟨_,rfl⟩:=h;rfl
       ·simp only [m000,m001] at h;obtain ⟨_,rfl⟩:=h;rfl
       ·simp only at h
        split at h
        ·split at h
         ·simp only [m000,m001] at h;obtain ⟨_,rfl⟩:=h;rfl
         ·cases h
        ·cases h
       ·cases h
    ·cases h
   ·cases h
  ·exact absurd ⟨by simp,by simp,by simp⟩ hb
  ·split at h
   ·split at h
    ·split at h
     ·split at h
      ·split at h
       ·cases hc:fH _ with
        | none=>rw [hc] at h;cases h
        | some c =>
         rw [hc] at h;simp only [Option.bind_some] at h
         split at h
         ·simp only [m000,m001] at h;obtain ⟨_,rfl⟩:=h;rfl
         ·cases h
       ·cases h
      ·cases h
     ·cases h
    ·simp only [m000,m001] at h;obtain ⟨_,rfl⟩:=h;rfl
    ·simp only [m000,m001] at h;obtain ⟨_,rfl⟩:=h;rfl
    ·cases h
   ·cases h
  ·cases h
theorem bCn {X:Cx} (hp:cZ X) {id:Nat} {e:Operand->AV} {o:Oper} {r:AV} {t:St} (h:fP X true id e o s=some (r,t)):t.nx=s.nx:=by
 cases hw:cA o.op with
 | false=>rw [(yI hp h hw).1]
 | true =>
  unfold fP at h;cases ho:o.op<;>rw [ho] at hw<;>first | (cases hw;done) | skip
  case alloc ty =>
   simp only [ho] at h
   cases hz:zero X.P ty with
   | none=>rw [hz] at h;cases h
   | some z=>rw [hz] at h;simp only [Option.map_some,m000,m001] at h;obtain ⟨_,rfl⟩:=h;rfl
  case box ty x =>
   simp only [ho] at h
   split at h
   ·simp only [m000,m001] at h;obtain ⟨_,rfl⟩:=h;rfl
   ·cases h
  case store ty a x =>
   simp only [ho] at h
   cases hl:eP X.P ty with
   | none=>rw [hl] at h;cases h
   | some l =>
    rw [hl] at h;simp only [Option.bind_some] at h
    cases hs:Ai.store l.1 (e a) (e x) s with
    | none=>rw [hs] at h;cases h
    | some s1 =>
     rw [hs] at h;simp only [Option.map_some,m000,m001] at h;obtain ⟨_,rfl⟩:=h;unfold Ai.store at hs
     split at hs
     ·split at hs
      ·split at hs
       ·simp only [m000] at hs;subst hs;rfl
       ·cases hs
      ·cases hs
     ·cases hs
  case makeMap ty q =>
   cases q with
   | none=>simp only [ho,m000,m001] at h;obtain ⟨_,rfl⟩:=h;rfl
   | some q=>simp only [ho] at h;cases h
  case makeSlice ty n c =>
   simp only [ho] at h
   split at h
   ·split at h
    ·split at h
     ·simp only [m000,m001] at h;obtain ⟨_,rfl⟩:=h;rfl
     ·cases h
    ·cases h
   ·cases h
  case mapUpdate ty m k x =>
   simp only [ho] at h
   cases hs:eI X.P ty (e m) (e k) (e x) s with
   | none=>rw [hs] at h;cases h
   | some s1 =>
    rw [hs] at h;simp only [Option.map_some,m000,m001] at h;obtain ⟨_,rfl⟩:=h;unfold eI at hs
    split at hs
    ·rename_i kt _ _
     cases hk:eH X.P kt with
     | none=>rw [hk] at hs;cases hs
     | some kd =>
      rw [hk] at hs;simp only [Option.bind_some] at hs
      split at hs
      ·split at hs
       ·split at hs
        ·cases hf:find (e k) _ with
         | none=>rw [hf] at hs;cases hs
         | some q=>rw [hf] at hs;simp only [Option.map_some,m000] at hs;subst hs;rfl
        ·cases hs
       ·cases hs
      ·cases hs
    ·cases hs
  case call c =>
   simp only [ho] at h
   cases hc:c.callee with
   | value f=>simp [cA,hc] at hw
   | invoke a b=>simp [cA,hc] at hw
   | builtin b=>simp only [hc] at h;exact QU h
theorem ZK {X:Cx} {dr:Bool} {id:Nat} {e e':Operand->AV} {o:Oper} (h:∀ x∈iL o.op,e x=e' x) (s:St):fP X dr id e o s=fP X dr id e' o s:=by
 have parts:∀ ps:Array (Nat×Operand),(∀ x∈ps.toList.map (·.2),e x=e' x)->(ps.toList.map fun p=>(p.1,e p.2))=(ps.toList.map fun p=>(p.1,e' p.2)):=fun ps hp =>
  List.map_congr_left fun p hm=>by rw [hp p.2 (m021.2 ⟨p,hm,rfl⟩)]
 unfold fP;cases ho:o.op<;>rw [ho] at h<;>simp only [iL] at h
 case build ty ps=>simp only [parts ps h]
 case buildSlice ty n ps=>simp only [parts ps h]
 case makeFunc fn a b =>cases fn<;>simp only;rw [List.map_congr_left (fun x hx=>h x (m041 _ hx)),List.map_congr_left (l:=b.toList) (fun x hx=>h x (m049 _ hx))]
 case slice ty x lo hi mx =>
  have h1:e x=e' x:=h x (m007 ..);have hl:lo.map e=lo.map e':=by cases lo with | none=>rfl | some y=>simp only [Option.map_some,h y (by simp)]
  have hh:hi.map e=hi.map e':=by cases hi with | none=>rfl | some y=>simp only [Option.map_some,h y (by simp)]
  have hm:mx.map e=mx.map e':=by cases mx with | none=>rfl | some y=>simp only [Option.map_some,h y (by simp)]
  simp only [h1,hl,hh,hm]
 case call c =>
  have ha:c.args.toList.map e=c.args.toList.map e':=List.map_congr_left fun x hx=>h x (m049 _ hx)
  cases hc:c.callee with
  | value f =>have hf:e f=e' f:=h f (by simp [hc]);simp only [ha,hc,hf]
  | invoke a b=>simp only [hc]
  | builtin b=>simp only [ha,hc]
 case makeMap ty q=>cases q<;>rfl
 all_goals (first | rfl | (simp_all;done))
end
end Go.Proofs.YtdehdahimkcakaaGreatDoor.Ai
namespace Go.Proofs.YtdehdahimkcakaaGreatDoor.Ai
open Go
section
variable {P:Program} {T:Ty} {F:Fz} {ρ ρ':eZ} {s:St} {W:World}
theorem yT {s t:St} (h:∀ m,s.h m=t.h m) (hn:s.nx=t.nx):s=t:=by cases s;cases t;simp only at hn;subst hn;congr 1;exact funext h
theorem bM {n:Nat}:∀ {l:List Nat},dK n l=true↔n∈l:=by
 intro l
 induction l with
 | nil=>simp [dK]
 | cons m l ih=>simp [dK,ih,Nat.beq_eq]
theorem WU (hR:R T F ρ s W) {m:Nat} (h:ρ m=none):s.h m=none:=by
 cases hb:s.h m with
 | none=>rfl
 | some b=>obtain ⟨β,z,o,h1,_⟩:=hR.blk m b hb;rw [h] at h1;cases h1
theorem bEz {X:Cx} (hT:dL P X.P) (hE:xM P X.P X.eqOk) (hC:lL P X) (hp:cZ X) (hR:R X.P F ρ s W) (hG:GlobOk X.P X.glob F W) {id:Nat} (hid:ρ id=none) (hlt:id < s.nx) {e:Operand->AV} {g:Operand->Value} (he:∀ x,VR X.P F ρ (e x) (g x))
  {o:Oper} {r:AV} {s':St} (h:rM X id e o s=some (r,s')):cX P X.P id s ρ F W r s' (execOp g o):=by
 have hdead:=WU hR hid;unfold rM at h;generalize dD e o.op s=l at h
 cases hw:gG X e o.op with
 | true =>
  rw [hw] at h;simp only [cond_true] at h
  cases ho:fP X false id e o (s.only l) with
  | none=>rw [ho] at h;cases h
  | some q =>
   obtain ⟨r1,t⟩:=q;rw [ho] at h;simp only [Option.map_some,m000,m001] at h;obtain ⟨rfl,rfl⟩:=h
   let p:Nat->Bool:=fun m=>dK m l||Nat.ble s.nx m
   have hpart:s.only l=s.part p:=yT (fun m=>by
    simp only [St.only,St.part,p]
    cases hb:Nat.ble s.nx m with
    | false=>simp
    | true =>
     have:s.h m=none:=WU hR (hR.fresh m (Nat.le_of_ble_eq_true hb))
     rw [this];cases dK m l<;>rfl) rfl
   rw [hpart] at ho;have:=TR hT hE hC (hR.part p) hG hid hlt he ho;refine this.map fun v W' ⟨ρ',F',k1,k2,k3,k4,k5⟩=>?_;obtain ⟨q1,q2⟩:=PZ hR k3 k2 (bJ t.nx);exact ⟨ρ',F',k1,q1,q2,k4,k5⟩
 | false =>
  rw [hw] at h;simp only [cond_false] at h
  cases ho:fP X true id e o (s.only l) with
  | none=>rw [ho] at h;cases h
  | some q =>
   obtain ⟨r1,t⟩:=q;rw [ho] at h;simp only [Option.map_some,m000,m001] at h;obtain ⟨rfl,rfl⟩:=h
   let p:Nat->Bool:=fun m=>dK m (id::l)
   have hpart:s.only l=s.part p:=yT (fun m=>by
    simp only [St.only,St.part,p,dK]
    cases hb:Nat.beq m id with
    | false=>simp
    | true =>
     have hm:=iC hb;subst hm
     rw [hdead];cases dK m l<;>rfl) rfl
   have hnx:=bCn hp ho;have hrd:cA o.op=false->t=s.only l:=fun hwr=>(yI hp ho hwr).1;rw [hpart] at ho;have:=TR hT hE hC (hR.part p) hG hid hlt he ho;refine this.map fun v W' ⟨ρ',F',k1,k2,k3,k4,k5⟩=>?_;obtain ⟨q1,q2⟩:=PZ hR k3 k2 (n:=s.nx) (by rw [hnx];exact bJ _)
   cases hwr:cA o.op with
   | true=>exact ⟨ρ',F',k1,q1,q2,k4,bJ _⟩
   | false =>
    have hj:s.join t p s.nx=s:=yT (fun m=>by
     rw [hrd hwr];simp only [St.join,p]
     cases hm:dK m (id::l) with
     | false=>rfl
     | true =>
      simp only [cond_true,St.only];simp only [dK] at hm
      cases hb:Nat.beq m id with
      | true=>have hm':=iC hb;subst hm';rw [hdead];cases dK m l<;>rfl
      | false=>rw [hb,m026] at hm;rw [hm];rfl) rfl
    rw [hj] at q1 q2;exact ⟨ρ',F',k1,q1,q2,k4,bJ _⟩
end
end Go.Proofs.YtdehdahimkcakaaGreatDoor.Ai
namespace Go.Proofs.YtdehdahimkcakaaGreatDoor.Ai
open Go
section
variable {s:St}
def re (n:Nat) (r:AV×St):AV×St:=(r.1,⟨r.2.h,n⟩)
theorem aJa (n:Nat) (e z b c id) (s:St):dM e z b c id ⟨s.h,n⟩=(dM e z b c id s).map (re n):=by unfold dM;split<;>rfl
theorem tQ (n:Nat) (e z b x c id) (s:St):bL e z b x c id ⟨s.h,n⟩=(bL e z b x c id s).map (re n):=by
 have hg:∀ (c:List AV) (s:St),dM e z b c id ⟨s.h,n⟩=(dM e z b c id s).map (re n):=fun c s=>aJa n e z b c id s;unfold bL;dsimp only
 split
 ·split<;>rfl
 ·split
  ·rfl
  ·split
   ·exact hg _ _
   ·split
    ·exact hg _ _
    ·rfl
   ·split
    ·split
     ·split
      ·split
       ·split<;>rfl
       ·exact hg _ _
      ·split
       ·rfl
       ·split
        ·exact hg _ (s.set _ none)
        ·rfl
     ·rfl
    ·rfl
   ·rfl
theorem aNa (n:Nat) (z x c) (s:St):pA z x c ⟨s.h,n⟩=(pA z x c s).map (re n):=by
 unfold pA;dsimp only
 split
 ·rfl
 ·rfl
 ·rfl
 ·split
  ·split<;>rfl
  ·rfl
 ·rfl
theorem OA (n:Nat) (X:Cx) (b ats args id) (s:St):bK X b ats args id ⟨s.h,n⟩=(bK X b ats args id s).map (re n):=by
 unfold bK;dsimp only
 split
 ·cases (ats[0]?).bind (eH X.P) with
  | none=>rfl
  | some d =>
   simp only [Option.bind_some]
   split
   ·rename_i x _;rw [show vW x ⟨s.h,n⟩=vW x s from rfl];cases vW x s<;>rfl
   ·rfl
 ·rename_i x
  cases (ats[0]?).bind (eH X.P) with
  | none=>rfl
  | some d =>
   simp only [Option.bind_some]
   split
   ·cases RK x<;>rfl
   ·rfl
 ·cases zK (fun y x=>decide (y < x)) args<;>rfl
 ·cases zK (fun y x=>decide (x < y)) args<;>rfl
 ·split
  ·split
   ·split
    ·exact tQ n _ _ _ _ _ id s
    ·rfl
   ·rfl
  ·split
   ·split
    ·rename_i y _ _ _ _ _ _ _ _ _ _ z _ _ _ _ _ _ _;rw [show aR _ _ ⟨s.h,n⟩=aR _ _ s from rfl]
     cases aR _ _ s with
     | none=>rfl
     | some c=>exact tQ n _ _ _ _ _ id s
    ·rfl
   ·rfl
  ·split
   ·split
    ·rw [show aR _ _ ⟨s.h,n⟩=aR _ _ s from rfl]
     cases aR _ _ s with
     | none=>rfl
     | some c=>exact tQ n _ _ _ _ _ id s
    ·rfl
   ·rfl
  ·rfl
 ·split
  ·split
   ·split
    ·rfl
    ·rw [show aR _ _ ⟨s.h,n⟩=aR _ _ s from rfl]
     cases aR _ _ s with
     | none=>rfl
     | some c=>exact aNa n _ _ _ s
   ·rfl
  ·rfl
 ·split
  ·rfl
  ·split
   ·split<;>rfl
   ·rfl
  ·rfl
 ·split
  ·split
   ·split
    ·split
     ·split
      ·cases fH _ with
       | none=>rfl
       | some c =>
        simp only [Option.bind_some]
        split<;>rfl
      ·rfl
     ·rfl
    ·rfl
   ·rfl
   ·rfl
   ·rfl
  ·rfl
 ·rfl
theorem xJ (n:Nat) (s:St) (q:Option AV):q.map (·,(⟨s.h,n⟩:St))=(q.map (·,s)).map (re n):=by cases q<;>rfl
theorem aSg {X:Cx} (hp:cZ X) (n:Nat) (f:FuncId) (args:List AV) (s:St):X.call true f args ⟨s.h,n⟩=(X.call true f args s).map (re n):=by
 cases h:X.call true f args s with
 | some q =>obtain ⟨r,s'⟩:=q;obtain ⟨rfl,h2⟩:=hp _ _ _ _ _ h;rw [h2 n];rfl
 | none =>
  cases h2:X.call true f args ⟨s.h,n⟩ with
  | none=>rfl
  | some q =>obtain ⟨r,s'⟩:=q;have:=(hp _ _ _ _ _ h2).2 s.nx;have e:(⟨(⟨s.h,n⟩:St).h,s.nx⟩:St)=s:=rfl;rw [e,h] at this;cases this
theorem bEs {X:Cx} (hp:cZ X) (n:Nat) (id:Nat) (e:Operand->AV) (o:Oper) (s:St):fP X true id e o ⟨s.h,n⟩=(fP X true id e o s).map (re n):=by
 unfold fP
 cases ho:o.op with
 | move | assign=>rfl
 | pick c a b=>simp only;cases KX (e c)<;>rfl
 | alloc ty=>simp only;cases zero X.P ty<;>rfl
 | box ty x=>simp only;split<;>rfl
 | build | buildSlice | binOp | unOp | fieldAddr | field | indexAddr | index=>exact xJ n s _
 | convert src dst x=>exact xJ n s (mH X.P src dst (e x) s)
 | slice ty x lo hi mx=>exact xJ n s (gA X.P ty (e x) (lo.map e) (hi.map e) (mx.map e) s)
 | lookup ty m k ok=>exact xJ n s (eA X.P ty (e m) (e k) ok s)
 | load ty a =>
  simp only
  cases eP X.P ty with
  | none=>rfl
  | some l=>exact xJ n s (load l.1 l.2 (e a) s)
 | store ty a x =>
  simp only
  cases eP X.P ty with
  | none=>rfl
  | some l =>
   simp only [Option.bind_some]
   have:Ai.store l.1 (e a) (e x) ⟨s.h,n⟩=(Ai.store l.1 (e a) (e x) s).map fun t=>⟨t.h,n⟩:=by
    unfold Ai.store;dsimp only
    split
    ·split
     ·split<;>rfl
     ·rfl
    ·rfl
   rw [this];cases Ai.store l.1 (e a) (e x) s<;>rfl
 | nilCheck x=>simp only;split<;>rfl
 | makeInterface ty x=>simp only;split<;>rfl
 | makeFunc fn a b=>cases fn<;>rfl
 | makeMap ty q=>cases q<;>rfl
 | makeSlice ty a c =>
  simp only
  split
  ·split
   ·split<;>rfl
   ·rfl
  ·rfl
 | mapUpdate ty m k x =>
  simp only
  have:eI X.P ty (e m) (e k) (e x) ⟨s.h,n⟩=(eI X.P ty (e m) (e k) (e x) s).map fun t=>⟨t.h,n⟩:=by
   unfold eI;dsimp only
   split
   ·rename_i kt _ _
    cases eH X.P kt with
    | none=>rfl
    | some kd =>
     simp only [Option.bind_some]
     split
     ·split
      ·split
       ·cases find (e k) _<;>rfl
       ·rfl
      ·rfl
     ·rfl
   ·rfl
  rw [this];cases eI X.P ty (e m) (e k) (e x) s<;>rfl
 | extract x i =>
  simp only
  split
  ·exact xJ n s _
  ·rfl
 | call c =>
  simp only
  cases c.callee with
  | value f =>
   simp only
   split
   ·exact aSg hp n _ _ s
   ·rfl
  | invoke a b=>rfl
  | builtin b=>exact OA n X b c.argTypes _ id s
 | _=>rfl
theorem GP (h:Nat->Option gL):∀ (f:Nat) (w seen:List Nat),∀ m∈seen,m∈jT h f w seen:=by
 intro f
 induction f with
 | zero=>intro w seen m hm;exact hm
 | succ f ih =>
  intro w seen m hm
  cases w with
  | nil=>exact hm
  | cons x w =>
   simp only [jT]
   cases dK x seen with
   | true=>exact ih w seen m hm
   | false =>
    simp only [cond_false]
    cases h x with
    | none=>exact ih w _ m (m005 _ hm)
    | some b=>exact ih _ _ m (m005 _ hm)
theorem aIu (h h':Nat->Option gL):∀ (f:Nat) (w seen:List Nat),(∀ m∈jT h f w seen,h' m=h m)->jT h' f w seen=jT h f w seen:=by
 intro f
 induction f with
 | zero=>intro w seen _;rfl
 | succ f ih =>
  intro w seen hm
  cases w with
  | nil=>rfl
  | cons x w =>
   simp only [jT] at hm ⊢
   cases hx:dK x seen with
   | true=>rw [hx] at hm;exact ih w seen hm
   | false =>
    rw [hx] at hm;simp only [cond_false] at hm ⊢
    have hxm:h' x=h x:=by
     cases hb:h x with
     | none=>rw [hb] at hm;rw [<- hb];exact hm x (GP h f w _ x (m007 ..))
     | some b=>rw [hb] at hm;rw [<- hb];exact hm x (GP h f _ _ x (m007 ..))
    rw [hxm]
    cases hb:h x with
    | none=>rw [hb] at hm;exact ih w _ hm
    | some b=>rw [hb] at hm;exact ih _ _ hm
end
end Go.Proofs.YtdehdahimkcakaaGreatDoor.Ai
namespace Go.Proofs.YtdehdahimkcakaaGreatDoor.Ai
open Go
section
variable {X:Cx} {s s':St}
theorem aKm {tm:List AV} {d:Option Nat} {v:AV} {t:Nat} (h:∀ u,d=some u->u≠t):gt (put tm d v) t=gt tm t:=by
 cases d with
 | none=>rfl
 | some u =>have hne:=h u rfl;simp only [gt,put,List.getD_eq_getElem?_getD,List.getElem?_set_ne hne]
theorem AU {tm:List AV} {d e:Option Nat} {v w:AV} (h:∀ a b,d=some a->e=some b->a≠b):put (put tm d v) e w=put (put tm e w) d v:=by
 cases d with
 | none=>rfl
 | some a =>
  cases e with
  | none=>rfl
  | some b=>exact List.set_comm v w (h a b rfl rfl)
theorem bEu {tm:List AV} {d:Option Nat} {v:AV} {x:Operand} (h:∀ u,d=some u->aLx u x=false):ev X (gt (put tm d v)) x=ev X (gt tm) x:=by
 cases x with
 | tmp t =>refine aKm fun u hu hut=>?_;have:=h u hu;subst hut;simp [aLx] at this
 | _=>rfl
theorem mB {all:List Oper} {o:Oper} {tm:List AV} {d:Option Nat} {v:AV} (h:∀ u,d=some u->MD all o u=false):∀ x∈iL o.op,ev X (gt (put tm d v)) x=ev X (gt tm) x:=by intro x hx;refine bEu fun u hu=>?_;have:=h u hu;simp only [MD,NJ,List.any_eq_false] at this;simpa using this.1 x hx
theorem hJ {all:List Oper} {o:Oper} {tm:List AV} {d:Option Nat} {v:AV} (h:∀ u,d=some u->MD all o u=false):bG all (gt (put tm d v)) o=bG all (gt tm) o:=by
 unfold bG
 cases hg:o.guard with
 | none=>rfl
 | some jw =>
  obtain ⟨j,w⟩:=jw;simp only
  cases hd:(all[j]?).bind (·.dst) with
  | none=>rfl
  | some t =>simp only;rw [aKm fun u hu hut=>?_];have:=h u hu;simp only [MD,NJ,hg,hd] at this;have h2:=this.2;rw [hut] at h2;simp at h2
theorem CA {e e':Operand->AV} {o:Op} (h:∀ x∈iL o,e x=e' x):gG X e o=gG X e' o:=by
 cases o<;>try rfl
 rename_i c;unfold gG
 cases hc:c.callee with
 | value f=>simp only [hc];rw [h f (by simp [iL,hc])]
 | invoke a b=>simp only [hc]
 | builtin b=>simp only [hc]
theorem RZ {e e':Operand->AV} {o:Op} (h:∀ x∈iL o,e x=e' x):sD o e=sD o e':=by
 cases o<;>simp only [sD]<;>simp only [iL] at h
 case call c =>
  cases hc:c.callee with
  | builtin b =>
   simp only [hc] at h ⊢;have:∀ x∈c.args.toList,aF (e x)=aF (e' x):=fun x hx=>by rw [h x (by simp;exact Array.mem_toList_iff.1 hx)]
   simp only [List.flatMap];rw [List.map_congr_left this]
  | _=>rfl
 all_goals (first | rfl | (rw [h _ (by simp)];done))
theorem PO {e e':Operand->AV} {o:Op} (h:∀ x∈iL o,e x=e' x):(iL o).map e=(iL o).map e':=List.map_congr_left h
theorem qD {e e':Operand->AV} {o:Op} (h:∀ x∈iL o,e x=e' x) (s:St):dD e o s=dD e' o s:=by unfold dD;simp only [PO h,RZ h]
theorem rO {id:Nat} {e e':Operand->AV} {o:Oper} (h:∀ x∈iL o.op,e x=e' x) (s:St):rM X id e o s=rM X id e' o s:=by unfold rM;simp only [CA h,qD h,ZK h]
theorem LN {e e':Operand->AV} {o:Op} (h:∀ x∈iL o,e x=e' x) (id:Nat) (s:St):wE o id e s=wE o id e' s:=by unfold wE;simp only [qD h]
theorem kA {i id:Nat} {e e':Operand->AV} {o:Op} (h:∀ x∈iL o,e x=e' x) (s:St):bH X i id e o s=bH X i id e' o s:=by unfold bH;simp only [CA h,qD h,LN h]
def lU (wd wr:Bool) (id nx:Nat) (l:List Nat) (m:Nat):Bool:=cond wd (dK m l||Nat.ble nx m) (wr&&dK m (id::l))
theorem aQt {e:Operand->AV} {o:Op} (h:∀ m∈dD e o s,s'.h m=s.h m):dD e o s'=dD e o s:=by
 unfold dD at h ⊢;cases o<;>try rfl
 rename_i c;simp only at h ⊢
 cases hc:c.callee with
 | value f =>simp only [hc] at h ⊢;exact aIu s.h s'.h 4000 _ [] h
 | _=>rfl
theorem VT {l:List Nat} (h:∀ m∈l,s'.h m=s.h m):s'.only l=⟨(s.only l).h,s'.nx⟩:=by
 refine yT (fun m=>?_) rfl;simp only [St.only]
 cases hm:dK m l with
 | false=>rfl
 | true=>exact h m (bM.1 hm)
theorem MA (hp:cZ X) {id:Nat} {e:Operand->AV} {o:Oper} {r:AV} {t:St} (h:rM X id e o s=some (r,t)) :
  (∀ m,lU (gG X e o.op) (cA o.op) id s.nx (dD e o.op s) m=false->t.h m=s.h m)/\(gG X e o.op=false->t.nx=s.nx) /\
  ∀ s':St,(∀ m∈dD e o.op s,s'.h m=s.h m)->(gG X e o.op=true->s'.nx=s.nx)->dD e o.op s'=dD e o.op s /\
   ∃ t',rM X id e o s'=some (r,t')/\(∀ m,lU (gG X e o.op) (cA o.op) id s.nx (dD e o.op s) m=true->t'.h m=t.h m) /\
    (∀ m,lU (gG X e o.op) (cA o.op) id s.nx (dD e o.op s) m=false->t'.h m=s'.h m)/\(gG X e o.op=true->t'.nx=t.nx)/\(gG X e o.op=false->t'.nx=s'.nx):=by
 have hsh:∀ s':St,(∀ m∈dD e o.op s,s'.h m=s.h m)->dD e o.op s'=dD e o.op s:=fun s' h=>aQt h;unfold rM at h ⊢;generalize hl:dD e o.op s=l at h ⊢ hsh
 cases hw:gG X e o.op with
 | true =>
  rw [hw] at h;simp only [cond_true] at h ⊢
  cases ho:fP X false id e o (s.only l) with
  | none=>rw [ho] at h;cases h
  | some q =>
   rw [ho] at h;simp only [Option.map_some,m000,m001] at h;obtain ⟨rfl,rfl⟩:=h;refine ⟨fun m hm=>?_,(fun hf=>(nomatch hf)),fun s' h1 h2=>?_⟩
   ·simp only [lU,cond_true] at hm;simp only [jO,hm,cond_false]
   ·have h2:=h2 trivial;rw [hsh s' h1];have ho':fP X false id e o (s'.only l)=some q:=by rw [VT h1,h2];exact ho
    rw [ho'];refine ⟨rfl,_,rfl,fun m hm=>?_,fun m hm=>?_,(fun _=>rfl),(fun hf=>(nomatch hf))⟩
    ·simp only [lU,cond_true] at hm;simp only [jO,h2,hm,cond_true]
    ·simp only [lU,cond_true] at hm;simp only [jO,h2,hm,cond_false]
 | false =>
  rw [hw] at h;simp only [cond_false] at h ⊢
  cases ho:fP X true id e o (s.only l) with
  | none=>rw [ho] at h;cases h
  | some q =>
   rw [ho] at h;simp only [Option.map_some,m000,m001] at h;obtain ⟨rfl,rfl⟩:=h;refine ⟨fun m hm=>?_,fun _=>?_,fun s' h1 h2=>?_⟩
   ·simp only [lU,cond_false] at hm
    cases hwr:cA o.op with
    | false=>rfl
    | true =>rw [hwr,m031] at hm;simp only [cond_true,St.merge,hm,cond_false]
   ·cases hwr:cA o.op<;>rfl
   ·rw [hsh s' h1];have ho':fP X true id e o (s'.only l)=some (re s'.nx q):=by rw [VT h1,bEs hp,ho];rfl
    rw [ho'];refine ⟨rfl,_,rfl,fun m hm=>?_,fun m hm=>?_,fun hf=>(nomatch hf),fun _=>?_⟩
    ·simp only [lU,cond_false] at hm
     cases hwr:cA o.op with
     | false=>rw [hwr] at hm;cases hm
     | true =>rw [hwr,m031] at hm;simp only [cond_true,St.merge,hm,re]
    ·simp only [lU,cond_false] at hm
     cases hwr:cA o.op with
     | false=>rfl
     | true =>rw [hwr,m031] at hm;simp only [cond_true,St.merge,hm,cond_false]
    ·cases hwr:cA o.op<;>rfl
theorem jE:∀ {l m:List Nat},lG l m=true->∀ n∈l,dK n m=false:=by
 intro l
 induction l with
 | nil=>intro m _ n hn;cases hn
 | cons a l ih =>
  intro m h n hn;simp only [lG,cQ,Bool.not_eq_true'] at h;rcases m013.1 hn with rfl | hn
  ·exact h.1
  ·exact ih h.2 n hn
theorem NC {wa ra:Bool} {ia na:Nat} {la:List Nat} {wx rx:Bool} {ix nx:Nat} {lx:List Nat} {i j:Nat}
  (h:(cond wa ⟨i,true,la,some na⟩ ⟨i,ra,cond ra (ia::la) la,none⟩:dV).apart (cond wx ⟨j,true,lx,some nx⟩ ⟨j,rx,cond rx (ix::lx) lx,none⟩)=true) :
  (∀ m∈lx,lU wa ra ia na la m=false)/\(∀ m∈la,lU wx rx ix nx lx m=false)/\(∀ m,lU wa ra ia na la m=true->lU wx rx ix nx lx m=true->False)/\(wa=true->wx=false):=by
 have flip:∀ {l m:List Nat},lG l m=true->∀ n∈m,dK n l=false:=fun {l m} hd n hn=>by
  cases hb:dK n l with
  | false=>rfl
  | true=>have:=jE hd n (bM.1 hb);rw [bM.2 hn] at this;cases this
 have low:∀ {l:List Nat} {k:Nat},(l.all fun m=>Nat.blt m k)=true->∀ n∈l,Nat.ble k n=false:=fun {l k} hl n hn=>by
  have h1:=m032.1 hl n hn;have h2:n < k:=by simpa [Nat.blt_eq] using h1
  cases hb:Nat.ble k n with
  | false=>rfl
  | true=>have:=Nat.le_of_ble_eq_true hb;omega
 have tr:∀ {l m:List Nat} {n:Nat},lG l m=true->dK n l=true->dK n m=true->False:=fun {l m n} hd h1 h2=>by have:=jE hd n (bM.1 h1);rw [h2] at this;cases this
 cases wa<;>cases wx
 ·cases ra<;>cases rx
  ·simp [lU]
  all_goals
   simp only [cond_false,cond_true,dV.apart,tH,m025,m027,m059,m035,m071,m031,m026] at h;simp only [lU,cond_false,m031,m035]
  ·exact ⟨fun m _=>trivial,fun m hm=>jE h m hm,fun m h1=>(by simp at h1),fun h=>nomatch h⟩
  ·exact ⟨fun m hm=>flip h m hm,fun m hm=>trivial,fun m _ h1=>(by simp at h1),fun h=>nomatch h⟩
  ·exact ⟨fun m hm=>flip h m (m005 _ hm),fun m hm=>jE h m (m005 _ hm),fun m h1 h2=>tr h h1 h2,fun h=>nomatch h⟩
 ·simp only [cond_false,cond_true,dV.apart,tH,m025,m071,m026,m031,Option.isNone_none,cQ] at h;obtain ⟨h1,h2⟩:=h;cases ra
  ·simp only [cond_false] at h1 h2;simp only [lU,cond_false,cond_true,m035];refine ⟨fun m _=>trivial,fun m hm=>?_,fun m h=>(by simp at h),(fun h=>(nomatch h))⟩;rw [jE h2 m hm,low h1 m hm];rfl
  ·simp only [cond_true] at h1 h2;simp only [lU,cond_false,cond_true,m031];refine ⟨fun m hm=>flip h2 m hm,fun m hm=>?_,fun m h3 h4=>?_,fun h=>nomatch h⟩
   ·rw [jE h2 m (m005 _ hm),low h1 m (m005 _ hm)];rfl
   ·have hm:=bM.1 h3;rw [jE h2 m hm,low h1 m hm] at h4;cases h4
 ·simp only [cond_false,cond_true,dV.apart,tH,m025,m035,m026,m031,m059,Option.isNone_none,cQ] at h;obtain ⟨h1,h2⟩:=h;cases rx
  ·simp only [cond_false] at h1 h2;simp only [lU,cond_false,cond_true,m035];refine ⟨fun m hm=>?_,fun m _=>trivial,fun m _ h=>(by simp at h),fun _=>trivial⟩;rw [flip h2 m hm,low h1 m hm];rfl
  ·simp only [cond_true] at h1 h2;simp only [lU,cond_false,cond_true,m031];refine ⟨fun m hm=>?_,fun m hm=>jE h2 m hm,fun m h4 h3=>?_,fun _=>trivial⟩
   ·rw [flip h2 m (m005 _ hm),low h1 m (m005 _ hm)];rfl
   ·have hm:=bM.1 h3;rw [flip h2 m hm,low h1 m hm] at h4;cases h4
 ·simp [dV.apart,tH] at h
def pQ (X:Cx) (base:Nat) (all:List Oper) (i:Nat) (q:List AV×St):Option (Option dV×(List AV×St)) :=
 match all[i]? with
 | none=>none
 | some o=>(bG all (gt q.1) o).bind fun w=>cond w
   ((rM X (base+i) (ev X (gt q.1)) o q.2).map fun r=>(some (bH X i (base+i) (ev X (gt q.1)) o.op q.2),(put q.1 o.dst r.1,r.2)))
   (some (none,(put q.1 o.dst (.tup []),q.2)))
theorem LH {all:List Oper} {a x:Oper} (h:tX all a x=true) :
  (∀ u,a.dst=some u->MD all x u=false)/\(∀ u,x.dst=some u->MD all a u=false)/\∀ u v,a.dst=some u->x.dst=some v->u≠v:=by
 unfold tX at h;simp only [cQ] at h;obtain ⟨h1,h2⟩:=h;refine ⟨fun u hu=>?_,fun u hu=>?_,fun u v hu hv huv=>?_⟩
 ·rw [hu] at h1;simp only [cQ,Bool.not_eq_true'] at h1;exact h1.1
 ·rw [hu] at h2;simpa using h2
 ·rw [hu,hv] at h1;subst huv;simp at h1
theorem swap (hp:cZ X) {base:Nat} {all:List Oper} {a x:Nat} {oa ox:Oper} (ha:all[a]?=some oa) (hx:all[x]?=some ox) (hap:tX all oa ox=true)
  {q q1 q2:List AV×St} {ma mx:Option dV} (h1:pQ X base all a q=some (ma,q1)) (h2:pQ X base all x q1=some (mx,q2)) (hm:∀ p k,ma=some p->mx=some k->p.apart k=true) :
  ∃ q1',pQ X base all x q=some (mx,q1')/\pQ X base all a q1'=some (ma,q2):=by
 obtain ⟨d1,d2,d3⟩:=LH hap;unfold pQ at h1 h2 ⊢;rw [ha] at h1 ⊢;rw [hx] at h2 ⊢;simp only at h1 h2 ⊢
 cases hwa:bG all (gt q.1) oa with
 | none=>rw [hwa] at h1;cases h1
 | some wa =>
 rw [hwa] at h1;simp only [Option.bind_some] at h1
 cases wa with
 | false =>
  simp only [cond_false,m000,m001] at h1;obtain ⟨rfl,rfl⟩:=h1;simp only [hJ d1,rO (mB d1),kA (mB d1)] at h2
  cases hwx:bG all (gt q.1) ox with
  | none=>rw [hwx] at h2;cases h2
  | some wx =>
  rw [hwx] at h2;simp only [Option.bind_some] at h2 ⊢
  cases wx with
  | false =>simp only [cond_false,m000,m001] at h2 ⊢;obtain ⟨rfl,rfl⟩:=h2;refine ⟨_,⟨rfl,rfl⟩,?_⟩;simp only [hJ d2,hwa,Option.bind_some,cond_false,m000,m001,true_and];exact ⟨(AU d3).symm,trivial⟩
  | true =>
   simp only [cond_true] at h2 ⊢
   cases ho:rM X (base+x) (ev X (gt q.1)) ox q.2 with
   | none=>rw [ho] at h2;cases h2
   | some r =>
   rw [ho] at h2;simp only [Option.map_some,m000,m001] at h2 ⊢;obtain ⟨rfl,rfl⟩:=h2;refine ⟨_,⟨rfl,rfl⟩,?_⟩;simp only [hJ d2,hwa,Option.bind_some,cond_false,m000,m001,true_and];exact ⟨(AU d3).symm,trivial⟩
 | true =>
  simp only [cond_true] at h1
  cases hoa:rM X (base+a) (ev X (gt q.1)) oa q.2 with
  | none=>rw [hoa] at h1;cases h1
  | some ra =>
  obtain ⟨ra,s1⟩:=ra;rw [hoa] at h1;simp only [Option.map_some,m000,m001] at h1;obtain ⟨rfl,rfl⟩:=h1;simp only [hJ d1,rO (mB d1),kA (mB d1)] at h2
  cases hwx:bG all (gt q.1) ox with
  | none=>rw [hwx] at h2;cases h2
  | some wx =>
  rw [hwx] at h2;simp only [Option.bind_some] at h2 ⊢
  cases wx with
  | false =>simp only [cond_false,m000,m001] at h2 ⊢;obtain ⟨rfl,rfl⟩:=h2;refine ⟨_,⟨rfl,rfl⟩,?_⟩;simp only [hJ d2,hwa,Option.bind_some,cond_true,rO (mB d2),kA (mB d2),hoa,Option.map_some,m000,m001,true_and];exact ⟨(AU d3).symm,trivial⟩
  | true =>
   simp only [cond_true] at h2 ⊢
   cases hox:rM X (base+x) (ev X (gt q.1)) ox s1 with
   | none=>rw [hox] at h2;cases h2
   | some rx =>
   obtain ⟨rx,s2⟩:=rx;rw [hox] at h2;simp only [Option.map_some,m000,m001] at h2;obtain ⟨rfl,rfl⟩:=h2;have hma:=hm _ _ rfl rfl;simp only [bH,wE] at hma;obtain ⟨f1,f2,f3,f4⟩:=NC hma;obtain ⟨a1,a2,a3⟩:=MA hp hoa;obtain ⟨x1,x2,x3⟩:=MA hp hox
   obtain ⟨y1,t1,y2,y3,y4,y5,y6⟩:=x3 q.2 (fun m hm=>(a1 m (f1 m hm)).symm) (fun hwx'=>by
    cases hwa':gG X (ev X (gt q.1)) oa.op with
    | false=>exact (a2 hwa').symm
    | true=>rw [f4 hwa'] at hwx';cases hwx')
   obtain ⟨z1,t2,z2,z3,z4,z5,z6⟩:=a3 t1 (fun m hm=>y4 m (f2 m hm)) (fun hwa'=>y6 (f4 hwa'));rw [y2];simp only [Option.map_some,m000,m001];refine ⟨_,⟨?_,rfl⟩,?_⟩
   ·simp only [bH,wE,y1]
    cases hwx':gG X (ev X (gt q.1)) ox.op with
    | false=>rfl
    | true =>
     have:s1.nx=q.2.nx:=by
      cases hwa':gG X (ev X (gt q.1)) oa.op with
      | false=>exact a2 hwa'
      | true=>rw [f4 hwa'] at hwx';cases hwx'
     rw [this]
   ·simp only [hJ d2,hwa,Option.bind_some,cond_true,rO (mB d2),kA (mB d2),z2,Option.map_some,m000,m001];refine ⟨?_,(AU d3).symm,yT (fun m=>?_) ?_⟩
    ·simp only [bH,wE,z1]
     cases hwa':gG X (ev X (gt q.1)) oa.op with
     | false=>rfl
     | true=>rw [y6 (f4 hwa')]
    ·cases hA:lU (gG X (ev X (gt q.1)) oa.op) (cA oa.op) (base+a) q.2.nx (dD (ev X (gt q.1)) oa.op q.2) m with
     | true =>
      rw [z3 m hA];refine (x1 m ?_).symm
      cases hB:lU (gG X (ev X (gt q.1)) ox.op) (cA ox.op) (base+x) s1.nx (dD (ev X (gt q.1)) ox.op s1) m with
      | false=>rfl
      | true=>exact (f3 m hA hB).elim
     | false =>
      rw [z4 m hA]
      cases hB:lU (gG X (ev X (gt q.1)) ox.op) (cA ox.op) (base+x) s1.nx (dD (ev X (gt q.1)) ox.op s1) m with
      | true=>exact y3 m hB
      | false=>rw [y4 m hB,x1 m hB,a1 m hA]
    ·cases hwa':gG X (ev X (gt q.1)) oa.op with
     | true=>rw [z5 hwa',x2 (f4 hwa')]
     | false =>
      rw [z6 hwa']
      cases hwx':gG X (ev X (gt q.1)) ox.op with
      | true=>exact y5 hwx'
      | false=>rw [y6 hwx',x2 hwx',a2 hwa']
end
end Go.Proofs.YtdehdahimkcakaaGreatDoor.Ai
namespace Go.Proofs.YtdehdahimkcakaaGreatDoor.Ai
open Go
section
variable {X:Cx} {s s':St}
def tG (X:Cx) (base:Nat) (all:List Oper):List Nat->List AV×St->Option (List (Nat×Option dV)×(List AV×St))
 | [],q=>some ([],q)
 | i::l,q=>(pQ X base all i q).bind fun r=>(tG X base all l r.2).map fun z=>((i,r.1)::z.1,z.2)
def bCt (all:List Oper) (p k:Nat×Option dV):Prop:=(∃ oa ox,all[p.1]?=some oa/\all[k.1]?=some ox/\tX all oa ox=true)/\∀ u v,p.2=some u->k.2=some v->u.apart v=true
def Apt (all:List Oper) (ms:List Nat) (p k:Nat×Option dV):Prop:=bN (ms.getD k.1 0) p.1=true\/bCt all p k
theorem eX {base:Nat} {all:List Oper} {i:Nat} {l:List Nat} {q:List AV×St} {ml:List (Nat×Option dV)} {r:List AV×St} :
  tG X base all (i::l) q=some (ml,r)↔∃ m q1 ml1,pQ X base all i q=some (m,q1)/\tG X base all l q1=some (ml1,r)/\ml=(i,m)::ml1:=by
 constructor
 ·intro h;simp only [tG] at h
  cases h1:pQ X base all i q with
  | none=>rw [h1] at h;cases h
  | some mq =>
   obtain ⟨m,q1⟩:=mq;rw [h1] at h;simp only [Option.bind_some] at h
   cases h2:tG X base all l q1 with
   | none=>rw [h2] at h;cases h
   | some z =>obtain ⟨ml1,r1⟩:=z;rw [h2] at h;simp only [Option.map_some,m000,m001] at h;obtain ⟨rfl,rfl⟩:=h;exact ⟨m,q1,ml1,rfl,h2,rfl⟩
 ·rintro ⟨m,q1,ml1,h1,h2,rfl⟩
  simp only [tG,h1,Option.bind_some,h2,Option.map_some]
theorem bIs (hp:cZ X) {base:Nat} {all:List Oper} (x:Nat) (B:List Nat):∀ (A:List Nat) (q:List AV×St) (ml:List (Nat×Option dV)) (r:List AV×St),tG X base all (A++x::B) q=some (ml,r) ->
  ∃ mlA mx mlB,ml=mlA++(x,mx)::mlB/\mlA.map (·.1)=A/\((∀ p∈mlA,bCt all p (x,mx))->tG X base all (x::(A++B)) q=some ((x,mx)::(mlA++mlB),r)):=by
 intro A
 induction A with
 | nil =>intro q ml r h;obtain ⟨m,q1,ml1,h1,h2,rfl⟩:=eX.1 h;exact ⟨[],m,ml1,rfl,rfl,fun _=>h⟩
 | cons a A ih =>intro q ml r h;obtain ⟨m,q1,ml1,h1,h2,rfl⟩:=eX.1 h;obtain ⟨mlA,mx,mlB,rfl,rfl,k⟩:=ih q1 ml1 r h2;refine ⟨(a,m)::mlA,mx,mlB,rfl,rfl,fun hf=>?_⟩;obtain ⟨mx',q2,ml2,k1,k2,k3⟩:=eX.1 (k fun p hp=>hf p (m005 _ hp));simp only [m057,m001,true_and] at k3;obtain ⟨rfl,rfl⟩:=k3;obtain ⟨⟨oa,ox,e1,e2,e3⟩,e4⟩:=hf (a,m) (m007 ..);obtain ⟨q1',s1,s2⟩:=swap hp e1 e2 e3 h1 k1 e4;exact eX.2 ⟨mx,q1',_,s1,eX.2 ⟨m,q2,_,s2,k2,rfl⟩,rfl⟩
theorem aGq (hp:cZ X) {base:Nat} {all:List Oper} {ms:List Nat}:∀ (L M:List Nat) (q:List AV×St) (ml:List (Nat×Option dV)) (r:List AV×St),L.Perm M->tG X base all M q=some (ml,r) ->
  ml.Pairwise (Apt all ms)->L.Pairwise (fun x a=>bN (ms.getD x 0) a=false)->∃ ml',tG X base all L q=some (ml',r):=by
 intro L
 induction L with
 | nil =>intro M q ml r hL h _ _;have:=hL.symm.eq_nil;subst this;exact ⟨ml,h⟩
 | cons x L ih =>
  intro M q ml r hL h hw ho;have hx:x∈M:=hL.subset (m007 ..);obtain ⟨A,B,rfl⟩:=List.append_of_mem hx;have hLp:L.Perm (A++B):=List.Perm.cons_inv (hL.trans List.perm_middle);obtain ⟨mlA,mx,mlB,rfl,rfl,k⟩:=bIs hp x B A q ml r h;rw [List.pairwise_cons] at ho;rw [List.pairwise_append] at hw;obtain ⟨w1,w2,w3⟩:=hw;rw [List.pairwise_cons] at w2
  have hfree:∀ p∈mlA,bCt all p (x,mx):=fun p hpm=>by
   rcases w3 p hpm (x,mx) (m007 ..) with hb | hb
   ·have hin:p.1∈L:=hLp.symm.subset (m041 _ (m021.2 ⟨p,hpm,rfl⟩));have:=ho.1 p.1 hin;simp only at hb;rw [this] at hb;cases hb
   ·exact hb
  obtain ⟨m,q1,ml1,k1,k2,k3⟩:=eX.1 (k hfree);simp only [m057,m001,true_and] at k3;obtain ⟨rfl,rfl⟩:=k3;obtain ⟨ml',k4⟩:=ih (mlA.map (·.1)++B) q1 (mlA++mlB) r hLp k2 (List.pairwise_append.2 ⟨w1,w2.2,fun a ha b hb=>w3 a ha b (m005 _ hb)⟩) ho.2;exact ⟨_,eX.2 ⟨mx,q1,ml',k1,k4,rfl⟩⟩
theorem aMw (m n k:Nat):bN (m ||| n) k=(bN m k||bN n k):=by
 have e:∀ m k,bN m k=m.testBit k:=fun m k=>by
  simp only [bN,Nat.testBit_eq_decide_div_mod_eq,Nat.shiftRight_eq_div_pow];by_cases h:m / 2 ^ k % 2=1
  ·rw [h];rfl
  ·rw [decide_eq_false h]
   cases hb:Nat.beq (m / 2 ^ k % 2) 1 with
   | false=>rfl
   | true=>exact absurd (iC hb) h
 simp only [e,Nat.testBit_or]
theorem XU (j k:Nat):bN (1 <<< j) k=true->k=j:=by
 intro h;simp only [bN,Nat.shiftLeft_eq,FK,Nat.shiftRight_eq_div_pow] at h;have h:=iC h;rcases Nat.lt_trichotomy k j with hl | he | hg
 ·have:2 ^ j / 2 ^ k=2 ^ (j - k):=Nat.pow_div (Nat.le_of_lt hl) (by decide);rw [this] at h;have h2:2 ^ (j - k)=2 * 2 ^ (j - k - 1):=by rw [<- Nat.pow_succ'];congr 1;omega
  omega
 ·exact he
 ·have:2 ^ j / 2 ^ k=0:=Nat.div_eq_of_lt (Nat.pow_lt_pow_right (by decide) hg);rw [this] at h;cases h
theorem TF (ms:List Nat) (a:Nat):∀ (l:List Edge) (m0:Nat),bN (l.foldl (fun m e=>cond (Region.binds .any e) (m ||| ((1 <<< e.on) ||| ms.getD e.on 0)) m) m0) a=true ->
  bN m0 a=true\/∃ e∈l,Region.binds .any e=true/\(a=e.on\/bN (ms.getD e.on 0) a=true):=by
 intro l
 induction l with
 | nil=>intro m0 h;exact .inl h
 | cons e l ih =>
  intro m0 h;simp only [List.foldl_cons] at h;rcases ih _ h with h1 | ⟨e',h2,h3,h4⟩
  ·cases hb:Region.binds .any e with
   | false=>rw [hb] at h1;exact .inl h1
   | true =>
    rw [hb] at h1;simp only [cond_true,aMw,FI] at h1;rcases h1 with h1 | h1 | h1
    ·exact .inl h1
    ·exact .inr ⟨e,m007 ..,hb,.inl (XU _ _ h1)⟩
    ·exact .inr ⟨e,m007 ..,hb,.inr h1⟩
  ·exact .inr ⟨e',m005 _ h2,h3,h4⟩
theorem QF:∀ (l:List Oper) (ms:List Nat),∃ r,eG ms l=ms++r:=by
 intro l
 induction l with
 | nil=>intro ms;exact ⟨[],by simp [eG]⟩
 | cons o l ih=>intro ms;obtain ⟨r,hr⟩:=ih (ms++[mC o ms]);exact ⟨mC o ms::r,by simp [eG,hr]⟩
theorem SN:∀ (l:List Oper) (ms:List Nat) (j:Nat) (o:Oper),l[j]?=some o->∃ dI,(eG ms l)[ms.length+j]?=some (mC o dI)/\dI.length=ms.length+j/\∀ i,i < ms.length+j->dI.getD i 0=(eG ms l).getD i 0:=by
 intro l
 induction l with
 | nil=>intro ms j o h;simp at h
 | cons p l ih =>
  intro ms j o h
  cases j with
  | zero =>
   simp only [List.getElem?_cons_zero,m000] at h;subst h;obtain ⟨r,hr⟩:=QF l (ms++[mC p ms]);refine ⟨ms,?_,by simp,fun i hi=>?_⟩
   ·simp [eG,hr]
   ·simp only [eG,hr,List.getD_eq_getElem?_getD,m019];rw [m051 (by omega)]
  | succ j =>simp only [List.getElem?_cons_succ] at h;obtain ⟨dI,h1,h2,h3⟩:=ih (ms++[mC p ms]) j o h;simp only [m006,List.length_cons,List.length_nil] at h1 h2 h3;exact ⟨dI,by simp only [eG];rw [<- h1];congr 1;omega,by omega,fun i hi=>by simp only [eG];exact h3 i (by omega)⟩
theorem MQ {all:List Oper} {m:Nat} {x:Oper}:∀ (l:List Oper) (a:Nat),KK all m x a l=true->∀ j o,l[j]?=some o->bN m (a+j)=true\/tX all o x=true:=by
 intro l
 induction l with
 | nil=>intro a _ j o h;simp at h
 | cons p l ih =>
  intro a h j o ho;simp only [KK,cQ,FI] at h
  cases j with
  | zero=>simp only [List.getElem?_cons_zero,m000] at ho;subst ho;exact h.1
  | succ j =>
   simp only [List.getElem?_cons_succ] at ho;have:=ih (a+1) h.2 j o ho
   rwa [show a+1+j=a+(j+1) by omega] at this
theorem OO {all:List Oper} {ms:List Nat}:∀ (l dI:List Oper) (i:Nat),dI.length=i->JQ all ms dI i l=true->∀ j x,l[j]?=some x ->
  (∀ e∈x.after.toList,Region.binds .any e=true->e.on < i+j)/\∀ a o,a < i+j->(dI++l)[a]?=some o->bN (ms.getD (i+j) 0) a=true\/tX all o x=true:=by
 intro l
 induction l with
 | nil=>intro dI i _ _ j x h;simp at h
 | cons p l ih =>
  intro dI i hi h j x hx;simp only [JQ,cQ] at h;obtain ⟨⟨h1,h2⟩,h3⟩:=h
  cases j with
  | zero =>
   simp only [List.getElem?_cons_zero,m000] at hx;subst hx;refine ⟨fun e he hb=>?_,fun a o ha ho=>?_⟩
   ·have:=m032.1 h1 e he;rw [hb] at this;simpa [Nat.blt_eq] using this
   ·rw [m051 (by omega)] at ho;have:=MQ dI 0 h2 a o ho
    rwa [m023] at this
  | succ j =>simp only [List.getElem?_cons_succ] at hx;have:=ih (dI++[p]) (i+1) (by simp [hi]) h3 j x hx;rw [show i+1+j=i+(j+1) by omega] at this;refine ⟨this.1,fun a o ha ho=>this.2 a o ha ?_⟩;simpa using ho
theorem aHq (X:Cx) (base:Nat) (all:List Oper) (ms:List Nat) (i:Nat) (lg:List dV) (tm:List AV) (s:St):mR X base all ms [] i lg tm s=some (tm,s):=rfl
theorem aBy (X:Cx) (base:Nat) (all:List Oper) (ms:List Nat) (o:Oper) (l:List Oper) (i:Nat) (lg:List dV) (tm:List AV) (s:St):mR X base all ms (o::l) i lg tm s =
  (bG all (gt tm) o).bind fun w=>cond w
   (cond (clear (ms.getD i 0) (bH X i (base+i) (ev X (gt tm)) o.op s) lg)
    ((rM X (base+i) (ev X (gt tm)) o s).bind fun r=>mR X base all ms l (i+1) (bH X i (base+i) (ev X (gt tm)) o.op s::lg) (put tm o.dst r.1) r.2) none)
   (mR X base all ms l (i+1) lg (put tm o.dst (.tup [])) s):=rfl
theorem NK (X:Cx) (i id:Nat) (e:Operand->AV) (o:Op) (s:St):(bH X i id e o s).i=i:=by unfold bH;cases gG X e o<;>rfl
theorem aRo {base:Nat} {all:List Oper} {ms:List Nat} {tm':List AV} {s':St}:∀ (l:List Oper) (i:Nat) (lg:List dV) (tm:List AV) (s:St),all.drop i=l->mR X base all ms l i lg tm s=some (tm',s') ->
  ∃ ml,tG X base all (List.range' i l.length) (tm,s)=some (ml,(tm',s'))/\(∀ p∈ml,i<=p.1/\∀ k,p.2=some k->k.i=p.1/\∀ g∈lg,bN (ms.getD p.1 0) g.i=true\/g.apart k=true) /\
   ml.Pairwise fun p k=>p.1 < k.1/\(bN (ms.getD k.1 0) p.1=true\/∀ u v,p.2=some u->k.2=some v->u.apart v=true):=by
 intro l
 induction l with
 | nil =>intro i lg tm s hl h;rw [aHq] at h;simp only [m000,m001] at h;obtain ⟨rfl,rfl⟩:=h;exact ⟨[],rfl,fun p hp=>(by cases hp),List.Pairwise.nil⟩
 | cons o l ih =>
  intro i lg tm s hl h;have hoi:all[i]?=some o:=by have:=congrArg (·[0]?) hl;simpa using this
  have hl':all.drop (i+1)=l:=by
   have:(all.drop i).drop 1=l:=by rw [hl];rfl
   rwa [m075] at this
  rw [aBy] at h
  cases hw:bG all (gt tm) o with
  | none=>rw [hw] at h;cases h
  | some w =>
   rw [hw] at h;simp only [Option.bind_some] at h;rw [List.length_cons,List.range'_succ]
   cases w with
   | false =>
    simp only [cond_false] at h;obtain ⟨ml,h1,h2,h3⟩:=ih (i+1) lg _ s hl' h;refine ⟨(i,none)::ml,eX.2 ⟨none,_,ml,?_,h1,rfl⟩,fun p hp=>?_,List.pairwise_cons.2 ⟨fun p hp=>⟨(h2 p hp).1,.inr fun u v hu=>nomatch hu⟩,h3⟩⟩
    ·simp only [pQ,hoi,hw,Option.bind_some,cond_false]
    ·rcases m013.1 hp with rfl | hp
     ·exact ⟨bJ _,fun k hk=>nomatch hk⟩
     ·exact ⟨by have:=(h2 p hp).1;omega,(h2 p hp).2⟩
   | true =>
    simp only [cond_true] at h
    cases hc:clear (ms.getD i 0) (bH X i (base+i) (ev X (gt tm)) o.op s) lg with
    | false=>rw [hc] at h;cases h
    | true =>
     rw [hc] at h;simp only [cond_true] at h
     cases ho:rM X (base+i) (ev X (gt tm)) o s with
     | none=>rw [ho] at h;cases h
     | some r =>
      rw [ho] at h;simp only [Option.bind_some] at h;obtain ⟨ml,h1,h2,h3⟩:=ih (i+1) _ _ r.2 hl' h;refine ⟨(i,some (bH X i (base+i) (ev X (gt tm)) o.op s))::ml,eX.2 ⟨_,_,ml,?_,h1,rfl⟩,fun p hp=>?_,List.pairwise_cons.2 ⟨fun p hp=>⟨(h2 p hp).1,?_⟩,h3⟩⟩
      ·simp only [pQ,hoi,hw,Option.bind_some,cond_true,ho,Option.map_some]
      ·rcases m013.1 hp with rfl | hp
       ·refine ⟨bJ _,fun k hk=>?_⟩;simp only [m000] at hk;subst hk;refine ⟨NK ..,fun g hg=>?_⟩;have:=m032.1 hc g hg;simpa using this
       ·exact ⟨by have:=(h2 p hp).1;omega,fun k hk=>⟨((h2 p hp).2 k hk).1,fun g hg=>((h2 p hp).2 k hk).2 g (m005 _ hg)⟩⟩
      ·cases hk:p.2 with
       | none=>exact .inr fun u v _ hv=>nomatch hv
       | some k =>
        rcases ((h2 p hp).2 k hk).2 _ (m007 ..) with hb | hb
        ·rw [NK] at hb;exact .inl hb
        ·refine .inr fun u v hu hv=>?_;simp only [m000] at hu hv;subst hu;subst hv;exact hb
end
end Go.Proofs.YtdehdahimkcakaaGreatDoor.Ai
namespace Go.Proofs.YtdehdahimkcakaaGreatDoor.Ai
open Go
section
theorem ZO:∀ (l:List Bool) (i:Nat),l[i]?=some false->(l.set i true).count false+1=l.count false:=by
 intro l
 induction l with
 | nil=>intro i h;simp at h
 | cons b l ih =>
  intro i h
  cases i with
  | zero =>simp only [List.getElem?_cons_zero,m000] at h;subst h;simp
  | succ i =>simp only [List.getElem?_cons_succ] at h;simp only [List.set_cons_succ,List.count_cons];have:=ih i h;omega
theorem IB {ops:Array Oper} {listed:Array Bool} {i:Nat}:i∈Region.ready .any ops listed↔i < ops.size/\listed.getD i true=false/\∃ o,ops[i]?=some o/\∀ e∈o.after.toList,Region.binds .any e=true->listed.getD e.on false=true:=by
 unfold Region.ready;rw [List.mem_filter,List.mem_range];constructor
 ·rintro ⟨h1,h2⟩
  simp only [cQ,Bool.not_eq_true'] at h2;refine ⟨h1,h2.1,?_⟩;have ho:ops[i]?=some ops[i]:=m016 h1;refine ⟨_,ho,fun e he hb=>?_⟩;have h3:=h2.2;rw [ho] at h3;simp only [Option.map_some,Option.getD_some,Array.all_eq_true_iff_forall_mem] at h3;have:=h3 e (by simpa using he);simpa [hb] using this
 ·rintro ⟨h1,h2,o,h3,h4⟩
  refine ⟨h1,?_⟩;simp only [h2,h3,m027,m031,Option.map_some,Option.getD_some,Array.all_eq_true_iff_forall_mem];intro e he
  cases hb:Region.binds .any e with
  | false=>rfl
  | true=>simpa using h4 e (by simpa using he) hb
theorem aRv {ops:Array Oper} (hb:∀ (i:Nat) x,ops[i]?=some x->∀ e∈x.after.toList,Region.binds .any e=true->e.on < i) :
  ∀ (fuel t:Nat) (listed:Array Bool),listed.size=ops.size->listed.toList.count false<=fuel->∀ L,L=Region.linearise.go .any ops fuel t listed [] ->
  (∀ i∈L,i < ops.size/\listed[i]?=some false)/\L.Nodup/\(∀ i,i < ops.size->listed[i]?=some false->i∈L) /\
   ∀ dI x post o,L=dI++x::post->ops[x]?=some o->∀ e∈o.after.toList,Region.binds .any e=true->listed[e.on]?=some true\/e.on∈dI:=by
 intro fuel
 induction fuel with
 | zero =>
  intro t listed hs hc L hL;simp only [Region.linearise.go,List.reverse_nil] at hL;subst hL;refine ⟨fun i h=>(by cases h),List.nodup_nil,fun i hi h=>?_,fun dI x post o h=>by simp at h⟩;have h0:listed.toList.count false=0:=by omega
  rw [List.count_eq_zero] at h0;exact absurd (m017 (by simpa using h)) h0
 | succ fuel ih =>
  intro t listed hs hc L hL;simp only [Region.linearise.go] at hL
  change L=(match (Region.ready .any ops listed)[t % (Region.ready .any ops listed).length]? with
   | some i=>Region.linearise.go .any ops fuel (t / (Region.ready .any ops listed).length) (listed.setIfInBounds i true) [i]
   | none=>[].reverse) at hL
  cases hi:(Region.ready .any ops listed)[t % (Region.ready .any ops listed).length]? with
  | none =>
   have hnil:Region.ready .any ops listed=[]:=by
    cases hr:Region.ready .any ops listed with
    | nil=>rfl
    | cons x xs =>rw [hr] at hi;have hlt:t % (x::xs).length < (x::xs).length:=Nat.mod_lt _ (by simp);rw [m004 hlt] at hi;cases hi
   rw [hi] at hL;simp only [List.reverse_nil] at hL;subst hL;refine ⟨fun i h=>(by cases h),List.nodup_nil,fun i hi h=>?_,fun dI x post o h=>by simp at h⟩;exfalso
   have key:∀ i,i < ops.size->listed[i]?≠some false:=by
    intro i
    induction i using Nat.strongRecOn with
    | ind i ihi =>
     intro hi hf
     have:i∈Region.ready .any ops listed:=by
      refine IB.2 ⟨hi,?_,ops[i],m016 hi,fun e he hbe=>?_⟩
      ·simp [Array.getD_eq_getD_getElem?,hf]
      ·have hlt:=hb i _ (m016 hi) e he hbe;have hne:=ihi e.on hlt (by omega);have hlt2:e.on < listed.size:=by omega
       rw [m016 hlt2] at hne;rw [Array.getD_eq_getD_getElem?,m016 hlt2]
       cases hq:listed[e.on] with
       | true=>rfl
       | false=>rw [hq] at hne;exact absurd rfl hne
     rw [hnil] at this;cases this
   exact key i hi h
  | some i =>
   rw [hi] at hL;simp only at hL;rw [linearise_go_acc,List.reverse_singleton,List.singleton_append] at hL;obtain ⟨r1,r2,o,r3,r4⟩:=IB.1 (m017 hi);have hlt:i < listed.size:=by omega
   have hfi:listed[i]?=some false:=by rw [Array.getD_eq_getD_getElem?,m016 hlt] at r2;rw [m016 hlt];simpa using r2
   have hset:∀ j,(listed.setIfInBounds i true)[j]?=if i=j then some true else listed[j]?:=fun j=>by
    rw [m029]
    split
    ·rename_i h;subst h;simp [hlt]
    ·rfl
   generalize hL':Region.linearise.go .any ops fuel (t / (Region.ready .any ops listed).length) (listed.setIfInBounds i true) []=L' at hL
   obtain ⟨k1,k2,k3,k4⟩:=ih _ (listed.setIfInBounds i true) (by simpa using hs) (by
    have:(listed.setIfInBounds i true).toList=listed.toList.set i true:=by simp
    rw [this];have:=ZO listed.toList i (by simpa using hfi)
    omega) L' hL'.symm
   subst hL;refine ⟨fun j hj=>?_,?_,fun j hj hf=>?_,fun dI x post o' hsp ho' e he hbe=>?_⟩
   ·rcases m013.1 hj with rfl | hj
    ·exact ⟨r1,hfi⟩
    ·have:=k1 j hj;rw [hset] at this
     split at this
     ·exact absurd this.2 (by simp)
     ·exact this
   ·rw [m036];refine ⟨fun hin=>?_,k2⟩;have:=(k1 i hin).2;rw [hset,if_pos rfl] at this;simp at this
   ·by_cases hij:i=j
    ·subst hij;exact m007 ..
    ·exact m005 _ (k3 j hj (by rw [hset,if_neg hij];exact hf))
   ·cases dI with
    | nil =>
     simp only [List.nil_append,m057] at hsp;obtain ⟨rfl,rfl⟩:=hsp;left;rw [r3] at ho';simp only [m000] at ho';subst ho';have:=r4 e he hbe;rw [Array.getD_eq_getD_getElem?] at this
     cases hq:listed[e.on]? with
     | none=>rw [hq] at this;cases this
     | some b=>rw [hq] at this;simp only [Option.getD_some] at this;rw [this]
    | cons p dI =>
     simp only [List.cons_append,m057] at hsp;obtain ⟨rfl,hsp⟩:=hsp;rcases k4 dI x post o' hsp ho' e he hbe with h | h
     ·rw [hset] at h
      split at h
      ·rename_i hie;right;rw [<- hie];exact m007 ..
      ·exact .inl h
     ·exact .inr (m005 _ h)
theorem DN {α:Type} {R:α->α->Prop}:∀ (L:List α),(∀ dI x post,L=dI++x::post->∀ a∈post,R x a)->L.Pairwise R:=by
 intro L
 induction L with
 | nil=>intro _;exact List.Pairwise.nil
 | cons x L ih =>intro h;refine List.pairwise_cons.2 ⟨fun a ha=>h [] x L rfl a ha,ih fun dI y post hp a ha=>h (x::dI) y post (by rw [hp];rfl) a ha⟩
theorem RF {L:List Nat} {n:Nat} (h1:∀ i∈L,i < n) (h2:L.Nodup) (h3:∀ i,i < n->i∈L):L.Perm (List.range n):=by
 rw [List.perm_iff_count];intro a;by_cases ha:a < n
 ·rw [h2.count,List.nodup_range.count,if_pos (h3 a ha),if_pos (List.mem_range.2 ha)]
 ·rw [h2.count,List.nodup_range.count,if_neg (fun h=>ha (h1 a h)),if_neg (fun h=>ha (List.mem_range.1 h))]
variable {P:Program} {F:Fz} {ρ:eZ} {s:St} {W:World}
theorem aId {X:Cx} (hT:dL P X.P) (hE:xM P X.P X.eqOk) (hC:lL P X) (hp:cZ X) (hR:R X.P F ρ s W) (hG:GlobOk X.P X.glob F W) {id:Nat} (hid:ρ id=none) (hlt:id < s.nx) {tm:List AV} {a:Act} (hTM:TM X.P F ρ tm a.tmps) (hdf:a.defers=[])
  {o:Oper} {r:AV} {s':St} (h:rM X id (ev X (gt tm)) o s=some (r,s')) {next:Act->World->Prop} {Q:Exit->Act->World->Prop}
  (hn:∀ a' W' ρ' F',TM X.P F' ρ' (put tm o.dst r) a'.tmps->R X.P F' ρ' s' W'->dF s ρ F W s' ρ' F' W'->(∀ i,i < s.nx->i≠id->ρ' i=ρ i)->s.nx<=s'.nx->a'.defers=[]->next a' W'):o.wp P a W next Q:=by
 obtain ⟨ts,ds⟩:=a;simp only at hTM hdf;subst hdf;have hfin:∀ v W',EQ X.P id s ρ F W r s' v W'->next ((⟨ts,[]⟩:Act).put o.dst v) W':=by intro v W' ⟨ρ',F',h1,h2,h3,h4,h5⟩;exact hn _ _ ρ' F' ((hTM.mono h3.fz h3.rho).put h1 o.dst []) h2 h3 h4 h5 (oD _ _ _)
 unfold Oper.wp;rcases bEz hT hE hC hp hR hG hid hlt (fun x=>aOq hG hTM [] x) h with ⟨v,W',h1,h2⟩ | ⟨W',h1,h2⟩ | ⟨f,args,h1,h2⟩
 ·rw [h1,Oper.upon_value];exact hfin _ _ h2
 ·rw [h1,Oper.upon_skip];exact hfin _ _ h2
 ·rw [h1,Oper.upon_enter];refine h2.mono ?_;intro e W' he
  cases e with
  | returned v=>exact hfin _ _ he
  | panicked c=>exact he.elim
  | outgrown=>exact he.elim
theorem aWs {X:Cx} (hT:dL P X.P) (hE:xM P X.P X.eqOk) (hC:lL P X) (hp:cZ X) {ops:Array Oper} {base:Nat} {Q:Exit->Act->World->Prop} {tm':List AV} {s':St}:∀ (L:List Nat) (ml:List (Nat×Option dV)) (tm:List AV) (s:St) (ρ:eZ) (F:Fz) (W:World) (a:Act),
  L.Nodup->(∀ i∈L,i < ops.size)->R X.P F ρ s W->GlobOk X.P X.glob F W->TM X.P F ρ tm a.tmps->a.defers=[]->(∀ j∈L,ρ (base+j)=none)->base+ops.size<=s.nx->tG X base ops.toList L (tm,s)=some (ml,(tm',s')) ->
  (∀ a' W' ρ' F',TM X.P F' ρ' tm' a'.tmps->R X.P F' ρ' s' W'->dF s ρ F W s' ρ' F' W'->(∀ k,k < base->ρ' k=ρ k)->s.nx<=s'.nx->a'.defers=[]->Q .normal a' W') ->
  wpOps P ops Q L a W:=by
 intro L
 induction L with
 | nil =>intro ml tm s ρ F W a _ _ hR hG hTM hdf _ _ h hq;simp only [tG,m000,m001] at h;obtain ⟨rfl,rfl,rfl⟩:=h;exact hq a W ρ F hTM hR (dF.refl _ _ _ _) (fun _ _=>rfl) (bJ _) hdf
 | cons i L ih =>
  intro ml tm s ρ F W a hnd hlt hR hG hTM hdf hfree hnx h hq;rw [m036] at hnd;have hi:i < ops.size:=hlt i (m007 ..);have hoi:ops[i]?=some ops[i]:=m016 hi;obtain ⟨m,q1,ml1,h1,h2,rfl⟩:=eX.1 h;generalize ops[i]=o at hoi;simp only [wpOps,hoi];simp only [pQ,Array.getElem?_toList,hoi] at h1
  cases hw:bG ops.toList (gt tm) o with
  | none=>rw [hw] at h1;cases h1
  | some w =>
   rw [hw] at h1;simp only [Option.bind_some] at h1;rw [HR hTM hw]
   cases w with
   | true =>
    simp only [cond_true,if_true] at h1 ⊢
    cases ho:rM X (base+i) (ev X (gt tm)) o s with
    | none=>rw [ho] at h1;cases h1
    | some r =>
     obtain ⟨r,s1⟩:=r;rw [ho] at h1;simp only [Option.map_some,m000,m001] at h1;obtain ⟨rfl,rfl⟩:=h1;left;refine aId hT hE hC hp hR hG (hfree i (m007 ..)) (by omega) hTM hdf ho ?_;intro a1 W1 ρ1 F1 k1 k2 k3 k4 k5 k6;refine ih ml1 _ s1 ρ1 F1 W1 a1 hnd.2 (fun j hj=>hlt j (m005 _ hj)) k2 (hG.step hR k3) k1 k6 (fun j hj=>?_) (by omega) h2 ?_
     ·have hji:j≠i:=fun e=>hnd.1 (e ▸ hj);have:=hlt j (m005 _ hj);rw [k4 _ (by omega) (by omega)];exact hfree j (m005 _ hj)
     ·intro a2 W2 ρ2 F2 m1 m2 m3 m4 m5 m6;exact hq a2 W2 ρ2 F2 m1 m2 (k3.trans m3) (fun k hk=>(m4 k hk).trans (k4 k (by omega) (by omega))) (by omega) m6
   | false =>simp only [cond_false,m015,if_false] at h1 ⊢;simp only [m000,m001] at h1;obtain ⟨rfl,rfl⟩:=h1;obtain ⟨ts,ds⟩:=a;refine ih ml1 _ s ρ F W _ hnd.2 (fun j hj=>hlt j (m005 _ hj)) hR hG (hTM.put (.tup [] #[] rfl (fun i h=>by simp at h)) o.dst ds) (by rw [oD];exact hdf) (fun j hj=>hfree j (m005 _ hj)) hnx h2 hq
theorem bCu {X:Cx} (hT:dL P X.P) (hE:xM P X.P X.eqOk) (hC:lL P X) (hp:cZ X):ED P X:=by
 intro ops tm s ρ F W a base tm' s' hR hG hTM hdf hfree hnx h Q hQ t;unfold drawn at h
 cases hm:BC (eG [] ops.toList) ops.toList with
 | false=>rw [hm] at h;cases h
 | true =>
 rw [hm] at h;simp only [cond_true] at h;obtain ⟨ml,g1,g2,g3⟩:=aRo (X:=X) ops.toList 0 [] tm s (by simp) h;have hmix:=OO ops.toList [] 0 rfl hm;simp only [m023,List.nil_append] at hmix;have hb:∀ (i:Nat) x,ops[i]?=some x->∀ e∈x.after.toList,Region.binds .any e=true->e.on < i:=fun i x hx=>(hmix i x (by simpa using hx)).1;obtain ⟨L1,L2,L3,L4⟩:=aRv hb ops.size t (Array.replicate ops.size false) (by simp) (by simp) _ rfl;have hlist:∀ i,i < ops.size->(Array.replicate ops.size false)[i]?=some false:=fun i hi=>by simp [hi]
 change wpOps P ops Q (Region.linearise.go .any ops ops.size t (Array.replicate ops.size false) []) a W;generalize hLe:Region.linearise.go .any ops ops.size t (Array.replicate ops.size false) []=L at L1 L2 L3 L4;have hperm:L.Perm (List.range' 0 ops.toList.length):=by rw [<- List.range_eq_range',Array.length_toList];exact RF (fun i hi=>(L1 i hi).1) L2 (fun i hi=>L3 i hi (hlist i hi))
 have hahead:∀ x dI post,L=dI++x::post->∀ b,bN ((eG [] ops.toList).getD x 0) b=true->b∈dI:=by
  intro x
  induction x using Nat.strongRecOn with
  | ind x ihx =>
   intro dI post hsp b hbit;have hx:x < ops.size:=(L1 x (by rw [hsp];simp)).1;have hox:ops[x]?=some ops[x]:=m016 hx;obtain ⟨pre0,p1,p2,p3⟩:=SN ops.toList [] x ops[x] (by simp [hox]);simp only [List.length_nil,m023] at p1 p2 p3;rw [List.getD_eq_getElem?_getD,p1,Option.getD_some] at hbit;rcases TF pre0 b _ _ hbit with h0 | ⟨e,he,hbe,h1⟩
   ·simp [bN] at h0
   ·have hin:e.on∈dI:=by
     rcases L4 dI x post _ hsp hox e he hbe with h2 | h2
     ·rw [Array.getElem?_replicate] at h2
      split at h2<;>simp at h2
     ·exact h2
    rcases h1 with h1 | h1
    ·subst h1;exact hin
    ·have hlt:=hb x _ hox e he hbe;rw [p3 e.on hlt] at h1;obtain ⟨p1',p2',hpre⟩:=List.append_of_mem hin;have:=ihx e.on hlt p1' (p2'++x::post) (by rw [hsp,hpre];simp) b h1;rw [hpre];exact m041 _ this
 have hpw:L.Pairwise (fun x b=>bN ((eG [] ops.toList).getD x 0) b=false):=by
  refine DN L fun dI x post hsp b hbm=>?_
  cases hbit:bN ((eG [] ops.toList).getD x 0) b with
  | false=>rfl
  | true =>have hin:=hahead x dI post hsp b hbit;rw [hsp,m063] at L2;exact absurd rfl (L2.2.2 b hin b (m005 _ hbm))
 have hfst:∀ p∈ml,p.1 < ops.size:=by
  have hmap:∀ (l:List Nat) (q:List AV×St) (ml:List (Nat×Option dV)) (r:List AV×St),tG X base ops.toList l q=some (ml,r)->ml.map (·.1)=l:=by
   intro l
   induction l with
   | nil=>intro q ml r h;simp only [tG,m000,m001] at h;obtain ⟨rfl,_⟩:=h;rfl
   | cons i l ih=>intro q ml r h;obtain ⟨m,q1,ml1,_,h2,rfl⟩:=eX.1 h;simp [ih _ _ _ h2]
  intro p hpm;have:p.1∈List.range' 0 ops.toList.length:=by rw [<- hmap _ _ _ _ g1];exact m021.2 ⟨p,hpm,rfl⟩
  rw [<- List.range_eq_range',Array.length_toList,List.mem_range] at this;exact this
 have happ:ml.Pairwise (Apt ops.toList (eG [] ops.toList)):=by
  have:ml.Pairwise fun p k=>p∈ml/\k∈ml/\(p.1 < k.1/\(bN ((eG [] ops.toList).getD k.1 0) p.1=true\/∀ u v,p.2=some u->k.2=some v->u.apart v=true)) :=
   List.Pairwise.imp_of_mem (fun {p k} hp hk h=>⟨hp,hk,h⟩) g3
  refine this.imp ?_
  rintro p k ⟨hpm,hkm,hlt,hor⟩
  have hpo:ops.toList[p.1]?=some (ops[p.1]'(hfst p hpm)):=by simp [m016 (hfst p hpm)]
  have hko:ops.toList[k.1]?=some (ops[k.1]'(hfst k hkm)):=by simp [m016 (hfst k hkm)]
  rcases hor with hor | hor
  ·exact .inl hor
  ·rcases (hmix k.1 _ hko).2 p.1 _ hlt hpo with hb' | hb'
   ·exact .inl hb'
   ·exact .inr ⟨⟨_,_,hpo,hko,hb'⟩,hor⟩
 obtain ⟨ml',hrun⟩:=aGq hp L _ (tm,s) ml (tm',s') hperm g1 happ hpw;exact aWs hT hE hC hp L ml' tm s ρ F W a L2 (fun i hi=>(L1 i hi).1) hR hG hTM hdf (fun j hj=>hfree j (L1 j hj).1) hnx hrun hQ
theorem yP {E:lI} (hE:CH P E) (n:Nat):aNd P E (cJ E n) :=
 aHv hE (fun cl f hC=>bCu (X:=cx E cl f) hE.ty hE.eq hC (tJ E cl f)) n
end
end Go.Proofs.YtdehdahimkcakaaGreatDoor.Ai
end
namespace Go.Proofs.YtdehdahimkcakaaGreatDoor.Ai
open Go
noncomputable section
section
abbrev JV:=FuncId->List AV->St->Option (AV×St)
def CLe (a b:JV):Prop:=∀ f args s r,a f args s=some r->b f args s=some r
def OT (X Y:Cx):Prop:=Y={ X with call:=Y.call }/\∀ dr f args s r,X.call dr f args s=some r->Y.call dr f args s=some r
def LLe (a b:Code->List AV->St->DC):Prop:=∀ c tm s r,a c tm s=some r->b c tm s=some r
theorem nR {X Y:Cx} (h:OT X Y) {dr:Bool} {id:Nat} {e:Operand->AV} {o:Oper} {s:St} {r:AV×St} (ho:fP X dr id e o s=some r):fP Y dr id e o s=some r:=by
 obtain ⟨hy,hc⟩:=h;rw [hy];generalize Y.call=cl at hc;unfold fP at ho ⊢
 cases h:o.op with
 | call c =>
  simp only [h] at ho ⊢
  cases hcal:c.callee with
  | value f =>
   simp only [hcal] at ho ⊢
   split at ho
   ·exact hc _ _ _ _ _ ho
   ·cases ho
  | invoke a b=>simp only [hcal] at ho;cases ho
  | builtin b=>simp only [hcal] at ho ⊢;exact ho
 | makeFunc fn a b=>cases fn<;>(simp only [h] at ho ⊢;exact ho)
 | makeMap t q=>cases q<;>(simp only [h] at ho ⊢;exact ho)
 | _=>simp only [h] at ho ⊢;exact ho
theorem rY {X Y:Cx} (h:OT X Y) (g:Nat->AV):ev Y g=ev X g:=by rw [h.1];rfl
theorem HG {X Y:Cx} (h:OT X Y) (e:Operand->AV) (o:Op):gG Y e o=gG X e o:=by rw [h.1];rfl
theorem gD {α β:Type} {o o':Option α} {f f':α->Option β} {r:β} (h:∀ a,o=some a->o'=some a) (hf:∀ a b,f a=some b->f' a=some b) (hr:o.bind f=some r):o'.bind f'=some r:=by
 cases ho:o with
 | none=>rw [ho] at hr;cases hr
 | some a=>rw [ho] at hr;rw [h a ho];exact hf a r hr
theorem CZ {α β:Type} {o o':Option α} {f:α->β} {r:β} (h:∀ a,o=some a->o'=some a) (hr:o.map f=some r):o'.map f=some r:=by
 cases ho:o with
 | none=>rw [ho] at hr;cases hr
 | some a=>rw [ho] at hr;rw [h a ho];exact hr
theorem iV {β:Type} {t:Bool} {a b a' b':Option β} {r:β} (ha:a=some r->a'=some r) (hb:b=some r->b'=some r) (h:cond t a b=some r):cond t a' b'=some r:=by
 cases t with
 | true=>exact ha h
 | false=>exact hb h
theorem GE {X Y:Cx} (h:OT X Y) {dr:Bool} {base:Nat} {all:List Oper}:∀ (l:List Oper) (i:Nat) (tm:List AV) (s:St) r,iD X dr base all l i tm s=some r->iD Y dr base all l i tm s=some r:=by
 intro l
 induction l with
 | nil=>intro i tm s r hr;exact hr
 | cons o l ih =>intro i tm s r hr;change ((bG all (gt tm) o).bind fun w=>cond w ((fP X dr (base+i) (ev X (gt tm)) o s).bind fun r=>iD X dr base all l (i+1) (put tm o.dst r.1) r.2) (iD X dr base all l (i+1) (put tm o.dst (.tup [])) s))=some r at hr;change ((bG all (gt tm) o).bind fun w=>cond w ((fP Y dr (base+i) (ev Y (gt tm)) o s).bind fun r=>iD Y dr base all l (i+1) (put tm o.dst r.1) r.2) (iD Y dr base all l (i+1) (put tm o.dst (.tup [])) s))=some r;rw [rY h];exact gD (fun _ h=>h) (fun w b hb=>iV (gD (fun a ha=>nR h ha) (fun a b=>ih _ _ _ _)) (ih _ _ _ _) hb) hr
theorem BA {X Y:Cx} (h:OT X Y) {id:Nat} {e:Operand->AV} {o:Oper} {s:St} {r:AV×St} (ho:rM X id e o s=some r):rM Y id e o s=some r:=by unfold rM at ho ⊢;rw [HG h];exact iV (CZ fun a ha=>nR h ha) (CZ fun a ha=>nR h ha) ho
theorem yY {X Y:Cx} (h:OT X Y) (i id:Nat) (e:Operand->AV) (o:Op) (s:St):bH Y i id e o s=bH X i id e o s:=by unfold bH;rw [HG h]
theorem HQ {X Y:Cx} (h:OT X Y) {base:Nat} {all:List Oper} {ms:List Nat}:∀ (l:List Oper) (i:Nat) (lg:List dV) (tm:List AV) (s:St) r,mR X base all ms l i lg tm s=some r->mR Y base all ms l i lg tm s=some r:=by
 intro l
 induction l with
 | nil=>intro i lg tm s r hr;exact hr
 | cons o l ih =>
  intro i lg tm s r hr
  change ((bG all (gt tm) o).bind fun w=>cond w
   (cond (clear (ms.getD i 0) (bH X i (base+i) (ev X (gt tm)) o.op s) lg)
    ((rM X (base+i) (ev X (gt tm)) o s).bind fun r=>mR X base all ms l (i+1) (bH X i (base+i) (ev X (gt tm)) o.op s::lg) (put tm o.dst r.1) r.2) none)
   (mR X base all ms l (i+1) lg (put tm o.dst (.tup [])) s))=some r at hr
  change ((bG all (gt tm) o).bind fun w=>cond w
   (cond (clear (ms.getD i 0) (bH Y i (base+i) (ev Y (gt tm)) o.op s) lg)
    ((rM Y (base+i) (ev Y (gt tm)) o s).bind fun r=>mR Y base all ms l (i+1) (bH Y i (base+i) (ev Y (gt tm)) o.op s::lg) (put tm o.dst r.1) r.2) none)
   (mR Y base all ms l (i+1) lg (put tm o.dst (.tup [])) s))=some r
  rw [rY h,yY h];exact gD (fun _ h=>h) (fun w b hb=>iV (iV (gD (fun a ha=>BA h ha) (fun a b=>ih _ _ _ _ _)) id) (ih _ _ _ _ _) hb) hr
theorem RD {X Y:Cx} (h:OT X Y) {base:Nat} {all:List Oper} {tm:List AV} {s:St} {r:List AV×St} (hr:drawn X base all tm s=some r):drawn Y base all tm s=some r:=by unfold drawn at hr ⊢;exact iV (HQ h _ _ _ _ _ _) id hr
theorem OH {a a':DC} {f f':List AV->St->DC} {r:Ex×List AV×St} (ha:∀ q,a=some q->a'=some q) (hf:∀ tm s q,f tm s=some q->f' tm s=some q) (h:HW a f=some r):HW a' f'=some r:=by
 cases hq:a with
 | none=>rw [hq] at h;cases h
 | some q =>
  rw [hq] at h;rw [ha q hq];obtain ⟨e,tm,s⟩:=q
  cases e with
  | nm=>exact hf _ _ _ h
  | _=>exact h
theorem kL {X Y:Cx} (h:OT X Y) {lf lf':Code->List AV->St->DC} (hl:LLe lf lf') (c:Code):∀ tm s r,code X lf c tm s=some r->code Y lf' c tm s=some r:=by
 induction c with
 | region id ops dr =>intro tm s r hr;change ((cond dr (drawn X s.nx ops.toList tm ⟨s.h,s.nx+ops.size⟩) (iD X false s.nx ops.toList ops.toList 0 tm ⟨s.h,s.nx+ops.size⟩)).map fun r=>(Ex.nm,r.1,r.2))=some r at hr;change ((cond dr (drawn Y s.nx ops.toList tm ⟨s.h,s.nx+ops.size⟩) (iD Y false s.nx ops.toList ops.toList 0 tm ⟨s.h,s.nx+ops.size⟩)).map fun r=>(Ex.nm,r.1,r.2))=some r;exact CZ (fun a ha=>iV (fun h'=>RD h h') (GE h _ _ _ _ _) ha) hr
 | seq a b iha ihb=>intro tm s r hr;exact OH (iha tm s) ihb hr
 | cond c a b iha ihb =>intro tm s r hr;change ((KX (ev X (gt tm) c)).bind fun t=>cond t (code X lf a tm s) (code X lf b tm s))=some r at hr;change ((KX (ev Y (gt tm) c)).bind fun t=>cond t (code Y lf' a tm s) (code Y lf' b tm s))=some r;rw [rY h];exact gD (fun _ h=>h) (fun t q hq=>iV (iha tm s q) (ihb tm s q) hq) hr
 | block id c ih =>
  intro tm s r hr;change blk id (code X lf c tm s)=some r at hr;change blk id (code Y lf' c tm s)=some r
  cases hq:code X lf c tm s with
  | none=>rw [hq] at hr;cases hr
  | some q=>rw [hq] at hr;rw [ih tm s q hq];exact hr
 | loop c ih=>intro tm s r hr;exact hl c tm s r hr
 | scope c ih =>
  intro tm s r hr;change YZ (code X lf c tm s)=some r at hr;change YZ (code Y lf' c tm s)=some r
  cases hq:code X lf c tm s with
  | none=>rw [hq] at hr;cases hr
  | some q=>rw [hq] at hr;rw [ih tm s q hq];exact hr
 | skip | exit | label | goto | ret=>intro tm s r hr;exact hr
 | _=>intro tm s r hr;cases hr
theorem nY (X:Cx) (kp n:Nat) (c:Code) (tm:List AV) (s:St):gI X kp (n+1) c tm s=HW (code X (gI X kp n) c tm s) fun tm s=>gI X kp n c (mask kp 0 tm) s:=rfl
theorem iO {X Y:Cx} (h:OT X Y) (kp:Nat):∀ n m,n<=m->LLe (gI X kp n) (gI Y kp m):=by
 intro n
 induction n with
 | zero=>intro m _ c tm s r hr;cases hr
 | succ n ih =>intro m hm c tm s r hr;obtain ⟨k,rfl⟩:∃ k,m=k+1:=⟨m - 1,by omega⟩;rw [nY] at hr ⊢;exact OH (kL h (ih k (by omega)) c tm s) (fun tm s q=>ih k (by omega) c _ s q) hr
theorem TP (E:lI) {a b:JV} (h:CLe a b) (f:FuncId) (dr:Bool) (g:FuncId) (args:List AV) (s:St) (r:AV×St) (hr:gN E a f dr g args s=some r):gN E b f dr g args s=some r:=by
 unfold gN at hr ⊢
 split at hr
 ·rename_i hp;rw [if_pos hp];refine gD (fun _ h=>h) (fun as q hq=>?_) hr;exact gD (fun x hx=>h _ _ _ _ hx) (fun _ _ h=>h) hq
 ·rename_i hp;rw [if_neg hp]
  split at hr
  ·cases hr
  ·rename_i hd;rw [if_neg hd]
   split at hr
   ·rename_i hz;rw [if_pos hz];exact gD (fun _ h=>h) (fun q _ hq=>gD (fun x hx=>h _ _ _ _ hx) (fun _ _ h=>h) hq) hr
   ·rename_i hz;rw [if_neg hz];exact h _ _ _ _ hr
theorem VJ (E:lI) {a b:JV} (h:CLe a b) (f:FuncId):OT (cx E a f) (cx E b f):=⟨rfl,fun dr g args s r hr=>TP E h f dr g args s r hr⟩
theorem tE (E:lI) (n:Nat) (f:FuncId) (args:List AV) (s:St):cJ E (n+1) f args s=match E.prim f with
   | some g=>g args s
   | none=>match E.fns f with
    | none=>none
    | some fn=>match fn.body with
     | none=>none
     | some c=>kY E.P fn (code (cx E (cJ E n) f) (gI (cx E (cJ E n) f) (E.kp f) n) c (fJ fn args) s):=rfl
theorem RB (E:lI):∀ n m,n<=m->CLe (cJ E n) (cJ E m):=by
 intro n
 induction n with
 | zero=>intro m _ f args s r hr;cases hr
 | succ n ih =>
  intro m hm f args s r hr;obtain ⟨k,rfl⟩:∃ k,m=k+1:=⟨m - 1,by omega⟩;rw [tE] at hr ⊢
  cases hp:E.prim f with
  | some g=>rw [hp] at hr;exact hr
  | none =>
   rw [hp] at hr;simp only at hr ⊢
   cases hf:E.fns f with
   | none=>rw [hf] at hr;cases hr
   | some fn =>
    rw [hf] at hr;simp only at hr ⊢
    cases hb:fn.body with
    | none=>rw [hb] at hr;cases hr
    | some c =>
     rw [hb] at hr;simp only at hr ⊢;have hX:=VJ E (ih k (by omega)) f
     cases hc:code (cx E (cJ E n) f) (gI (cx E (cJ E n) f) (E.kp f) n) c (fJ fn args) s with
     | none=>rw [hc] at hr;cases hr
     | some q =>rw [hc] at hr;rw [kL hX (iO hX (E.kp f) n k (by omega)) c _ _ q hc];exact hr
end
end
noncomputable section
section
variable {X:Cx} {s:St} {l:List Nat}
def zM:Op->Bool
 | .call c=>match c.callee with
  | .value _=>true
  | _=>false
 | _=>false
theorem fF {m:Nat} (h:m∈l):(s.only l).h m=s.h m:=by simp only [St.only,bM.2 h,cond_true]
theorem aAl {id a:Nat} {b:Option gL} (hid:s.h id=none) (ha:a∈id::l):s.merge ((s.only l).set a b) (id::l)=s.set a b:=by
 refine yT (fun m=>?_) rfl;simp only [St.merge,St.set,St.only]
 cases hm:dK m (id::l) with
 | false =>
  cases hb:Nat.beq m a with
  | false=>rfl
  | true=>rw [iC hb,bM.2 ha] at hm;cases hm
 | true =>
  simp only [cond_true]
  cases hb:Nat.beq m a with
  | true=>rfl
  | false =>
   simp only [cond_false]
   cases hl:dK m l with
   | true=>rfl
   | false =>
    rcases m013.1 (bM.1 hm) with h | h
    ·subst h;rw [hid];rfl
    ·rw [bM.2 h] at hl;cases hl
theorem QN {id:Nat} (hid:s.h id=none):s.merge (s.only l) (id::l)=s:=by
 refine yT (fun m=>?_) rfl;simp only [St.merge,St.only]
 cases hm:dK m (id::l) with
 | false=>rfl
 | true =>
  simp only [cond_true]
  cases hl:dK m l with
  | true=>rfl
  | false =>
   rcases m013.1 (bM.1 hm) with h | h
   ·subst h;rw [hid];rfl
   ·rw [bM.2 h] at hl;cases hl
def bE (id:Nat) (l:List Nat) (s:St) (q q':Option (AV×St)):Prop:=∀ r s',q=some (r,s')->∃ t,q'=some (r,t)/\(s.h id=.none->s.merge t (id::l)=s')
theorem bE.set {id:Nat} {a:Nat} (ha:a∈id::l) (r:AV) (b:Option gL):bE id l s (some (r,s.set a b)) (some (r,(s.only l).set a b)):=by intro r' s' h;simp only [m000,m001] at h;obtain ⟨rfl,rfl⟩:=h;exact ⟨_,rfl,fun hid=>aAl hid ha⟩
theorem bE.same {id:Nat} (r:AV):bE id l s (some (r,s)) (some (r,s.only l)):=by intro r' s' h;simp only [m000,m001] at h;obtain ⟨rfl,rfl⟩:=h;exact ⟨_,rfl,fun hid=>QN hid⟩
theorem bE.none {id:Nat} {q':Option (AV×St)}:bE id l s none q':=by intro r s' h;cases h
theorem set_set (s:St) (a c:Nat) (b d:Option gL):(s.set a b).set c d=⟨fun m=>cond (Nat.beq m c) d (cond (Nat.beq m a) b (s.h m)),s.nx⟩:=rfl
theorem tB {id:Nat} (e z b:Nat) (c:List AV):bE id l s (dM e z b c id s) (dM e z b c id (s.only l)):=by
 unfold dM
 split
 ·exact bE.set (m007 ..) _ _
 ·exact bE.none
theorem OK {id a:Nat} (ha:a∈l) (e z b:Nat) (c:List AV):bE id l s (dM e z b c id (s.set a none)) (dM e z b c id ((s.only l).set a none)):=by
 unfold dM
 split
 ·intro r s' h;simp only [m000,jV,m001] at h;obtain ⟨rfl,rfl⟩:=h;refine ⟨_,rfl,fun hid=>yT (fun m=>?_) rfl⟩;simp only [St.merge,St.set,St.only]
  cases hm:dK m (id::l) with
  | false =>
   have h1:Nat.beq m id=false:=by
    cases hb:Nat.beq m id with
    | false=>rfl
    | true=>rw [iC hb,bM.2 (m007 ..)] at hm;cases hm
   have h2:Nat.beq m a=false:=by
    cases hb:Nat.beq m a with
    | false=>rfl
    | true=>rw [iC hb,bM.2 (m005 _ ha)] at hm;cases hm
   rw [h1,h2];rfl
  | true =>
   simp only [cond_true]
   cases h1:Nat.beq m id with
   | true=>rfl
   | false =>
    simp only [cond_false]
    cases h2:Nat.beq m a with
    | true=>rfl
    | false =>
     simp only [cond_false]
     cases hl:dK m l with
     | true=>rfl
     | false =>
      rcases m013.1 (bM.1 hm) with h | h
      ·subst h;simp at h1
      ·rw [bM.2 h] at hl;cases hl
 ·exact bE.none
theorem mN {z:Nat} {x:AV} (h:∀ m∈aF x,m∈l):aR z x (s.only l)=aR z x s:=by
 cases x<;>try rfl
 simp only [aR];rw [fF (h _ (m008.2 rfl))]
theorem oQ {id:Nat} {e z b:Nat} {x:AV} {news:List AV} (h:∀ m∈aF x,m∈l):bE id l s (bL e z b x news id s) (bL e z b x news id (s.only l)):=by
 unfold bL
 split
 ·split<;>first | exact bE.same _ | exact bE.none
 ·split
  ·exact bE.none
  ·split
   ·exact tB _ _ _ _
   ·split
    ·exact tB _ _ _ _
    ·exact bE.none
   ·have ha:=h _ (m008.2 rfl);rw [fF ha]
    split
    ·split
     ·split
      ·split
       ·split
        ·exact bE.set (m005 _ ha) _ _
        ·exact bE.none
       ·exact tB _ _ _ _
      ·split
       ·exact bE.set (m005 _ ha) _ _
       ·split
        ·exact OK ha _ _ _ _
        ·exact bE.none
     ·exact bE.none
    ·exact bE.none
   ·exact bE.none
theorem RJ {id:Nat} {z:Nat} {x:AV} {c:List AV} (h:∀ m∈aF x,m∈l):bE id l s (pA z x c s) (pA z x c (s.only l)):=by
 unfold pA
 split
 ·exact bE.same _
 ·exact bE.same _
 ·exact bE.same _
 ·have ha:=h _ (m008.2 rfl);simp only;rw [fF ha]
  split
  ·split
   ·exact bE.set (m005 _ ha) _ _
   ·exact bE.none
  ·exact bE.none
 ·exact bE.none
theorem ZG {c:Call} {b:Builtin} (hc:c.callee=.builtin b) {e:Operand->AV}:∀ x∈c.args.toList.map e,∀ m∈aF x,m∈sD (.call c) e:=by intro x hx m hm;obtain ⟨y,hy,rfl⟩:=m021.1 hx;simp only [sD,hc,List.mem_flatMap];exact ⟨y,hy,hm⟩
theorem nP {id:Nat} {q q':Option AV} (h:q'=q):bE id l s (q.map (·,s)) (q'.map (·,s.only l)):=by
 subst h
 cases q' with
 | none=>exact bE.none
 | some r=>exact bE.same r
theorem JO {id:Nat} {b:Builtin} {ats:Array TypeId} {args:List AV} (h:∀ x∈args,∀ m∈aF x,m∈l):bE id l s (bK X b ats args id s) (bK X b ats args id (s.only l)):=by
 unfold bK
 split
 ·rename_i x
  cases (ats[0]?).bind (eH X.P) with
  | none=>exact bE.none
  | some d =>
   simp only [Option.bind_some]
   split
   ·have:vW x (s.only l)=vW x s:=by
     cases x<;>try rfl
     simp only [vW];rw [fF (h _ (m007 ..) _ (m008.2 rfl))]
    rw [this]
    cases vW x s with
    | none=>exact bE.none
    | some n=>exact bE.same _
   ·exact bE.none
 ·cases (ats[0]?).bind (eH X.P) with
  | none=>exact bE.none
  | some d =>
   simp only [Option.bind_some]
   split
   ·cases RK _ with
    | none=>exact bE.none
    | some n=>exact bE.same _
   ·exact bE.none
 ·cases zK (fun y x=>decide (y < x)) args with
  | none=>exact bE.none
  | some r=>exact bE.same _
 ·cases zK (fun y x=>decide (x < y)) args with
  | none=>exact bE.none
  | some r=>exact bE.same _
 ·rename_i x y;have hx:∀ m∈aF x,m∈l:=h x (by simp);have hy:∀ m∈aF y,m∈l:=h y (by simp)
  split
  ·split
   ·split
    ·exact oQ hx
    ·exact bE.none
   ·exact bE.none
  ·split
   ·split
    ·rw [mN hy]
     cases aR _ _ s with
     | none=>exact bE.none
     | some c=>exact oQ hx
    ·exact bE.none
   ·exact bE.none
  ·split
   ·split
    ·rw [mN hy]
     cases aR _ _ s with
     | none=>exact bE.none
     | some c=>exact oQ hx
    ·exact bE.none
   ·exact bE.none
  ·exact bE.none
 ·rename_i x y;have hx:∀ m∈aF x,m∈l:=h x (by simp);have hy:∀ m∈aF y,m∈l:=h y (by simp)
  split
  ·split
   ·split
    ·exact bE.none
    ·rw [mN hy]
     cases aR _ _ s with
     | none=>exact bE.none
     | some c=>exact RJ hx
   ·exact bE.none
  ·exact bE.none
 ·split
  ·exact bE.same _
  ·rw [fF (h _ (m007 ..) _ (m008.2 rfl))]
   split
   ·split
    ·exact bE.same _
    ·exact bE.none
   ·exact bE.none
  ·exact bE.none
 ·split
  ·split
   ·rw [fF (h _ (m007 ..) _ (m008.2 rfl))]
    split
    ·split
     ·split
      ·cases fH _ with
       | none=>exact bE.none
       | some c =>
        simp only [Option.bind_some]
        split
        ·exact bE.set (m005 _ (h _ (m007 ..) _ (m008.2 rfl))) _ _
        ·exact bE.none
      ·exact bE.none
     ·exact bE.none
    ·exact bE.none
   ·exact bE.same _
   ·exact bE.same _
   ·exact bE.none
  ·exact bE.none
 ·exact bE.none
theorem SV {P:Ty} {src dst:TypeId} {x:AV} (h:∀ m∈aF x,m∈l):mH P src dst x (s.only l)=mH P src dst x s:=by
 unfold mH
 split
 ·rfl
 ·rfl
 ·rfl
 ·split
  ·rfl
  ·rfl
  ·rw [fF (h _ (m008.2 rfl))]
  ·rfl
 ·rfl
 ·rfl
 ·rw [fF (h _ (m008.2 rfl))]
 ·rw [fF (h _ (m008.2 rfl))]
 ·rfl
theorem LZ {P:Ty} {ty:TypeId} {x:AV} {lo hi mx:Option AV} (h:∀ m∈aF x,m∈l):gA P ty x lo hi mx (s.only l)=gA P ty x lo hi mx s:=by
 unfold gA
 split
 ·rfl
 ·rename_i e _
  cases eP P e with
  | none=>rfl
  | some y =>
   simp only [Option.bind_some];cases x<;>try rfl
   simp only;rw [fF (h _ (m008.2 rfl))]
 ·cases x<;>try rfl
  rename_i n e _ id off;simp only
  cases eP P e with
  | none=>rfl
  | some y =>simp only [Option.bind_some];rw [fF (h _ (m008.2 rfl))]
 ·rfl
theorem aEw {id:Nat} {e:Operand->AV} {o:Oper} (hv:zM o.op=false) (hf:sD o.op e=l):bE id l s (fP X true id e o s) (fP X true id e o (s.only l)):=by
 subst hf;unfold fP
 cases ho:o.op with
 | move | assign=>exact bE.same _
 | pick c a b=>simp only;cases KX (e c) with | none=>exact bE.none | some t=>exact bE.same _
 | alloc ty=>simp only;cases zero X.P ty with | none=>exact bE.none | some z=>exact bE.set (m007 ..) _ _
 | box ty x =>
  simp only
  split
  ·exact bE.set (m007 ..) _ _
  ·exact bE.none
 | build | buildSlice | binOp | unOp | fieldAddr | field | indexAddr | index=>exact nP rfl
 | convert src dst x =>exact nP (SV fun m hm=>hm)
 | slice ty x lo hi mx =>exact nP (LZ fun m hm=>hm)
 | lookup ty m k ok =>
  refine nP ?_
  have:jK (e m) (e k) (s.only (sD (.lookup ty m k ok) e))=jK (e m) (e k) s:=by
   cases hx:e m<;>try rfl
   simp only [jK];rw [fF (by simp [sD,hx,aF])]
  simp only [eA,this]
 | load ty a =>
  simp only
  cases eP X.P ty with
  | none=>exact bE.none
  | some y =>
   simp only [Option.bind_some];refine nP ?_;cases hx:e a<;>try rfl
   simp only [Ai.load];rw [fF (by simp [sD,hx,aF])]
 | store ty a x =>
  simp only
  cases eP X.P ty with
  | none=>exact bE.none
  | some y =>
   simp only [Option.bind_some];cases hx:e a<;>try exact bE.none
   have ha:∀ i o,e a=.ptr i o->i∈sD (.store ty a x) e:=fun i o h=>by simp [sD,h,aF]
   simp only [Ai.store];rw [fF (ha _ _ hx)]
   split
   ·split
    ·exact bE.set (m005 _ (ha _ _ hx)) _ _
    ·exact bE.none
   ·exact bE.none
 | nilCheck x=>simp only;split<;>first | exact bE.same _ | exact bE.none
 | makeInterface ty x=>simp only;split<;>first | exact bE.same _ | exact bE.none
 | makeFunc fn a b=>cases fn<;>first | exact bE.same _ | exact bE.none
 | makeMap ty q=>cases q with
  | none=>exact bE.set (m007 ..) _ _
  | some q=>exact bE.none
 | makeSlice ty a c =>
  simp only
  split
  ·split
   ·split
    ·exact bE.set (m007 ..) _ _
    ·exact bE.none
   ·exact bE.none
  ·exact bE.none
 | mapUpdate ty m k x =>
  simp only;unfold eI
  split
  ·rename_i kt _ _
   cases eH X.P kt with
   | none=>exact bE.none
   | some kd =>
    simp only [Option.bind_some]
    split
    ·rename_i i hx;have ha:i∈sD (.mapUpdate ty m k x) e:=by simp [sD,hx,aF]
     rw [fF ha]
     split
     ·split
      ·cases find (e k) _ with
       | none=>exact bE.none
       | some q=>exact bE.set (m005 _ ha) _ _
      ·exact bE.none
     ·exact bE.none
    ·exact bE.none
  ·exact bE.none
 | extract x i =>
  simp only
  split
  ·exact nP rfl
  ·exact bE.none
 | call c =>
  cases hc:c.callee with
  | value f=>rw [ho] at hv;simp [zM,hc] at hv
  | invoke a b=>simp only [hc];exact bE.none
  | builtin b =>simp only [hc];exact JO (ZG hc)
 | _=>exact bE.none
theorem RV {e:Operand->AV} {o:Op} (hv:zM o=false):dD e o s=sD o e:=by
 cases o<;>try rfl
 rename_i c;unfold dD;simp only
 cases hc:c.callee with
 | value f=>simp [zM,hc] at hv
 | _=>rfl
theorem OL (hp:cZ X) {id:Nat} {e:Operand->AV} {o:Oper} {r:AV} {s':St} (hid:cA o.op=true->s.h id=none) (hv:zM o.op=false) (h:fP X true id e o s=some (r,s')):rM X id e o s=some (r,s'):=by
 have hw:gG X e o.op=false:=by
  cases ho:o.op<;>try rfl
  rename_i c;unfold gG
  cases hc:c.callee with
  | value f=>rw [ho] at hv;simp [zM,hc] at hv
  | _=>simp only [hc]
 unfold rM;rw [hw,RV hv];simp only [cond_false];obtain ⟨t,h1,h2⟩:=aEw (X:=X) hv rfl r s' h;rw [h1];simp only [Option.map_some]
 cases hwr:cA o.op with
 | true=>rw [cond_true,h2 (hid hwr)]
 | false =>rw [cond_false,(yI hp h hwr).1]
end
end
noncomputable section
abbrev Gf:=Nat->AV
abbrev Kt:=Gf->St->Prop
def pF (g:Gf) (d:Option Nat) (v:AV):Gf:=match d with
 | some d=>fun k=>cond (Nat.beq k d) v (g k)
 | none=>g
inductive aA {α:Type} (o:Option α) (k:α->Prop):Prop
 | mk (a:α) (h:o=some a) (hk:k a):aA o k
inductive aY (v:AV) (a b:Prop):Prop
 | t (h:v=.bool true) (ha:a):aY v a b
 | f (h:v=.bool false) (hb:b):aY v a b
inductive Gd (w:Option Bool) (s:St) (op:(aE)->Prop) (k:aE):Prop
 | t (h:w=some true) (hk:op k):Gd w s op k
 | f (h:w=some false) (hk:k (.tup []) s):Gd w s op k
theorem Bnd_some {α:Type} {a:α} {k:α->Prop}:aA (some a) k↔k a:=by
 constructor
 ·intro h
  cases h with
  | mk b h hk=>cases h;exact hk
 ·intro h;exact .mk a rfl h
theorem Bnd_none {α:Type} {k:α->Prop}:aA none k↔False:=by
 constructor
 ·intro h
  cases h with
  | mk b h hk=>cases h
 ·intro h;exact h.elim
theorem IfP_bool {t:Bool} {a b:Prop}:aY (.bool t) a b↔(if t=true then a else b):=by
 cases t with
 | false =>
  constructor
  ·intro h
   cases h with
   | t h _=>cases h
   | f _ h=>exact h
  ·intro h;exact .f rfl h
 | true =>
  constructor
  ·intro h
   cases h with
   | t _ h=>exact h
   | f h _=>cases h
  ·intro h;exact .t rfl h
theorem Gd_some {t:Bool} {s:St} {op:(aE)->Prop} {k:aE}:Gd (some t) s op k↔(if t=true then op k else k (.tup []) s):=by
 cases t with
 | false =>
  constructor
  ·intro h
   cases h with
   | t h _=>cases h
   | f _ h=>exact h
  ·intro h;exact .f rfl h
 | true =>
  constructor
  ·intro h
   cases h with
   | t _ h=>exact h
   | f h _=>cases h
  ·intro h;exact .t rfl h
def pC (r:Option AV) (Q:AV->Prop):Prop:=match r with
 | some v=>Q v
 | none=>False
def aD (v:AV) (want:Bool):Option Bool:=match v with
 | .bool b=>some (b==want)
 | .undef=>none
 | _=>some false
def adv (s:St) (n:Nat):St:=⟨s.h,s.nx+n⟩
def aQ:AV->Bool
 | .ptr _ _ | .pel _ _ | .fn _ _ _=>true
 | _=>false
def aW (v:AV) (i:Nat):Option AV:=match v with
 | .tup vs=>vs[i]?
 | _=>none
def aV (c a b:AV):Option AV:=match c with
 | .bool t=>some (cond t a b)
 | _=>none
def mkS (P:Ty) (t:TypeId) (n c:AV) (id:Nat) (s:St):Option (AV×St):=match eH P t with
 | some (.slice et)=>match eP P et,dO P et,zero P et,pE n,pE c with
  | some (z,_),some b,some zv,some n,some c=>if 0<=n/\n=c/\n * b<=most/\n<=most/\zv.cells.length=z/\0 < z then
    some (.ref id 0 n.toNat (some n.toNat) et,s.set id (some (.cells (List.replicate n.toNat zv.cells).flatten et true true))) else none
  | _,_,_,_,_=>none
 | _=>none
def mkI (P:Ty) (t:TypeId) (x:AV):Option AV:=match eH P t with
 | none | some (.interface _)=>none
 | some _=>some (.iface t x)
def bA (E:lI) (h:FuncId) (args:List AV) (v:AV):Prop:=∃ n r s' ids,cJ E n h args St.empty=some (r,s')/\pur E.P s' 12 r=some (v,ids)
def WideC (E:lI) (h:FuncId) (args:List AV) (s:St) (r:AV) (s':St):Prop:=∃ n,cJ E n h args s=some (r,s')
inductive aN (E:lI) (h:FuncId) (args:List AV) (s:St) (k:aE):Prop
 | mk (as:List AV) (ids:List Nat) (v:AV) (hp:dH (pur E.P s 12) args=some (as,ids)) (hc:bA E h as v) (hk:k v (if ids.isEmpty||v.flat then s else s.drop ids)):aN E h args s k
inductive aL (E:lI) (h:FuncId) (args:List AV) (s:St) (k:aE):Prop
 | mk (hc:cond (E.fz h) (aA (jR E.P s (E.se h) args) fun q=>∃ r s',WideC E h q.1 (s.drop q.2) r s'/\aA (pur E.P s' 12 r) fun v=>k v.1 (s'.drop v.2)) (∃ r s',WideC E h args s r s'/\k r s')):aL E h args s k
def DU (E:lI) (f h:FuncId) (args:List AV) (s:St) (k:aE):Prop:=Bool.rec (motive:=fun _=>Prop) (aL E h args s k) (aN E h args s k) (E.pm f h)
def sK (E:lI) (f:FuncId) (v:AV) (args:List AV) (s:St) (k:aE):Prop:=match v with
 | .fn h a cap=>DU E f h (a++args++cap) s k
 | _=>False
def x0 (E:lI) (f:FuncId):Cx:=cx E (fun _ _ _=>none) f
def bX (E:lI):Cx:=⟨E.P,E.eqOk,E.glob,fun _ _ _ _=>none,fun _=>false⟩
def SZ (E:lI) (f:FuncId) (id:Nat) (e:Operand->AV) (o:Oper) (s:St) (k:aE):Prop :=
 match o.op with
 | .move x | .assign x=>k (e x) s
 | .pick c a b=>aA (aV (e c) (e a) (e b)) fun v=>k v s
 | .alloc t=>aA (zero E.P t) fun z=>k (.ptr id 0) (s.set id (some (.cells z.cells t true true)))
 | .box t x=>(e x).cells.all AV.one=true/\k (.ptr id 0) (s.set id (some (.cells (e x).cells t true true)))
 | .build t parts=>aA (EW E.P t (parts.toList.map fun p=>(p.1,e p.2))) fun v=>k v s
 | .buildSlice t n parts=>aA (iW E.P t n (parts.toList.map fun p=>(p.1,e p.2))) fun v=>k v s
 | .load t a=>aA ((eP E.P t).bind fun l=>Ai.load l.1 l.2 (e a) s) fun v=>k v s
 | .store t a x=>aA ((eP E.P t).bind fun l=>Ai.store l.1 (e a) (e x) s) fun s'=>k (.tup []) s'
 | .nilCheck x=>aQ (e x)=true/\k (e x) s
 | .binOp op t x y _=>aA (lK E.P E.eqOk op t (e x) (e y)) fun v=>k v s
 | .unOp op _ x=>aA (un op (e x)) fun v=>k v s
 | .convert src dst x=>aA (mH E.P src dst (e x) s) fun v=>k v s
 | .makeFunc (.func f) first captured=>k (.fn f (first.toList.map e) (captured.toList.map e)) s
 | .makeSlice t n c=>aA (mkS E.P t (e n) (e c) id s) fun r=>k r.1 r.2
 | .makeMap _ none=>k (.map id) (s.set id (some (.map [])))
 | .makeInterface t x=>aA (mkI E.P t (e x)) fun v=>k v s
 | .slice t x lo hi mx=>aA (gA E.P t (e x) (lo.map e) (hi.map e) (mx.map e) s) fun v=>k v s
 | .fieldAddr t x f=>aA (AS E.P t f (e x)) fun v=>k v s
 | .field t x f=>aA (KM E.P t f (e x)) fun v=>k v s
 | .indexAddr t x i=>aA (zW E.P t (e x) (e i)) fun v=>k v s
 | .index t x i=>aA (xD E.P t (e x) (e i)) fun v=>k v s
 | .lookup t m q ok=>aA (eA E.P t (e m) (e q) ok s) fun v=>k v s
 | .mapUpdate t m q x=>aA (eI E.P t (e m) (e q) (e x) s) fun s'=>k (.tup []) s'
 | .extract t i=>aA (aW (e t) i) fun v=>k v s
 | .call c=>(match c.callee with
  | .builtin b=>aA (bK (bX E) b c.argTypes (c.args.toList.map e) id s) fun r=>k r.1 r.2
  | .value fo=>sK E f (e fo) (c.args.toList.map e) s k
  | _=>False)
 | _=>aA (fP (x0 E f) false id e o s) fun r=>k r.1 r.2
noncomputable def MS (E:lI) (f:FuncId) (base:Nat) (all:List Oper) (l:List Oper):Nat->Gf->St->Kt->Prop :=
 List.rec (motive:=fun _=>Nat->Gf->St->Kt->Prop) (fun _ g s k=>k g s)
  (fun o _ ih i g s k=>Option.rec (motive:=fun _=>Prop)
   (SZ E f (base+i) (ev (bX E) g) o s fun v s'=>ih (i+1) (pF g o.dst v) s' k)
   (fun _=>Gd (bG all g o) s (SZ E f (base+i) (ev (bX E) g) o s) fun v s'=>ih (i+1) (pF g o.dst v) s' k) o.guard) l
def rch (s:St) (vs:List AV):List Nat:=jT s.h 4000 (dA vs) []
inductive eL (E:lI) (h:FuncId) (args:List AV) (l:List Nat) (s:St) (k:aE):Prop
 | mk (as:List AV) (ids:List Nat) (v:AV) (hp:dH (pur E.P (s.only l) 12) args=some (as,ids)) (hc:bA E h as v) (hf:(ids.isEmpty||v.flat)=true) (hk:k v s):eL E h args l s k
inductive cH (E:lI) (h:FuncId) (args:List AV) (l:List Nat) (s:St) (k:aE):Prop
 | mk (hc:cond (E.fz h) (aA (jR E.P (s.only l) (E.se h) args) fun q=>∃ r s',WideC E h q.1 ((s.only l).drop q.2) r s'/\aA (pur E.P s' 12 r) fun v=>k v.1 (jO s (s'.drop v.2) l)) (∃ r s',WideC E h args (s.only l) r s'/\k r (jO s s' l))):cH E h args l s k
def aPz (E:lI) (f:FuncId) (v:AV) (args:List AV) (l:List Nat) (s:St) (k:aE):Prop:=match v with
 | .fn h a cap=>Bool.rec (motive:=fun _=>Prop) (cH E h (a++args++cap) l s k) (eL E h (a++args++cap) l s k) (E.pm f h)
 | _=>False
def FA (E:lI) (f:FuncId) (id:Nat) (e:Operand->AV) (o:Oper) (s:St) (k:aE):Prop :=
 match o.op with
 | .call c=>(match c.callee with
  | .builtin b=>Bool.rec (motive:=fun _=>Prop) (SZ E f id e o s k) (s.h id=none/\SZ E f id e o s k) (cA o.op)
  | .value fo=>aPz E f (e fo) (c.args.toList.map e) (rch s ((iL o.op).map e)) s k
  | _=>False)
 | _=>Bool.rec (motive:=fun _=>Prop) (SZ E f id e o s k) (s.h id=none/\SZ E f id e o s k) (cA o.op)
def qSt (E:lI) (f:FuncId) (o:Oper):Bool:=!cA o.op&&match o.op with
 | .call c=>(match c.callee with
  | .value (.func h)=>E.pm f h
  | .value _=>false
  | _=>true)
 | _=>true
def eSt (o:Op):Bool:=match o with
 | .load _ _ | .store _ _ _ | .mapUpdate _ _ _ _ | .convert _ _ _ | .lookup _ _ _ _ | .slice _ _ _ _ _=>false
 | .call _=>false
 | _=>true
def AX (E:lI) (f:FuncId) (m:Nat) (b:Oper):Nat->List Oper->Bool
 | _,[]=>true
 | j,a::l=>(bN m j||(qSt E f a&&qSt E f b)||(qSt E f a&&eSt a.op)||(qSt E f b&&eSt b.op))&&AX E f m b (j+1) l
noncomputable def zD (E:lI) (f:FuncId) (base:Nat) (all:List Oper) (ms:List Nat) (l:List Oper):Nat->List dV->Gf->St->Kt->Prop :=
 List.rec (motive:=fun _=>Nat->List dV->Gf->St->Kt->Prop) (fun _ _ g s k=>k g s)
  (fun o _ ih i lg g s k=>Bool.rec (motive:=fun _=>Prop)
   (clear (ms.getD i 0) (bH (x0 E f) i (base+i) (ev (bX E) g) o.op s) lg=true/\Option.rec (motive:=fun _=>Prop)
    (FA E f (base+i) (ev (bX E) g) o s fun v s'=>ih (i+1) (bH (x0 E f) i (base+i) (ev (bX E) g) o.op s::lg) (pF g o.dst v) s' k)
    (fun _=>Gd (bG all g o) s (FA E f (base+i) (ev (bX E) g) o s) fun v s'=>ih (i+1) (bH (x0 E f) i (base+i) (ev (bX E) g) o.op s::lg) (pF g o.dst v) s' k) o.guard)
   (Option.rec (motive:=fun _=>Prop)
    (FA E f (base+i) (ev (bX E) g) o s fun v s'=>ih (i+1) (bH (x0 E f) i (base+i) (ev (bX E) g) o.op s::lg) (pF g o.dst v) s' k)
    (fun _=>Gd (bG all g o) s (FA E f (base+i) (ev (bX E) g) o s) fun v s'=>ih (i+1) (bH (x0 E f) i (base+i) (ev (bX E) g) o.op s::lg) (pF g o.dst v) s' k) o.guard)
   (AX E f (ms.getD i 0) o 0 (all.take i))) l
noncomputable def wN (n:Nat) (k:Nat->Prop):Prop:=Nat.rec (motive:=fun _=>Prop) (k 0) (fun m _=>k (Nat.succ m)) n
theorem bHi (n:Nat) (k:Nat->Prop):wN n k=k n:=by cases n<;>rfl
noncomputable def ahK (l:List Oper):List Nat->(List Nat->Prop)->Prop :=
 List.rec (motive:=fun _=>List Nat->(List Nat->Prop)->Prop) (fun ms k=>k ms) (fun o _ ih ms k=>wN (mC o ms) fun m=>ih (ms++[m]) k) l
theorem bEt:∀ (l:List Oper) (ms:List Nat) (k:List Nat->Prop),ahK l ms k=k (eG ms l):=by
 intro l
 induction l with
 | nil=>intro ms k;rfl
 | cons o l ih =>intro ms k;show wN (mC o ms) (fun m=>ahK l (ms++[m]) k)=_;rw [bHi,ih];rfl
noncomputable def aK (E:lI) (f:FuncId) (kp:Nat) (c:Code):Kt->(Nat->Kt)->Kt->Kt :=
 Code.rec (motive:=fun _=>Kt->(Nat->Kt)->Kt->Kt)
  (fun kN _ _ g s=>kN g s)
  (fun _ ops dr kN _ _ g s=>Bool.rec (motive:=fun _=>Prop) (MS E f s.nx ops.toList ops.toList 0 g (adv s ops.size) kN) (ahK ops.toList [] fun ms=>Bool.rec (motive:=fun _=>Prop) False (zD E f s.nx ops.toList ms ops.toList 0 [] g (adv s ops.size) kN) (BC ms ops.toList)) dr)
  (fun _ _ ia ib kN kE kR g s=>ia (ib kN kE kR) kE kR g s)
  (fun c _ _ ia ib kN kE kR g s=>aY (ev (bX E) g c) (ia kN kE kR g s) (ib kN kE kR g s))
  (fun id _ ic kN kE kR g s=>ic kN (fun i=>cond (Nat.beq i id) kN (kE i)) kR g s)
  (fun _ ic kN kE kR g s=>∃ n,Nat.rec (motive:=fun _=>Kt) (fun _ _=>False) (fun _ ih g s=>ic (fun g s=>ih (fun k=>cond (bN kp k) (g k) .undef) s) kE kR g s) n g s)
  (fun _ _ _ _ _ _ _ _ _ _ _=>False)
  (fun id _ kE _ g s=>kE id g s)
  (fun _ ic kN kE kR g s=>ic kN kE kR g s)
  (fun _ kN _ _ g s=>kN g s)
  (fun _ _ _ _ _ _=>False)
  (fun _ _ kR g s=>kR g s)
  (fun _ _ _ _ _ _=>False) c
section
variable {E:lI} {f:FuncId}
theorem aA.get {α:Type} {o:Option α} {k:α->Prop} (h:aA o k):∃ a,o=some a/\k a:=by obtain ⟨a,h1,h2⟩:=h;exact ⟨a,h1,h2⟩
noncomputable def xN (E:lI) (f:FuncId) (n:Nat):Cx:=cx E (cJ E n) f
theorem nX {n m:Nat} (h:n<=m):OT (xN E f n) (xN E f m):=VJ E (RB E n m h) f
theorem aIj {h:FuncId} {args:List AV} {s:St} {k:aE} (hk:DU E f h args s k):∃ n r s',(xN E f n).call false h args s=some (r,s')/\k r s':=by
 unfold DU at hk
 cases hp:E.pm f h with
 | true =>
  rw [hp] at hk;obtain ⟨as,ids,v,h1,⟨n,r,s',ids',h2,h3⟩,h4⟩:=hk;refine ⟨n,v,_,?_,h4⟩;show gN E (cJ E n) f false h args s=_;simp only [gN,hp,if_true,h1,Option.bind_some,h2,h3,m015,if_false]
  split<;>simp_all
 | false =>
  rw [hp] at hk;obtain ⟨h2⟩:=hk
  cases hz:E.fz h with
  | true =>rw [hz] at h2;obtain ⟨q,h0,r,s',⟨n,h1⟩,h2⟩:=aA.get h2;obtain ⟨v,h3,h4⟩:=aA.get h2;refine ⟨n,v.1,_,?_,h4⟩;show gN E (cJ E n) f false h args s=_;simp only [gN,hp,m015,if_false,h0,h1,Option.bind_some,hz,if_true,h3,Option.map_some]
  | false =>rw [hz] at h2;obtain ⟨r,s',⟨n,h1⟩,h2⟩:=h2;refine ⟨n,r,s',?_,h2⟩;show gN E (cJ E n) f false h args s=_;simp only [gN,hp,m015,if_false,h1,hz]
theorem aHw {id:Nat} {e:Operand->AV} {o:Oper} {s:St} {k:aE} (h:SZ E f id e o s k):∃ n r s',fP (xN E f n) false id e o s=some (r,s')/\k r s':=by
 have gen:aA (fP (x0 E f) false id e o s) (fun r=>k r.1 r.2)->∃ n r s',fP (xN E f n) false id e o s=some (r,s')/\k r s':=fun hb=>by obtain ⟨r,h1,h2⟩:=aA.get hb;exact ⟨0,r.1,r.2,nR (VJ E (a:=fun _ _ _=>none) (fun _ _ _ _ h=>nomatch h) f) h1,h2⟩
 have vv:∀ {q:Option AV},aA q (fun v=>k v s)->(fP (xN E f 0) false id e o s=q.map (·,s))->∃ n r s',fP (xN E f n) false id e o s=some (r,s')/\k r s':=fun hb he=>by obtain ⟨v,h1,h2⟩:=aA.get hb;exact ⟨0,v,s,by rw [he,h1];rfl,h2⟩
 unfold SZ at h
 cases ho:o.op with
 | move x | assign x=>rw [ho] at h;exact ⟨0,_,s,by simp only [fP,ho],h⟩
 | pick c a b =>
  rw [ho] at h;obtain ⟨v,h1,h2⟩:=aA.get h;refine ⟨0,v,s,?_,h2⟩;simp only [fP,ho];unfold aV at h1
  cases hv:e c with
  | bool t=>rw [hv] at h1;cases h1;cases t<;>rfl
  | _=>rw [hv] at h1;cases h1
 | alloc t =>rw [ho] at h;obtain ⟨z,h1,h2⟩:=aA.get h;refine ⟨0,_,_,?_,h2⟩;show fP (cx E _ f) false id e o s=_;simp only [fP,ho,cx,h1,Option.map_some]
 | box t x =>rw [ho] at h;exact ⟨0,_,_,by simp only [fP,ho];rw [if_pos h.1],h.2⟩
 | load t a =>
  rw [ho] at h;obtain ⟨v,h1,h2⟩:=aA.get h
  cases hl:eP E.P t with
  | none=>rw [hl] at h1;cases h1
  | some l =>
  rw [hl] at h1;refine ⟨0,v,s,?_,h2⟩;show fP (cx E _ f) false id e o s=_;have h1:Ai.load l.1 l.2 (e a) s=some v:=h1;simp only [fP,ho,cx,hl,Option.bind_some,h1,Option.map_some]
 | store t a x =>
  rw [ho] at h;obtain ⟨s',h1,h2⟩:=aA.get h
  cases hl:eP E.P t with
  | none=>rw [hl] at h1;cases h1
  | some l =>
  rw [hl] at h1;refine ⟨0,_,s',?_,h2⟩;show fP (cx E _ f) false id e o s=_;have h1:Ai.store l.1 (e a) (e x) s=some s':=h1;simp only [fP,ho,cx,hl,Option.bind_some,h1,Option.map_some]
 | nilCheck x =>rw [ho] at h;refine ⟨0,_,s,?_,h.2⟩;have h1:=h.1;simp only [fP,ho];cases hx:e x<;>rw [hx] at h1<;>first | rfl | cases h1
 | build | buildSlice | binOp | unOp | convert | slice | fieldAddr | field | indexAddr | index | lookup =>rw [ho] at h;refine vv h ?_;simp only [fP,ho]<;>rfl
 | mapUpdate t m q x =>rw [ho] at h;obtain ⟨s',h1,h2⟩:=aA.get h;refine ⟨0,_,s',?_,h2⟩;show fP (cx E _ f) false id e o s=_;simp only [fP,ho,cx,h1,Option.map_some]
 | extract t i =>
  rw [ho] at h;obtain ⟨v,h1,h2⟩:=aA.get h;refine ⟨0,v,s,?_,h2⟩;unfold aW at h1
  cases hv:e t with
  | tup vs=>rw [hv] at h1;simp only [fP,ho,hv];simp only at h1;rw [h1];rfl
  | _=>rw [hv] at h1;cases h1
 | makeFunc fn a b =>
  rw [ho] at h
  cases fn with
  | func g=>exact ⟨0,_,s,by simp only [fP,ho],h⟩
  | _=>exact gen h
 | call c =>
  rw [ho] at h
  cases hc:c.callee with
  | builtin b =>simp only [hc] at h;obtain ⟨r,h1,h2⟩:=aA.get h;refine ⟨0,r.1,r.2,?_,h2⟩;simp only [fP,ho,hc];exact h1
  | invoke a b=>simp only [hc] at h
  | value fo =>
   simp only [hc] at h;unfold sK at h
   cases hv:e fo with
   | fn g a cap =>rw [hv] at h;obtain ⟨n,r,s',h1,h2⟩:=aIj h;refine ⟨n,r,s',?_,h2⟩;simp only [fP,ho,hc,hv];exact h1
   | _=>rw [hv] at h;exact h.elim
 | makeMap t r =>
  rw [ho] at h
  cases r with
  | none=>exact ⟨0,_,_,by simp only [fP,ho],h⟩
  | some r=>exact gen h
 | makeSlice t n c =>
  rw [ho] at h;obtain ⟨r,h1,h2⟩:=aA.get h;refine ⟨0,r.1,r.2,?_,h2⟩;have:fP (xN E f 0) false id e o s=mkS E.P t (e n) (e c) id s:=by show fP (cx E _ f) false id e o s=_;simp only [fP,ho,cx];rfl
  rw [this];exact h1
 | makeInterface t x =>
  rw [ho] at h;obtain ⟨v,h1,h2⟩:=aA.get h;refine ⟨0,v,s,?_,h2⟩;show fP (cx E _ f) false id e o s=_;simp only [fP,ho,cx];unfold mkI at h1
  split at h1
  ·cases h1
  ·cases h1
  ·rename_i d hn he;cases h1;rw [he]
   split
   ·rename_i hh;cases hh
   ·rename_i hh;cases hh;exact absurd rfl (hn _)
   ·rfl
 | _=>rw [ho] at h;exact gen h
theorem AI {tm:List AV} {d:Option Nat} {v:AV} (h:∀ u,d=some u->u < tm.length):gt (put tm d v)=pF (gt tm) d v:=by
 cases d with
 | none=>rfl
 | some d =>
  funext k;have hd:=h d rfl;simp only [gt,put,pF,List.getD_eq_getElem?_getD,List.getElem?_set];by_cases hk:d=k
  ·subst hk;simp [hd]
  ·have hb:Nat.beq k d=false:=by
    cases hb:Nat.beq k d with
    | false=>rfl
    | true=>exact absurd (iC hb).symm hk
   rw [if_neg hk,hb];rfl
theorem AL (tm:List AV) (d:Option Nat) (v:AV):(put tm d v).length=tm.length:=by cases d<;>simp [put]
def oA (N:Nat) (l:List Oper):Bool:=l.all fun o=>match o.dst with
 | some d=>Nat.blt d N
 | none=>true
theorem aQg {N:Nat} {o:Oper} {l:List Oper} (h:oA N (o::l)=true):∀ u,o.dst=some u->u < N:=by intro u hu;simp only [oA,List.all_cons,cQ] at h;have:=h.1;rw [hu] at this;simpa [Nat.blt_eq] using this
theorem aUx {N base:Nat} {all:List Oper}:∀ (l:List Oper),oA N l=true->∀ (i:Nat) (tm:List AV) (s:St) (k:Kt),tm.length=N->MS E f base all l i (gt tm) s k ->
  ∃ n tm' s',iD (xN E f n) false base all l i tm s=some (tm',s')/\tm'.length=N/\k (gt tm') s':=by
 intro l
 induction l with
 | nil=>intro _ i tm s k hN h;exact ⟨0,tm,s,rfl,hN,h⟩
 | cons o l ih =>
  intro hd i tm s k hN h;have hd2:oA N l=true:=by simp only [oA,List.all_cons,cQ] at hd;exact hd.2
  have hlt:=aQg hd;have hrun:∀ n,iD (xN E f n) false base all (o::l) i tm s=(bG all (gt tm) o).bind fun w=>cond w ((fP (xN E f n) false (base+i) (ev (bX E) (gt tm)) o s).bind fun r=>iD (xN E f n) false base all l (i+1) (put tm o.dst r.1) r.2) (iD (xN E f n) false base all l (i+1) (put tm o.dst (.tup [])) s):=fun n=>rfl
  have step:SZ E f (base+i) (ev (bX E) (gt tm)) o s (fun v s'=>MS E f base all l (i+1) (pF (gt tm) o.dst v) s' k)->bG all (gt tm) o=some true ->
    ∃ n tm' s',iD (xN E f n) false base all (o::l) i tm s=some (tm',s')/\tm'.length=N/\k (gt tm') s':=fun hs hw=>by
   obtain ⟨n,r,s1,h1,h2⟩:=aHw hs;rw [<- AI (fun u hu=>by rw [hN];exact hlt u hu)] at h2;obtain ⟨m,tm',s',h3,h4,h5⟩:=ih hd2 (i+1) _ s1 k (by rw [AL];exact hN) h2;refine ⟨max n m,tm',s',?_,h4,h5⟩;rw [hrun,hw];simp only [Option.bind_some,cond_true];rw [nR (nX (Nat.le_max_left n m)) h1];exact GE (nX (Nat.le_max_right n m)) _ _ _ _ _ h3
  change Option.rec (motive:=fun _=>Prop)
   (SZ E f (base+i) (ev (bX E) (gt tm)) o s fun v s'=>MS E f base all l (i+1) (pF (gt tm) o.dst v) s' k)
   (fun _=>Gd (bG all (gt tm) o) s (SZ E f (base+i) (ev (bX E) (gt tm)) o s) fun v s'=>MS E f base all l (i+1) (pF (gt tm) o.dst v) s' k) o.guard at h
  cases hg:o.guard with
  | none =>rw [hg] at h;exact step h (by simp only [bG,hg])
  | some jw =>
   rw [hg] at h;change Gd (bG all (gt tm) o) s (SZ E f (base+i) (ev (bX E) (gt tm)) o s) (fun v s'=>MS E f base all l (i+1) (pF (gt tm) o.dst v) s' k) at h
   cases h with
   | t hw h=>exact step h hw
   | f hw h =>have h:MS E f base all l (i+1) (pF (gt tm) o.dst (.tup [])) s k:=h;rw [<- AI (fun u hu=>by rw [hN];exact hlt u hu)] at h;obtain ⟨m,tm',s',h3,h4,h5⟩:=ih hd2 (i+1) _ s k (by rw [AL];exact hN) h;refine ⟨m,tm',s',?_,h4,h5⟩;rw [hrun,hw];exact h3
theorem aNi {id:Nat} {e:Operand->AV} {o:Oper} {s:St} {r:AV×St} {n:Nat} (hv:zM o.op=false) (h:fP (xN E f n) false id e o s=some r):fP (xN E f n) true id e o s=some r:=by
 unfold fP at h ⊢
 cases ho:o.op with
 | call c =>
  cases hc:c.callee with
  | value fo=>rw [ho] at hv;simp [zM,hc] at hv
  | _=>simp only [ho,hc] at h ⊢;exact h
 | makeFunc fn a b=>cases fn<;>(simp only [ho] at h ⊢;exact h)
 | makeMap t q=>cases q<;>(simp only [ho] at h ⊢;exact h)
 | _=>simp only [ho] at h ⊢;exact h
theorem aUj {id:Nat} {e:Operand->AV} {o:Oper} {s:St} {k:aE} (h:FA E f id e o s k):∃ n r s',rM (xN E f n) id e o s=some (r,s')/\k r s':=by
 have plain:zM o.op=false->Bool.rec (motive:=fun _=>Prop) (SZ E f id e o s k) (s.h id=none/\SZ E f id e o s k) (cA o.op)->∃ n r s',rM (xN E f n) id e o s=some (r,s')/\k r s':=fun hv hc=>by
  have key:(cA o.op=true->s.h id=none)/\SZ E f id e o s k:=by
   cases hw:cA o.op with
   | true=>rw [hw] at hc;exact ⟨fun _=>hc.1,hc.2⟩
   | false=>rw [hw] at hc;exact ⟨(fun h=>(nomatch h)),hc⟩
  obtain ⟨n,r,s',h1,h2⟩:=aHw key.2;exact ⟨n,r,s',OL (tJ E (cJ E n) f) key.1 hv (aNi hv h1),h2⟩
 unfold FA at h
 cases ho:o.op with
 | call c =>
  cases hc:c.callee with
  | builtin b =>simp only [ho,hc] at h;rw [<- ho] at h;exact plain (by rw [ho];simp [zM,hc]) h
  | invoke a b=>simp only [ho,hc] at h
  | value fo =>
   simp only [ho,hc] at h;unfold aPz at h;have hsh:rch s ((iL (Op.call c)).map e)=dD e o.op s:=by rw [ho];unfold dD rch;simp only [hc]
   rw [hsh] at h
   cases hv:e fo with
   | fn g a cap =>
    rw [hv] at h;simp only at h;have hwd:∀ n,gG (xN E f n) e o.op=!E.pm f g:=fun n=>by rw [ho];unfold gG;simp only [hc,hv];rfl
    have hop:∀ n dr t,fP (xN E f n) dr id e o t=gN E (cJ E n) f dr g (a++c.args.toList.map e++cap) t:=fun n dr t=>by simp only [fP,ho,hc,hv];rfl
    cases hp:E.pm f g with
    | true =>
     rw [hp] at h;obtain ⟨as,ids,v,h1,⟨n,r,s',ids',h2,h3⟩,h4,h5⟩:=h;refine ⟨n,v,s,?_,h5⟩;have hwr:cA o.op=false:=by rw [ho];simp [cA,hc]
     simp only [rM,hwd,hp,m025,cond_false,hop,hwr];have:gN E (cJ E n) f true g (a++c.args.toList.map e++cap) (s.only (dD e o.op s))=some (v,s.only (dD e o.op s)):=by simp only [gN,hp,if_true,h1,Option.bind_some,h2,h3,h4]
     rw [this];rfl
    | false =>
     rw [hp] at h;obtain ⟨h2⟩:=h
     cases hz:E.fz g with
     | true =>rw [hz] at h2;obtain ⟨q,h0,r,s',⟨n,h1⟩,h2⟩:=aA.get h2;obtain ⟨v,h3,h4⟩:=aA.get h2;refine ⟨n,v.1,_,?_,h4⟩;simp only [rM,hwd,hp,m027,cond_true,hop,gN,m015,if_false,h0,h1,Option.bind_some,hz,if_true,h3,Option.map_some]
     | false =>rw [hz] at h2;obtain ⟨r,s',⟨n,h1⟩,h2⟩:=h2;refine ⟨n,r,_,?_,h2⟩;simp only [rM,hwd,hp,m027,cond_true,hop,gN,m015,if_false,h1,Option.bind_some,hz,Option.map_some]
   | _=>rw [hv] at h;exact h.elim
 | _=>rw [ho] at h;simp only at h;rw [<- ho] at h;exact plain (by rw [ho];rfl) h
theorem vM {o:Oper} (h:qSt E f o=true) (e:Operand->AV) (he:∀ h,e (.func h)=.fn h [] []):gG (x0 E f) e o.op=false/\cA o.op=false:=by
 simp only [qSt,cQ,Bool.not_eq_true'] at h;refine ⟨?_,h.1⟩;cases ho:o.op<;>try rfl
 rename_i c;have h2:=h.2;rw [ho] at h2;unfold gG;simp only at h2
 cases hc:c.callee with
 | value fo =>
  rw [hc] at h2
  cases fo with
  | func g =>simp only at h2;simp only [hc,he];show (!E.pm f g)=false;rw [h2];rfl
  | _=>cases h2
 | _=>simp only [hc]
theorem NR {o:Op} (h:eSt o=true) (e:Operand->AV) (s:St):dD e o s=[]:=by cases o<;>first | rfl | cases h
theorem BS:∀ (l:List Nat),lG l []=true:=by
 intro l
 induction l with
 | nil=>rfl
 | cons n l ih=>simp [lG,dK,ih]
def bEo (E:lI) (f:FuncId) (base:Nat) (all:List Oper) (i:Nat) (lg:List dV):Prop:=∀ p∈lg,∃ j o e s,j < i/\all[j]?=some o/\(∀ h,e (.func h)=.fn h [] [])/\p=bH (x0 E f) j (base+j) e o.op s
theorem SU {m:Nat} {b:Oper}:∀ (l:List Oper) (j:Nat),AX E f m b j l=true->∀ k a,l[k]?=some a->(bN m (j+k)=true\/(qSt E f a=true/\qSt E f b=true)\/(qSt E f a=true/\eSt a.op=true)\/(qSt E f b=true/\eSt b.op=true)):=by
 intro l
 induction l with
 | nil=>intro j _ k a h;simp at h
 | cons x l ih =>
  intro j h k a ha;simp only [AX,cQ,FI] at h
  cases k with
  | zero =>
   simp only [List.getElem?_cons_zero,m000] at ha;subst ha;rcases h.1 with ((h1 | h1) | h1) | h1
   ·exact .inl h1
   ·exact .inr (.inl h1)
   ·exact .inr (.inr (.inl h1))
   ·exact .inr (.inr (.inr h1))
  | succ k =>
   simp only [List.getElem?_cons_succ] at ha;have:=ih (j+1) h.2 k a ha
   rwa [show j+1+k=j+(k+1) by omega] at this
theorem JB {base i m:Nat} {all:List Oper} {o:Oper} {lg:List dV} {e:Operand->AV} {s:St} (he:∀ h,e (.func h)=.fn h [] []) (hr:AX E f m o 0 (all.take i)=true) (hl:bEo E f base all i lg) :
  clear m (bH (x0 E f) i (base+i) e o.op s) lg=true:=by
 refine m032.2 fun p hp=>?_;obtain ⟨j,a,e',s',hj,ha,he',rfl⟩:=hl p hp;have ha':(all.take i)[j]?=some a:=by rw [List.getElem?_take,if_pos hj];exact ha
 have:=SU _ 0 hr j a ha';rw [m023] at this;have hi:(bH (x0 E f) j (base+j) e' a.op s').i=j:=by unfold bH;cases gG (x0 E f) e' a.op<;>rfl
 rw [hi,FI];rcases this with h1 | ⟨h1,h2⟩ | ⟨h1,h2⟩ | ⟨h1,h2⟩
 ·exact .inl h1
 ·obtain ⟨a1,a2⟩:=vM h1 e' he';obtain ⟨b1,b2⟩:=vM h2 e he;right;simp [dV.apart,bH,a1,a2,b1,b2]
 ·obtain ⟨a1,a2⟩:=vM h1 e' he';right;simp only [bH,a1,a2,cond_false,dV.apart,wE,NR h2,tH,lG,m059,m031,FI];right
  split
  ·rfl
  ·rfl
 ·obtain ⟨b1,b2⟩:=vM h1 e he;right;simp only [bH,b1,b2,cond_false,dV.apart,wE,NR h2,tH,BS,m059,m031,FI];right
  split
  ·rfl
  ·rfl
theorem aAz {m:Nat} {k:dV} {lg lg':List dV} (hs:∀ p∈lg',p∈lg) (h:clear m k lg=true):clear m k lg'=true :=
 m032.2 fun p hp=>m032.1 h p (hs p hp)
theorem aFu {N base:Nat} {all:List Oper} {ms:List Nat}:∀ (l:List Oper),oA N l=true->∀ (i:Nat) (lg lg':List dV) (tm:List AV) (s:St) (k:Kt),all.drop i=l->tm.length=N->bEo E f base all i lg->(∀ p∈lg',p∈lg)->zD E f base all ms l i lg (gt tm) s k ->
  ∃ n tm' s',mR (xN E f n) base all ms l i lg' tm s=some (tm',s')/\tm'.length=N/\k (gt tm') s':=by
 intro l
 induction l with
 | nil=>intro _ i lg lg' tm s k _ hN _ _ h;exact ⟨0,tm,s,rfl,hN,h⟩
 | cons o l ih =>
  intro hd i lg lg' tm s k hal hN hlg hsub h;have hd2:oA N l=true:=by simp only [oA,List.all_cons,cQ] at hd;exact hd.2
  have hlt:=aQg hd;have hoi:all[i]?=some o:=by have:=congrArg (·[0]?) hal;simpa using this
  have hal':all.drop (i+1)=l:=by
   have:(all.drop i).drop 1=l:=by rw [hal];rfl
   rwa [m075] at this
  have hev:∀ h,ev (bX E) (gt tm) (.func h)=.fn h [] []:=fun h=>rfl;have hmk:∀ n,bH (xN E f n) i (base+i) (ev (bX E) (gt tm)) o.op s=bH (x0 E f) i (base+i) (ev (bX E) (gt tm)) o.op s:=fun n=>rfl
  have hlg2:bEo E f base all (i+1) (bH (x0 E f) i (base+i) (ev (bX E) (gt tm)) o.op s::lg):=fun p hp=>by
   rcases m013.1 hp with rfl | hp
   ·exact ⟨i,o,_,_,Nat.lt_succ_self _,hoi,hev,rfl⟩
   ·obtain ⟨j,a,e',s',hj,hr⟩:=hlg p hp;exact ⟨j,a,e',s',Nat.lt_succ_of_lt hj,hr⟩
  have hrun:∀ n,mR (xN E f n) base all ms (o::l) i lg' tm s=(bG all (gt tm) o).bind fun w=>cond w
    (cond (clear (ms.getD i 0) (bH (x0 E f) i (base+i) (ev (bX E) (gt tm)) o.op s) lg')
     ((rM (xN E f n) (base+i) (ev (bX E) (gt tm)) o s).bind fun r=>mR (xN E f n) base all ms l (i+1) (bH (x0 E f) i (base+i) (ev (bX E) (gt tm)) o.op s::lg') (put tm o.dst r.1) r.2) none)
    (mR (xN E f n) base all ms l (i+1) lg' (put tm o.dst (.tup [])) s):=fun n=>rfl
  have hboth:clear (ms.getD i 0) (bH (x0 E f) i (base+i) (ev (bX E) (gt tm)) o.op s) lg=true/\(Option.rec (motive:=fun _=>Prop)
    (FA E f (base+i) (ev (bX E) (gt tm)) o s fun v s'=>zD E f base all ms l (i+1) (bH (x0 E f) i (base+i) (ev (bX E) (gt tm)) o.op s::lg) (pF (gt tm) o.dst v) s' k)
    (fun _=>Gd (bG all (gt tm) o) s (FA E f (base+i) (ev (bX E) (gt tm)) o s) fun v s'=>zD E f base all ms l (i+1) (bH (x0 E f) i (base+i) (ev (bX E) (gt tm)) o.op s::lg) (pF (gt tm) o.dst v) s' k) o.guard):=by
   change Bool.rec (motive:=fun _=>Prop) (_/\_) _ (AX E f (ms.getD i 0) o 0 (all.take i)) at h
   cases hr:AX E f (ms.getD i 0) o 0 (all.take i) with
   | true=>rw [hr] at h;exact ⟨JB hev hr hlg,h⟩
   | false=>rw [hr] at h;exact h
  obtain ⟨hcl,h⟩:=hboth
  have step:FA E f (base+i) (ev (bX E) (gt tm)) o s (fun v s'=>zD E f base all ms l (i+1) (bH (x0 E f) i (base+i) (ev (bX E) (gt tm)) o.op s::lg) (pF (gt tm) o.dst v) s' k)->bG all (gt tm) o=some true ->
    ∃ n tm' s',mR (xN E f n) base all ms (o::l) i lg' tm s=some (tm',s')/\tm'.length=N/\k (gt tm') s':=fun hs hw=>by
   obtain ⟨n,r,s1,h1,h2⟩:=aUj hs;rw [<- AI (fun u hu=>by rw [hN];exact hlt u hu)] at h2
   obtain ⟨m,tm',s',h3,h4,h5⟩:=ih hd2 (i+1) _ (bH (x0 E f) i (base+i) (ev (bX E) (gt tm)) o.op s::lg') _ s1 k hal' (by rw [AL];exact hN) hlg2 (fun p hp=>by
    rcases m013.1 hp with rfl | hp
    ·exact m007 ..
    ·exact m005 _ (hsub p hp)) h2
   refine ⟨max n m,tm',s',?_,h4,h5⟩;rw [hrun,hw];simp only [Option.bind_some,cond_true];rw [aAz hsub hcl];simp only [cond_true];rw [BA (nX (Nat.le_max_left n m)) h1];exact HQ (nX (Nat.le_max_right n m)) _ _ _ _ _ _ h3
  cases hg:o.guard with
  | none =>rw [hg] at h;exact step h (by simp only [bG,hg])
  | some jw =>
   rw [hg] at h;change Gd (bG all (gt tm) o) s (FA E f (base+i) (ev (bX E) (gt tm)) o s) (fun v s'=>zD E f base all ms l (i+1) (bH (x0 E f) i (base+i) (ev (bX E) (gt tm)) o.op s::lg) (pF (gt tm) o.dst v) s' k) at h
   cases h with
   | t hw h=>exact step h hw
   | f hw h =>have h:zD E f base all ms l (i+1) (bH (x0 E f) i (base+i) (ev (bX E) (gt tm)) o.op s::lg) (pF (gt tm) o.dst (.tup [])) s k:=h;rw [<- AI (fun u hu=>by rw [hN];exact hlt u hu)] at h;obtain ⟨m,tm',s',h3,h4,h5⟩:=ih hd2 (i+1) _ lg' _ s k hal' (by rw [AL];exact hN) hlg2 (fun p hp=>m005 _ (hsub p hp)) h;refine ⟨m,tm',s',?_,h4,h5⟩;rw [hrun,hw];exact h3
noncomputable def tT (N:Nat) (c:Code):Bool :=
 Code.rec (motive:=fun _=>Bool) true (fun _ ops _=>oA N ops.toList) (fun _ _ a b=>a&&b) (fun _ _ _ a b=>a&&b) (fun _ _ a=>a) (fun _ a=>a)
  (fun _ _ _ _ _ _=>true) (fun _=>true) (fun _ a=>a) (fun _=>true) (fun _=>true) true (fun _=>true) c
def aTm (kN:Kt) (kE:Nat->Kt) (kR:Kt):Ex->Kt
 | .nm=>kN
 | .ex i=>kE i
 | .gt _=>fun _ _=>False
 | .rt=>kR
noncomputable def iK (E:lI) (f:FuncId) (n:Nat) (c:Code):List AV->St->DC:=code (xN E f n) (gI (xN E f n) (E.kp f) n) c
theorem EK {n m:Nat} (h:n<=m) (c:Code) (tm:List AV) (s:St) (r:Ex×List AV×St) (hr:iK E f n c tm s=some r):iK E f m c tm s=some r :=
 kL (nX h) (iO (nX h) (E.kp f) n m h) c tm s r hr
theorem aWh (m:Nat) (tm:List AV):gt (mask m 0 tm)=fun k=>cond (bN m k) (gt tm k) .undef:=by
 have key:∀ (l:List AV) (i k:Nat),(mask m i l)[k]?=(l[k]?).map fun v=>cond (bN m (i+k)) v .undef:=by
  intro l
  induction l with
  | nil=>intro i k;rfl
  | cons v l ih =>
   intro i k
   cases k with
   | zero=>rfl
   | succ k=>show (mask m (i+1) l)[k]?=_;rw [ih,show i+1+k=i+(k+1) by omega];rfl
 funext k;simp only [gt,List.getD_eq_getElem?_getD,key tm 0 k,m023]
 cases tm[k]? with
 | none=>cases bN m k<;>rfl
 | some v=>rfl
theorem aMi {N:Nat} (c:Code):tT N c=true->∀ (kN:Kt) (kE:Nat->Kt) (kR:Kt) (tm:List AV) (s:St),tm.length=N->aK E f (E.kp f) c kN kE kR (gt tm) s ->
  ∃ n e tm' s',iK E f n c tm s=some (e,tm',s')/\tm'.length=N/\aTm kN kE kR e (gt tm') s':=by
 induction c with
 | skip | label=>intro _ kN kE kR tm s hN h;exact ⟨0,.nm,tm,s,rfl,hN,h⟩
 | exit id=>intro _ kN kE kR tm s hN h;exact ⟨0,.ex id,tm,s,rfl,hN,h⟩
 | ret=>intro _ kN kE kR tm s hN h;exact ⟨0,.rt,tm,s,rfl,hN,h⟩
 | region id ops dr =>
  intro hok kN kE kR tm s hN h;change Bool.rec (motive:=fun _=>Prop) (MS E f s.nx ops.toList ops.toList 0 (gt tm) (adv s ops.size) kN) (ahK ops.toList [] fun ms=>Bool.rec (motive:=fun _=>Prop) False (zD E f s.nx ops.toList ms ops.toList 0 [] (gt tm) (adv s ops.size) kN) (BC ms ops.toList)) dr at h
  cases dr with
  | true =>
   simp only [bEt] at h
   cases hm:BC (eG [] ops.toList) ops.toList with
   | false=>rw [hm] at h;exact h.elim
   | true =>rw [hm] at h;obtain ⟨n,tm',s',h1,h2,h3⟩:=aFu ops.toList hok 0 [] [] tm _ kN (by simp) hN (fun p hp=>by cases hp) (fun p hp=>by cases hp) h;refine ⟨n,.nm,tm',s',?_,h2,h3⟩;show (cond true (drawn (xN E f n) s.nx ops.toList tm ⟨s.h,s.nx+ops.size⟩) (iD (xN E f n) false s.nx ops.toList ops.toList 0 tm ⟨s.h,s.nx+ops.size⟩)).map (fun r=>(Ex.nm,r.1,r.2))=_;simp only [cond_true,drawn,hm];have h1:mR (xN E f n) s.nx ops.toList (eG [] ops.toList) ops.toList 0 [] tm ⟨s.h,s.nx+ops.size⟩=some (tm',s'):=h1;rw [h1];rfl
  | false =>obtain ⟨n,tm',s',h1,h2,h3⟩:=aUx ops.toList hok 0 tm _ kN hN h;refine ⟨n,.nm,tm',s',?_,h2,h3⟩;show (cond false (drawn (xN E f n) s.nx ops.toList tm ⟨s.h,s.nx+ops.size⟩) (iD (xN E f n) false s.nx ops.toList ops.toList 0 tm ⟨s.h,s.nx+ops.size⟩)).map (fun r=>(Ex.nm,r.1,r.2))=_;simp only [cond_false];have h1:iD (xN E f n) false s.nx ops.toList ops.toList 0 tm ⟨s.h,s.nx+ops.size⟩=some (tm',s'):=h1;rw [h1];rfl
 | seq a b iha ihb =>
  intro hok kN kE kR tm s hN h;have hok:(tT N a&&tT N b)=true:=hok;simp only [cQ] at hok;obtain ⟨n,e,tm1,s1,h1,h2,h3⟩:=iha hok.1 (aK E f (E.kp f) b kN kE kR) kE kR tm s hN h
  cases e with
  | nm =>obtain ⟨m,e,tm2,s2,k1,k2,k3⟩:=ihb hok.2 kN kE kR tm1 s1 h2 h3;refine ⟨max n m,e,tm2,s2,?_,k2,k3⟩;show HW (iK E f (max n m) a tm s) (iK E f (max n m) b)=_;rw [EK (Nat.le_max_left n m) a _ _ _ h1];exact EK (Nat.le_max_right n m) b _ _ _ k1
  | ex i=>exact ⟨n,.ex i,tm1,s1,by show HW (iK E f n a tm s) (iK E f n b)=_;rw [h1];rfl,h2,h3⟩
  | gt i=>exact h3.elim
  | rt=>exact ⟨n,.rt,tm1,s1,by show HW (iK E f n a tm s) (iK E f n b)=_;rw [h1];rfl,h2,h3⟩
 | cond c a b iha ihb =>
  intro hok kN kE kR tm s hN h;have hok:(tT N a&&tT N b)=true:=hok;simp only [cQ] at hok;change aY (ev (bX E) (gt tm) c) (aK E f (E.kp f) a kN kE kR (gt tm) s) (aK E f (E.kp f) b kN kE kR (gt tm) s) at h
  cases h with
  | t hv h =>obtain ⟨n,e,tm1,s1,h1,h2,h3⟩:=iha hok.1 kN kE kR tm s hN h;refine ⟨n,e,tm1,s1,?_,h2,h3⟩;show (KX (ev (bX E) (gt tm) c)).bind (fun t=>cond t (iK E f n a tm s) (iK E f n b tm s))=_;rw [hv];exact h1
  | f hv h =>obtain ⟨n,e,tm1,s1,h1,h2,h3⟩:=ihb hok.2 kN kE kR tm s hN h;refine ⟨n,e,tm1,s1,?_,h2,h3⟩;show (KX (ev (bX E) (gt tm) c)).bind (fun t=>cond t (iK E f n a tm s) (iK E f n b tm s))=_;rw [hv];exact h1
 | block id c ih =>
  intro hok kN kE kR tm s hN h;obtain ⟨n,e,tm1,s1,h1,h2,h3⟩:=ih hok kN (fun i=>cond (Nat.beq i id) kN (kE i)) kR tm s hN h;have hb:iK E f n (.block id c) tm s=blk id (iK E f n c tm s):=rfl
  cases e with
  | nm=>exact ⟨n,.nm,tm1,s1,by rw [hb,h1];rfl,h2,h3⟩
  | ex i =>
   by_cases hi:i=id
   ·subst hi;refine ⟨n,.nm,tm1,s1,by rw [hb,h1];simp [blk],h2,?_⟩;simpa [aTm] using h3
   ·refine ⟨n,.ex i,tm1,s1,by rw [hb,h1];simp [blk,hi],h2,?_⟩
    have hne:Nat.beq i id=false:=by
     cases hb:Nat.beq i id with
     | false=>rfl
     | true=>exact absurd (iC hb) hi
    simpa [aTm,hne] using h3
  | gt i=>exact h3.elim
  | rt=>exact ⟨n,.rt,tm1,s1,by rw [hb,h1];rfl,h2,h3⟩
 | loop c ih =>
  intro hok kN kE kR tm s hN h;change ∃ n,Nat.rec (motive:=fun _=>Kt) (fun _ _=>False) (fun _ ih g s=>aK E f (E.kp f) c (fun g s=>ih (fun k=>cond (bN (E.kp f) k) (g k) .undef) s) kE kR g s) n (gt tm) s at h;obtain ⟨n,h⟩:=h
  suffices hs:∀ n (tm:List AV) (s:St),tm.length=N->Nat.rec (motive:=fun _=>Kt) (fun _ _=>False) (fun _ ih g s=>aK E f (E.kp f) c (fun g s=>ih (fun k=>cond (bN (E.kp f) k) (g k) .undef) s) kE kR g s) n (gt tm) s ->
    ∃ m e tm' s',gI (xN E f m) (E.kp f) m c tm s=some (e,tm',s')/\tm'.length=N/\aTm kN kE kR e (gt tm') s' by
   exact hs n tm s hN h
  intro n
  induction n with
  | zero=>intro tm s _ h;exact h.elim
  | succ n ihn =>
   intro tm s hN h;obtain ⟨m,e,tm1,s1,h1,h2,h3⟩:=ih hok _ kE kR tm s hN h
   cases e with
   | nm =>have h3:Nat.rec (motive:=fun _=>Kt) (fun _ _=>False) (fun _ ih g s=>aK E f (E.kp f) c (fun g s=>ih (fun k=>cond (bN (E.kp f) k) (g k) .undef) s) kE kR g s) n (fun k=>cond (bN (E.kp f) k) (gt tm1 k) .undef) s1:=h3;rw [<- aWh] at h3;obtain ⟨m2,e2,tm2,s2,k1,k2,k3⟩:=ihn (mask (E.kp f) 0 tm1) s1 (by rw [CB];exact h2) h3;refine ⟨max m m2+1,e2,tm2,s2,?_,k2,k3⟩;rw [nY];have hA:=kL (nX (E:=E) (f:=f) (FM (Nat.le_max_left m m2) (JX _))) (iO (nX (FM (Nat.le_max_left m m2) (JX _))) (E.kp f) m (max m m2) (Nat.le_max_left m m2)) c tm s _ h1;rw [hA];exact iO (nX (FM (Nat.le_max_right m m2) (JX _))) (E.kp f) m2 (max m m2) (Nat.le_max_right m m2) c _ _ _ k1
   | ex i =>refine ⟨m+1,.ex i,tm1,s1,?_,h2,h3⟩;rw [nY];have hA:=kL (nX (E:=E) (f:=f) (JX m)) (iO (nX (JX m)) (E.kp f) m m (bJ m)) c tm s _ h1;rw [hA];rfl
   | gt i=>exact h3.elim
   | rt =>refine ⟨m+1,.rt,tm1,s1,?_,h2,h3⟩;rw [nY];have hA:=kL (nX (E:=E) (f:=f) (JX m)) (iO (nX (JX m)) (E.kp f) m m (bJ m)) c tm s _ h1;rw [hA];rfl
 | scope c ih =>
  intro hok kN kE kR tm s hN h;obtain ⟨n,e,tm1,s1,h1,h2,h3⟩:=ih hok kN kE kR tm s hN h;have hb:iK E f n (.scope c) tm s=YZ (iK E f n c tm s):=rfl
  cases e with
  | gt i=>exact h3.elim
  | nm=>exact ⟨n,.nm,tm1,s1,by rw [hb,h1];rfl,h2,h3⟩
  | ex i=>exact ⟨n,.ex i,tm1,s1,by rw [hb,h1];rfl,h2,h3⟩
  | rt=>exact ⟨n,.rt,tm1,s1,by rw [hb,h1];rfl,h2,h3⟩
 | _=>intro _ kN kE kR tm s hN h;exact h.elim
theorem aWe {h:FuncId} {fn:Func} {c:Code} {args:List AV} {s:St} {Q:aE} (hp:E.prim h=none) (hf:E.fns h=some fn) (hb:fn.body=some c) (hok:tT fn.ntmps c=true) (hl:args.length<=fn.ntmps)
  (hc:aK E h (E.kp h) c (fun g s=>pC (gW E.P fn g s) fun v=>Q v s) (fun _ _ _=>False) (fun g s=>pC (gW E.P fn g s) fun v=>Q v s) (gt (fJ fn args)) s):∃ r s',WideC E h args s r s'/\Q r s':=by
 have hlen:(fJ fn args).length=fn.ntmps:=by simp [fJ];omega
 obtain ⟨n,e,tm',s',h1,h2,h3⟩:=aMi c hok _ _ _ _ s hlen hc
 have hres:∀ e,(e=Ex.nm\/e=Ex.rt)->iK E h n c (fJ fn args) s=some (e,tm',s')->pC (gW E.P fn (gt tm') s') (fun v=>Q v s')->∃ r s',WideC E h args s r s'/\Q r s':=fun e he h1 h3=>by
  obtain ⟨v,k1,k2⟩:∃ v,gW E.P fn (gt tm') s'=some v/\Q v s':=by
   cases hr:gW E.P fn (gt tm') s' with
   | none=>rw [hr] at h3;exact h3.elim
   | some v=>rw [hr] at h3;exact ⟨v,rfl,h3⟩
  refine ⟨v,s',⟨n+1,?_⟩,k2⟩;rw [tE,hp,hf];simp only [hb];have h1:code (cx E (cJ E n) h) (gI (cx E (cJ E n) h) (E.kp h) n) c (fJ fn args) s=some (e,tm',s'):=h1;rw [h1];rcases he with rfl | rfl<;>simp only [kY,k1,Option.map_some]
 cases e with
 | nm=>exact hres _ (.inl rfl) h1 h3
 | rt=>exact hres _ (.inr rfl) h1 h3
 | ex i=>exact h3.elim
 | gt i=>exact h3.elim
theorem aH {h:FuncId} {fn:Func} {c:Code} {args:List AV} {s:St} {Q:aE} {P:Kt} {hP:Prop}
  (pf:aK E h (E.kp h) c (fun g s=>pC (gW E.P fn g s) fun v=>Q v s) (fun _ _ _=>False) (fun g s=>pC (gW E.P fn g s) fun v=>Q v s)=P) (hh:hP) (he:hP=P (gt (fJ fn args)) s:=by kernel_rfl)
  (hp:E.prim h=none:=by kernel_rfl) (hf:E.fns h=some fn:=by kernel_rfl) (hb:fn.body=some c:=by kernel_rfl) (hok:tT fn.ntmps c=true:=by kernel_rfl) (hl:args.length<=fn.ntmps:=by exact of_decide_eq_true (by kernel_rfl)):∃ r s',WideC E h args s r s'/\Q r s' :=
 aWe hp hf hb hok hl (by rw [pf,<- he];exact hh)
theorem VB {h:FuncId} {args:List AV} {v:AV} (hw:∃ r s',WideC E h args St.empty r s'/\∃ ids,pur E.P s' 12 r=some (v,ids)):bA E h args v:=by obtain ⟨r,s',⟨n,h1⟩,ids,h2⟩:=hw;exact ⟨n,r,s',ids,h1,h2⟩
end
end
noncomputable section
def cB (z:Nat) (x ix:AV):Option AV:=(pE ix).bind fun i=>match x with
 | .sl _ l=>(wR i l.length).bind fun j=>(l[j]?).bind fun v=>if v.cells.length=z then some (.pel v.cells 0) else none
 | .ref id off n _ _=>(wR i n).bind fun j=>some (.ptr id (off+j * z))
 | _=>none
def ixA (n z:Nat) (x ix:AV):Option AV:=(pE ix).bind fun i=>(wR i n).bind fun j=>aC (j * z) x
def sT:List (Option AV)->Option (List AV)
 | []=>some []
 | q::l=>q.bind fun v=>(sT l).map (v::·)
def xG (vs:List AV):AV:=match vs with
 | [v]=>v
 | vs=>.tup vs
def sub:Code->List Bool->Code
 | c,[]=>c
 | .seq a b,t::p=>cond t (sub b p) (sub a p)
 | .cond _ a b,t::p=>cond t (sub b p) (sub a p)
 | .block _ c,_::p=>sub c p
 | .loop c,_::p=>sub c p
 | .scope c,_::p=>sub c p
 | c,_=>c
def aJ (fn:Func):Code:=match fn.body with
 | some c=>c
 | none=>.skip
section
variable {E:lI} {f:FuncId} {kp:Nat} {kN:Kt} {kE:Nat->Kt} {kR:Kt} {φ φ1 φ2:Kt} {a b c:Code}
theorem bCs (h:c=.seq a b) (hb:aK E f kp b kN kE kR=φ1) (ha:aK E f kp a φ1 kE kR=φ):aK E f kp c kN kE kR=φ:=by subst h;subst hb;exact ha
theorem aVf {x:Operand} (h:c=.cond x a b) (ha:aK E f kp a kN kE kR=φ1) (hb:aK E f kp b kN kE kR=φ2):aK E f kp c kN kE kR=fun g s=>aY (ev (bX E) g x) (φ1 g s) (φ2 g s):=by subst h;subst ha;subst hb;rfl
theorem aGh {id:Nat} (h:c=.block id a) (ha:aK E f kp a kN (fun i=>cond (Nat.beq i id) kN (kE i)) kR=φ):aK E f kp c kN kE kR=φ:=by subst h;exact ha
theorem aLa (h:c=.scope a) (ha:aK E f kp a kN kE kR=φ):aK E f kp c kN kE kR=φ:=by subst h;exact ha
theorem aM {t:Code} {p:List Bool} (hb:aK E f kp (sub t (p++[true])) kN kE kR=φ1) (ha:aK E f kp (sub t (p++[false])) φ1 kE kR=φ) (h:sub t p=.seq (sub t (p++[false])) (sub t (p++[true])):=by kernel_rfl):aK E f kp (sub t p) kN kE kR=φ:=bCs h hb ha
theorem cdA {t:Code} {p:List Bool} (x:Operand) (ha:aK E f kp (sub t (p++[false])) kN kE kR=φ1) (hb:aK E f kp (sub t (p++[true])) kN kE kR=φ2) (h:sub t p=.cond x (sub t (p++[false])) (sub t (p++[true])):=by kernel_rfl):aK E f kp (sub t p) kN kE kR=fun g s=>aY (ev (bX E) g x) (φ1 g s) (φ2 g s):=aVf h ha hb
theorem dC {t:Code} {p:List Bool} (id:Nat) (ha:aK E f kp (sub t (p++[false])) kN (fun i=>cond (Nat.beq i id) kN (kE i)) kR=φ) (h:sub t p=.block id (sub t (p++[false])):=by kernel_rfl):aK E f kp (sub t p) kN kE kR=φ:=aGh h ha
theorem nH {t:Code} {p:List Bool} (ha:aK E f kp (sub t (p++[false])) kN kE kR=φ) (h:sub t p=.scope (sub t (p++[false])):=by kernel_rfl):aK E f kp (sub t p) kN kE kR=φ:=aLa h ha
theorem aWi {L:Nat->Kt} (h:c=.loop a) (h0:L 0=fun _ _=>False) (hs:∀ n,aK E f kp a (fun g s=>L n (fun k=>cond (bN kp k) (g k) .undef) s) kE kR=L (n+1)):aK E f kp c kN kE kR=fun g s=>∃ n,L n g s:=by
 subst h
 have key:∀ n,(Nat.rec (motive:=fun _=>Kt) (fun _ _=>False) (fun _ ih g s=>aK E f kp a (fun g s=>ih (fun k=>cond (bN kp k) (g k) .undef) s) kE kR g s) n:Kt)=L n:=by
  intro n
  induction n with
  | zero=>exact h0.symm
  | succ n ih =>rw [<- hs n];show (fun g s=>aK E f kp a (fun g s=>(Nat.rec (motive:=fun _=>Kt) (fun _ _=>False) (fun _ ih g s=>aK E f kp a (fun g s=>ih (fun k=>cond (bN kp k) (g k) .undef) s) kE kR g s) n:Kt) (fun k=>cond (bN kp k) (g k) .undef) s) kE kR g s)=_;rw [ih]
 funext g s;show (∃ n,(Nat.rec (motive:=fun _=>Kt) (fun _ _=>False) (fun _ ih g s=>aK E f kp a (fun g s=>ih (fun k=>cond (bN kp k) (g k) .undef) s) kE kR g s) n:Kt) g s)=_;simp only [key]
theorem kG {t:Code} {p:List Bool} {L:Nat->Kt} (hs:∀ n,aK E f kp (sub t (p++[false])) (fun g s=>L n (fun k=>cond (bN kp k) (g k) .undef) s) kE kR=L (n+1)) (h:sub t p=.loop (sub t (p++[false])):=by kernel_rfl) (h0:L 0=fun _ _=>False:=by kernel_rfl):aK E f kp (sub t p) kN kE kR=fun g s=>∃ n,L n g s:=aWi h h0 hs
end
end
end Go.Proofs.YtdehdahimkcakaaGreatDoor.Ai
