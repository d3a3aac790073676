/- Texts joined by wip/tools/pack.py: SimE,Walk1,bF,Walk2,Walk3. -/
import Derived.Orders
import Derived.Test.YtdehdahimkcakaaGreatDoorZe
open Nat renaming reduceAdd→Z0, reduceEqDiff→Z1
set_option linter.unusedSimpArgs false
set_option linter.unusedVariables false
noncomputable section
namespace Go.Proofs.YtdehdahimkcakaaGreatDoor.Ai
open Go
section
variable {P:Program} {T:Ty} {F:Fz} {ρ ρ':fC} {s:St} {W:World}
def St.part (s:St) (p:Nat->Bool):St:=⟨fun m=>cond (p m) (s.h m) none,s.nx⟩
def St.join (s t:St) (p:Nat->Bool) (n:Nat):St:=⟨fun m=>cond (p m) (t.h m) (s.h m),n⟩
theorem XE {p:Nat->Bool} {m:Nat} (h:p m=true):(s.part p).h m=s.h m:=by simp [St.part,h]
theorem lA {p:Nat->Bool} {m:Nat} (h:(s.part p).h m≠none):p m=true/\s.h m≠none:=by
 cases hp:p m with
 | true=>rw [XE hp] at h;exact ⟨rfl,h⟩
 | false=>simp [St.part,hp] at h
theorem R.part (h:R T F ρ s W) (p:Nat->Bool):R T F ρ (s.part p) W:=by refine ⟨fun id b hb=>?_,fun i j β z1 z2 hi hj=>h.inj i j β z1 z2 (lA hi).2 (lA hj).2,fun a v ha=>⟨(h.fz a v ha).1,fun i z hi=>(h.fz a v ha).2 i z (lA hi).2⟩,h.fresh⟩;obtain ⟨h1,h2⟩:=lA (s:=s) (p:=p) (m:=id) (by rw [hb];simp);rw [XE h1] at hb;exact h.blk id b hb
theorem sR {t:St} {p:Nat->Bool} {n m:Nat} (h:p m=true):(s.join t p n).h m=t.h m:=by simp [St.join,h]
theorem nQ {t:St} {p:Nat->Bool} {n m:Nat} (h:p m=false):(s.join t p n).h m=s.h m:=by simp [St.join,h]
theorem OB (hR:R T F ρ s W) {p:Nat->Bool} {t:St} {F':Fz} {W':World} (hS:dJ (s.part p) ρ F W t ρ' F' W') (hR':R T F' ρ' t W') {n:Nat} (hn:t.nx<=n) :
  R T F' ρ' (s.join t p n) W'/\dJ s ρ F W (s.join t p n) ρ' F' W':=by
 have hsub:∀ β,wQ ρ (s.part p) β->wQ ρ s β:=fun β ⟨i,z,h1,h2⟩=>⟨i,z,(lA h1).2,h2⟩;have hnot:∀ m β z,p m=false->s.h m≠none->ρ m=some (β,z)->¬ wQ ρ (s.part p) β:=fun m β z hp hm hρ ⟨i,z',h1,h2⟩=>by obtain ⟨q1,q2⟩:=lA h1;have:=hR.inj i m β z' z q2 hm h2 hρ;rw [this,hp] at q1;cases q1
 have hlt:∀ m β z,s.h m≠none->ρ m=some (β,z)->β < W.heap.size:=fun m β z hm hρ=>by obtain ⟨b,hb⟩:=Option.ne_none_iff_exists'.1 hm;obtain ⟨β',z',o,h1,h2,h3,h4⟩:=hR.lt hb;rw [hρ] at h1;cases h1;exact h4
 have hold:∀ m,s.h m≠none->ρ' m=ρ m:=fun m hm=>by obtain ⟨b,hb⟩:=Option.ne_none_iff_exists'.1 hm;obtain ⟨β',z',o,h1,_⟩:=hR.lt hb;rw [hS.rho _ _ h1,h1]
 refine ⟨⟨fun m b hb=>?_,fun i j β z1 z2 hi hj h1 h2=>?_,fun a v ha=>⟨(hR'.fz a v ha).1,fun i z hi hc=>?_⟩,fun i hi=>hR'.fresh i (GN hn hi)⟩,
  ⟨hS.rho,hS.fz,hS.os,hS.tape,hS.output,hS.size,fun β hβ hl=>hS.same β hβ fun h=>hl (hsub β h),fun β ⟨i,z,h1,h2⟩ hβ=>?_,fun a v ha hb hl=>hS.cold a v ha hb fun h=>hl (hsub _ h)⟩⟩
 ·cases hp:p m with
  | true=>rw [sR hp] at hb;exact hR'.blk m b hb
  | false =>rw [nQ hp] at hb;obtain ⟨β,z,o,k1,k2,k3,k4⟩:=hR.lt hb;exact ⟨β,z,o,hS.rho _ _ k1,by rw [hS.same β k4 (hnot m β z hp (by rw [hb];simp) k1)];exact k2,k3.mono hS.fz hS.rho⟩
 ·have mixed:∀ i j β z1 z2,p i=true->p j=false->t.h i≠none->s.h j≠none->ρ' i=some (β,z1)->ρ' j=some (β,z2)->False:=by
   intro i j β z1 z2 hpi hpj hi hj h1 h2;rw [hold j hj] at h2;exact hnot j β z2 hpj hj h2 (hS.born β ⟨i,z1,hi,h1⟩ (hlt j β z2 hj h2))
  cases hpi:p i with
  | true =>
   rw [sR hpi] at hi
   cases hpj:p j with
   | true=>rw [sR hpj] at hj;exact hR'.inj i j β z1 z2 hi hj h1 h2
   | false=>rw [nQ hpj] at hj;exact (mixed i j β z1 z2 hpi hpj hi hj h1 h2).elim
  | false =>
   rw [nQ hpi] at hi
   cases hpj:p j with
   | true=>rw [sR hpj] at hj;exact (mixed j i β z2 z1 hpj hpi hj hi h2 h1).elim
   | false =>rw [nQ hpj] at hj;rw [hold i hi] at h1;rw [hold j hj] at h2;exact hR.inj i j β z1 z2 hi hj h1 h2
 ·cases hpi:p i with
  | true=>rw [sR hpi] at hi;exact (hR'.fz a v ha).2 i z hi hc
  | false =>rw [nQ hpi] at hi;rw [hold i hi] at hc;exact (hR.fz a v (hS.cold a v ha (hlt i _ z hi hc) (hnot i _ z hpi hi hc))).2 i z hi hc
 ·cases hpi:p i with
  | true=>rw [sR hpi] at h1;exact hsub β (hS.born β ⟨i,z,h1,h2⟩ hβ)
  | false =>rw [nQ hpi] at h1;rw [hold i h1] at h2;exact ⟨i,z,h1,h2⟩
end
end Go.Proofs.YtdehdahimkcakaaGreatDoor.Ai
namespace Go.Proofs.YtdehdahimkcakaaGreatDoor.Ai
open Go
section
variable {P:Program} {T:Ty} {F:Fz} {ρ ρ':fC} {s:St} {W:World}
def dD (X:Cx):Prop:=∀ f args s r s',X.call true f args s=some (r,s')->s'=s/\∀ n,X.call true f args ⟨s.h,n⟩=some (r,⟨s.h,n⟩)
theorem bMm (T:Ty) (s:St) (n:Nat):∀ k v,pur T ⟨s.h,n⟩ k v=pur T s k v:=by
 intro k
 induction k with
 | zero=>intro v;unfold pur;rfl
 | succ k ih =>intro v;have e:pur T ⟨s.h,n⟩ k=pur T s k:=funext ih;unfold pur;simp only [e]
theorem tR (E:lH) (cl:FuncId->List AV->St->Option (AV×St)) (f:FuncId):dD (cx E cl f):=by
 intro g args s r s' h;have h:gX E cl f true g args s=some (r,s'):=h
 have goal:∀ s',gX E cl f true g args s=some (r,s')->s'=s/\∀ n,gX E cl f true g args ⟨s.h,n⟩=some (r,⟨s.h,n⟩):=by
  intro s' h;have e:∀ n,pur E.P ⟨s.h,n⟩ 12=pur E.P s 12:=fun n=>funext (bMm E.P s n 12);unfold gX at h ⊢
  split at h
  ·rename_i hp;simp only [if_pos hp,e]
   cases hl:dN (pur E.P s 12) args with
   | none=>rw [hl] at h;cases h
   | some as =>
    rw [hl] at h;simp only [Option.bind_some] at h ⊢
    cases hc:cl g as.1 St.empty with
    | none=>rw [hc] at h;cases h
    | some q =>
     rw [hc] at h;simp only [Option.bind_some] at h ⊢
     cases hv:pur E.P q.2 12 q.1 with
     | none=>rw [hv] at h;cases h
     | some v =>
      rw [hv] at h;simp only [Option.bind_some] at h ⊢
      split at h
      ·rename_i hcond;simp only [m000,m001] at h;obtain ⟨rfl,rfl⟩:=h;exact ⟨rfl,fun n=>by rw [if_pos hcond]⟩
      ·simp at h
  ·simp at h
 exact goal s' h
theorem hY {s t:St} {r:AV} {q:Option AV} (h:q.map (·,s)=some (r,t)):t=s/\q=some r:=by
 cases q with
 | none=>cases h
 | some x=>simp only [Option.map_some,m000,m001] at h;exact ⟨h.2.symm,by rw [h.1]⟩
theorem tH {X:Cx} {b:Builtin} {ats:Array TypeId} {args:List AV} {id:Nat} {r:AV} {t:St} (h:bL X b ats args id s=some (r,t)) (hw:b≠.append/\b≠.copy/\b≠.unsafeString) :
  t=s/\∀ n,bL X b ats args id ⟨s.h,n⟩=some (r,⟨s.h,n⟩):=by
 unfold bL at h
 split at h
 ·rename_i x
  cases hd:(ats[0]?).bind (eK X.P) with
  | none=>rw [hd] at h;cases h
  | some d =>
   rw [hd] at h;simp only [Option.bind_some] at h
   split at h
   ·rename_i hl
    cases hn:wX x s with
    | none=>rw [hn] at h;cases h
    | some k =>rw [hn] at h;simp only [Option.map_some,m000,m001] at h;obtain ⟨rfl,rfl⟩:=h;refine ⟨rfl,fun n=>?_⟩;simp only [bL,hd,Option.bind_some,if_pos hl];rw [show wX x ⟨s.h,n⟩=wX x s from rfl,hn];rfl
   ·cases h
 ·rename_i x
  cases hd:(ats[0]?).bind (eK X.P) with
  | none=>rw [hd] at h;cases h
  | some d =>
   rw [hd] at h;simp only [Option.bind_some] at h
   split at h
   ·cases hn:UG x with
    | none=>rw [hn] at h;cases h
    | some k =>rw [hn] at h;simp only [Option.map_some,m000,m001] at h;obtain ⟨rfl,rfl⟩:=h;refine ⟨rfl,fun n=>?_⟩;simp only [bL,hd,Option.bind_some,hn];rfl
   ·cases h
 ·obtain ⟨h1,h2⟩:=hY h;exact ⟨h1,fun n=>by simp only [bL,h2];rfl⟩
 ·obtain ⟨h1,h2⟩:=hY h;exact ⟨h1,fun n=>by simp only [bL,h2];rfl⟩
 ·exact absurd rfl hw.1
 ·exact absurd rfl hw.2.1
 ·split at h
  ·simp only [m000,m001] at h;obtain ⟨rfl,rfl⟩:=h;exact ⟨rfl,fun n=>rfl⟩
  ·rename_i i off _ cap _
   cases hb:s.h i with
   | none=>rw [hb] at h;cases h
   | some bk =>
    rw [hb] at h
    cases bk with
    | cells c e' ex wr =>
     simp only at h
     split at h
     ·rename_i hc;simp only [m000,m001] at h;obtain ⟨rfl,rfl⟩:=h;refine ⟨rfl,fun n=>?_⟩;simp only [bL,hb];rw [if_pos hc]
     ·cases h
    | _=>cases h
  ·cases h
 ·exact absurd rfl hw.2.2
 ·cases h
theorem xX {X:Cx} (hp:dD X) {id:Nat} {e:Operand->AV} {o:Oper} {r:AV} {t:St} (h:fW X true id e o s=some (r,t)) (hw:cG o.op=false) :
  t=s/\∀ n,fW X true id e o ⟨s.h,n⟩=some (r,⟨s.h,n⟩):=by
 unfold fW at h ⊢
 cases ho:o.op with
 | move x=>simp only [ho,m000,m001] at h ⊢;exact ⟨h.2.symm,fun n=>⟨h.1,trivial⟩⟩
 | assign x=>simp only [ho,m000,m001] at h ⊢;exact ⟨h.2.symm,fun n=>⟨h.1,trivial⟩⟩
 | pick c a b =>
  simp only [ho] at h ⊢
  cases hb:ME (e c) with
  | none=>rw [hb] at h;cases h
  | some q=>rw [hb] at h;simp only [Option.bind_some,m000,m001] at h ⊢;exact ⟨h.2.symm,fun n=>⟨h.1,trivial⟩⟩
 | alloc=>rw [ho] at hw;cases hw
 | box=>rw [ho] at hw;cases hw
 | store=>rw [ho] at hw;cases hw
 | mapUpdate=>rw [ho] at hw;cases hw
 | makeSlice=>rw [ho] at hw;cases hw
 | makeMap=>rw [ho] at hw;cases hw
 | build=>simp only [ho] at h ⊢;obtain ⟨h1,h2⟩:=hY h;exact ⟨h1,fun n=>by rw [h2];rfl⟩
 | buildSlice=>simp only [ho] at h ⊢;obtain ⟨h1,h2⟩:=hY h;exact ⟨h1,fun n=>by rw [h2];rfl⟩
 | binOp=>simp only [ho] at h ⊢;obtain ⟨h1,h2⟩:=hY h;exact ⟨h1,fun n=>by rw [h2];rfl⟩
 | unOp=>simp only [ho] at h ⊢;obtain ⟨h1,h2⟩:=hY h;exact ⟨h1,fun n=>by rw [h2];rfl⟩
 | fieldAddr=>simp only [ho] at h ⊢;obtain ⟨h1,h2⟩:=hY h;exact ⟨h1,fun n=>by rw [h2];rfl⟩
 | field=>simp only [ho] at h ⊢;obtain ⟨h1,h2⟩:=hY h;exact ⟨h1,fun n=>by rw [h2];rfl⟩
 | indexAddr=>simp only [ho] at h ⊢;obtain ⟨h1,h2⟩:=hY h;exact ⟨h1,fun n=>by rw [h2];rfl⟩
 | index=>simp only [ho] at h ⊢;obtain ⟨h1,h2⟩:=hY h;exact ⟨h1,fun n=>by rw [h2];rfl⟩
 | convert src dst x =>simp only [ho] at h ⊢;obtain ⟨h1,h2⟩:=hY h;exact ⟨h1,fun n=>by rw [show mU X.P src dst (e x) ⟨s.h,n⟩=mU X.P src dst (e x) s from rfl,h2];rfl⟩
 | slice ty x lo hi mx =>simp only [ho] at h ⊢;obtain ⟨h1,h2⟩:=hY h;exact ⟨h1,fun n=>by rw [show gH X.P ty (e x) (lo.map e) (hi.map e) (mx.map e) ⟨s.h,n⟩=gH X.P ty (e x) (lo.map e) (hi.map e) (mx.map e) s from rfl,h2];rfl⟩
 | lookup ty m k ok =>simp only [ho] at h ⊢;obtain ⟨h1,h2⟩:=hY h;exact ⟨h1,fun n=>by rw [show eE X.P ty (e m) (e k) ok ⟨s.h,n⟩=eE X.P ty (e m) (e k) ok s from rfl,h2];rfl⟩
 | load ty a =>
  simp only [ho] at h ⊢
  cases hl:eU X.P ty with
  | none=>rw [hl] at h;cases h
  | some l =>rw [hl] at h;simp only [Option.bind_some] at h ⊢;obtain ⟨h1,h2⟩:=hY h;exact ⟨h1,fun n=>by rw [show load l.1 l.2 (e a) ⟨s.h,n⟩=load l.1 l.2 (e a) s from rfl,h2];rfl⟩
 | nilCheck x =>
  simp only [ho] at h ⊢
  split at h<;>first | (cases h;done) | (simp only [m000,m001] at h ⊢;exact ⟨h.2.symm,fun n=>⟨h.1,trivial⟩⟩)
 | makeInterface ty x =>
  simp only [ho] at h ⊢
  split at h
  ·cases h
  ·cases h
  ·simp only [m000,m001] at h;exact ⟨h.2.symm,fun n=>by simp only [h.1]⟩
 | makeFunc fn a b =>cases fn<;>simp only [ho] at h ⊢<;>first | (cases h;done) | (simp only [m000,m001] at h ⊢;exact ⟨h.2.symm,fun n=>⟨h.1,trivial⟩⟩)
 | extract x i =>
  simp only [ho] at h ⊢
  split at h
  ·rename_i vs _;obtain ⟨h1,h2⟩:=hY h;exact ⟨h1,fun n=>by simp only [h2];rfl⟩
  ·cases h
 | call c =>
  simp only [ho] at h ⊢
  cases hc:c.callee with
  | value f =>
   simp only [hc] at h ⊢
   split at h
   ·exact hp _ _ _ _ _ h
   ·cases h
  | invoke a b=>simp only [hc] at h;cases h
  | builtin b =>
   simp only [hc] at h ⊢;rw [ho] at hw
   exact tH h (by
    refine ⟨?_,?_,?_⟩<;>(intro hb;subst hb;simp [cG,hc] at hw))
 | _=>simp only [ho] at h;cases h
theorem UI {X:Cx} {b:Builtin} {ats:Array TypeId} {args:List AV} {id:Nat} {r:AV} {t:St} (h:bL X b ats args id s=some (r,t)):t.nx=s.nx:=by
 by_cases hb:b≠.append/\b≠.copy/\b≠.unsafeString
 ·rw [(tH h hb).1]
 ·have grown_nx:∀ e z b c (s1:St),dR e z b c id s1=some (r,t)->t.nx=s1.nx:=fun e z b c s1 h=>by
   unfold dR at h
   split at h
   ·simp only [kG,m000,m001] at h;obtain ⟨_,rfl⟩:=h;rfl
   ·cases h
  have append_nx:∀ e z b x c,bM e z b x c id s=some (r,t)->t.nx=s.nx:=fun e z b x c h=>by
   unfold bM at h
   split at h
   ·split at h<;>first | (cases h;done) | (simp only [m000,m001] at h;obtain ⟨_,rfl⟩:=h;rfl)
   ·split at h
    ·cases h
    ·split at h
     ·exact grown_nx _ _ _ _ _ h
     ·split at h
      ·exact grown_nx _ _ _ _ _ h
      ·cases h
     ·split at h
      ·split at h
       ·split at h
        ·split at h
         ·split at h
          ·simp only [m000,m001] at h;obtain ⟨_,rfl⟩:=h;rfl
          ·cases h
         ·exact grown_nx _ _ _ _ _ h
        ·split at h
         ·simp only [m000,m001] at h;obtain ⟨_,rfl⟩:=h;rfl
         ·split at h
          ·exact grown_nx _ _ _ _ (s.set _ none) h
          ·cases h
       ·cases h
      ·cases h
     ·cases h
  unfold bL at h
  split at h
  ·exact absurd ⟨by simp,by simp,by simp⟩ hb
  ·exact absurd ⟨by simp,by simp,by simp⟩ hb
  ·exact absurd ⟨by simp,by simp,by simp⟩ hb
  ·exact absurd ⟨by simp,by simp,by simp⟩ hb
  ·split at h
   ·split at h
    ·split at h
     ·exact append_nx _ _ _ _ _ h
     ·cases h
    ·cases h
   ·split at h
    ·split at h
     ·cases hc:aR _ _ s with
      | none=>rw [hc] at h;cases h
      | some c=>rw [hc] at h;exact append_nx _ _ _ _ _ h
     ·cases h
    ·cases h
   ·split at h
    ·split at h
     ·cases hc:aR _ _ s with
      | none=>rw [hc] at h;cases h
      | some c=>rw [hc] at h;exact append_nx _ _ _ _ _ h
     ·cases h
    ·cases h
   ·cases h
  ·split at h
   ·split at h
    ·split at h
     ·cases h
     ·cases hc:aR _ _ s with
      | none=>rw [hc] at h;cases h
      | some c =>
       rw [hc] at h;simp only [Option.bind_some] at h;unfold pL at h
       split at h
       ·simp only [m000,m001] at h;obtain ⟨_,rfl⟩:=h;rfl
       ·simp only [m000,m001] at h;obtain ⟨_,rfl⟩:=h;rfl
       ·simp only [m000,m001] at h;obtain ⟨_,rfl⟩:=h;rfl
       ·simp only at h
        split at h
        ·split at h
         ·simp only [m000,m001] at h;obtain ⟨_,rfl⟩:=h;rfl
         ·cases h
        ·cases h
       ·cases h
    ·cases h
   ·cases h
  ·exact absurd ⟨by simp,by simp,by simp⟩ hb
  ·split at h
   ·split at h
    ·split at h
     ·split at h
      ·split at h
       ·cases hc:fQ _ with
        | none=>rw [hc] at h;cases h
        | some c =>
         rw [hc] at h;simp only [Option.bind_some] at h
         split at h
         ·simp only [m000,m001] at h;obtain ⟨_,rfl⟩:=h;rfl
         ·cases h
       ·cases h
      ·cases h
     ·cases h
    ·simp only [m000,m001] at h;obtain ⟨_,rfl⟩:=h;rfl
    ·simp only [m000,m001] at h;obtain ⟨_,rfl⟩:=h;rfl
    ·cases h
   ·cases h
  ·cases h
theorem bGe {X:Cx} (hp:dD X) {id:Nat} {e:Operand->AV} {o:Oper} {r:AV} {t:St} (h:fW X true id e o s=some (r,t)):t.nx=s.nx:=by
 cases hw:cG o.op with
 | false=>rw [(xX hp h hw).1]
 | true =>
  unfold fW at h;cases ho:o.op<;>rw [ho] at hw<;>first | (cases hw;done) | skip
  case alloc ty =>
   simp only [ho] at h
   cases hz:zero X.P ty with
   | none=>rw [hz] at h;cases h
   | some z=>rw [hz] at h;simp only [Option.map_some,m000,m001] at h;obtain ⟨_,rfl⟩:=h;rfl
  case box ty x =>
   simp only [ho] at h
   split at h
   ·simp only [m000,m001] at h;obtain ⟨_,rfl⟩:=h;rfl
   ·cases h
  case store ty a x =>
   simp only [ho] at h
   cases hl:eU X.P ty with
   | none=>rw [hl] at h;cases h
   | some l =>
    rw [hl] at h;simp only [Option.bind_some] at h
    cases hs:Ai.store l.1 (e a) (e x) s with
    | none=>rw [hs] at h;cases h
    | some s1 =>
     rw [hs] at h;simp only [Option.map_some,m000,m001] at h;obtain ⟨_,rfl⟩:=h;unfold Ai.store at hs
     split at hs
     ·split at hs
      ·split at hs
       ·simp only [m000] at hs;subst hs;rfl
       ·cases hs
      ·cases hs
     ·cases hs
  case makeMap ty q =>
   cases q with
   | none=>simp only [ho,m000,m001] at h;obtain ⟨_,rfl⟩:=h;rfl
   | some q=>simp only [ho] at h;cases h
  case makeSlice ty n c =>
   simp only [ho] at h
   split at h
   ·split at h
    ·split at h
     ·simp only [m000,m001] at h;obtain ⟨_,rfl⟩:=h;rfl
     ·cases h
    ·cases h
   ·cases h
  case mapUpdate ty m k x =>
   simp only [ho] at h
   cases hs:eN X.P ty (e m) (e k) (e x) s with
   | none=>rw [hs] at h;cases h
   | some s1 =>
    rw [hs] at h;simp only [Option.map_some,m000,m001] at h;obtain ⟨_,rfl⟩:=h;unfold eN at hs
    split at hs
    ·rename_i kt _ _
     cases hk:eK X.P kt with
     | none=>rw [hk] at hs;cases hs
     | some kd =>
      rw [hk] at hs;simp only [Option.bind_some] at hs
      split at hs
      ·split at hs
       ·split at hs
        ·cases hf:find (e k) _ with
         | none=>rw [hf] at hs;cases hs
         | some q=>rw [hf] at hs;simp only [Option.map_some,m000] at hs;subst hs;rfl
        ·cases hs
       ·cases hs
      ·cases hs
    ·cases hs
  case call c =>
   simp only [ho] at h
   cases hc:c.callee with
   | value f=>simp [cG,hc] at hw
   | invoke a b=>simp [cG,hc] at hw
   | builtin b=>simp only [hc] at h;exact UI h
theorem aCr {X:Cx} {dr:Bool} {id:Nat} {e e':Operand->AV} {o:Oper} (h:∀ x∈iU o.op,e x=e' x) (s:St):fW X dr id e o s=fW X dr id e' o s:=by
 have parts:∀ ps:Array (Nat×Operand),(∀ x∈ps.toList.map (·.2),e x=e' x)->(ps.toList.map fun p=>(p.1,e p.2))=(ps.toList.map fun p=>(p.1,e' p.2)):=fun ps hp =>
  List.map_congr_left fun p hm=>by rw [hp p.2 (m021.2 ⟨p,hm,rfl⟩)]
 unfold fW;cases ho:o.op<;>rw [ho] at h<;>simp only [iU] at h
 case build ty ps=>simp only [parts ps h]
 case buildSlice ty n ps=>simp only [parts ps h]
 case makeFunc fn a b =>cases fn<;>simp only;rw [List.map_congr_left (fun x hx=>h x (m041 _ hx)),List.map_congr_left (l:=b.toList) (fun x hx=>h x (m049 _ hx))]
 case slice ty x lo hi mx =>
  have h1:e x=e' x:=h x (m007 ..);have hl:lo.map e=lo.map e':=by cases lo with | none=>rfl | some y=>simp only [Option.map_some,h y (by simp)]
  have hh:hi.map e=hi.map e':=by cases hi with | none=>rfl | some y=>simp only [Option.map_some,h y (by simp)]
  have hm:mx.map e=mx.map e':=by cases mx with | none=>rfl | some y=>simp only [Option.map_some,h y (by simp)]
  simp only [h1,hl,hh,hm]
 case call c =>
  have ha:c.args.toList.map e=c.args.toList.map e':=List.map_congr_left fun x hx=>h x (m049 _ hx)
  cases hc:c.callee with
  | value f =>have hf:e f=e' f:=h f (by simp [hc]);simp only [ha,hc,hf]
  | invoke a b=>simp only [hc]
  | builtin b=>simp only [ha,hc]
 case makeMap ty q=>cases q<;>rfl
 all_goals (first | rfl | (simp_all;done))
end
end Go.Proofs.YtdehdahimkcakaaGreatDoor.Ai
namespace Go.Proofs.YtdehdahimkcakaaGreatDoor.Ai
open Go
section
variable {P:Program} {T:Ty} {F:Fz} {ρ ρ':fC} {s:St} {W:World}
theorem zX {s t:St} (h:∀ m,s.h m=t.h m) (hn:s.nx=t.nx):s=t:=by cases s;cases t;simp only at hn;subst hn;congr 1;exact funext h
theorem bO {n:Nat}:∀ {l:List Nat},dO n l=true↔n∈l:=by
 intro l
 induction l with
 | nil=>simp [dO]
 | cons m l ih=>simp [dO,ih,Nat.beq_eq]
theorem YV (hR:R T F ρ s W) {m:Nat} (h:ρ m=none):s.h m=none:=by
 cases hb:s.h m with
 | none=>rfl
 | some b=>obtain ⟨β,z,o,h1,_⟩:=hR.blk m b hb;rw [h] at h1;cases h1
theorem bFq {X:Cx} (hT:dQ P X.P) (hE:yR P X.P X.eqOk) (hC:lV P X) (hp:dD X) (hR:R X.P F ρ s W) (hG:GlobOk X.P X.glob F W) {id:Nat} (hid:ρ id=none) (hlt:id < s.nx) {e:Operand->AV} {g:Operand->Value} (he:∀ x,VR X.P F ρ (e x) (g x))
  {o:Oper} {r:AV} {s':St} (h:sA X id e o s=some (r,s')):cY P X.P id s ρ F W r s' (execOp g o):=by
 have hdead:=YV hR hid;unfold sA at h;generalize dH e o.op s=l at h
 cases hw:gL X e o.op with
 | true =>
  rw [hw] at h;simp only [cond_true] at h
  cases ho:fW X false id e o (s.only l) with
  | none=>rw [ho] at h;cases h
  | some q =>
   obtain ⟨r1,t⟩:=q;rw [ho] at h;simp only [Option.map_some,m000,m001] at h;obtain ⟨rfl,rfl⟩:=h
   let p:Nat->Bool:=fun m=>dO m l||Nat.ble s.nx m
   have hpart:s.only l=s.part p:=zX (fun m=>by
    simp only [St.only,St.part,p]
    cases hb:Nat.ble s.nx m with
    | false=>simp
    | true =>
     have:s.h m=none:=YV hR (hR.fresh m (Nat.le_of_ble_eq_true hb))
     rw [this];cases dO m l<;>rfl) rfl
   rw [hpart] at ho;have:=UR hT hE hC (hR.part p) hG hid hlt he ho;refine this.map fun v W' ⟨ρ',F',k1,k2,k3,k4,k5⟩=>?_;obtain ⟨q1,q2⟩:=OB hR k3 k2 (bK t.nx);exact ⟨ρ',F',k1,q1,q2,k4,k5⟩
 | false =>
  rw [hw] at h;simp only [cond_false] at h
  cases ho:fW X true id e o (s.only l) with
  | none=>rw [ho] at h;cases h
  | some q =>
   obtain ⟨r1,t⟩:=q;rw [ho] at h;simp only [Option.map_some,m000,m001] at h;obtain ⟨rfl,rfl⟩:=h
   let p:Nat->Bool:=fun m=>dO m (id::l)
   have hpart:s.only l=s.part p:=zX (fun m=>by
    simp only [St.only,St.part,p,dO]
    cases hb:Nat.beq m id with
    | false=>simp
    | true =>
     have hm:=iN hb;subst hm
     rw [hdead];cases dO m l<;>rfl) rfl
   have hnx:=bGe hp ho;have hrd:cG o.op=false->t=s.only l:=fun hwr=>(xX hp ho hwr).1;rw [hpart] at ho;have:=UR hT hE hC (hR.part p) hG hid hlt he ho;refine this.map fun v W' ⟨ρ',F',k1,k2,k3,k4,k5⟩=>?_;obtain ⟨q1,q2⟩:=OB hR k3 k2 (n:=s.nx) (by rw [hnx];exact bK _)
   cases hwr:cG o.op with
   | true=>exact ⟨ρ',F',k1,q1,q2,k4,bK _⟩
   | false =>
    have hj:s.join t p s.nx=s:=zX (fun m=>by
     rw [hrd hwr];simp only [St.join,p]
     cases hm:dO m (id::l) with
     | false=>rfl
     | true =>
      simp only [cond_true,St.only];simp only [dO] at hm
      cases hb:Nat.beq m id with
      | true=>have hm':=iN hb;subst hm';rw [hdead];cases dO m l<;>rfl
      | false=>rw [hb,m026] at hm;rw [hm];rfl) rfl
    rw [hj] at q1 q2;exact ⟨ρ',F',k1,q1,q2,k4,bK _⟩
end
end Go.Proofs.YtdehdahimkcakaaGreatDoor.Ai
namespace Go.Proofs.YtdehdahimkcakaaGreatDoor.Ai
open Go
section
variable {s:St}
def re (n:Nat) (r:AV×St):AV×St:=(r.1,⟨r.2.h,n⟩)
theorem aQm (n:Nat) (e z b c id) (s:St):dR e z b c id ⟨s.h,n⟩=(dR e z b c id s).map (re n):=by unfold dR;split<;>rfl
theorem uS (n:Nat) (e z b x c id) (s:St):bM e z b x c id ⟨s.h,n⟩=(bM e z b x c id s).map (re n):=by
 have hg:∀ (c:List AV) (s:St),dR e z b c id ⟨s.h,n⟩=(dR e z b c id s).map (re n):=fun c s=>aQm n e z b c id s;unfold bM;dsimp only
 split
 ·split<;>rfl
 ·split
  ·rfl
  ·split
   ·exact hg _ _
   ·split
    ·exact hg _ _
    ·rfl
   ·split
    ·split
     ·split
      ·split
       ·split<;>rfl
       ·exact hg _ _
      ·split
       ·rfl
       ·split
        ·exact hg _ (s.set _ none)
        ·rfl
     ·rfl
    ·rfl
   ·rfl
theorem aHk (n:Nat) (z x c) (s:St):pL z x c ⟨s.h,n⟩=(pL z x c s).map (re n):=by
 unfold pL;dsimp only
 split
 ·rfl
 ·rfl
 ·rfl
 ·split
  ·split<;>rfl
  ·rfl
 ·rfl
theorem PP (n:Nat) (X:Cx) (b ats args id) (s:St):bL X b ats args id ⟨s.h,n⟩=(bL X b ats args id s).map (re n):=by
 unfold bL;dsimp only
 split
 ·cases (ats[0]?).bind (eK X.P) with
  | none=>rfl
  | some d =>
   simp only [Option.bind_some]
   split
   ·rename_i x _;rw [show wX x ⟨s.h,n⟩=wX x s from rfl];cases wX x s<;>rfl
   ·rfl
 ·rename_i x
  cases (ats[0]?).bind (eK X.P) with
  | none=>rfl
  | some d =>
   simp only [Option.bind_some]
   split
   ·cases UG x<;>rfl
   ·rfl
 ·cases AJ (fun y x=>decide (y < x)) args<;>rfl
 ·cases AJ (fun y x=>decide (x < y)) args<;>rfl
 ·split
  ·split
   ·split
    ·exact uS n _ _ _ _ _ id s
    ·rfl
   ·rfl
  ·split
   ·split
    ·rename_i y _ _ _ _ _ _ _ _ _ _ z _ _ _ _ _ _ _;rw [show aR _ _ ⟨s.h,n⟩=aR _ _ s from rfl]
     cases aR _ _ s with
     | none=>rfl
     | some c=>exact uS n _ _ _ _ _ id s
    ·rfl
   ·rfl
  ·split
   ·split
    ·rw [show aR _ _ ⟨s.h,n⟩=aR _ _ s from rfl]
     cases aR _ _ s with
     | none=>rfl
     | some c=>exact uS n _ _ _ _ _ id s
    ·rfl
   ·rfl
  ·rfl
 ·split
  ·split
   ·split
    ·rfl
    ·rw [show aR _ _ ⟨s.h,n⟩=aR _ _ s from rfl]
     cases aR _ _ s with
     | none=>rfl
     | some c=>exact aHk n _ _ _ s
   ·rfl
  ·rfl
 ·split
  ·rfl
  ·split
   ·split<;>rfl
   ·rfl
  ·rfl
 ·split
  ·split
   ·split
    ·split
     ·split
      ·cases fQ _ with
       | none=>rfl
       | some c =>
        simp only [Option.bind_some]
        split<;>rfl
      ·rfl
     ·rfl
    ·rfl
   ·rfl
   ·rfl
   ·rfl
  ·rfl
 ·rfl
theorem yH (n:Nat) (s:St) (q:Option AV):q.map (·,(⟨s.h,n⟩:St))=(q.map (·,s)).map (re n):=by cases q<;>rfl
theorem aXr {X:Cx} (hp:dD X) (n:Nat) (f:FuncId) (args:List AV) (s:St):X.call true f args ⟨s.h,n⟩=(X.call true f args s).map (re n):=by
 cases h:X.call true f args s with
 | some q =>obtain ⟨r,s'⟩:=q;obtain ⟨rfl,h2⟩:=hp _ _ _ _ _ h;rw [h2 n];rfl
 | none =>
  cases h2:X.call true f args ⟨s.h,n⟩ with
  | none=>rfl
  | some q =>obtain ⟨r,s'⟩:=q;have:=(hp _ _ _ _ _ h2).2 s.nx;have e:(⟨(⟨s.h,n⟩:St).h,s.nx⟩:St)=s:=rfl;rw [e,h] at this;cases this
theorem bEc {X:Cx} (hp:dD X) (n:Nat) (id:Nat) (e:Operand->AV) (o:Oper) (s:St):fW X true id e o ⟨s.h,n⟩=(fW X true id e o s).map (re n):=by
 unfold fW
 cases ho:o.op with
 | move | assign=>rfl
 | pick c a b=>simp only;cases ME (e c)<;>rfl
 | alloc ty=>simp only;cases zero X.P ty<;>rfl
 | box ty x=>simp only;split<;>rfl
 | build | buildSlice | binOp | unOp | fieldAddr | field | indexAddr | index=>exact yH n s _
 | convert src dst x=>exact yH n s (mU X.P src dst (e x) s)
 | slice ty x lo hi mx=>exact yH n s (gH X.P ty (e x) (lo.map e) (hi.map e) (mx.map e) s)
 | lookup ty m k ok=>exact yH n s (eE X.P ty (e m) (e k) ok s)
 | load ty a =>
  simp only
  cases eU X.P ty with
  | none=>rfl
  | some l=>exact yH n s (load l.1 l.2 (e a) s)
 | store ty a x =>
  simp only
  cases eU X.P ty with
  | none=>rfl
  | some l =>
   simp only [Option.bind_some]
   have:Ai.store l.1 (e a) (e x) ⟨s.h,n⟩=(Ai.store l.1 (e a) (e x) s).map fun t=>⟨t.h,n⟩:=by
    unfold Ai.store;dsimp only
    split
    ·split
     ·split<;>rfl
     ·rfl
    ·rfl
   rw [this];cases Ai.store l.1 (e a) (e x) s<;>rfl
 | nilCheck x=>simp only;split<;>rfl
 | makeInterface ty x=>simp only;split<;>rfl
 | makeFunc fn a b=>cases fn<;>rfl
 | makeMap ty q=>cases q<;>rfl
 | makeSlice ty a c =>
  simp only
  split
  ·split
   ·split<;>rfl
   ·rfl
  ·rfl
 | mapUpdate ty m k x =>
  simp only
  have:eN X.P ty (e m) (e k) (e x) ⟨s.h,n⟩=(eN X.P ty (e m) (e k) (e x) s).map fun t=>⟨t.h,n⟩:=by
   unfold eN;dsimp only
   split
   ·rename_i kt _ _
    cases eK X.P kt with
    | none=>rfl
    | some kd =>
     simp only [Option.bind_some]
     split
     ·split
      ·split
       ·cases find (e k) _<;>rfl
       ·rfl
      ·rfl
     ·rfl
   ·rfl
  rw [this];cases eN X.P ty (e m) (e k) (e x) s<;>rfl
 | extract x i =>
  simp only
  split
  ·exact yH n s _
  ·rfl
 | call c =>
  simp only
  cases c.callee with
  | value f =>
   simp only
   split
   ·exact aXr hp n _ _ s
   ·rfl
  | invoke a b=>rfl
  | builtin b=>exact PP n X b c.argTypes _ id s
 | _=>rfl
theorem GX (h:Nat->Option gU):∀ (f:Nat) (w seen:List Nat),∀ m∈seen,m∈kD h f w seen:=by
 intro f
 induction f with
 | zero=>intro w seen m hm;exact hm
 | succ f ih =>
  intro w seen m hm
  cases w with
  | nil=>exact hm
  | cons x w =>
   simp only [kD]
   cases dO x seen with
   | true=>exact ih w seen m hm
   | false =>
    simp only [cond_false]
    cases h x with
    | none=>exact ih w _ m (m005 _ hm)
    | some b=>exact ih _ _ m (m005 _ hm)
theorem aHr (h h':Nat->Option gU):∀ (f:Nat) (w seen:List Nat),(∀ m∈kD h f w seen,h' m=h m)->kD h' f w seen=kD h f w seen:=by
 intro f
 induction f with
 | zero=>intro w seen _;rfl
 | succ f ih =>
  intro w seen hm
  cases w with
  | nil=>rfl
  | cons x w =>
   simp only [kD] at hm ⊢
   cases hx:dO x seen with
   | true=>rw [hx] at hm;exact ih w seen hm
   | false =>
    rw [hx] at hm;simp only [cond_false] at hm ⊢
    have hxm:h' x=h x:=by
     cases hb:h x with
     | none=>rw [hb] at hm;rw [<- hb];exact hm x (GX h f w _ x (m007 ..))
     | some b=>rw [hb] at hm;rw [<- hb];exact hm x (GX h f _ _ x (m007 ..))
    rw [hxm]
    cases hb:h x with
    | none=>rw [hb] at hm;exact ih w _ hm
    | some b=>rw [hb] at hm;exact ih _ _ hm
end
end Go.Proofs.YtdehdahimkcakaaGreatDoor.Ai
namespace Go.Proofs.YtdehdahimkcakaaGreatDoor.Ai
open Go
section
variable {X:Cx} {s s':St}
theorem aKy {tm:List AV} {d:Option Nat} {v:AV} {t:Nat} (h:∀ u,d=some u->u≠t):gt (put tm d v) t=gt tm t:=by
 cases d with
 | none=>rfl
 | some u =>have hne:=h u rfl;simp only [gt,put,List.getD_eq_getElem?_getD,List.getElem?_set_ne hne]
theorem AR {tm:List AV} {d e:Option Nat} {v w:AV} (h:∀ a b,d=some a->e=some b->a≠b):put (put tm d v) e w=put (put tm e w) d v:=by
 cases d with
 | none=>rfl
 | some a =>
  cases e with
  | none=>rfl
  | some b=>exact List.set_comm v w (h a b rfl rfl)
theorem bGj {tm:List AV} {d:Option Nat} {v:AV} {x:Operand} (h:∀ u,d=some u->aRb u x=false):ev X (gt (put tm d v)) x=ev X (gt tm) x:=by
 cases x with
 | tmp t =>refine aKy fun u hu hut=>?_;have:=h u hu;subst hut;simp [aRb] at this
 | _=>rfl
theorem mV {all:List Oper} {o:Oper} {tm:List AV} {d:Option Nat} {v:AV} (h:∀ u,d=some u->OG all o u=false):∀ x∈iU o.op,ev X (gt (put tm d v)) x=ev X (gt tm) x:=by intro x hx;refine bGj fun u hu=>?_;have:=h u hu;simp only [OG,LR,List.any_eq_false] at this;simpa using this.1 x hx
theorem iE {all:List Oper} {o:Oper} {tm:List AV} {d:Option Nat} {v:AV} (h:∀ u,d=some u->OG all o u=false):bH all (gt (put tm d v)) o=bH all (gt tm) o:=by
 unfold bH
 cases hg:o.guard with
 | none=>rfl
 | some jw =>
  obtain ⟨j,w⟩:=jw;simp only
  cases hd:(all[j]?).bind (·.dst) with
  | none=>rfl
  | some t =>simp only;rw [aKy fun u hu hut=>?_];have:=h u hu;simp only [OG,LR,hg,hd] at this;have h2:=this.2;rw [hut] at h2;simp at h2
theorem ES {e e':Operand->AV} {o:Op} (h:∀ x∈iU o,e x=e' x):gL X e o=gL X e' o:=by
 cases o<;>try rfl
 rename_i c;unfold gL
 cases hc:c.callee with
 | value f=>simp only [hc];rw [h f (by simp [iU,hc])]
 | invoke a b=>simp only [hc]
 | builtin b=>simp only [hc]
theorem ST {e e':Operand->AV} {o:Op} (h:∀ x∈iU o,e x=e' x):sW o e=sW o e':=by
 cases o<;>simp only [sW]<;>simp only [iU] at h
 case call c =>
  cases hc:c.callee with
  | builtin b =>
   simp only [hc] at h ⊢;have:∀ x∈c.args.toList,aE (e x)=aE (e' x):=fun x hx=>by rw [h x (by simp;exact Array.mem_toList_iff.1 hx)]
   simp only [List.flatMap];rw [List.map_congr_left this]
  | _=>rfl
 all_goals (first | rfl | (rw [h _ (by simp)];done))
theorem MN {e e':Operand->AV} {o:Op} (h:∀ x∈iU o,e x=e' x):(iU o).map e=(iU o).map e':=List.map_congr_left h
theorem rO {e e':Operand->AV} {o:Op} (h:∀ x∈iU o,e x=e' x) (s:St):dH e o s=dH e' o s:=by unfold dH;simp only [MN h,ST h]
theorem sO {id:Nat} {e e':Operand->AV} {o:Oper} (h:∀ x∈iU o.op,e x=e' x) (s:St):sA X id e o s=sA X id e' o s:=by unfold sA;simp only [ES h,rO h,aCr h]
theorem MX {e e':Operand->AV} {o:Op} (h:∀ x∈iU o,e x=e' x) (id:Nat) (s:St):wI o id e s=wI o id e' s:=by unfold wI;simp only [rO h]
theorem kI {i id:Nat} {e e':Operand->AV} {o:Op} (h:∀ x∈iU o,e x=e' x) (s:St):bI X i id e o s=bI X i id e' o s:=by unfold bI;simp only [ES h,rO h,MX h]
def mH (wd wr:Bool) (id nx:Nat) (l:List Nat) (m:Nat):Bool:=cond wd (dO m l||Nat.ble nx m) (wr&&dO m (id::l))
theorem aKg {e:Operand->AV} {o:Op} (h:∀ m∈dH e o s,s'.h m=s.h m):dH e o s'=dH e o s:=by
 unfold dH at h ⊢;cases o<;>try rfl
 rename_i c;simp only at h ⊢
 cases hc:c.callee with
 | value f =>simp only [hc] at h ⊢;exact aHr s.h s'.h 4000 _ [] h
 | _=>rfl
theorem XR {l:List Nat} (h:∀ m∈l,s'.h m=s.h m):s'.only l=⟨(s.only l).h,s'.nx⟩:=by
 refine zX (fun m=>?_) rfl;simp only [St.only]
 cases hm:dO m l with
 | false=>rfl
 | true=>exact h m (bO.1 hm)
theorem QR (hp:dD X) {id:Nat} {e:Operand->AV} {o:Oper} {r:AV} {t:St} (h:sA X id e o s=some (r,t)) :
  (∀ m,mH (gL X e o.op) (cG o.op) id s.nx (dH e o.op s) m=false->t.h m=s.h m)/\(gL X e o.op=false->t.nx=s.nx) /\
  ∀ s':St,(∀ m∈dH e o.op s,s'.h m=s.h m)->(gL X e o.op=true->s'.nx=s.nx)->dH e o.op s'=dH e o.op s /\
   ∃ t',sA X id e o s'=some (r,t')/\(∀ m,mH (gL X e o.op) (cG o.op) id s.nx (dH e o.op s) m=true->t'.h m=t.h m) /\
    (∀ m,mH (gL X e o.op) (cG o.op) id s.nx (dH e o.op s) m=false->t'.h m=s'.h m)/\(gL X e o.op=true->t'.nx=t.nx)/\(gL X e o.op=false->t'.nx=s'.nx):=by
 have hsh:∀ s':St,(∀ m∈dH e o.op s,s'.h m=s.h m)->dH e o.op s'=dH e o.op s:=fun s' h=>aKg h;unfold sA at h ⊢;generalize hl:dH e o.op s=l at h ⊢ hsh
 cases hw:gL X e o.op with
 | true =>
  rw [hw] at h;simp only [cond_true] at h ⊢
  cases ho:fW X false id e o (s.only l) with
  | none=>rw [ho] at h;cases h
  | some q =>
   rw [ho] at h;simp only [Option.map_some,m000,m001] at h;obtain ⟨rfl,rfl⟩:=h;refine ⟨fun m hm=>?_,(fun hf=>(nomatch hf)),fun s' h1 h2=>?_⟩
   ·simp only [mH,cond_true] at hm;simp only [jW,hm,cond_false]
   ·have h2:=h2 trivial;rw [hsh s' h1];have ho':fW X false id e o (s'.only l)=some q:=by rw [XR h1,h2];exact ho
    rw [ho'];refine ⟨rfl,_,rfl,fun m hm=>?_,fun m hm=>?_,(fun _=>rfl),(fun hf=>(nomatch hf))⟩
    ·simp only [mH,cond_true] at hm;simp only [jW,h2,hm,cond_true]
    ·simp only [mH,cond_true] at hm;simp only [jW,h2,hm,cond_false]
 | false =>
  rw [hw] at h;simp only [cond_false] at h ⊢
  cases ho:fW X true id e o (s.only l) with
  | none=>rw [ho] at h;cases h
  | some q =>
   rw [ho] at h;simp only [Option.map_some,m000,m001] at h;obtain ⟨rfl,rfl⟩:=h;refine ⟨fun m hm=>?_,fun _=>?_,fun s' h1 h2=>?_⟩
   ·simp only [mH,cond_false] at hm
    cases hwr:cG o.op with
    | false=>rfl
    | true =>rw [hwr,m031] at hm;simp only [cond_true,St.merge,hm,cond_false]
   ·cases hwr:cG o.op<;>rfl
   ·rw [hsh s' h1];have ho':fW X true id e o (s'.only l)=some (re s'.nx q):=by rw [XR h1,bEc hp,ho];rfl
    rw [ho'];refine ⟨rfl,_,rfl,fun m hm=>?_,fun m hm=>?_,fun hf=>(nomatch hf),fun _=>?_⟩
    ·simp only [mH,cond_false] at hm
     cases hwr:cG o.op with
     | false=>rw [hwr] at hm;cases hm
     | true =>rw [hwr,m031] at hm;simp only [cond_true,St.merge,hm,re]
    ·simp only [mH,cond_false] at hm
     cases hwr:cG o.op with
     | false=>rfl
     | true =>rw [hwr,m031] at hm;simp only [cond_true,St.merge,hm,cond_false]
    ·cases hwr:cG o.op<;>rfl
theorem jM:∀ {l m:List Nat},lY l m=true->∀ n∈l,dO n m=false:=by
 intro l
 induction l with
 | nil=>intro m _ n hn;cases hn
 | cons a l ih =>
  intro m h n hn;simp only [lY,cR,Bool.not_eq_true'] at h;rcases m013.1 hn with rfl | hn
  ·exact h.1
  ·exact ih h.2 n hn
theorem NP {wa ra:Bool} {ia na:Nat} {la:List Nat} {wx rx:Bool} {ix nx:Nat} {lx:List Nat} {i j:Nat}
  (h:(cond wa ⟨i,true,la,some na⟩ ⟨i,ra,cond ra (ia::la) la,none⟩:eA).apart (cond wx ⟨j,true,lx,some nx⟩ ⟨j,rx,cond rx (ix::lx) lx,none⟩)=true) :
  (∀ m∈lx,mH wa ra ia na la m=false)/\(∀ m∈la,mH wx rx ix nx lx m=false)/\(∀ m,mH wa ra ia na la m=true->mH wx rx ix nx lx m=true->False)/\(wa=true->wx=false):=by
 have flip:∀ {l m:List Nat},lY l m=true->∀ n∈m,dO n l=false:=fun {l m} hd n hn=>by
  cases hb:dO n l with
  | false=>rfl
  | true=>have:=jM hd n (bO.1 hb);rw [bO.2 hn] at this;cases this
 have low:∀ {l:List Nat} {k:Nat},(l.all fun m=>Nat.blt m k)=true->∀ n∈l,Nat.ble k n=false:=fun {l k} hl n hn=>by
  have h1:=m032.1 hl n hn;have h2:n < k:=by simpa [Nat.blt_eq] using h1
  cases hb:Nat.ble k n with
  | false=>rfl
  | true=>have:=Nat.le_of_ble_eq_true hb;omega
 have tr:∀ {l m:List Nat} {n:Nat},lY l m=true->dO n l=true->dO n m=true->False:=fun {l m n} hd h1 h2=>by have:=jM hd n (bO.1 h1);rw [h2] at this;cases this
 cases wa<;>cases wx
 ·cases ra<;>cases rx
  ·simp [mH]
  all_goals
   simp only [cond_false,cond_true,eA.apart,tM,m025,m027,m059,m035,m071,m031,m026] at h;simp only [mH,cond_false,m031,m035]
  ·exact ⟨fun m _=>trivial,fun m hm=>jM h m hm,fun m h1=>(by simp at h1),fun h=>nomatch h⟩
  ·exact ⟨fun m hm=>flip h m hm,fun m hm=>trivial,fun m _ h1=>(by simp at h1),fun h=>nomatch h⟩
  ·exact ⟨fun m hm=>flip h m (m005 _ hm),fun m hm=>jM h m (m005 _ hm),fun m h1 h2=>tr h h1 h2,fun h=>nomatch h⟩
 ·simp only [cond_false,cond_true,eA.apart,tM,m025,m071,m026,m031,Option.isNone_none,cR] at h;obtain ⟨h1,h2⟩:=h;cases ra
  ·simp only [cond_false] at h1 h2;simp only [mH,cond_false,cond_true,m035];refine ⟨fun m _=>trivial,fun m hm=>?_,fun m h=>(by simp at h),(fun h=>(nomatch h))⟩;rw [jM h2 m hm,low h1 m hm];rfl
  ·simp only [cond_true] at h1 h2;simp only [mH,cond_false,cond_true,m031];refine ⟨fun m hm=>flip h2 m hm,fun m hm=>?_,fun m h3 h4=>?_,fun h=>nomatch h⟩
   ·rw [jM h2 m (m005 _ hm),low h1 m (m005 _ hm)];rfl
   ·have hm:=bO.1 h3;rw [jM h2 m hm,low h1 m hm] at h4;cases h4
 ·simp only [cond_false,cond_true,eA.apart,tM,m025,m035,m026,m031,m059,Option.isNone_none,cR] at h;obtain ⟨h1,h2⟩:=h;cases rx
  ·simp only [cond_false] at h1 h2;simp only [mH,cond_false,cond_true,m035];refine ⟨fun m hm=>?_,fun m _=>trivial,fun m _ h=>(by simp at h),fun _=>trivial⟩;rw [flip h2 m hm,low h1 m hm];rfl
  ·simp only [cond_true] at h1 h2;simp only [mH,cond_false,cond_true,m031];refine ⟨fun m hm=>?_,fun m hm=>jM h2 m hm,fun m h4 h3=>?_,fun _=>trivial⟩
   ·rw [flip h2 m (m005 _ hm),low h1 m (m005 _ hm)];rfl
   ·have hm:=bO.1 h3;rw [flip h2 m hm,low h1 m hm] at h4;cases h4
 ·simp [eA.apart,tM] at h
def rH (X:Cx) (base:Nat) (all:List Oper) (i:Nat) (q:List AV×St):Option (Option eA×(List AV×St)) :=
 match all[i]? with
 | none=>none
 | some o=>(bH all (gt q.1) o).bind fun w=>cond w
   ((sA X (base+i) (ev X (gt q.1)) o q.2).map fun r=>(some (bI X i (base+i) (ev X (gt q.1)) o.op q.2),(put q.1 o.dst r.1,r.2)))
   (some (none,(put q.1 o.dst (.tup []),q.2)))
theorem PB {all:List Oper} {a x:Oper} (h:tL all a x=true) :
  (∀ u,a.dst=some u->OG all x u=false)/\(∀ u,x.dst=some u->OG all a u=false)/\∀ u v,a.dst=some u->x.dst=some v->u≠v:=by
 unfold tL at h;simp only [cR] at h;obtain ⟨h1,h2⟩:=h;refine ⟨fun u hu=>?_,fun u hu=>?_,fun u v hu hv huv=>?_⟩
 ·rw [hu] at h1;simp only [cR,Bool.not_eq_true'] at h1;exact h1.1
 ·rw [hu] at h2;simpa using h2
 ·rw [hu,hv] at h1;subst huv;simp at h1
theorem swap (hp:dD X) {base:Nat} {all:List Oper} {a x:Nat} {oa ox:Oper} (ha:all[a]?=some oa) (hx:all[x]?=some ox) (hap:tL all oa ox=true)
  {q q1 q2:List AV×St} {ma mx:Option eA} (h1:rH X base all a q=some (ma,q1)) (h2:rH X base all x q1=some (mx,q2)) (hm:∀ p k,ma=some p->mx=some k->p.apart k=true) :
  ∃ q1',rH X base all x q=some (mx,q1')/\rH X base all a q1'=some (ma,q2):=by
 obtain ⟨d1,d2,d3⟩:=PB hap;unfold rH at h1 h2 ⊢;rw [ha] at h1 ⊢;rw [hx] at h2 ⊢;simp only at h1 h2 ⊢
 cases hwa:bH all (gt q.1) oa with
 | none=>rw [hwa] at h1;cases h1
 | some wa =>
 rw [hwa] at h1;simp only [Option.bind_some] at h1
 cases wa with
 | false =>
  simp only [cond_false,m000,m001] at h1;obtain ⟨rfl,rfl⟩:=h1;simp only [iE d1,sO (mV d1),kI (mV d1)] at h2
  cases hwx:bH all (gt q.1) ox with
  | none=>rw [hwx] at h2;cases h2
  | some wx =>
  rw [hwx] at h2;simp only [Option.bind_some] at h2 ⊢
  cases wx with
  | false =>simp only [cond_false,m000,m001] at h2 ⊢;obtain ⟨rfl,rfl⟩:=h2;refine ⟨_,⟨rfl,rfl⟩,?_⟩;simp only [iE d2,hwa,Option.bind_some,cond_false,m000,m001,true_and];exact ⟨(AR d3).symm,trivial⟩
  | true =>
   simp only [cond_true] at h2 ⊢
   cases ho:sA X (base+x) (ev X (gt q.1)) ox q.2 with
   | none=>rw [ho] at h2;cases h2
   | some r =>
   rw [ho] at h2;simp only [Option.map_some,m000,m001] at h2 ⊢;obtain ⟨rfl,rfl⟩:=h2;refine ⟨_,⟨rfl,rfl⟩,?_⟩;simp only [iE d2,hwa,Option.bind_some,cond_false,m000,m001,true_and];exact ⟨(AR d3).symm,trivial⟩
 | true =>
  simp only [cond_true] at h1
  cases hoa:sA X (base+a) (ev X (gt q.1)) oa q.2 with
  | none=>rw [hoa] at h1;cases h1
  | some ra =>
  obtain ⟨ra,s1⟩:=ra;rw [hoa] at h1;simp only [Option.map_some,m000,m001] at h1;obtain ⟨rfl,rfl⟩:=h1;simp only [iE d1,sO (mV d1),kI (mV d1)] at h2
  cases hwx:bH all (gt q.1) ox with
  | none=>rw [hwx] at h2;cases h2
  | some wx =>
  rw [hwx] at h2;simp only [Option.bind_some] at h2 ⊢
  cases wx with
  | false =>simp only [cond_false,m000,m001] at h2 ⊢;obtain ⟨rfl,rfl⟩:=h2;refine ⟨_,⟨rfl,rfl⟩,?_⟩;simp only [iE d2,hwa,Option.bind_some,cond_true,sO (mV d2),kI (mV d2),hoa,Option.map_some,m000,m001,true_and];exact ⟨(AR d3).symm,trivial⟩
  | true =>
   simp only [cond_true] at h2 ⊢
   cases hox:sA X (base+x) (ev X (gt q.1)) ox s1 with
   | none=>rw [hox] at h2;cases h2
   | some rx =>
   obtain ⟨rx,s2⟩:=rx;rw [hox] at h2;simp only [Option.map_some,m000,m001] at h2;obtain ⟨rfl,rfl⟩:=h2;have hma:=hm _ _ rfl rfl;simp only [bI,wI] at hma;obtain ⟨f1,f2,f3,f4⟩:=NP hma;obtain ⟨a1,a2,a3⟩:=QR hp hoa;obtain ⟨x1,x2,x3⟩:=QR hp hox
   obtain ⟨y1,t1,y2,y3,y4,y5,y6⟩:=x3 q.2 (fun m hm=>(a1 m (f1 m hm)).symm) (fun hwx'=>by
    cases hwa':gL X (ev X (gt q.1)) oa.op with
    | false=>exact (a2 hwa').symm
    | true=>rw [f4 hwa'] at hwx';cases hwx')
   obtain ⟨z1,t2,z2,z3,z4,z5,z6⟩:=a3 t1 (fun m hm=>y4 m (f2 m hm)) (fun hwa'=>y6 (f4 hwa'));rw [y2];simp only [Option.map_some,m000,m001];refine ⟨_,⟨?_,rfl⟩,?_⟩
   ·simp only [bI,wI,y1]
    cases hwx':gL X (ev X (gt q.1)) ox.op with
    | false=>rfl
    | true =>
     have:s1.nx=q.2.nx:=by
      cases hwa':gL X (ev X (gt q.1)) oa.op with
      | false=>exact a2 hwa'
      | true=>rw [f4 hwa'] at hwx';cases hwx'
     rw [this]
   ·simp only [iE d2,hwa,Option.bind_some,cond_true,sO (mV d2),kI (mV d2),z2,Option.map_some,m000,m001];refine ⟨?_,(AR d3).symm,zX (fun m=>?_) ?_⟩
    ·simp only [bI,wI,z1]
     cases hwa':gL X (ev X (gt q.1)) oa.op with
     | false=>rfl
     | true=>rw [y6 (f4 hwa')]
    ·cases hA:mH (gL X (ev X (gt q.1)) oa.op) (cG oa.op) (base+a) q.2.nx (dH (ev X (gt q.1)) oa.op q.2) m with
     | true =>
      rw [z3 m hA];refine (x1 m ?_).symm
      cases hB:mH (gL X (ev X (gt q.1)) ox.op) (cG ox.op) (base+x) s1.nx (dH (ev X (gt q.1)) ox.op s1) m with
      | false=>rfl
      | true=>exact (f3 m hA hB).elim
     | false =>
      rw [z4 m hA]
      cases hB:mH (gL X (ev X (gt q.1)) ox.op) (cG ox.op) (base+x) s1.nx (dH (ev X (gt q.1)) ox.op s1) m with
      | true=>exact y3 m hB
      | false=>rw [y4 m hB,x1 m hB,a1 m hA]
    ·cases hwa':gL X (ev X (gt q.1)) oa.op with
     | true=>rw [z5 hwa',x2 (f4 hwa')]
     | false =>
      rw [z6 hwa']
      cases hwx':gL X (ev X (gt q.1)) ox.op with
      | true=>exact y5 hwx'
      | false=>rw [y6 hwx',x2 hwx',a2 hwa']
end
end Go.Proofs.YtdehdahimkcakaaGreatDoor.Ai
namespace Go.Proofs.YtdehdahimkcakaaGreatDoor.Ai
open Go
section
variable {X:Cx} {s s':St}
def tV (X:Cx) (base:Nat) (all:List Oper):List Nat->List AV×St->Option (List (Nat×Option eA)×(List AV×St))
 | [],q=>some ([],q)
 | i::l,q=>(rH X base all i q).bind fun r=>(tV X base all l r.2).map fun z=>((i,r.1)::z.1,z.2)
def bFp (all:List Oper) (p k:Nat×Option eA):Prop:=(∃ oa ox,all[p.1]?=some oa/\all[k.1]?=some ox/\tL all oa ox=true)/\∀ u v,p.2=some u->k.2=some v->u.apart v=true
def Apt (all:List Oper) (ms:List Nat) (p k:Nat×Option eA):Prop:=bN (ms.getD k.1 0) p.1=true\/bFp all p k
theorem eV {base:Nat} {all:List Oper} {i:Nat} {l:List Nat} {q:List AV×St} {ml:List (Nat×Option eA)} {r:List AV×St} :
  tV X base all (i::l) q=some (ml,r)↔∃ m q1 ml1,rH X base all i q=some (m,q1)/\tV X base all l q1=some (ml1,r)/\ml=(i,m)::ml1:=by
 constructor
 ·intro h;simp only [tV] at h
  cases h1:rH X base all i q with
  | none=>rw [h1] at h;cases h
  | some mq =>
   obtain ⟨m,q1⟩:=mq;rw [h1] at h;simp only [Option.bind_some] at h
   cases h2:tV X base all l q1 with
   | none=>rw [h2] at h;cases h
   | some z =>obtain ⟨ml1,r1⟩:=z;rw [h2] at h;simp only [Option.map_some,m000,m001] at h;obtain ⟨rfl,rfl⟩:=h;exact ⟨m,q1,ml1,rfl,h2,rfl⟩
 ·rintro ⟨m,q1,ml1,h1,h2,rfl⟩
  simp only [tV,h1,Option.bind_some,h2,Option.map_some]
theorem bOm (hp:dD X) {base:Nat} {all:List Oper} (x:Nat) (B:List Nat):∀ (A:List Nat) (q:List AV×St) (ml:List (Nat×Option eA)) (r:List AV×St),tV X base all (A++x::B) q=some (ml,r) ->
  ∃ mlA mx mlB,ml=mlA++(x,mx)::mlB/\mlA.map (·.1)=A/\((∀ p∈mlA,bFp all p (x,mx))->tV X base all (x::(A++B)) q=some ((x,mx)::(mlA++mlB),r)):=by
 intro A
 induction A with
 | nil =>intro q ml r h;obtain ⟨m,q1,ml1,h1,h2,rfl⟩:=eV.1 h;exact ⟨[],m,ml1,rfl,rfl,fun _=>h⟩
 | cons a A ih =>intro q ml r h;obtain ⟨m,q1,ml1,h1,h2,rfl⟩:=eV.1 h;obtain ⟨mlA,mx,mlB,rfl,rfl,k⟩:=ih q1 ml1 r h2;refine ⟨(a,m)::mlA,mx,mlB,rfl,rfl,fun hf=>?_⟩;obtain ⟨mx',q2,ml2,k1,k2,k3⟩:=eV.1 (k fun p hp=>hf p (m005 _ hp));simp only [m057,m001,true_and] at k3;obtain ⟨rfl,rfl⟩:=k3;obtain ⟨⟨oa,ox,e1,e2,e3⟩,e4⟩:=hf (a,m) (m007 ..);obtain ⟨q1',s1,s2⟩:=swap hp e1 e2 e3 h1 k1 e4;exact eV.2 ⟨mx,q1',_,s1,eV.2 ⟨m,q2,_,s2,k2,rfl⟩,rfl⟩
theorem aIp (hp:dD X) {base:Nat} {all:List Oper} {ms:List Nat}:∀ (L M:List Nat) (q:List AV×St) (ml:List (Nat×Option eA)) (r:List AV×St),L.Perm M->tV X base all M q=some (ml,r) ->
  ml.Pairwise (Apt all ms)->L.Pairwise (fun x a=>bN (ms.getD x 0) a=false)->∃ ml',tV X base all L q=some (ml',r):=by
 intro L
 induction L with
 | nil =>intro M q ml r hL h _ _;have:=hL.symm.eq_nil;subst this;exact ⟨ml,h⟩
 | cons x L ih =>
  intro M q ml r hL h hw ho;have hx:x∈M:=hL.subset (m007 ..);obtain ⟨A,B,rfl⟩:=List.append_of_mem hx;have hLp:L.Perm (A++B):=List.Perm.cons_inv (hL.trans List.perm_middle);obtain ⟨mlA,mx,mlB,rfl,rfl,k⟩:=bOm hp x B A q ml r h;rw [List.pairwise_cons] at ho;rw [List.pairwise_append] at hw;obtain ⟨w1,w2,w3⟩:=hw;rw [List.pairwise_cons] at w2
  have hfree:∀ p∈mlA,bFp all p (x,mx):=fun p hpm=>by
   rcases w3 p hpm (x,mx) (m007 ..) with hb | hb
   ·have hin:p.1∈L:=hLp.symm.subset (m041 _ (m021.2 ⟨p,hpm,rfl⟩));have:=ho.1 p.1 hin;simp only at hb;rw [this] at hb;cases hb
   ·exact hb
  obtain ⟨m,q1,ml1,k1,k2,k3⟩:=eV.1 (k hfree);simp only [m057,m001,true_and] at k3;obtain ⟨rfl,rfl⟩:=k3;obtain ⟨ml',k4⟩:=ih (mlA.map (·.1)++B) q1 (mlA++mlB) r hLp k2 (List.pairwise_append.2 ⟨w1,w2.2,fun a ha b hb=>w3 a ha b (m005 _ hb)⟩) ho.2;exact ⟨_,eV.2 ⟨mx,q1,ml',k1,k4,rfl⟩⟩
theorem aIh (m n k:Nat):bN (m ||| n) k=(bN m k||bN n k):=by
 have e:∀ m k,bN m k=m.testBit k:=fun m k=>by
  simp only [bN,Nat.testBit_eq_decide_div_mod_eq,Nat.shiftRight_eq_div_pow];by_cases h:m / 2 ^ k % 2=1
  ·rw [h];rfl
  ·rw [decide_eq_false h]
   cases hb:Nat.beq (m / 2 ^ k % 2) 1 with
   | false=>rfl
   | true=>exact absurd (iN hb) h
 simp only [e,Nat.testBit_or]
theorem aFd (j k:Nat):bN (1 <<< j) k=true->k=j:=by
 intro h;simp only [bN,Nat.shiftLeft_eq,GH,Nat.shiftRight_eq_div_pow] at h;have h:=iN h;rcases Nat.lt_trichotomy k j with hl | he | hg
 ·have:2 ^ j / 2 ^ k=2 ^ (j - k):=Nat.pow_div (Nat.le_of_lt hl) (by decide);rw [this] at h;have h2:2 ^ (j - k)=2 * 2 ^ (j - k - 1):=by rw [<- Nat.pow_succ'];congr 1;omega
  omega
 ·exact he
 ·have:2 ^ j / 2 ^ k=0:=Nat.div_eq_of_lt (Nat.pow_lt_pow_right (by decide) hg);rw [this] at h;cases h
theorem UT (ms:List Nat) (a:Nat):∀ (l:List Edge) (m0:Nat),bN (l.foldl (fun m e=>cond (Region.binds .any e) (m ||| ((1 <<< e.on) ||| ms.getD e.on 0)) m) m0) a=true ->
  bN m0 a=true\/∃ e∈l,Region.binds .any e=true/\(a=e.on\/bN (ms.getD e.on 0) a=true):=by
 intro l
 induction l with
 | nil=>intro m0 h;exact .inl h
 | cons e l ih =>
  intro m0 h;simp only [List.foldl_cons] at h;rcases ih _ h with h1 | ⟨e',h2,h3,h4⟩
  ·cases hb:Region.binds .any e with
   | false=>rw [hb] at h1;exact .inl h1
   | true =>
    rw [hb] at h1;simp only [cond_true,aIh,GO] at h1;rcases h1 with h1 | h1 | h1
    ·exact .inl h1
    ·exact .inr ⟨e,m007 ..,hb,.inl (aFd _ _ h1)⟩
    ·exact .inr ⟨e,m007 ..,hb,.inr h1⟩
  ·exact .inr ⟨e',m005 _ h2,h3,h4⟩
theorem TK:∀ (l:List Oper) (ms:List Nat),∃ r,eI ms l=ms++r:=by
 intro l
 induction l with
 | nil=>intro ms;exact ⟨[],by simp [eI]⟩
 | cons o l ih=>intro ms;obtain ⟨r,hr⟩:=ih (ms++[mT o ms]);exact ⟨mT o ms::r,by simp [eI,hr]⟩
theorem SZ:∀ (l:List Oper) (ms:List Nat) (j:Nat) (o:Oper),l[j]?=some o->∃ dM,(eI ms l)[ms.length+j]?=some (mT o dM)/\dM.length=ms.length+j/\∀ i,i < ms.length+j->dM.getD i 0=(eI ms l).getD i 0:=by
 intro l
 induction l with
 | nil=>intro ms j o h;simp at h
 | cons p l ih =>
  intro ms j o h
  cases j with
  | zero =>
   simp only [List.getElem?_cons_zero,m000] at h;subst h;obtain ⟨r,hr⟩:=TK l (ms++[mT p ms]);refine ⟨ms,?_,by simp,fun i hi=>?_⟩
   ·simp [eI,hr]
   ·simp only [eI,hr,List.getD_eq_getElem?_getD,m019];rw [m051 (by omega)]
  | succ j =>simp only [List.getElem?_cons_succ] at h;obtain ⟨dM,h1,h2,h3⟩:=ih (ms++[mT p ms]) j o h;simp only [m006,List.length_cons,List.length_nil] at h1 h2 h3;exact ⟨dM,by simp only [eI];rw [<- h1];congr 1;omega,by omega,fun i hi=>by simp only [eI];exact h3 i (by omega)⟩
theorem NH {all:List Oper} {m:Nat} {x:Oper}:∀ (l:List Oper) (a:Nat),KX all m x a l=true->∀ j o,l[j]?=some o->bN m (a+j)=true\/tL all o x=true:=by
 intro l
 induction l with
 | nil=>intro a _ j o h;simp at h
 | cons p l ih =>
  intro a h j o ho;simp only [KX,cR,GO] at h
  cases j with
  | zero=>simp only [List.getElem?_cons_zero,m000] at ho;subst ho;exact h.1
  | succ j =>
   simp only [List.getElem?_cons_succ] at ho;have:=ih (a+1) h.2 j o ho
   rwa [show a+1+j=a+(j+1) by omega] at this
theorem QY {all:List Oper} {ms:List Nat}:∀ (l dM:List Oper) (i:Nat),dM.length=i->KI all ms dM i l=true->∀ j x,l[j]?=some x ->
  (∀ e∈x.after.toList,Region.binds .any e=true->e.on < i+j)/\∀ a o,a < i+j->(dM++l)[a]?=some o->bN (ms.getD (i+j) 0) a=true\/tL all o x=true:=by
 intro l
 induction l with
 | nil=>intro dM i _ _ j x h;simp at h
 | cons p l ih =>
  intro dM i hi h j x hx;simp only [KI,cR] at h;obtain ⟨⟨h1,h2⟩,h3⟩:=h
  cases j with
  | zero =>
   simp only [List.getElem?_cons_zero,m000] at hx;subst hx;refine ⟨fun e he hb=>?_,fun a o ha ho=>?_⟩
   ·have:=m032.1 h1 e he;rw [hb] at this;simpa [Nat.blt_eq] using this
   ·rw [m051 (by omega)] at ho;have:=NH dM 0 h2 a o ho
    rwa [m023] at this
  | succ j =>simp only [List.getElem?_cons_succ] at hx;have:=ih (dM++[p]) (i+1) (by simp [hi]) h3 j x hx;rw [show i+1+j=i+(j+1) by omega] at this;refine ⟨this.1,fun a o ha ho=>this.2 a o ha ?_⟩;simpa using ho
theorem aLo (X:Cx) (base:Nat) (all:List Oper) (ms:List Nat) (i:Nat) (lg:List eA) (tm:List AV) (s:St):mY X base all ms [] i lg tm s=some (tm,s):=rfl
theorem aBz (X:Cx) (base:Nat) (all:List Oper) (ms:List Nat) (o:Oper) (l:List Oper) (i:Nat) (lg:List eA) (tm:List AV) (s:St):mY X base all ms (o::l) i lg tm s =
  (bH all (gt tm) o).bind fun w=>cond w
   (cond (clear (ms.getD i 0) (bI X i (base+i) (ev X (gt tm)) o.op s) lg)
    ((sA X (base+i) (ev X (gt tm)) o s).bind fun r=>mY X base all ms l (i+1) (bI X i (base+i) (ev X (gt tm)) o.op s::lg) (put tm o.dst r.1) r.2) none)
   (mY X base all ms l (i+1) lg (put tm o.dst (.tup [])) s):=rfl
theorem QV (X:Cx) (i id:Nat) (e:Operand->AV) (o:Op) (s:St):(bI X i id e o s).i=i:=by unfold bI;cases gL X e o<;>rfl
theorem aGw {base:Nat} {all:List Oper} {ms:List Nat} {tm':List AV} {s':St}:∀ (l:List Oper) (i:Nat) (lg:List eA) (tm:List AV) (s:St),all.drop i=l->mY X base all ms l i lg tm s=some (tm',s') ->
  ∃ ml,tV X base all (List.range' i l.length) (tm,s)=some (ml,(tm',s'))/\(∀ p∈ml,i<=p.1/\∀ k,p.2=some k->k.i=p.1/\∀ g∈lg,bN (ms.getD p.1 0) g.i=true\/g.apart k=true) /\
   ml.Pairwise fun p k=>p.1 < k.1/\(bN (ms.getD k.1 0) p.1=true\/∀ u v,p.2=some u->k.2=some v->u.apart v=true):=by
 intro l
 induction l with
 | nil =>intro i lg tm s hl h;rw [aLo] at h;simp only [m000,m001] at h;obtain ⟨rfl,rfl⟩:=h;exact ⟨[],rfl,fun p hp=>(by cases hp),List.Pairwise.nil⟩
 | cons o l ih =>
  intro i lg tm s hl h;have hoi:all[i]?=some o:=by have:=congrArg (·[0]?) hl;simpa using this
  have hl':all.drop (i+1)=l:=by
   have:(all.drop i).drop 1=l:=by rw [hl];rfl
   rwa [m075] at this
  rw [aBz] at h
  cases hw:bH all (gt tm) o with
  | none=>rw [hw] at h;cases h
  | some w =>
   rw [hw] at h;simp only [Option.bind_some] at h;rw [List.length_cons,List.range'_succ]
   cases w with
   | false =>
    simp only [cond_false] at h;obtain ⟨ml,h1,h2,h3⟩:=ih (i+1) lg _ s hl' h;refine ⟨(i,none)::ml,eV.2 ⟨none,_,ml,?_,h1,rfl⟩,fun p hp=>?_,List.pairwise_cons.2 ⟨fun p hp=>⟨(h2 p hp).1,.inr fun u v hu=>nomatch hu⟩,h3⟩⟩
    ·simp only [rH,hoi,hw,Option.bind_some,cond_false]
    ·rcases m013.1 hp with rfl | hp
     ·exact ⟨bK _,fun k hk=>nomatch hk⟩
     ·exact ⟨by have:=(h2 p hp).1;omega,(h2 p hp).2⟩
   | true =>
    simp only [cond_true] at h
    cases hc:clear (ms.getD i 0) (bI X i (base+i) (ev X (gt tm)) o.op s) lg with
    | false=>rw [hc] at h;cases h
    | true =>
     rw [hc] at h;simp only [cond_true] at h
     cases ho:sA X (base+i) (ev X (gt tm)) o s with
     | none=>rw [ho] at h;cases h
     | some r =>
      rw [ho] at h;simp only [Option.bind_some] at h;obtain ⟨ml,h1,h2,h3⟩:=ih (i+1) _ _ r.2 hl' h;refine ⟨(i,some (bI X i (base+i) (ev X (gt tm)) o.op s))::ml,eV.2 ⟨_,_,ml,?_,h1,rfl⟩,fun p hp=>?_,List.pairwise_cons.2 ⟨fun p hp=>⟨(h2 p hp).1,?_⟩,h3⟩⟩
      ·simp only [rH,hoi,hw,Option.bind_some,cond_true,ho,Option.map_some]
      ·rcases m013.1 hp with rfl | hp
       ·refine ⟨bK _,fun k hk=>?_⟩;simp only [m000] at hk;subst hk;refine ⟨QV ..,fun g hg=>?_⟩;have:=m032.1 hc g hg;simpa using this
       ·exact ⟨by have:=(h2 p hp).1;omega,fun k hk=>⟨((h2 p hp).2 k hk).1,fun g hg=>((h2 p hp).2 k hk).2 g (m005 _ hg)⟩⟩
      ·cases hk:p.2 with
       | none=>exact .inr fun u v _ hv=>nomatch hv
       | some k =>
        rcases ((h2 p hp).2 k hk).2 _ (m007 ..) with hb | hb
        ·rw [QV] at hb;exact .inl hb
        ·refine .inr fun u v hu hv=>?_;simp only [m000] at hu hv;subst hu;subst hv;exact hb
end
end Go.Proofs.YtdehdahimkcakaaGreatDoor.Ai
namespace Go.Proofs.YtdehdahimkcakaaGreatDoor.Ai
open Go
section
theorem ZL:∀ (l:List Bool) (i:Nat),l[i]?=some false->(l.set i true).count false+1=l.count false:=by
 intro l
 induction l with
 | nil=>intro i h;simp at h
 | cons b l ih =>
  intro i h
  cases i with
  | zero =>simp only [List.getElem?_cons_zero,m000] at h;subst h;simp
  | succ i =>simp only [List.getElem?_cons_succ] at h;simp only [List.set_cons_succ,List.count_cons];have:=ih i h;omega
theorem HG {ops:Array Oper} {listed:Array Bool} {i:Nat}:i∈Region.ready .any ops listed↔i < ops.size/\listed.getD i true=false/\∃ o,ops[i]?=some o/\∀ e∈o.after.toList,Region.binds .any e=true->listed.getD e.on false=true:=by
 unfold Region.ready;rw [List.mem_filter,List.mem_range];constructor
 ·rintro ⟨h1,h2⟩
  simp only [cR,Bool.not_eq_true'] at h2;refine ⟨h1,h2.1,?_⟩;have ho:ops[i]?=some ops[i]:=m016 h1;refine ⟨_,ho,fun e he hb=>?_⟩;have h3:=h2.2;rw [ho] at h3;simp only [Option.map_some,Option.getD_some,Array.all_eq_true_iff_forall_mem] at h3;have:=h3 e (by simpa using he);simpa [hb] using this
 ·rintro ⟨h1,h2,o,h3,h4⟩
  refine ⟨h1,?_⟩;simp only [h2,h3,m027,m031,Option.map_some,Option.getD_some,Array.all_eq_true_iff_forall_mem];intro e he
  cases hb:Region.binds .any e with
  | false=>rfl
  | true=>simpa using h4 e (by simpa using he) hb
theorem aTo {ops:Array Oper} (hb:∀ (i:Nat) x,ops[i]?=some x->∀ e∈x.after.toList,Region.binds .any e=true->e.on < i) :
  ∀ (fuel t:Nat) (listed:Array Bool),listed.size=ops.size->listed.toList.count false<=fuel->∀ L,L=Region.linearise.go .any ops fuel t listed [] ->
  (∀ i∈L,i < ops.size/\listed[i]?=some false)/\L.Nodup/\(∀ i,i < ops.size->listed[i]?=some false->i∈L) /\
   ∀ dM x post o,L=dM++x::post->ops[x]?=some o->∀ e∈o.after.toList,Region.binds .any e=true->listed[e.on]?=some true\/e.on∈dM:=by
 intro fuel
 induction fuel with
 | zero =>
  intro t listed hs hc L hL;simp only [Region.linearise.go,List.reverse_nil] at hL;subst hL;refine ⟨fun i h=>(by cases h),List.nodup_nil,fun i hi h=>?_,fun dM x post o h=>by simp at h⟩;have h0:listed.toList.count false=0:=by omega
  rw [List.count_eq_zero] at h0;exact absurd (m017 (by simpa using h)) h0
 | succ fuel ih =>
  intro t listed hs hc L hL;simp only [Region.linearise.go] at hL
  change L=(match (Region.ready .any ops listed)[t % (Region.ready .any ops listed).length]? with
   | some i=>Region.linearise.go .any ops fuel (t / (Region.ready .any ops listed).length) (listed.setIfInBounds i true) [i]
   | none=>[].reverse) at hL
  cases hi:(Region.ready .any ops listed)[t % (Region.ready .any ops listed).length]? with
  | none =>
   have hnil:Region.ready .any ops listed=[]:=by
    cases hr:Region.ready .any ops listed with
    | nil=>rfl
    | cons x xs =>rw [hr] at hi;have hlt:t % (x::xs).length < (x::xs).length:=Nat.mod_lt _ (by simp);rw [m004 hlt] at hi;cases hi
   rw [hi] at hL;simp only [List.reverse_nil] at hL;subst hL;refine ⟨fun i h=>(by cases h),List.nodup_nil,fun i hi h=>?_,fun dM x post o h=>by simp at h⟩;exfalso
   have key:∀ i,i < ops.size->listed[i]?≠some false:=by
    intro i
    induction i using Nat.strongRecOn with
    | ind i ihi =>
     intro hi hf
     have:i∈Region.ready .any ops listed:=by
      refine HG.2 ⟨hi,?_,ops[i],m016 hi,fun e he hbe=>?_⟩
      ·simp [Array.getD_eq_getD_getElem?,hf]
      ·have hlt:=hb i _ (m016 hi) e he hbe;have hne:=ihi e.on hlt (by omega);have hlt2:e.on < listed.size:=by omega
       rw [m016 hlt2] at hne;rw [Array.getD_eq_getD_getElem?,m016 hlt2]
       cases hq:listed[e.on] with
       | true=>rfl
       | false=>rw [hq] at hne;exact absurd rfl hne
     rw [hnil] at this;cases this
   exact key i hi h
  | some i =>
   rw [hi] at hL;simp only at hL;rw [linearise_go_acc,List.reverse_singleton,List.singleton_append] at hL;obtain ⟨r1,r2,o,r3,r4⟩:=HG.1 (m017 hi);have hlt:i < listed.size:=by omega
   have hfi:listed[i]?=some false:=by rw [Array.getD_eq_getD_getElem?,m016 hlt] at r2;rw [m016 hlt];simpa using r2
   have hset:∀ j,(listed.setIfInBounds i true)[j]?=if i=j then some true else listed[j]?:=fun j=>by
    rw [m029]
    split
    ·rename_i h;subst h;simp [hlt]
    ·rfl
   generalize hL':Region.linearise.go .any ops fuel (t / (Region.ready .any ops listed).length) (listed.setIfInBounds i true) []=L' at hL
   obtain ⟨k1,k2,k3,k4⟩:=ih _ (listed.setIfInBounds i true) (by simpa using hs) (by
    have:(listed.setIfInBounds i true).toList=listed.toList.set i true:=by simp
    rw [this];have:=ZL listed.toList i (by simpa using hfi)
    omega) L' hL'.symm
   subst hL;refine ⟨fun j hj=>?_,?_,fun j hj hf=>?_,fun dM x post o' hsp ho' e he hbe=>?_⟩
   ·rcases m013.1 hj with rfl | hj
    ·exact ⟨r1,hfi⟩
    ·have:=k1 j hj;rw [hset] at this
     split at this
     ·exact absurd this.2 (by simp)
     ·exact this
   ·rw [m036];refine ⟨fun hin=>?_,k2⟩;have:=(k1 i hin).2;rw [hset,if_pos rfl] at this;simp at this
   ·by_cases hij:i=j
    ·subst hij;exact m007 ..
    ·exact m005 _ (k3 j hj (by rw [hset,if_neg hij];exact hf))
   ·cases dM with
    | nil =>
     simp only [List.nil_append,m057] at hsp;obtain ⟨rfl,rfl⟩:=hsp;left;rw [r3] at ho';simp only [m000] at ho';subst ho';have:=r4 e he hbe;rw [Array.getD_eq_getD_getElem?] at this
     cases hq:listed[e.on]? with
     | none=>rw [hq] at this;cases this
     | some b=>rw [hq] at this;simp only [Option.getD_some] at this;rw [this]
    | cons p dM =>
     simp only [List.cons_append,m057] at hsp;obtain ⟨rfl,hsp⟩:=hsp;rcases k4 dM x post o' hsp ho' e he hbe with h | h
     ·rw [hset] at h
      split at h
      ·rename_i hie;right;rw [<- hie];exact m007 ..
      ·exact .inl h
     ·exact .inr (m005 _ h)
theorem CX {α:Type} {R:α->α->Prop}:∀ (L:List α),(∀ dM x post,L=dM++x::post->∀ a∈post,R x a)->L.Pairwise R:=by
 intro L
 induction L with
 | nil=>intro _;exact List.Pairwise.nil
 | cons x L ih =>intro h;refine List.pairwise_cons.2 ⟨fun a ha=>h [] x L rfl a ha,ih fun dM y post hp a ha=>h (x::dM) y post (by rw [hp];rfl) a ha⟩
theorem RQ {L:List Nat} {n:Nat} (h1:∀ i∈L,i < n) (h2:L.Nodup) (h3:∀ i,i < n->i∈L):L.Perm (List.range n):=by
 rw [List.perm_iff_count];intro a;by_cases ha:a < n
 ·rw [h2.count,List.nodup_range.count,if_pos (h3 a ha),if_pos (List.mem_range.2 ha)]
 ·rw [h2.count,List.nodup_range.count,if_neg (fun h=>ha (h1 a h)),if_neg (fun h=>ha (List.mem_range.1 h))]
variable {P:Program} {F:Fz} {ρ:fC} {s:St} {W:World}
theorem aGz {X:Cx} (hT:dQ P X.P) (hE:yR P X.P X.eqOk) (hC:lV P X) (hp:dD X) (hR:R X.P F ρ s W) (hG:GlobOk X.P X.glob F W) {id:Nat} (hid:ρ id=none) (hlt:id < s.nx) {tm:List AV} {a:Act} (hTM:TM X.P F ρ tm a.tmps) (hdf:a.defers=[])
  {o:Oper} {r:AV} {s':St} (h:sA X id (ev X (gt tm)) o s=some (r,s')) {next:Act->World->Prop} {Q:Exit->Act->World->Prop}
  (hn:∀ a' W' ρ' F',TM X.P F' ρ' (put tm o.dst r) a'.tmps->R X.P F' ρ' s' W'->dJ s ρ F W s' ρ' F' W'->(∀ i,i < s.nx->i≠id->ρ' i=ρ i)->s.nx<=s'.nx->a'.defers=[]->next a' W'):o.wp P a W next Q:=by
 obtain ⟨ts,ds⟩:=a;simp only at hTM hdf;subst hdf;have hfin:∀ v W',FF X.P id s ρ F W r s' v W'->next ((⟨ts,[]⟩:Act).put o.dst v) W':=by intro v W' ⟨ρ',F',h1,h2,h3,h4,h5⟩;exact hn _ _ ρ' F' ((hTM.mono h3.fz h3.rho).put h1 o.dst []) h2 h3 h4 h5 (oU _ _ _)
 unfold Oper.wp;rcases bFq hT hE hC hp hR hG hid hlt (fun x=>aJn hG hTM [] x) h with ⟨v,W',h1,h2⟩ | ⟨W',h1,h2⟩ | ⟨f,args,h1,h2⟩
 ·rw [h1,Oper.upon_value];exact hfin _ _ h2
 ·rw [h1,Oper.upon_skip];exact hfin _ _ h2
 ·rw [h1,Oper.upon_enter];refine h2.mono ?_;intro e W' he
  cases e with
  | returned v=>exact hfin _ _ he
  | panicked c=>exact he.elim
  | outgrown=>exact he.elim
theorem aWg {X:Cx} (hT:dQ P X.P) (hE:yR P X.P X.eqOk) (hC:lV P X) (hp:dD X) {ops:Array Oper} {base:Nat} {Q:Exit->Act->World->Prop} {tm':List AV} {s':St}:∀ (L:List Nat) (ml:List (Nat×Option eA)) (tm:List AV) (s:St) (ρ:fC) (F:Fz) (W:World) (a:Act),
  L.Nodup->(∀ i∈L,i < ops.size)->R X.P F ρ s W->GlobOk X.P X.glob F W->TM X.P F ρ tm a.tmps->a.defers=[]->(∀ j∈L,ρ (base+j)=none)->base+ops.size<=s.nx->tV X base ops.toList L (tm,s)=some (ml,(tm',s')) ->
  (∀ a' W' ρ' F',TM X.P F' ρ' tm' a'.tmps->R X.P F' ρ' s' W'->dJ s ρ F W s' ρ' F' W'->(∀ k,k < base->ρ' k=ρ k)->s.nx<=s'.nx->a'.defers=[]->Q .normal a' W') ->
  wpOps P ops Q L a W:=by
 intro L
 induction L with
 | nil =>intro ml tm s ρ F W a _ _ hR hG hTM hdf _ _ h hq;simp only [tV,m000,m001] at h;obtain ⟨rfl,rfl,rfl⟩:=h;exact hq a W ρ F hTM hR (dJ.refl _ _ _ _) (fun _ _=>rfl) (bK _) hdf
 | cons i L ih =>
  intro ml tm s ρ F W a hnd hlt hR hG hTM hdf hfree hnx h hq;rw [m036] at hnd;have hi:i < ops.size:=hlt i (m007 ..);have hoi:ops[i]?=some ops[i]:=m016 hi;obtain ⟨m,q1,ml1,h1,h2,rfl⟩:=eV.1 h;generalize ops[i]=o at hoi;simp only [wpOps,hoi];simp only [rH,Array.getElem?_toList,hoi] at h1
  cases hw:bH ops.toList (gt tm) o with
  | none=>rw [hw] at h1;cases h1
  | some w =>
   rw [hw] at h1;simp only [Option.bind_some] at h1;rw [IW hTM hw]
   cases w with
   | true =>
    simp only [cond_true,if_true] at h1 ⊢
    cases ho:sA X (base+i) (ev X (gt tm)) o s with
    | none=>rw [ho] at h1;cases h1
    | some r =>
     obtain ⟨r,s1⟩:=r;rw [ho] at h1;simp only [Option.map_some,m000,m001] at h1;obtain ⟨rfl,rfl⟩:=h1;left;refine aGz hT hE hC hp hR hG (hfree i (m007 ..)) (by omega) hTM hdf ho ?_;intro a1 W1 ρ1 F1 k1 k2 k3 k4 k5 k6;refine ih ml1 _ s1 ρ1 F1 W1 a1 hnd.2 (fun j hj=>hlt j (m005 _ hj)) k2 (hG.step hR k3) k1 k6 (fun j hj=>?_) (by omega) h2 ?_
     ·have hji:j≠i:=fun e=>hnd.1 (e ▸ hj);have:=hlt j (m005 _ hj);rw [k4 _ (by omega) (by omega)];exact hfree j (m005 _ hj)
     ·intro a2 W2 ρ2 F2 m1 m2 m3 m4 m5 m6;exact hq a2 W2 ρ2 F2 m1 m2 (k3.trans m3) (fun k hk=>(m4 k hk).trans (k4 k (by omega) (by omega))) (by omega) m6
   | false =>simp only [cond_false,m015,if_false] at h1 ⊢;simp only [m000,m001] at h1;obtain ⟨rfl,rfl⟩:=h1;obtain ⟨ts,ds⟩:=a;refine ih ml1 _ s ρ F W _ hnd.2 (fun j hj=>hlt j (m005 _ hj)) hR hG (hTM.put (.tup [] #[] rfl (fun i h=>by simp at h)) o.dst ds) (by rw [oU];exact hdf) (fun j hj=>hfree j (m005 _ hj)) hnx h2 hq
theorem bDy {X:Cx} (hT:dQ P X.P) (hE:yR P X.P X.eqOk) (hC:lV P X) (hp:dD X):DU P X:=by
 intro ops tm s ρ F W a base tm' s' hR hG hTM hdf hfree hnx h Q hQ t;unfold drawn at h
 cases hm:EP (eI [] ops.toList) ops.toList with
 | false=>rw [hm] at h;cases h
 | true =>
 rw [hm] at h;simp only [cond_true] at h;obtain ⟨ml,g1,g2,g3⟩:=aGw (X:=X) ops.toList 0 [] tm s (by simp) h;have hmix:=QY ops.toList [] 0 rfl hm;simp only [m023,List.nil_append] at hmix;have hb:∀ (i:Nat) x,ops[i]?=some x->∀ e∈x.after.toList,Region.binds .any e=true->e.on < i:=fun i x hx=>(hmix i x (by simpa using hx)).1;obtain ⟨L1,L2,L3,L4⟩:=aTo hb ops.size t (Array.replicate ops.size false) (by simp) (by simp) _ rfl;have hlist:∀ i,i < ops.size->(Array.replicate ops.size false)[i]?=some false:=fun i hi=>by simp [hi]
 change wpOps P ops Q (Region.linearise.go .any ops ops.size t (Array.replicate ops.size false) []) a W;generalize hLe:Region.linearise.go .any ops ops.size t (Array.replicate ops.size false) []=L at L1 L2 L3 L4;have hperm:L.Perm (List.range' 0 ops.toList.length):=by rw [<- List.range_eq_range',Array.length_toList];exact RQ (fun i hi=>(L1 i hi).1) L2 (fun i hi=>L3 i hi (hlist i hi))
 have hahead:∀ x dM post,L=dM++x::post->∀ b,bN ((eI [] ops.toList).getD x 0) b=true->b∈dM:=by
  intro x
  induction x using Nat.strongRecOn with
  | ind x ihx =>
   intro dM post hsp b hbit;have hx:x < ops.size:=(L1 x (by rw [hsp];simp)).1;have hox:ops[x]?=some ops[x]:=m016 hx;obtain ⟨pre0,p1,p2,p3⟩:=SZ ops.toList [] x ops[x] (by simp [hox]);simp only [List.length_nil,m023] at p1 p2 p3;rw [List.getD_eq_getElem?_getD,p1,Option.getD_some] at hbit;rcases UT pre0 b _ _ hbit with h0 | ⟨e,he,hbe,h1⟩
   ·simp [bN] at h0
   ·have hin:e.on∈dM:=by
     rcases L4 dM x post _ hsp hox e he hbe with h2 | h2
     ·rw [Array.getElem?_replicate] at h2
      split at h2<;>simp at h2
     ·exact h2
    rcases h1 with h1 | h1
    ·subst h1;exact hin
    ·have hlt:=hb x _ hox e he hbe;rw [p3 e.on hlt] at h1;obtain ⟨p1',p2',hpre⟩:=List.append_of_mem hin;have:=ihx e.on hlt p1' (p2'++x::post) (by rw [hsp,hpre];simp) b h1;rw [hpre];exact m041 _ this
 have hpw:L.Pairwise (fun x b=>bN ((eI [] ops.toList).getD x 0) b=false):=by
  refine CX L fun dM x post hsp b hbm=>?_
  cases hbit:bN ((eI [] ops.toList).getD x 0) b with
  | false=>rfl
  | true =>have hin:=hahead x dM post hsp b hbit;rw [hsp,m063] at L2;exact absurd rfl (L2.2.2 b hin b (m005 _ hbm))
 have hfst:∀ p∈ml,p.1 < ops.size:=by
  have hmap:∀ (l:List Nat) (q:List AV×St) (ml:List (Nat×Option eA)) (r:List AV×St),tV X base ops.toList l q=some (ml,r)->ml.map (·.1)=l:=by
   intro l
   induction l with
   | nil=>intro q ml r h;simp only [tV,m000,m001] at h;obtain ⟨rfl,_⟩:=h;rfl
   | cons i l ih=>intro q ml r h;obtain ⟨m,q1,ml1,_,h2,rfl⟩:=eV.1 h;simp [ih _ _ _ h2]
  intro p hpm;have:p.1∈List.range' 0 ops.toList.length:=by rw [<- hmap _ _ _ _ g1];exact m021.2 ⟨p,hpm,rfl⟩
  rw [<- List.range_eq_range',Array.length_toList,List.mem_range] at this;exact this
 have happ:ml.Pairwise (Apt ops.toList (eI [] ops.toList)):=by
  have:ml.Pairwise fun p k=>p∈ml/\k∈ml/\(p.1 < k.1/\(bN ((eI [] ops.toList).getD k.1 0) p.1=true\/∀ u v,p.2=some u->k.2=some v->u.apart v=true)) :=
   List.Pairwise.imp_of_mem (fun {p k} hp hk h=>⟨hp,hk,h⟩) g3
  refine this.imp ?_
  rintro p k ⟨hpm,hkm,hlt,hor⟩
  have hpo:ops.toList[p.1]?=some (ops[p.1]'(hfst p hpm)):=by simp [m016 (hfst p hpm)]
  have hko:ops.toList[k.1]?=some (ops[k.1]'(hfst k hkm)):=by simp [m016 (hfst k hkm)]
  rcases hor with hor | hor
  ·exact .inl hor
  ·rcases (hmix k.1 _ hko).2 p.1 _ hlt hpo with hb' | hb'
   ·exact .inl hb'
   ·exact .inr ⟨⟨_,_,hpo,hko,hb'⟩,hor⟩
 obtain ⟨ml',hrun⟩:=aIp hp L _ (tm,s) ml (tm',s') hperm g1 happ hpw;exact aWg hT hE hC hp L ml' tm s ρ F W a L2 (fun i hi=>(L1 i hi).1) hR hG hTM hdf (fun j hj=>hfree j (L1 j hj).1) hnx hrun hQ
theorem zE {E:lH} (hE:DI P E) (n:Nat):aOd P E (cM E n) :=
 aNz hE (fun cl f hC=>bDy (X:=cx E cl f) hE.ty hE.eq hC (tR E cl f)) n
end
end Go.Proofs.YtdehdahimkcakaaGreatDoor.Ai
end
namespace Go.Proofs.YtdehdahimkcakaaGreatDoor.Ai
open Go
noncomputable section
section
abbrev LN:=FuncId->List AV->St->Option (AV×St)
def CLe (a b:LN):Prop:=∀ f args s r,a f args s=some r->b f args s=some r
def MT (X Y:Cx):Prop:=Y={ X with call:=Y.call }/\∀ dr f args s r,X.call dr f args s=some r->Y.call dr f args s=some r
def LLe (a b:Code->List AV->St->BY):Prop:=∀ c tm s r,a c tm s=some r->b c tm s=some r
theorem nX {X Y:Cx} (h:MT X Y) {dr:Bool} {id:Nat} {e:Operand->AV} {o:Oper} {s:St} {r:AV×St} (ho:fW X dr id e o s=some r):fW Y dr id e o s=some r:=by
 obtain ⟨hy,hc⟩:=h;rw [hy];generalize Y.call=cl at hc;unfold fW at ho ⊢
 cases h:o.op with
 | call c =>
  simp only [h] at ho ⊢
  cases hcal:c.callee with
  | value f =>
   simp only [hcal] at ho ⊢
   split at ho
   ·exact hc _ _ _ _ _ ho
   ·cases ho
  | invoke a b=>simp only [hcal] at ho;cases ho
  | builtin b=>simp only [hcal] at ho ⊢;exact ho
 | makeFunc fn a b=>cases fn<;>(simp only [h] at ho ⊢;exact ho)
 | makeMap t q=>cases q<;>(simp only [h] at ho ⊢;exact ho)
 | _=>simp only [h] at ho ⊢;exact ho
theorem sJ {X Y:Cx} (h:MT X Y) (g:Nat->AV):ev Y g=ev X g:=by rw [h.1];rfl
theorem HF {X Y:Cx} (h:MT X Y) (e:Operand->AV) (o:Op):gL Y e o=gL X e o:=by rw [h.1];rfl
theorem gO {α β:Type} {o o':Option α} {f f':α->Option β} {r:β} (h:∀ a,o=some a->o'=some a) (hf:∀ a b,f a=some b->f' a=some b) (hr:o.bind f=some r):o'.bind f'=some r:=by
 cases ho:o with
 | none=>rw [ho] at hr;cases hr
 | some a=>rw [ho] at hr;rw [h a ho];exact hf a r hr
theorem DS {α β:Type} {o o':Option α} {f:α->β} {r:β} (h:∀ a,o=some a->o'=some a) (hr:o.map f=some r):o'.map f=some r:=by
 cases ho:o with
 | none=>rw [ho] at hr;cases hr
 | some a=>rw [ho] at hr;rw [h a ho];exact hr
theorem jA {β:Type} {t:Bool} {a b a' b':Option β} {r:β} (ha:a=some r->a'=some r) (hb:b=some r->b'=some r) (h:cond t a b=some r):cond t a' b'=some r:=by
 cases t with
 | true=>exact ha h
 | false=>exact hb h
theorem IM {X Y:Cx} (h:MT X Y) {dr:Bool} {base:Nat} {all:List Oper}:∀ (l:List Oper) (i:Nat) (tm:List AV) (s:St) r,iM X dr base all l i tm s=some r->iM Y dr base all l i tm s=some r:=by
 intro l
 induction l with
 | nil=>intro i tm s r hr;exact hr
 | cons o l ih =>intro i tm s r hr;change ((bH all (gt tm) o).bind fun w=>cond w ((fW X dr (base+i) (ev X (gt tm)) o s).bind fun r=>iM X dr base all l (i+1) (put tm o.dst r.1) r.2) (iM X dr base all l (i+1) (put tm o.dst (.tup [])) s))=some r at hr;change ((bH all (gt tm) o).bind fun w=>cond w ((fW Y dr (base+i) (ev Y (gt tm)) o s).bind fun r=>iM Y dr base all l (i+1) (put tm o.dst r.1) r.2) (iM Y dr base all l (i+1) (put tm o.dst (.tup [])) s))=some r;rw [sJ h];exact gO (fun _ h=>h) (fun w b hb=>jA (gO (fun a ha=>nX h ha) (fun a b=>ih _ _ _ _)) (ih _ _ _ _) hb) hr
theorem CA {X Y:Cx} (h:MT X Y) {id:Nat} {e:Operand->AV} {o:Oper} {s:St} {r:AV×St} (ho:sA X id e o s=some r):sA Y id e o s=some r:=by unfold sA at ho ⊢;rw [HF h];exact jA (DS fun a ha=>nX h ha) (DS fun a ha=>nX h ha) ho
theorem zQ {X Y:Cx} (h:MT X Y) (i id:Nat) (e:Operand->AV) (o:Op) (s:St):bI Y i id e o s=bI X i id e o s:=by unfold bI;rw [HF h]
theorem HM {X Y:Cx} (h:MT X Y) {base:Nat} {all:List Oper} {ms:List Nat}:∀ (l:List Oper) (i:Nat) (lg:List eA) (tm:List AV) (s:St) r,mY X base all ms l i lg tm s=some r->mY Y base all ms l i lg tm s=some r:=by
 intro l
 induction l with
 | nil=>intro i lg tm s r hr;exact hr
 | cons o l ih =>
  intro i lg tm s r hr
  change ((bH all (gt tm) o).bind fun w=>cond w
   (cond (clear (ms.getD i 0) (bI X i (base+i) (ev X (gt tm)) o.op s) lg)
    ((sA X (base+i) (ev X (gt tm)) o s).bind fun r=>mY X base all ms l (i+1) (bI X i (base+i) (ev X (gt tm)) o.op s::lg) (put tm o.dst r.1) r.2) none)
   (mY X base all ms l (i+1) lg (put tm o.dst (.tup [])) s))=some r at hr
  change ((bH all (gt tm) o).bind fun w=>cond w
   (cond (clear (ms.getD i 0) (bI Y i (base+i) (ev Y (gt tm)) o.op s) lg)
    ((sA Y (base+i) (ev Y (gt tm)) o s).bind fun r=>mY Y base all ms l (i+1) (bI Y i (base+i) (ev Y (gt tm)) o.op s::lg) (put tm o.dst r.1) r.2) none)
   (mY Y base all ms l (i+1) lg (put tm o.dst (.tup [])) s))=some r
  rw [sJ h,zQ h];exact gO (fun _ h=>h) (fun w b hb=>jA (jA (gO (fun a ha=>CA h ha) (fun a b=>ih _ _ _ _ _)) id) (ih _ _ _ _ _) hb) hr
theorem RV {X Y:Cx} (h:MT X Y) {base:Nat} {all:List Oper} {tm:List AV} {s:St} {r:List AV×St} (hr:drawn X base all tm s=some r):drawn Y base all tm s=some r:=by unfold drawn at hr ⊢;exact jA (HM h _ _ _ _ _ _) id hr
theorem OP {a a':BY} {f f':List AV->St->BY} {r:Ex×List AV×St} (ha:∀ q,a=some q->a'=some q) (hf:∀ tm s q,f tm s=some q->f' tm s=some q) (h:HN a f=some r):HN a' f'=some r:=by
 cases hq:a with
 | none=>rw [hq] at h;cases h
 | some q =>
  rw [hq] at h;rw [ha q hq];obtain ⟨e,tm,s⟩:=q
  cases e with
  | nm=>exact hf _ _ _ h
  | _=>exact h
theorem lB {X Y:Cx} (h:MT X Y) {lf lf':Code->List AV->St->BY} (hl:LLe lf lf') (c:Code):∀ tm s r,code X lf c tm s=some r->code Y lf' c tm s=some r:=by
 induction c with
 | region id ops dr =>intro tm s r hr;change ((cond dr (drawn X s.nx ops.toList tm ⟨s.h,s.nx+ops.size⟩) (iM X false s.nx ops.toList ops.toList 0 tm ⟨s.h,s.nx+ops.size⟩)).map fun r=>(Ex.nm,r.1,r.2))=some r at hr;change ((cond dr (drawn Y s.nx ops.toList tm ⟨s.h,s.nx+ops.size⟩) (iM Y false s.nx ops.toList ops.toList 0 tm ⟨s.h,s.nx+ops.size⟩)).map fun r=>(Ex.nm,r.1,r.2))=some r;exact DS (fun a ha=>jA (fun h'=>RV h h') (IM h _ _ _ _ _) ha) hr
 | seq a b iha ihb=>intro tm s r hr;exact OP (iha tm s) ihb hr
 | cond c a b iha ihb =>intro tm s r hr;change ((ME (ev X (gt tm) c)).bind fun t=>cond t (code X lf a tm s) (code X lf b tm s))=some r at hr;change ((ME (ev Y (gt tm) c)).bind fun t=>cond t (code Y lf' a tm s) (code Y lf' b tm s))=some r;rw [sJ h];exact gO (fun _ h=>h) (fun t q hq=>jA (iha tm s q) (ihb tm s q) hq) hr
 | block id c ih =>
  intro tm s r hr;change blk id (code X lf c tm s)=some r at hr;change blk id (code Y lf' c tm s)=some r
  cases hq:code X lf c tm s with
  | none=>rw [hq] at hr;cases hr
  | some q=>rw [hq] at hr;rw [ih tm s q hq];exact hr
 | loop c ih=>intro tm s r hr;exact hl c tm s r hr
 | scope c ih =>
  intro tm s r hr;change ZZ (code X lf c tm s)=some r at hr;change ZZ (code Y lf' c tm s)=some r
  cases hq:code X lf c tm s with
  | none=>rw [hq] at hr;cases hr
  | some q=>rw [hq] at hr;rw [ih tm s q hq];exact hr
 | skip | exit | label | goto | ret=>intro tm s r hr;exact hr
 | _=>intro tm s r hr;cases hr
theorem oJ (X:Cx) (kp n:Nat) (c:Code) (tm:List AV) (s:St):gP X kp (n+1) c tm s=HN (code X (gP X kp n) c tm s) fun tm s=>gP X kp n c (mask kp 0 tm) s:=rfl
theorem iZ {X Y:Cx} (h:MT X Y) (kp:Nat):∀ n m,n<=m->LLe (gP X kp n) (gP Y kp m):=by
 intro n
 induction n with
 | zero=>intro m _ c tm s r hr;cases hr
 | succ n ih =>intro m hm c tm s r hr;obtain ⟨k,rfl⟩:∃ k,m=k+1:=⟨m - 1,by omega⟩;rw [oJ] at hr ⊢;exact OP (lB h (ih k (by omega)) c tm s) (fun tm s q=>ih k (by omega) c _ s q) hr
theorem SR (E:lH) {a b:LN} (h:CLe a b) (f:FuncId) (dr:Bool) (g:FuncId) (args:List AV) (s:St) (r:AV×St) (hr:gX E a f dr g args s=some r):gX E b f dr g args s=some r:=by
 unfold gX at hr ⊢
 split at hr
 ·rename_i hp;rw [if_pos hp];refine gO (fun _ h=>h) (fun as q hq=>?_) hr;exact gO (fun x hx=>h _ _ _ _ hx) (fun _ _ h=>h) hq
 ·rename_i hp;rw [if_neg hp]
  split at hr
  ·cases hr
  ·rename_i hd;rw [if_neg hd]
   split at hr
   ·rename_i hz;rw [if_pos hz];exact gO (fun _ h=>h) (fun q _ hq=>gO (fun x hx=>h _ _ _ _ hx) (fun _ _ h=>h) hq) hr
   ·rename_i hz;rw [if_neg hz];exact h _ _ _ _ hr
theorem YZ (E:lH) {a b:LN} (h:CLe a b) (f:FuncId):MT (cx E a f) (cx E b f):=⟨rfl,fun dr g args s r hr=>SR E h f dr g args s r hr⟩
theorem uE (E:lH) (n:Nat) (f:FuncId) (args:List AV) (s:St):cM E (n+1) f args s=match E.prim f with
   | some g=>g args s
   | none=>match E.fns f with
    | none=>none
    | some fn=>match fn.body with
     | none=>none
     | some c=>lS E.P fn (code (cx E (cM E n) f) (gP (cx E (cM E n) f) (E.kp f) n) c (fR fn args) s):=rfl
theorem SV (E:lH):∀ n m,n<=m->CLe (cM E n) (cM E m):=by
 intro n
 induction n with
 | zero=>intro m _ f args s r hr;cases hr
 | succ n ih =>
  intro m hm f args s r hr;obtain ⟨k,rfl⟩:∃ k,m=k+1:=⟨m - 1,by omega⟩;rw [uE] at hr ⊢
  cases hp:E.prim f with
  | some g=>rw [hp] at hr;exact hr
  | none =>
   rw [hp] at hr;simp only at hr ⊢
   cases hf:E.fns f with
   | none=>rw [hf] at hr;cases hr
   | some fn =>
    rw [hf] at hr;simp only at hr ⊢
    cases hb:fn.body with
    | none=>rw [hb] at hr;cases hr
    | some c =>
     rw [hb] at hr;simp only at hr ⊢;have hX:=YZ E (ih k (by omega)) f
     cases hc:code (cx E (cM E n) f) (gP (cx E (cM E n) f) (E.kp f) n) c (fR fn args) s with
     | none=>rw [hc] at hr;cases hr
     | some q =>rw [hc] at hr;rw [lB hX (iZ hX (E.kp f) n k (by omega)) c _ _ q hc];exact hr
end
end
noncomputable section
section
variable {X:Cx} {s:St} {l:List Nat}
def AE:Op->Bool
 | .call c=>match c.callee with
  | .value _=>true
  | _=>false
 | _=>false
theorem fE {m:Nat} (h:m∈l):(s.only l).h m=s.h m:=by simp only [St.only,bO.2 h,cond_true]
theorem aCq {id a:Nat} {b:Option gU} (hid:s.h id=none) (ha:a∈id::l):s.merge ((s.only l).set a b) (id::l)=s.set a b:=by
 refine zX (fun m=>?_) rfl;simp only [St.merge,St.set,St.only]
 cases hm:dO m (id::l) with
 | false =>
  cases hb:Nat.beq m a with
  | false=>rfl
  | true=>rw [iN hb,bO.2 ha] at hm;cases hm
 | true =>
  simp only [cond_true]
  cases hb:Nat.beq m a with
  | true=>rfl
  | false =>
   simp only [cond_false]
   cases hl:dO m l with
   | true=>rfl
   | false =>
    rcases m013.1 (bO.1 hm) with h | h
    ·subst h;rw [hid];rfl
    ·rw [bO.2 h] at hl;cases hl
theorem TW {id:Nat} (hid:s.h id=none):s.merge (s.only l) (id::l)=s:=by
 refine zX (fun m=>?_) rfl;simp only [St.merge,St.only]
 cases hm:dO m (id::l) with
 | false=>rfl
 | true =>
  simp only [cond_true]
  cases hl:dO m l with
  | true=>rfl
  | false =>
   rcases m013.1 (bO.1 hm) with h | h
   ·subst h;rw [hid];rfl
   ·rw [bO.2 h] at hl;cases hl
def bF (id:Nat) (l:List Nat) (s:St) (q q':Option (AV×St)):Prop:=∀ r s',q=some (r,s')->∃ t,q'=some (r,t)/\(s.h id=.none->s.merge t (id::l)=s')
theorem bF.set {id:Nat} {a:Nat} (ha:a∈id::l) (r:AV) (b:Option gU):bF id l s (some (r,s.set a b)) (some (r,(s.only l).set a b)):=by intro r' s' h;simp only [m000,m001] at h;obtain ⟨rfl,rfl⟩:=h;exact ⟨_,rfl,fun hid=>aCq hid ha⟩
theorem bF.same {id:Nat} (r:AV):bF id l s (some (r,s)) (some (r,s.only l)):=by intro r' s' h;simp only [m000,m001] at h;obtain ⟨rfl,rfl⟩:=h;exact ⟨_,rfl,fun hid=>TW hid⟩
theorem bF.none {id:Nat} {q':Option (AV×St)}:bF id l s none q':=by intro r s' h;cases h
theorem set_set (s:St) (a c:Nat) (b d:Option gU):(s.set a b).set c d=⟨fun m=>cond (Nat.beq m c) d (cond (Nat.beq m a) b (s.h m)),s.nx⟩:=rfl
theorem uC {id:Nat} (e z b:Nat) (c:List AV):bF id l s (dR e z b c id s) (dR e z b c id (s.only l)):=by
 unfold dR
 split
 ·exact bF.set (m007 ..) _ _
 ·exact bF.none
theorem QO {id a:Nat} (ha:a∈l) (e z b:Nat) (c:List AV):bF id l s (dR e z b c id (s.set a none)) (dR e z b c id ((s.only l).set a none)):=by
 unfold dR
 split
 ·intro r s' h;simp only [m000,kG,m001] at h;obtain ⟨rfl,rfl⟩:=h;refine ⟨_,rfl,fun hid=>zX (fun m=>?_) rfl⟩;simp only [St.merge,St.set,St.only]
  cases hm:dO m (id::l) with
  | false =>
   have h1:Nat.beq m id=false:=by
    cases hb:Nat.beq m id with
    | false=>rfl
    | true=>rw [iN hb,bO.2 (m007 ..)] at hm;cases hm
   have h2:Nat.beq m a=false:=by
    cases hb:Nat.beq m a with
    | false=>rfl
    | true=>rw [iN hb,bO.2 (m005 _ ha)] at hm;cases hm
   rw [h1,h2];rfl
  | true =>
   simp only [cond_true]
   cases h1:Nat.beq m id with
   | true=>rfl
   | false =>
    simp only [cond_false]
    cases h2:Nat.beq m a with
    | true=>rfl
    | false =>
     simp only [cond_false]
     cases hl:dO m l with
     | true=>rfl
     | false =>
      rcases m013.1 (bO.1 hm) with h | h
      ·subst h;simp at h1
      ·rw [bO.2 h] at hl;cases hl
 ·exact bF.none
theorem mZ {z:Nat} {x:AV} (h:∀ m∈aE x,m∈l):aR z x (s.only l)=aR z x s:=by
 cases x<;>try rfl
 simp only [aR];rw [fE (h _ (m008.2 rfl))]
theorem pH {id:Nat} {e z b:Nat} {x:AV} {news:List AV} (h:∀ m∈aE x,m∈l):bF id l s (bM e z b x news id s) (bM e z b x news id (s.only l)):=by
 unfold bM
 split
 ·split<;>first | exact bF.same _ | exact bF.none
 ·split
  ·exact bF.none
  ·split
   ·exact uC _ _ _ _
   ·split
    ·exact uC _ _ _ _
    ·exact bF.none
   ·have ha:=h _ (m008.2 rfl);rw [fE ha]
    split
    ·split
     ·split
      ·split
       ·split
        ·exact bF.set (m005 _ ha) _ _
        ·exact bF.none
       ·exact uC _ _ _ _
      ·split
       ·exact bF.set (m005 _ ha) _ _
       ·split
        ·exact QO ha _ _ _ _
        ·exact bF.none
     ·exact bF.none
    ·exact bF.none
   ·exact bF.none
theorem SO {id:Nat} {z:Nat} {x:AV} {c:List AV} (h:∀ m∈aE x,m∈l):bF id l s (pL z x c s) (pL z x c (s.only l)):=by
 unfold pL
 split
 ·exact bF.same _
 ·exact bF.same _
 ·exact bF.same _
 ·have ha:=h _ (m008.2 rfl);simp only;rw [fE ha]
  split
  ·split
   ·exact bF.set (m005 _ ha) _ _
   ·exact bF.none
  ·exact bF.none
 ·exact bF.none
theorem aBa {c:Call} {b:Builtin} (hc:c.callee=.builtin b) {e:Operand->AV}:∀ x∈c.args.toList.map e,∀ m∈aE x,m∈sW (.call c) e:=by intro x hx m hm;obtain ⟨y,hy,rfl⟩:=m021.1 hx;simp only [sW,hc,List.mem_flatMap];exact ⟨y,hy,hm⟩
theorem nO {id:Nat} {q q':Option AV} (h:q'=q):bF id l s (q.map (·,s)) (q'.map (·,s.only l)):=by
 subst h
 cases q' with
 | none=>exact bF.none
 | some r=>exact bF.same r
theorem JX {id:Nat} {b:Builtin} {ats:Array TypeId} {args:List AV} (h:∀ x∈args,∀ m∈aE x,m∈l):bF id l s (bL X b ats args id s) (bL X b ats args id (s.only l)):=by
 unfold bL
 split
 ·rename_i x
  cases (ats[0]?).bind (eK X.P) with
  | none=>exact bF.none
  | some d =>
   simp only [Option.bind_some]
   split
   ·have:wX x (s.only l)=wX x s:=by
     cases x<;>try rfl
     simp only [wX];rw [fE (h _ (m007 ..) _ (m008.2 rfl))]
    rw [this]
    cases wX x s with
    | none=>exact bF.none
    | some n=>exact bF.same _
   ·exact bF.none
 ·cases (ats[0]?).bind (eK X.P) with
  | none=>exact bF.none
  | some d =>
   simp only [Option.bind_some]
   split
   ·cases UG _ with
    | none=>exact bF.none
    | some n=>exact bF.same _
   ·exact bF.none
 ·cases AJ (fun y x=>decide (y < x)) args with
  | none=>exact bF.none
  | some r=>exact bF.same _
 ·cases AJ (fun y x=>decide (x < y)) args with
  | none=>exact bF.none
  | some r=>exact bF.same _
 ·rename_i x y;have hx:∀ m∈aE x,m∈l:=h x (by simp);have hy:∀ m∈aE y,m∈l:=h y (by simp)
  split
  ·split
   ·split
    ·exact pH hx
    ·exact bF.none
   ·exact bF.none
  ·split
   ·split
    ·rw [mZ hy]
     cases aR _ _ s with
     | none=>exact bF.none
     | some c=>exact pH hx
    ·exact bF.none
   ·exact bF.none
  ·split
   ·split
    ·rw [mZ hy]
     cases aR _ _ s with
     | none=>exact bF.none
     | some c=>exact pH hx
    ·exact bF.none
   ·exact bF.none
  ·exact bF.none
 ·rename_i x y;have hx:∀ m∈aE x,m∈l:=h x (by simp);have hy:∀ m∈aE y,m∈l:=h y (by simp)
  split
  ·split
   ·split
    ·exact bF.none
    ·rw [mZ hy]
     cases aR _ _ s with
     | none=>exact bF.none
     | some c=>exact SO hx
   ·exact bF.none
  ·exact bF.none
 ·split
  ·exact bF.same _
  ·rw [fE (h _ (m007 ..) _ (m008.2 rfl))]
   split
   ·split
    ·exact bF.same _
    ·exact bF.none
   ·exact bF.none
  ·exact bF.none
 ·split
  ·split
   ·rw [fE (h _ (m007 ..) _ (m008.2 rfl))]
    split
    ·split
     ·split
      ·cases fQ _ with
       | none=>exact bF.none
       | some c =>
        simp only [Option.bind_some]
        split
        ·exact bF.set (m005 _ (h _ (m007 ..) _ (m008.2 rfl))) _ _
        ·exact bF.none
      ·exact bF.none
     ·exact bF.none
    ·exact bF.none
   ·exact bF.same _
   ·exact bF.same _
   ·exact bF.none
  ·exact bF.none
 ·exact bF.none
theorem UP {P:Ty} {src dst:TypeId} {x:AV} (h:∀ m∈aE x,m∈l):mU P src dst x (s.only l)=mU P src dst x s:=by
 unfold mU
 split
 ·rfl
 ·rfl
 ·rfl
 ·split
  ·rfl
  ·rfl
  ·rw [fE (h _ (m008.2 rfl))]
  ·rfl
 ·rfl
 ·rfl
 ·rw [fE (h _ (m008.2 rfl))]
 ·rw [fE (h _ (m008.2 rfl))]
 ·rfl
theorem QX {P:Ty} {ty:TypeId} {x:AV} {lo hi mx:Option AV} (h:∀ m∈aE x,m∈l):gH P ty x lo hi mx (s.only l)=gH P ty x lo hi mx s:=by
 unfold gH
 split
 ·rfl
 ·rename_i e _
  cases eU P e with
  | none=>rfl
  | some y =>
   simp only [Option.bind_some];cases x<;>try rfl
   simp only;rw [fE (h _ (m008.2 rfl))]
 ·cases x<;>try rfl
  rename_i n e _ id off;simp only
  cases eU P e with
  | none=>rfl
  | some y =>simp only [Option.bind_some];rw [fE (h _ (m008.2 rfl))]
 ·rfl
theorem aHe {id:Nat} {e:Operand->AV} {o:Oper} (hv:AE o.op=false) (hf:sW o.op e=l):bF id l s (fW X true id e o s) (fW X true id e o (s.only l)):=by
 subst hf;unfold fW
 cases ho:o.op with
 | move | assign=>exact bF.same _
 | pick c a b=>simp only;cases ME (e c) with | none=>exact bF.none | some t=>exact bF.same _
 | alloc ty=>simp only;cases zero X.P ty with | none=>exact bF.none | some z=>exact bF.set (m007 ..) _ _
 | box ty x =>
  simp only
  split
  ·exact bF.set (m007 ..) _ _
  ·exact bF.none
 | build | buildSlice | binOp | unOp | fieldAddr | field | indexAddr | index=>exact nO rfl
 | convert src dst x =>exact nO (UP fun m hm=>hm)
 | slice ty x lo hi mx =>exact nO (QX fun m hm=>hm)
 | lookup ty m k ok =>
  refine nO ?_
  have:jV (e m) (e k) (s.only (sW (.lookup ty m k ok) e))=jV (e m) (e k) s:=by
   cases hx:e m<;>try rfl
   simp only [jV];rw [fE (by simp [sW,hx,aE])]
  simp only [eE,this]
 | load ty a =>
  simp only
  cases eU X.P ty with
  | none=>exact bF.none
  | some y =>
   simp only [Option.bind_some];refine nO ?_;cases hx:e a<;>try rfl
   simp only [Ai.load];rw [fE (by simp [sW,hx,aE])]
 | store ty a x =>
  simp only
  cases eU X.P ty with
  | none=>exact bF.none
  | some y =>
   simp only [Option.bind_some];cases hx:e a<;>try exact bF.none
   have ha:∀ i o,e a=.ptr i o->i∈sW (.store ty a x) e:=fun i o h=>by simp [sW,h,aE]
   simp only [Ai.store];rw [fE (ha _ _ hx)]
   split
   ·split
    ·exact bF.set (m005 _ (ha _ _ hx)) _ _
    ·exact bF.none
   ·exact bF.none
 | nilCheck x=>simp only;split<;>first | exact bF.same _ | exact bF.none
 | makeInterface ty x=>simp only;split<;>first | exact bF.same _ | exact bF.none
 | makeFunc fn a b=>cases fn<;>first | exact bF.same _ | exact bF.none
 | makeMap ty q=>cases q with
  | none=>exact bF.set (m007 ..) _ _
  | some q=>exact bF.none
 | makeSlice ty a c =>
  simp only
  split
  ·split
   ·split
    ·exact bF.set (m007 ..) _ _
    ·exact bF.none
   ·exact bF.none
  ·exact bF.none
 | mapUpdate ty m k x =>
  simp only;unfold eN
  split
  ·rename_i kt _ _
   cases eK X.P kt with
   | none=>exact bF.none
   | some kd =>
    simp only [Option.bind_some]
    split
    ·rename_i i hx;have ha:i∈sW (.mapUpdate ty m k x) e:=by simp [sW,hx,aE]
     rw [fE ha]
     split
     ·split
      ·cases find (e k) _ with
       | none=>exact bF.none
       | some q=>exact bF.set (m005 _ ha) _ _
      ·exact bF.none
     ·exact bF.none
    ·exact bF.none
  ·exact bF.none
 | extract x i =>
  simp only
  split
  ·exact nO rfl
  ·exact bF.none
 | call c =>
  cases hc:c.callee with
  | value f=>rw [ho] at hv;simp [AE,hc] at hv
  | invoke a b=>simp only [hc];exact bF.none
  | builtin b =>simp only [hc];exact JX (aBa hc)
 | _=>exact bF.none
theorem TE {e:Operand->AV} {o:Op} (hv:AE o=false):dH e o s=sW o e:=by
 cases o<;>try rfl
 rename_i c;unfold dH;simp only
 cases hc:c.callee with
 | value f=>simp [AE,hc] at hv
 | _=>rfl
theorem QT (hp:dD X) {id:Nat} {e:Operand->AV} {o:Oper} {r:AV} {s':St} (hid:cG o.op=true->s.h id=none) (hv:AE o.op=false) (h:fW X true id e o s=some (r,s')):sA X id e o s=some (r,s'):=by
 have hw:gL X e o.op=false:=by
  cases ho:o.op<;>try rfl
  rename_i c;unfold gL
  cases hc:c.callee with
  | value f=>rw [ho] at hv;simp [AE,hc] at hv
  | _=>simp only [hc]
 unfold sA;rw [hw,TE hv];simp only [cond_false];obtain ⟨t,h1,h2⟩:=aHe (X:=X) hv rfl r s' h;rw [h1];simp only [Option.map_some]
 cases hwr:cG o.op with
 | true=>rw [cond_true,h2 (hid hwr)]
 | false =>rw [cond_false,(xX hp h hwr).1]
end
end
noncomputable section
abbrev Gf:=Nat->AV
abbrev Kt:=Gf->St->Prop
def pP (g:Gf) (d:Option Nat) (v:AV):Gf:=match d with
 | some d=>fun k=>cond (Nat.beq k d) v (g k)
 | none=>g
inductive aA {α:Type} (o:Option α) (k:α->Prop):Prop
 | mk (a:α) (h:o=some a) (hk:k a):aA o k
inductive aZ (v:AV) (a b:Prop):Prop
 | t (h:v=.bool true) (ha:a):aZ v a b
 | f (h:v=.bool false) (hb:b):aZ v a b
inductive Gd (w:Option Bool) (s:St) (op:(aG)->Prop) (k:aG):Prop
 | t (h:w=some true) (hk:op k):Gd w s op k
 | f (h:w=some false) (hk:k (.tup []) s):Gd w s op k
theorem Bnd_some {α:Type} {a:α} {k:α->Prop}:aA (some a) k↔k a:=by
 constructor
 ·intro h
  cases h with
  | mk b h hk=>cases h;exact hk
 ·intro h;exact .mk a rfl h
theorem Bnd_none {α:Type} {k:α->Prop}:aA none k↔False:=by
 constructor
 ·intro h
  cases h with
  | mk b h hk=>cases h
 ·intro h;exact h.elim
theorem IfP_bool {t:Bool} {a b:Prop}:aZ (.bool t) a b↔(if t=true then a else b):=by
 cases t with
 | false =>
  constructor
  ·intro h
   cases h with
   | t h _=>cases h
   | f _ h=>exact h
  ·intro h;exact .f rfl h
 | true =>
  constructor
  ·intro h
   cases h with
   | t _ h=>exact h
   | f h _=>cases h
  ·intro h;exact .t rfl h
theorem Gd_some {t:Bool} {s:St} {op:(aG)->Prop} {k:aG}:Gd (some t) s op k↔(if t=true then op k else k (.tup []) s):=by
 cases t with
 | false =>
  constructor
  ·intro h
   cases h with
   | t h _=>cases h
   | f _ h=>exact h
  ·intro h;exact .f rfl h
 | true =>
  constructor
  ·intro h
   cases h with
   | t _ h=>exact h
   | f h _=>cases h
  ·intro h;exact .t rfl h
def pT (r:Option AV) (Q:AV->Prop):Prop:=match r with
 | some v=>Q v
 | none=>False
def aD (v:AV) (want:Bool):Option Bool:=match v with
 | .bool b=>some (b==want)
 | .undef=>none
 | _=>some false
def adv (s:St) (n:Nat):St:=⟨s.h,s.nx+n⟩
def aQ:AV->Bool
 | .ptr _ _ | .pel _ _ | .fn _ _ _=>true
 | _=>false
def aS (v:AV) (i:Nat):Option AV:=match v with
 | .tup vs=>vs[i]?
 | _=>none
def bC (c a b:AV):Option AV:=match c with
 | .bool t=>some (cond t a b)
 | _=>none
def mkS (P:Ty) (t:TypeId) (n c:AV) (id:Nat) (s:St):Option (AV×St):=match eK P t with
 | some (.slice et)=>match eU P et,dW P et,zero P et,pW n,pW c with
  | some (z,_),some b,some zv,some n,some c=>if 0<=n/\n=c/\n * b<=most/\n<=most/\zv.cells.length=z/\0 < z then
    some (.ref id 0 n.toNat (some n.toNat) et,s.set id (some (.cells (List.replicate n.toNat zv.cells).flatten et true true))) else none
  | _,_,_,_,_=>none
 | _=>none
def mkI (P:Ty) (t:TypeId) (x:AV):Option AV:=match eK P t with
 | none | some (.interface _)=>none
 | some _=>some (.iface t x)
def bE (E:lH) (h:FuncId) (args:List AV) (v:AV):Prop:=∃ n r s' ids,cM E n h args St.empty=some (r,s')/\pur E.P s' 12 r=some (v,ids)
def WideC (E:lH) (h:FuncId) (args:List AV) (s:St) (r:AV) (s':St):Prop:=∃ n,cM E n h args s=some (r,s')
inductive aO (E:lH) (h:FuncId) (args:List AV) (s:St) (k:aG):Prop
 | mk (as:List AV) (ids:List Nat) (v:AV) (hp:dN (pur E.P s 12) args=some (as,ids)) (hc:bE E h as v) (hk:k v (if ids.isEmpty||v.flat then s else s.drop ids)):aO E h args s k
inductive aL (E:lH) (h:FuncId) (args:List AV) (s:St) (k:aG):Prop
 | mk (hc:cond (E.fz h) (aA (iK E.P s (E.se h) args) fun q=>∃ r s',WideC E h q.1 (s.drop q.2) r s'/\aA (pur E.P s' 12 r) fun v=>k v.1 (s'.drop v.2)) (∃ r s',WideC E h args s r s'/\k r s')):aL E h args s k
def DL (E:lH) (f h:FuncId) (args:List AV) (s:St) (k:aG):Prop:=Bool.rec (motive:=fun _=>Prop) (aL E h args s k) (aO E h args s k) (E.pm f h)
def sZ (E:lH) (f:FuncId) (v:AV) (args:List AV) (s:St) (k:aG):Prop:=match v with
 | .fn h a cap=>DL E f h (a++args++cap) s k
 | _=>False
def x0 (E:lH) (f:FuncId):Cx:=cx E (fun _ _ _=>none) f
def bX (E:lH):Cx:=⟨E.P,E.eqOk,E.glob,fun _ _ _ _=>none,fun _=>false⟩
def UH (E:lH) (f:FuncId) (id:Nat) (e:Operand->AV) (o:Oper) (s:St) (k:aG):Prop :=
 match o.op with
 | .move x | .assign x=>k (e x) s
 | .pick c a b=>aA (bC (e c) (e a) (e b)) fun v=>k v s
 | .alloc t=>aA (zero E.P t) fun z=>k (.ptr id 0) (s.set id (some (.cells z.cells t true true)))
 | .box t x=>(e x).cells.all AV.one=true/\k (.ptr id 0) (s.set id (some (.cells (e x).cells t true true)))
 | .build t parts=>aA (BX E.P t (parts.toList.map fun p=>(p.1,e p.2))) fun v=>k v s
 | .buildSlice t n parts=>aA (jI E.P t n (parts.toList.map fun p=>(p.1,e p.2))) fun v=>k v s
 | .load t a=>aA ((eU E.P t).bind fun l=>Ai.load l.1 l.2 (e a) s) fun v=>k v s
 | .store t a x=>aA ((eU E.P t).bind fun l=>Ai.store l.1 (e a) (e x) s) fun s'=>k (.tup []) s'
 | .nilCheck x=>aQ (e x)=true/\k (e x) s
 | .binOp op t x y _=>aA (mG E.P E.eqOk op t (e x) (e y)) fun v=>k v s
 | .unOp op _ x=>aA (un op (e x)) fun v=>k v s
 | .convert src dst x=>aA (mU E.P src dst (e x) s) fun v=>k v s
 | .makeFunc (.func f) first captured=>k (.fn f (first.toList.map e) (captured.toList.map e)) s
 | .makeSlice t n c=>aA (mkS E.P t (e n) (e c) id s) fun r=>k r.1 r.2
 | .makeMap _ none=>k (.map id) (s.set id (some (.map [])))
 | .makeInterface t x=>aA (mkI E.P t (e x)) fun v=>k v s
 | .slice t x lo hi mx=>aA (gH E.P t (e x) (lo.map e) (hi.map e) (mx.map e) s) fun v=>k v s
 | .fieldAddr t x f=>aA (AM E.P t f (e x)) fun v=>k v s
 | .field t x f=>aA (LQ E.P t f (e x)) fun v=>k v s
 | .indexAddr t x i=>aA (BC E.P t (e x) (e i)) fun v=>k v s
 | .index t x i=>aA (yQ E.P t (e x) (e i)) fun v=>k v s
 | .lookup t m q ok=>aA (eE E.P t (e m) (e q) ok s) fun v=>k v s
 | .mapUpdate t m q x=>aA (eN E.P t (e m) (e q) (e x) s) fun s'=>k (.tup []) s'
 | .extract t i=>aA (aS (e t) i) fun v=>k v s
 | .call c=>(match c.callee with
  | .builtin b=>aA (bL (bX E) b c.argTypes (c.args.toList.map e) id s) fun r=>k r.1 r.2
  | .value fo=>sZ E f (e fo) (c.args.toList.map e) s k
  | _=>False)
 | _=>aA (fW (x0 E f) false id e o s) fun r=>k r.1 r.2
noncomputable def NR (E:lH) (f:FuncId) (base:Nat) (all:List Oper) (l:List Oper):Nat->Gf->St->Kt->Prop :=
 List.rec (motive:=fun _=>Nat->Gf->St->Kt->Prop) (fun _ g s k=>k g s)
  (fun o _ ih i g s k=>Option.rec (motive:=fun _=>Prop)
   (UH E f (base+i) (ev (bX E) g) o s fun v s'=>ih (i+1) (pP g o.dst v) s' k)
   (fun _=>Gd (bH all g o) s (UH E f (base+i) (ev (bX E) g) o s) fun v s'=>ih (i+1) (pP g o.dst v) s' k) o.guard) l
def rch (s:St) (vs:List AV):List Nat:=kD s.h 4000 (dC vs) []
inductive fF (E:lH) (h:FuncId) (args:List AV) (l:List Nat) (s:St) (k:aG):Prop
 | mk (as:List AV) (ids:List Nat) (v:AV) (hp:dN (pur E.P (s.only l) 12) args=some (as,ids)) (hc:bE E h as v) (hf:(ids.isEmpty||v.flat)=true) (hk:k v s):fF E h args l s k
inductive cL (E:lH) (h:FuncId) (args:List AV) (l:List Nat) (s:St) (k:aG):Prop
 | mk (hc:cond (E.fz h) (aA (iK E.P (s.only l) (E.se h) args) fun q=>∃ r s',WideC E h q.1 ((s.only l).drop q.2) r s'/\aA (pur E.P s' 12 r) fun v=>k v.1 (jW s (s'.drop v.2) l)) (∃ r s',WideC E h args (s.only l) r s'/\k r (jW s s' l))):cL E h args l s k
def aOk (E:lH) (f:FuncId) (v:AV) (args:List AV) (l:List Nat) (s:St) (k:aG):Prop:=match v with
 | .fn h a cap=>Bool.rec (motive:=fun _=>Prop) (cL E h (a++args++cap) l s k) (fF E h (a++args++cap) l s k) (E.pm f h)
 | _=>False
def GL (E:lH) (f:FuncId) (id:Nat) (e:Operand->AV) (o:Oper) (s:St) (k:aG):Prop :=
 match o.op with
 | .call c=>(match c.callee with
  | .builtin b=>Bool.rec (motive:=fun _=>Prop) (UH E f id e o s k) (s.h id=none/\UH E f id e o s k) (cG o.op)
  | .value fo=>aOk E f (e fo) (c.args.toList.map e) (rch s ((iU o.op).map e)) s k
  | _=>False)
 | _=>Bool.rec (motive:=fun _=>Prop) (UH E f id e o s k) (s.h id=none/\UH E f id e o s k) (cG o.op)
def qSt (E:lH) (f:FuncId) (o:Oper):Bool:=!cG o.op&&match o.op with
 | .call c=>(match c.callee with
  | .value (.func h)=>E.pm f h
  | .value _=>false
  | _=>true)
 | _=>true
def eSt (o:Op):Bool:=match o with
 | .load _ _ | .store _ _ _ | .mapUpdate _ _ _ _ | .convert _ _ _ | .lookup _ _ _ _ | .slice _ _ _ _ _=>false
 | .call _=>false
 | _=>true
def FL (E:lH) (f:FuncId) (m:Nat) (b:Oper):Nat->List Oper->Bool
 | _,[]=>true
 | j,a::l=>(bN m j||(qSt E f a&&qSt E f b)||(qSt E f a&&eSt a.op)||(qSt E f b&&eSt b.op))&&FL E f m b (j+1) l
noncomputable def zS (E:lH) (f:FuncId) (base:Nat) (all:List Oper) (ms:List Nat) (l:List Oper):Nat->List eA->Gf->St->Kt->Prop :=
 List.rec (motive:=fun _=>Nat->List eA->Gf->St->Kt->Prop) (fun _ _ g s k=>k g s)
  (fun o _ ih i lg g s k=>Bool.rec (motive:=fun _=>Prop)
   (clear (ms.getD i 0) (bI (x0 E f) i (base+i) (ev (bX E) g) o.op s) lg=true/\Option.rec (motive:=fun _=>Prop)
    (GL E f (base+i) (ev (bX E) g) o s fun v s'=>ih (i+1) (bI (x0 E f) i (base+i) (ev (bX E) g) o.op s::lg) (pP g o.dst v) s' k)
    (fun _=>Gd (bH all g o) s (GL E f (base+i) (ev (bX E) g) o s) fun v s'=>ih (i+1) (bI (x0 E f) i (base+i) (ev (bX E) g) o.op s::lg) (pP g o.dst v) s' k) o.guard)
   (Option.rec (motive:=fun _=>Prop)
    (GL E f (base+i) (ev (bX E) g) o s fun v s'=>ih (i+1) (bI (x0 E f) i (base+i) (ev (bX E) g) o.op s::lg) (pP g o.dst v) s' k)
    (fun _=>Gd (bH all g o) s (GL E f (base+i) (ev (bX E) g) o s) fun v s'=>ih (i+1) (bI (x0 E f) i (base+i) (ev (bX E) g) o.op s::lg) (pP g o.dst v) s' k) o.guard)
   (FL E f (ms.getD i 0) o 0 (all.take i))) l
noncomputable def wN (n:Nat) (k:Nat->Prop):Prop:=Nat.rec (motive:=fun _=>Prop) (k 0) (fun m _=>k (Nat.succ m)) n
theorem bLm (n:Nat) (k:Nat->Prop):wN n k=k n:=by cases n<;>rfl
noncomputable def ahK (l:List Oper):List Nat->(List Nat->Prop)->Prop :=
 List.rec (motive:=fun _=>List Nat->(List Nat->Prop)->Prop) (fun ms k=>k ms) (fun o _ ih ms k=>wN (mT o ms) fun m=>ih (ms++[m]) k) l
theorem bEz:∀ (l:List Oper) (ms:List Nat) (k:List Nat->Prop),ahK l ms k=k (eI ms l):=by
 intro l
 induction l with
 | nil=>intro ms k;rfl
 | cons o l ih =>intro ms k;show wN (mT o ms) (fun m=>ahK l (ms++[m]) k)=_;rw [bLm,ih];rfl
noncomputable def aK (E:lH) (f:FuncId) (kp:Nat) (c:Code):Kt->(Nat->Kt)->Kt->Kt :=
 Code.rec (motive:=fun _=>Kt->(Nat->Kt)->Kt->Kt)
  (fun kN _ _ g s=>kN g s)
  (fun _ ops dr kN _ _ g s=>Bool.rec (motive:=fun _=>Prop) (NR E f s.nx ops.toList ops.toList 0 g (adv s ops.size) kN) (ahK ops.toList [] fun ms=>Bool.rec (motive:=fun _=>Prop) False (zS E f s.nx ops.toList ms ops.toList 0 [] g (adv s ops.size) kN) (EP ms ops.toList)) dr)
  (fun _ _ ia ib kN kE kR g s=>ia (ib kN kE kR) kE kR g s)
  (fun c _ _ ia ib kN kE kR g s=>aZ (ev (bX E) g c) (ia kN kE kR g s) (ib kN kE kR g s))
  (fun id _ ic kN kE kR g s=>ic kN (fun i=>cond (Nat.beq i id) kN (kE i)) kR g s)
  (fun _ ic kN kE kR g s=>∃ n,Nat.rec (motive:=fun _=>Kt) (fun _ _=>False) (fun _ ih g s=>ic (fun g s=>ih (fun k=>cond (bN kp k) (g k) .undef) s) kE kR g s) n g s)
  (fun _ _ _ _ _ _ _ _ _ _ _=>False)
  (fun id _ kE _ g s=>kE id g s)
  (fun _ ic kN kE kR g s=>ic kN kE kR g s)
  (fun _ kN _ _ g s=>kN g s)
  (fun _ _ _ _ _ _=>False)
  (fun _ _ kR g s=>kR g s)
  (fun _ _ _ _ _ _=>False) c
section
variable {E:lH} {f:FuncId}
theorem aA.get {α:Type} {o:Option α} {k:α->Prop} (h:aA o k):∃ a,o=some a/\k a:=by obtain ⟨a,h1,h2⟩:=h;exact ⟨a,h1,h2⟩
noncomputable def xN (E:lH) (f:FuncId) (n:Nat):Cx:=cx E (cM E n) f
theorem oE {n m:Nat} (h:n<=m):MT (xN E f n) (xN E f m):=YZ E (SV E n m h) f
theorem aOv {h:FuncId} {args:List AV} {s:St} {k:aG} (hk:DL E f h args s k):∃ n r s',(xN E f n).call false h args s=some (r,s')/\k r s':=by
 unfold DL at hk
 cases hp:E.pm f h with
 | true =>
  rw [hp] at hk;obtain ⟨as,ids,v,h1,⟨n,r,s',ids',h2,h3⟩,h4⟩:=hk;refine ⟨n,v,_,?_,h4⟩;show gX E (cM E n) f false h args s=_;simp only [gX,hp,if_true,h1,Option.bind_some,h2,h3,m015,if_false]
  split<;>simp_all
 | false =>
  rw [hp] at hk;obtain ⟨h2⟩:=hk
  cases hz:E.fz h with
  | true =>rw [hz] at h2;obtain ⟨q,h0,r,s',⟨n,h1⟩,h2⟩:=aA.get h2;obtain ⟨v,h3,h4⟩:=aA.get h2;refine ⟨n,v.1,_,?_,h4⟩;show gX E (cM E n) f false h args s=_;simp only [gX,hp,m015,if_false,h0,h1,Option.bind_some,hz,if_true,h3,Option.map_some]
  | false =>rw [hz] at h2;obtain ⟨r,s',⟨n,h1⟩,h2⟩:=h2;refine ⟨n,r,s',?_,h2⟩;show gX E (cM E n) f false h args s=_;simp only [gX,hp,m015,if_false,h1,hz]
theorem aLn {id:Nat} {e:Operand->AV} {o:Oper} {s:St} {k:aG} (h:UH E f id e o s k):∃ n r s',fW (xN E f n) false id e o s=some (r,s')/\k r s':=by
 have gen:aA (fW (x0 E f) false id e o s) (fun r=>k r.1 r.2)->∃ n r s',fW (xN E f n) false id e o s=some (r,s')/\k r s':=fun hb=>by obtain ⟨r,h1,h2⟩:=aA.get hb;exact ⟨0,r.1,r.2,nX (YZ E (a:=fun _ _ _=>none) (fun _ _ _ _ h=>nomatch h) f) h1,h2⟩
 have vv:∀ {q:Option AV},aA q (fun v=>k v s)->(fW (xN E f 0) false id e o s=q.map (·,s))->∃ n r s',fW (xN E f n) false id e o s=some (r,s')/\k r s':=fun hb he=>by obtain ⟨v,h1,h2⟩:=aA.get hb;exact ⟨0,v,s,by rw [he,h1];rfl,h2⟩
 unfold UH at h
 cases ho:o.op with
 | move x | assign x=>rw [ho] at h;exact ⟨0,_,s,by simp only [fW,ho],h⟩
 | pick c a b =>
  rw [ho] at h;obtain ⟨v,h1,h2⟩:=aA.get h;refine ⟨0,v,s,?_,h2⟩;simp only [fW,ho];unfold bC at h1
  cases hv:e c with
  | bool t=>rw [hv] at h1;cases h1;cases t<;>rfl
  | _=>rw [hv] at h1;cases h1
 | alloc t =>rw [ho] at h;obtain ⟨z,h1,h2⟩:=aA.get h;refine ⟨0,_,_,?_,h2⟩;show fW (cx E _ f) false id e o s=_;simp only [fW,ho,cx,h1,Option.map_some]
 | box t x =>rw [ho] at h;exact ⟨0,_,_,by simp only [fW,ho];rw [if_pos h.1],h.2⟩
 | load t a =>
  rw [ho] at h;obtain ⟨v,h1,h2⟩:=aA.get h
  cases hl:eU E.P t with
  | none=>rw [hl] at h1;cases h1
  | some l =>
  rw [hl] at h1;refine ⟨0,v,s,?_,h2⟩;show fW (cx E _ f) false id e o s=_;have h1:Ai.load l.1 l.2 (e a) s=some v:=h1;simp only [fW,ho,cx,hl,Option.bind_some,h1,Option.map_some]
 | store t a x =>
  rw [ho] at h;obtain ⟨s',h1,h2⟩:=aA.get h
  cases hl:eU E.P t with
  | none=>rw [hl] at h1;cases h1
  | some l =>
  rw [hl] at h1;refine ⟨0,_,s',?_,h2⟩;show fW (cx E _ f) false id e o s=_;have h1:Ai.store l.1 (e a) (e x) s=some s':=h1;simp only [fW,ho,cx,hl,Option.bind_some,h1,Option.map_some]
 | nilCheck x =>rw [ho] at h;refine ⟨0,_,s,?_,h.2⟩;have h1:=h.1;simp only [fW,ho];cases hx:e x<;>rw [hx] at h1<;>first | rfl | cases h1
 | build | buildSlice | binOp | unOp | convert | slice | fieldAddr | field | indexAddr | index | lookup =>rw [ho] at h;refine vv h ?_;simp only [fW,ho]<;>rfl
 | mapUpdate t m q x =>rw [ho] at h;obtain ⟨s',h1,h2⟩:=aA.get h;refine ⟨0,_,s',?_,h2⟩;show fW (cx E _ f) false id e o s=_;simp only [fW,ho,cx,h1,Option.map_some]
 | extract t i =>
  rw [ho] at h;obtain ⟨v,h1,h2⟩:=aA.get h;refine ⟨0,v,s,?_,h2⟩;unfold aS at h1
  cases hv:e t with
  | tup vs=>rw [hv] at h1;simp only [fW,ho,hv];simp only at h1;rw [h1];rfl
  | _=>rw [hv] at h1;cases h1
 | makeFunc fn a b =>
  rw [ho] at h
  cases fn with
  | func g=>exact ⟨0,_,s,by simp only [fW,ho],h⟩
  | _=>exact gen h
 | call c =>
  rw [ho] at h
  cases hc:c.callee with
  | builtin b =>simp only [hc] at h;obtain ⟨r,h1,h2⟩:=aA.get h;refine ⟨0,r.1,r.2,?_,h2⟩;simp only [fW,ho,hc];exact h1
  | invoke a b=>simp only [hc] at h
  | value fo =>
   simp only [hc] at h;unfold sZ at h
   cases hv:e fo with
   | fn g a cap =>rw [hv] at h;obtain ⟨n,r,s',h1,h2⟩:=aOv h;refine ⟨n,r,s',?_,h2⟩;simp only [fW,ho,hc,hv];exact h1
   | _=>rw [hv] at h;exact h.elim
 | makeMap t r =>
  rw [ho] at h
  cases r with
  | none=>exact ⟨0,_,_,by simp only [fW,ho],h⟩
  | some r=>exact gen h
 | makeSlice t n c =>
  rw [ho] at h;obtain ⟨r,h1,h2⟩:=aA.get h;refine ⟨0,r.1,r.2,?_,h2⟩;have:fW (xN E f 0) false id e o s=mkS E.P t (e n) (e c) id s:=by show fW (cx E _ f) false id e o s=_;simp only [fW,ho,cx];rfl
  rw [this];exact h1
 | makeInterface t x =>
  rw [ho] at h;obtain ⟨v,h1,h2⟩:=aA.get h;refine ⟨0,v,s,?_,h2⟩;show fW (cx E _ f) false id e o s=_;simp only [fW,ho,cx];unfold mkI at h1
  split at h1
  ·cases h1
  ·cases h1
  ·rename_i d hn he;cases h1;rw [he]
   split
   ·rename_i hh;cases hh
   ·rename_i hh;cases hh;exact absurd rfl (hn _)
   ·rfl
 | _=>rw [ho] at h;exact gen h
theorem BH {tm:List AV} {d:Option Nat} {v:AV} (h:∀ u,d=some u->u < tm.length):gt (put tm d v)=pP (gt tm) d v:=by
 cases d with
 | none=>rfl
 | some d =>
  funext k;have hd:=h d rfl;simp only [gt,put,pP,List.getD_eq_getElem?_getD,List.getElem?_set];by_cases hk:d=k
  ·subst hk;simp [hd]
  ·have hb:Nat.beq k d=false:=by
    cases hb:Nat.beq k d with
    | false=>rfl
    | true=>exact absurd (iN hb).symm hk
   rw [if_neg hk,hb];rfl
theorem AU (tm:List AV) (d:Option Nat) (v:AV):(put tm d v).length=tm.length:=by cases d<;>simp [put]
def oV (N:Nat) (l:List Oper):Bool:=l.all fun o=>match o.dst with
 | some d=>Nat.blt d N
 | none=>true
theorem aPp {N:Nat} {o:Oper} {l:List Oper} (h:oV N (o::l)=true):∀ u,o.dst=some u->u < N:=by intro u hu;simp only [oV,List.all_cons,cR] at h;have:=h.1;rw [hu] at this;simpa [Nat.blt_eq] using this
theorem aUz {N base:Nat} {all:List Oper}:∀ (l:List Oper),oV N l=true->∀ (i:Nat) (tm:List AV) (s:St) (k:Kt),tm.length=N->NR E f base all l i (gt tm) s k ->
  ∃ n tm' s',iM (xN E f n) false base all l i tm s=some (tm',s')/\tm'.length=N/\k (gt tm') s':=by
 intro l
 induction l with
 | nil=>intro _ i tm s k hN h;exact ⟨0,tm,s,rfl,hN,h⟩
 | cons o l ih =>
  intro hd i tm s k hN h;have hd2:oV N l=true:=by simp only [oV,List.all_cons,cR] at hd;exact hd.2
  have hlt:=aPp hd;have hrun:∀ n,iM (xN E f n) false base all (o::l) i tm s=(bH all (gt tm) o).bind fun w=>cond w ((fW (xN E f n) false (base+i) (ev (bX E) (gt tm)) o s).bind fun r=>iM (xN E f n) false base all l (i+1) (put tm o.dst r.1) r.2) (iM (xN E f n) false base all l (i+1) (put tm o.dst (.tup [])) s):=fun n=>rfl
  have step:UH E f (base+i) (ev (bX E) (gt tm)) o s (fun v s'=>NR E f base all l (i+1) (pP (gt tm) o.dst v) s' k)->bH all (gt tm) o=some true ->
    ∃ n tm' s',iM (xN E f n) false base all (o::l) i tm s=some (tm',s')/\tm'.length=N/\k (gt tm') s':=fun hs hw=>by
   obtain ⟨n,r,s1,h1,h2⟩:=aLn hs;rw [<- BH (fun u hu=>by rw [hN];exact hlt u hu)] at h2;obtain ⟨m,tm',s',h3,h4,h5⟩:=ih hd2 (i+1) _ s1 k (by rw [AU];exact hN) h2;refine ⟨max n m,tm',s',?_,h4,h5⟩;rw [hrun,hw];simp only [Option.bind_some,cond_true];rw [nX (oE (Nat.le_max_left n m)) h1];exact IM (oE (Nat.le_max_right n m)) _ _ _ _ _ h3
  change Option.rec (motive:=fun _=>Prop)
   (UH E f (base+i) (ev (bX E) (gt tm)) o s fun v s'=>NR E f base all l (i+1) (pP (gt tm) o.dst v) s' k)
   (fun _=>Gd (bH all (gt tm) o) s (UH E f (base+i) (ev (bX E) (gt tm)) o s) fun v s'=>NR E f base all l (i+1) (pP (gt tm) o.dst v) s' k) o.guard at h
  cases hg:o.guard with
  | none =>rw [hg] at h;exact step h (by simp only [bH,hg])
  | some jw =>
   rw [hg] at h;change Gd (bH all (gt tm) o) s (UH E f (base+i) (ev (bX E) (gt tm)) o s) (fun v s'=>NR E f base all l (i+1) (pP (gt tm) o.dst v) s' k) at h
   cases h with
   | t hw h=>exact step h hw
   | f hw h =>have h:NR E f base all l (i+1) (pP (gt tm) o.dst (.tup [])) s k:=h;rw [<- BH (fun u hu=>by rw [hN];exact hlt u hu)] at h;obtain ⟨m,tm',s',h3,h4,h5⟩:=ih hd2 (i+1) _ s k (by rw [AU];exact hN) h;refine ⟨m,tm',s',?_,h4,h5⟩;rw [hrun,hw];exact h3
theorem aLz {id:Nat} {e:Operand->AV} {o:Oper} {s:St} {r:AV×St} {n:Nat} (hv:AE o.op=false) (h:fW (xN E f n) false id e o s=some r):fW (xN E f n) true id e o s=some r:=by
 unfold fW at h ⊢
 cases ho:o.op with
 | call c =>
  cases hc:c.callee with
  | value fo=>rw [ho] at hv;simp [AE,hc] at hv
  | _=>simp only [ho,hc] at h ⊢;exact h
 | makeFunc fn a b=>cases fn<;>(simp only [ho] at h ⊢;exact h)
 | makeMap t q=>cases q<;>(simp only [ho] at h ⊢;exact h)
 | _=>simp only [ho] at h ⊢;exact h
theorem aVu {id:Nat} {e:Operand->AV} {o:Oper} {s:St} {k:aG} (h:GL E f id e o s k):∃ n r s',sA (xN E f n) id e o s=some (r,s')/\k r s':=by
 have plain:AE o.op=false->Bool.rec (motive:=fun _=>Prop) (UH E f id e o s k) (s.h id=none/\UH E f id e o s k) (cG o.op)->∃ n r s',sA (xN E f n) id e o s=some (r,s')/\k r s':=fun hv hc=>by
  have key:(cG o.op=true->s.h id=none)/\UH E f id e o s k:=by
   cases hw:cG o.op with
   | true=>rw [hw] at hc;exact ⟨fun _=>hc.1,hc.2⟩
   | false=>rw [hw] at hc;exact ⟨(fun h=>(nomatch h)),hc⟩
  obtain ⟨n,r,s',h1,h2⟩:=aLn key.2;exact ⟨n,r,s',QT (tR E (cM E n) f) key.1 hv (aLz hv h1),h2⟩
 unfold GL at h
 cases ho:o.op with
 | call c =>
  cases hc:c.callee with
  | builtin b =>simp only [ho,hc] at h;rw [<- ho] at h;exact plain (by rw [ho];simp [AE,hc]) h
  | invoke a b=>simp only [ho,hc] at h
  | value fo =>
   simp only [ho,hc] at h;unfold aOk at h;have hsh:rch s ((iU (Op.call c)).map e)=dH e o.op s:=by rw [ho];unfold dH rch;simp only [hc]
   rw [hsh] at h
   cases hv:e fo with
   | fn g a cap =>
    rw [hv] at h;simp only at h;have hwd:∀ n,gL (xN E f n) e o.op=!E.pm f g:=fun n=>by rw [ho];unfold gL;simp only [hc,hv];rfl
    have hop:∀ n dr t,fW (xN E f n) dr id e o t=gX E (cM E n) f dr g (a++c.args.toList.map e++cap) t:=fun n dr t=>by simp only [fW,ho,hc,hv];rfl
    cases hp:E.pm f g with
    | true =>
     rw [hp] at h;obtain ⟨as,ids,v,h1,⟨n,r,s',ids',h2,h3⟩,h4,h5⟩:=h;refine ⟨n,v,s,?_,h5⟩;have hwr:cG o.op=false:=by rw [ho];simp [cG,hc]
     simp only [sA,hwd,hp,m025,cond_false,hop,hwr];have:gX E (cM E n) f true g (a++c.args.toList.map e++cap) (s.only (dH e o.op s))=some (v,s.only (dH e o.op s)):=by simp only [gX,hp,if_true,h1,Option.bind_some,h2,h3,h4]
     rw [this];rfl
    | false =>
     rw [hp] at h;obtain ⟨h2⟩:=h
     cases hz:E.fz g with
     | true =>rw [hz] at h2;obtain ⟨q,h0,r,s',⟨n,h1⟩,h2⟩:=aA.get h2;obtain ⟨v,h3,h4⟩:=aA.get h2;refine ⟨n,v.1,_,?_,h4⟩;simp only [sA,hwd,hp,m027,cond_true,hop,gX,m015,if_false,h0,h1,Option.bind_some,hz,if_true,h3,Option.map_some]
     | false =>rw [hz] at h2;obtain ⟨r,s',⟨n,h1⟩,h2⟩:=h2;refine ⟨n,r,_,?_,h2⟩;simp only [sA,hwd,hp,m027,cond_true,hop,gX,m015,if_false,h1,Option.bind_some,hz,Option.map_some]
   | _=>rw [hv] at h;exact h.elim
 | _=>rw [ho] at h;simp only at h;rw [<- ho] at h;exact plain (by rw [ho];rfl) h
theorem vM {o:Oper} (h:qSt E f o=true) (e:Operand->AV) (he:∀ h,e (.func h)=.fn h [] []):gL (x0 E f) e o.op=false/\cG o.op=false:=by
 simp only [qSt,cR,Bool.not_eq_true'] at h;refine ⟨?_,h.1⟩;cases ho:o.op<;>try rfl
 rename_i c;have h2:=h.2;rw [ho] at h2;unfold gL;simp only at h2
 cases hc:c.callee with
 | value fo =>
  rw [hc] at h2
  cases fo with
  | func g =>simp only at h2;simp only [hc,he];show (!E.pm f g)=false;rw [h2];rfl
  | _=>cases h2
 | _=>simp only [hc]
theorem MV {o:Op} (h:eSt o=true) (e:Operand->AV) (s:St):dH e o s=[]:=by cases o<;>first | rfl | cases h
theorem FP:∀ (l:List Nat),lY l []=true:=by
 intro l
 induction l with
 | nil=>rfl
 | cons n l ih=>simp [lY,dO,ih]
def bFn (E:lH) (f:FuncId) (base:Nat) (all:List Oper) (i:Nat) (lg:List eA):Prop:=∀ p∈lg,∃ j o e s,j < i/\all[j]?=some o/\(∀ h,e (.func h)=.fn h [] [])/\p=bI (x0 E f) j (base+j) e o.op s
theorem TJ {m:Nat} {b:Oper}:∀ (l:List Oper) (j:Nat),FL E f m b j l=true->∀ k a,l[k]?=some a->(bN m (j+k)=true\/(qSt E f a=true/\qSt E f b=true)\/(qSt E f a=true/\eSt a.op=true)\/(qSt E f b=true/\eSt b.op=true)):=by
 intro l
 induction l with
 | nil=>intro j _ k a h;simp at h
 | cons x l ih =>
  intro j h k a ha;simp only [FL,cR,GO] at h
  cases k with
  | zero =>
   simp only [List.getElem?_cons_zero,m000] at ha;subst ha;rcases h.1 with ((h1 | h1) | h1) | h1
   ·exact .inl h1
   ·exact .inr (.inl h1)
   ·exact .inr (.inr (.inl h1))
   ·exact .inr (.inr (.inr h1))
  | succ k =>
   simp only [List.getElem?_cons_succ] at ha;have:=ih (j+1) h.2 k a ha
   rwa [show j+1+k=j+(k+1) by omega] at this
theorem KW {base i m:Nat} {all:List Oper} {o:Oper} {lg:List eA} {e:Operand->AV} {s:St} (he:∀ h,e (.func h)=.fn h [] []) (hr:FL E f m o 0 (all.take i)=true) (hl:bFn E f base all i lg) :
  clear m (bI (x0 E f) i (base+i) e o.op s) lg=true:=by
 refine m032.2 fun p hp=>?_;obtain ⟨j,a,e',s',hj,ha,he',rfl⟩:=hl p hp;have ha':(all.take i)[j]?=some a:=by rw [List.getElem?_take,if_pos hj];exact ha
 have:=TJ _ 0 hr j a ha';rw [m023] at this;have hi:(bI (x0 E f) j (base+j) e' a.op s').i=j:=by unfold bI;cases gL (x0 E f) e' a.op<;>rfl
 rw [hi,GO];rcases this with h1 | ⟨h1,h2⟩ | ⟨h1,h2⟩ | ⟨h1,h2⟩
 ·exact .inl h1
 ·obtain ⟨a1,a2⟩:=vM h1 e' he';obtain ⟨b1,b2⟩:=vM h2 e he;right;simp [eA.apart,bI,a1,a2,b1,b2]
 ·obtain ⟨a1,a2⟩:=vM h1 e' he';right;simp only [bI,a1,a2,cond_false,eA.apart,wI,MV h2,tM,lY,m059,m031,GO];right
  split
  ·rfl
  ·rfl
 ·obtain ⟨b1,b2⟩:=vM h1 e he;right;simp only [bI,b1,b2,cond_false,eA.apart,wI,MV h2,tM,FP,m059,m031,GO];right
  split
  ·rfl
  ·rfl
theorem aAj {m:Nat} {k:eA} {lg lg':List eA} (hs:∀ p∈lg',p∈lg) (h:clear m k lg=true):clear m k lg'=true :=
 m032.2 fun p hp=>m032.1 h p (hs p hp)
theorem aNa {N base:Nat} {all:List Oper} {ms:List Nat}:∀ (l:List Oper),oV N l=true->∀ (i:Nat) (lg lg':List eA) (tm:List AV) (s:St) (k:Kt),all.drop i=l->tm.length=N->bFn E f base all i lg->(∀ p∈lg',p∈lg)->zS E f base all ms l i lg (gt tm) s k ->
  ∃ n tm' s',mY (xN E f n) base all ms l i lg' tm s=some (tm',s')/\tm'.length=N/\k (gt tm') s':=by
 intro l
 induction l with
 | nil=>intro _ i lg lg' tm s k _ hN _ _ h;exact ⟨0,tm,s,rfl,hN,h⟩
 | cons o l ih =>
  intro hd i lg lg' tm s k hal hN hlg hsub h;have hd2:oV N l=true:=by simp only [oV,List.all_cons,cR] at hd;exact hd.2
  have hlt:=aPp hd;have hoi:all[i]?=some o:=by have:=congrArg (·[0]?) hal;simpa using this
  have hal':all.drop (i+1)=l:=by
   have:(all.drop i).drop 1=l:=by rw [hal];rfl
   rwa [m075] at this
  have hev:∀ h,ev (bX E) (gt tm) (.func h)=.fn h [] []:=fun h=>rfl;have hmk:∀ n,bI (xN E f n) i (base+i) (ev (bX E) (gt tm)) o.op s=bI (x0 E f) i (base+i) (ev (bX E) (gt tm)) o.op s:=fun n=>rfl
  have hlg2:bFn E f base all (i+1) (bI (x0 E f) i (base+i) (ev (bX E) (gt tm)) o.op s::lg):=fun p hp=>by
   rcases m013.1 hp with rfl | hp
   ·exact ⟨i,o,_,_,Nat.lt_succ_self _,hoi,hev,rfl⟩
   ·obtain ⟨j,a,e',s',hj,hr⟩:=hlg p hp;exact ⟨j,a,e',s',Nat.lt_succ_of_lt hj,hr⟩
  have hrun:∀ n,mY (xN E f n) base all ms (o::l) i lg' tm s=(bH all (gt tm) o).bind fun w=>cond w
    (cond (clear (ms.getD i 0) (bI (x0 E f) i (base+i) (ev (bX E) (gt tm)) o.op s) lg')
     ((sA (xN E f n) (base+i) (ev (bX E) (gt tm)) o s).bind fun r=>mY (xN E f n) base all ms l (i+1) (bI (x0 E f) i (base+i) (ev (bX E) (gt tm)) o.op s::lg') (put tm o.dst r.1) r.2) none)
    (mY (xN E f n) base all ms l (i+1) lg' (put tm o.dst (.tup [])) s):=fun n=>rfl
  have hboth:clear (ms.getD i 0) (bI (x0 E f) i (base+i) (ev (bX E) (gt tm)) o.op s) lg=true/\(Option.rec (motive:=fun _=>Prop)
    (GL E f (base+i) (ev (bX E) (gt tm)) o s fun v s'=>zS E f base all ms l (i+1) (bI (x0 E f) i (base+i) (ev (bX E) (gt tm)) o.op s::lg) (pP (gt tm) o.dst v) s' k)
    (fun _=>Gd (bH all (gt tm) o) s (GL E f (base+i) (ev (bX E) (gt tm)) o s) fun v s'=>zS E f base all ms l (i+1) (bI (x0 E f) i (base+i) (ev (bX E) (gt tm)) o.op s::lg) (pP (gt tm) o.dst v) s' k) o.guard):=by
   change Bool.rec (motive:=fun _=>Prop) (_/\_) _ (FL E f (ms.getD i 0) o 0 (all.take i)) at h
   cases hr:FL E f (ms.getD i 0) o 0 (all.take i) with
   | true=>rw [hr] at h;exact ⟨KW hev hr hlg,h⟩
   | false=>rw [hr] at h;exact h
  obtain ⟨hcl,h⟩:=hboth
  have step:GL E f (base+i) (ev (bX E) (gt tm)) o s (fun v s'=>zS E f base all ms l (i+1) (bI (x0 E f) i (base+i) (ev (bX E) (gt tm)) o.op s::lg) (pP (gt tm) o.dst v) s' k)->bH all (gt tm) o=some true ->
    ∃ n tm' s',mY (xN E f n) base all ms (o::l) i lg' tm s=some (tm',s')/\tm'.length=N/\k (gt tm') s':=fun hs hw=>by
   obtain ⟨n,r,s1,h1,h2⟩:=aVu hs;rw [<- BH (fun u hu=>by rw [hN];exact hlt u hu)] at h2
   obtain ⟨m,tm',s',h3,h4,h5⟩:=ih hd2 (i+1) _ (bI (x0 E f) i (base+i) (ev (bX E) (gt tm)) o.op s::lg') _ s1 k hal' (by rw [AU];exact hN) hlg2 (fun p hp=>by
    rcases m013.1 hp with rfl | hp
    ·exact m007 ..
    ·exact m005 _ (hsub p hp)) h2
   refine ⟨max n m,tm',s',?_,h4,h5⟩;rw [hrun,hw];simp only [Option.bind_some,cond_true];rw [aAj hsub hcl];simp only [cond_true];rw [CA (oE (Nat.le_max_left n m)) h1];exact HM (oE (Nat.le_max_right n m)) _ _ _ _ _ _ h3
  cases hg:o.guard with
  | none =>rw [hg] at h;exact step h (by simp only [bH,hg])
  | some jw =>
   rw [hg] at h;change Gd (bH all (gt tm) o) s (GL E f (base+i) (ev (bX E) (gt tm)) o s) (fun v s'=>zS E f base all ms l (i+1) (bI (x0 E f) i (base+i) (ev (bX E) (gt tm)) o.op s::lg) (pP (gt tm) o.dst v) s' k) at h
   cases h with
   | t hw h=>exact step h hw
   | f hw h =>have h:zS E f base all ms l (i+1) (bI (x0 E f) i (base+i) (ev (bX E) (gt tm)) o.op s::lg) (pP (gt tm) o.dst (.tup [])) s k:=h;rw [<- BH (fun u hu=>by rw [hN];exact hlt u hu)] at h;obtain ⟨m,tm',s',h3,h4,h5⟩:=ih hd2 (i+1) _ lg' _ s k hal' (by rw [AU];exact hN) hlg2 (fun p hp=>m005 _ (hsub p hp)) h;refine ⟨m,tm',s',?_,h4,h5⟩;rw [hrun,hw];exact h3
noncomputable def uN (N:Nat) (c:Code):Bool :=
 Code.rec (motive:=fun _=>Bool) true (fun _ ops _=>oV N ops.toList) (fun _ _ a b=>a&&b) (fun _ _ _ a b=>a&&b) (fun _ _ a=>a) (fun _ a=>a)
  (fun _ _ _ _ _ _=>true) (fun _=>true) (fun _ a=>a) (fun _=>true) (fun _=>true) true (fun _=>true) c
def aUu (kN:Kt) (kE:Nat->Kt) (kR:Kt):Ex->Kt
 | .nm=>kN
 | .ex i=>kE i
 | .gt _=>fun _ _=>False
 | .rt=>kR
noncomputable def iX (E:lH) (f:FuncId) (n:Nat) (c:Code):List AV->St->BY:=code (xN E f n) (gP (xN E f n) (E.kp f) n) c
theorem CL {n m:Nat} (h:n<=m) (c:Code) (tm:List AV) (s:St) (r:Ex×List AV×St) (hr:iX E f n c tm s=some r):iX E f m c tm s=some r :=
 lB (oE h) (iZ (oE h) (E.kp f) n m h) c tm s r hr
theorem aWj (m:Nat) (tm:List AV):gt (mask m 0 tm)=fun k=>cond (bN m k) (gt tm k) .undef:=by
 have key:∀ (l:List AV) (i k:Nat),(mask m i l)[k]?=(l[k]?).map fun v=>cond (bN m (i+k)) v .undef:=by
  intro l
  induction l with
  | nil=>intro i k;rfl
  | cons v l ih =>
   intro i k
   cases k with
   | zero=>rfl
   | succ k=>show (mask m (i+1) l)[k]?=_;rw [ih,show i+1+k=i+(k+1) by omega];rfl
 funext k;simp only [gt,List.getD_eq_getElem?_getD,key tm 0 k,m023]
 cases tm[k]? with
 | none=>cases bN m k<;>rfl
 | some v=>rfl
theorem aRc {N:Nat} (c:Code):uN N c=true->∀ (kN:Kt) (kE:Nat->Kt) (kR:Kt) (tm:List AV) (s:St),tm.length=N->aK E f (E.kp f) c kN kE kR (gt tm) s ->
  ∃ n e tm' s',iX E f n c tm s=some (e,tm',s')/\tm'.length=N/\aUu kN kE kR e (gt tm') s':=by
 induction c with
 | skip | label=>intro _ kN kE kR tm s hN h;exact ⟨0,.nm,tm,s,rfl,hN,h⟩
 | exit id=>intro _ kN kE kR tm s hN h;exact ⟨0,.ex id,tm,s,rfl,hN,h⟩
 | ret=>intro _ kN kE kR tm s hN h;exact ⟨0,.rt,tm,s,rfl,hN,h⟩
 | region id ops dr =>
  intro hok kN kE kR tm s hN h;change Bool.rec (motive:=fun _=>Prop) (NR E f s.nx ops.toList ops.toList 0 (gt tm) (adv s ops.size) kN) (ahK ops.toList [] fun ms=>Bool.rec (motive:=fun _=>Prop) False (zS E f s.nx ops.toList ms ops.toList 0 [] (gt tm) (adv s ops.size) kN) (EP ms ops.toList)) dr at h
  cases dr with
  | true =>
   simp only [bEz] at h
   cases hm:EP (eI [] ops.toList) ops.toList with
   | false=>rw [hm] at h;exact h.elim
   | true =>rw [hm] at h;obtain ⟨n,tm',s',h1,h2,h3⟩:=aNa ops.toList hok 0 [] [] tm _ kN (by simp) hN (fun p hp=>by cases hp) (fun p hp=>by cases hp) h;refine ⟨n,.nm,tm',s',?_,h2,h3⟩;show (cond true (drawn (xN E f n) s.nx ops.toList tm ⟨s.h,s.nx+ops.size⟩) (iM (xN E f n) false s.nx ops.toList ops.toList 0 tm ⟨s.h,s.nx+ops.size⟩)).map (fun r=>(Ex.nm,r.1,r.2))=_;simp only [cond_true,drawn,hm];have h1:mY (xN E f n) s.nx ops.toList (eI [] ops.toList) ops.toList 0 [] tm ⟨s.h,s.nx+ops.size⟩=some (tm',s'):=h1;rw [h1];rfl
  | false =>obtain ⟨n,tm',s',h1,h2,h3⟩:=aUz ops.toList hok 0 tm _ kN hN h;refine ⟨n,.nm,tm',s',?_,h2,h3⟩;show (cond false (drawn (xN E f n) s.nx ops.toList tm ⟨s.h,s.nx+ops.size⟩) (iM (xN E f n) false s.nx ops.toList ops.toList 0 tm ⟨s.h,s.nx+ops.size⟩)).map (fun r=>(Ex.nm,r.1,r.2))=_;simp only [cond_false];have h1:iM (xN E f n) false s.nx ops.toList ops.toList 0 tm ⟨s.h,s.nx+ops.size⟩=some (tm',s'):=h1;rw [h1];rfl
 | seq a b iha ihb =>
  intro hok kN kE kR tm s hN h;have hok:(uN N a&&uN N b)=true:=hok;simp only [cR] at hok;obtain ⟨n,e,tm1,s1,h1,h2,h3⟩:=iha hok.1 (aK E f (E.kp f) b kN kE kR) kE kR tm s hN h
  cases e with
  | nm =>obtain ⟨m,e,tm2,s2,k1,k2,k3⟩:=ihb hok.2 kN kE kR tm1 s1 h2 h3;refine ⟨max n m,e,tm2,s2,?_,k2,k3⟩;show HN (iX E f (max n m) a tm s) (iX E f (max n m) b)=_;rw [CL (Nat.le_max_left n m) a _ _ _ h1];exact CL (Nat.le_max_right n m) b _ _ _ k1
  | ex i=>exact ⟨n,.ex i,tm1,s1,by show HN (iX E f n a tm s) (iX E f n b)=_;rw [h1];rfl,h2,h3⟩
  | gt i=>exact h3.elim
  | rt=>exact ⟨n,.rt,tm1,s1,by show HN (iX E f n a tm s) (iX E f n b)=_;rw [h1];rfl,h2,h3⟩
 | cond c a b iha ihb =>
  intro hok kN kE kR tm s hN h;have hok:(uN N a&&uN N b)=true:=hok;simp only [cR] at hok;change aZ (ev (bX E) (gt tm) c) (aK E f (E.kp f) a kN kE kR (gt tm) s) (aK E f (E.kp f) b kN kE kR (gt tm) s) at h
  cases h with
  | t hv h =>obtain ⟨n,e,tm1,s1,h1,h2,h3⟩:=iha hok.1 kN kE kR tm s hN h;refine ⟨n,e,tm1,s1,?_,h2,h3⟩;show (ME (ev (bX E) (gt tm) c)).bind (fun t=>cond t (iX E f n a tm s) (iX E f n b tm s))=_;rw [hv];exact h1
  | f hv h =>obtain ⟨n,e,tm1,s1,h1,h2,h3⟩:=ihb hok.2 kN kE kR tm s hN h;refine ⟨n,e,tm1,s1,?_,h2,h3⟩;show (ME (ev (bX E) (gt tm) c)).bind (fun t=>cond t (iX E f n a tm s) (iX E f n b tm s))=_;rw [hv];exact h1
 | block id c ih =>
  intro hok kN kE kR tm s hN h;obtain ⟨n,e,tm1,s1,h1,h2,h3⟩:=ih hok kN (fun i=>cond (Nat.beq i id) kN (kE i)) kR tm s hN h;have hb:iX E f n (.block id c) tm s=blk id (iX E f n c tm s):=rfl
  cases e with
  | nm=>exact ⟨n,.nm,tm1,s1,by rw [hb,h1];rfl,h2,h3⟩
  | ex i =>
   by_cases hi:i=id
   ·subst hi;refine ⟨n,.nm,tm1,s1,by rw [hb,h1];simp [blk],h2,?_⟩;simpa [aUu] using h3
   ·refine ⟨n,.ex i,tm1,s1,by rw [hb,h1];simp [blk,hi],h2,?_⟩
    have hne:Nat.beq i id=false:=by
     cases hb:Nat.beq i id with
     | false=>rfl
     | true=>exact absurd (iN hb) hi
    simpa [aUu,hne] using h3
  | gt i=>exact h3.elim
  | rt=>exact ⟨n,.rt,tm1,s1,by rw [hb,h1];rfl,h2,h3⟩
 | loop c ih =>
  intro hok kN kE kR tm s hN h;change ∃ n,Nat.rec (motive:=fun _=>Kt) (fun _ _=>False) (fun _ ih g s=>aK E f (E.kp f) c (fun g s=>ih (fun k=>cond (bN (E.kp f) k) (g k) .undef) s) kE kR g s) n (gt tm) s at h;obtain ⟨n,h⟩:=h
  suffices hs:∀ n (tm:List AV) (s:St),tm.length=N->Nat.rec (motive:=fun _=>Kt) (fun _ _=>False) (fun _ ih g s=>aK E f (E.kp f) c (fun g s=>ih (fun k=>cond (bN (E.kp f) k) (g k) .undef) s) kE kR g s) n (gt tm) s ->
    ∃ m e tm' s',gP (xN E f m) (E.kp f) m c tm s=some (e,tm',s')/\tm'.length=N/\aUu kN kE kR e (gt tm') s' by
   exact hs n tm s hN h
  intro n
  induction n with
  | zero=>intro tm s _ h;exact h.elim
  | succ n ihn =>
   intro tm s hN h;obtain ⟨m,e,tm1,s1,h1,h2,h3⟩:=ih hok _ kE kR tm s hN h
   cases e with
   | nm =>have h3:Nat.rec (motive:=fun _=>Kt) (fun _ _=>False) (fun _ ih g s=>aK E f (E.kp f) c (fun g s=>ih (fun k=>cond (bN (E.kp f) k) (g k) .undef) s) kE kR g s) n (fun k=>cond (bN (E.kp f) k) (gt tm1 k) .undef) s1:=h3;rw [<- aWj] at h3;obtain ⟨m2,e2,tm2,s2,k1,k2,k3⟩:=ihn (mask (E.kp f) 0 tm1) s1 (by rw [BO];exact h2) h3;refine ⟨max m m2+1,e2,tm2,s2,?_,k2,k3⟩;rw [oJ];have hA:=lB (oE (E:=E) (f:=f) (GN (Nat.le_max_left m m2) (LU _))) (iZ (oE (GN (Nat.le_max_left m m2) (LU _))) (E.kp f) m (max m m2) (Nat.le_max_left m m2)) c tm s _ h1;rw [hA];exact iZ (oE (GN (Nat.le_max_right m m2) (LU _))) (E.kp f) m2 (max m m2) (Nat.le_max_right m m2) c _ _ _ k1
   | ex i =>refine ⟨m+1,.ex i,tm1,s1,?_,h2,h3⟩;rw [oJ];have hA:=lB (oE (E:=E) (f:=f) (LU m)) (iZ (oE (LU m)) (E.kp f) m m (bK m)) c tm s _ h1;rw [hA];rfl
   | gt i=>exact h3.elim
   | rt =>refine ⟨m+1,.rt,tm1,s1,?_,h2,h3⟩;rw [oJ];have hA:=lB (oE (E:=E) (f:=f) (LU m)) (iZ (oE (LU m)) (E.kp f) m m (bK m)) c tm s _ h1;rw [hA];rfl
 | scope c ih =>
  intro hok kN kE kR tm s hN h;obtain ⟨n,e,tm1,s1,h1,h2,h3⟩:=ih hok kN kE kR tm s hN h;have hb:iX E f n (.scope c) tm s=ZZ (iX E f n c tm s):=rfl
  cases e with
  | gt i=>exact h3.elim
  | nm=>exact ⟨n,.nm,tm1,s1,by rw [hb,h1];rfl,h2,h3⟩
  | ex i=>exact ⟨n,.ex i,tm1,s1,by rw [hb,h1];rfl,h2,h3⟩
  | rt=>exact ⟨n,.rt,tm1,s1,by rw [hb,h1];rfl,h2,h3⟩
 | _=>intro _ kN kE kR tm s hN h;exact h.elim
theorem aUh {h:FuncId} {fn:Func} {c:Code} {args:List AV} {s:St} {Q:aG} (hp:E.prim h=none) (hf:E.fns h=some fn) (hb:fn.body=some c) (hok:uN fn.ntmps c=true) (hl:args.length<=fn.ntmps)
  (hc:aK E h (E.kp h) c (fun g s=>pT (hH E.P fn g s) fun v=>Q v s) (fun _ _ _=>False) (fun g s=>pT (hH E.P fn g s) fun v=>Q v s) (gt (fR fn args)) s):∃ r s',WideC E h args s r s'/\Q r s':=by
 have hlen:(fR fn args).length=fn.ntmps:=by simp [fR];omega
 obtain ⟨n,e,tm',s',h1,h2,h3⟩:=aRc c hok _ _ _ _ s hlen hc
 have hres:∀ e,(e=Ex.nm\/e=Ex.rt)->iX E h n c (fR fn args) s=some (e,tm',s')->pT (hH E.P fn (gt tm') s') (fun v=>Q v s')->∃ r s',WideC E h args s r s'/\Q r s':=fun e he h1 h3=>by
  obtain ⟨v,k1,k2⟩:∃ v,hH E.P fn (gt tm') s'=some v/\Q v s':=by
   cases hr:hH E.P fn (gt tm') s' with
   | none=>rw [hr] at h3;exact h3.elim
   | some v=>rw [hr] at h3;exact ⟨v,rfl,h3⟩
  refine ⟨v,s',⟨n+1,?_⟩,k2⟩;rw [uE,hp,hf];simp only [hb];have h1:code (cx E (cM E n) h) (gP (cx E (cM E n) h) (E.kp h) n) c (fR fn args) s=some (e,tm',s'):=h1;rw [h1];rcases he with rfl | rfl<;>simp only [lS,k1,Option.map_some]
 cases e with
 | nm=>exact hres _ (.inl rfl) h1 h3
 | rt=>exact hres _ (.inr rfl) h1 h3
 | ex i=>exact h3.elim
 | gt i=>exact h3.elim
theorem aH {h:FuncId} {fn:Func} {c:Code} {args:List AV} {s:St} {Q:aG} {P:Kt} {hP:Prop}
  (pf:aK E h (E.kp h) c (fun g s=>pT (hH E.P fn g s) fun v=>Q v s) (fun _ _ _=>False) (fun g s=>pT (hH E.P fn g s) fun v=>Q v s)=P) (hh:hP) (he:hP=P (gt (fR fn args)) s:=by kernel_rfl)
  (hp:E.prim h=none:=by kernel_rfl) (hf:E.fns h=some fn:=by kernel_rfl) (hb:fn.body=some c:=by kernel_rfl) (hok:uN fn.ntmps c=true:=by kernel_rfl) (hl:args.length<=fn.ntmps:=by exact of_decide_eq_true (by kernel_rfl)):∃ r s',WideC E h args s r s'/\Q r s' :=
 aUh hp hf hb hok hl (by rw [pf,<- he];exact hh)
theorem YB {h:FuncId} {args:List AV} {v:AV} (hw:∃ r s',WideC E h args St.empty r s'/\∃ ids,pur E.P s' 12 r=some (v,ids)):bE E h args v:=by obtain ⟨r,s',⟨n,h1⟩,ids,h2⟩:=hw;exact ⟨n,r,s',ids,h1,h2⟩
end
end
noncomputable section
def cQ (z:Nat) (x ix:AV):Option AV:=(pW ix).bind fun i=>match x with
 | .sl _ l=>(xI i l.length).bind fun j=>(l[j]?).bind fun v=>if v.cells.length=z then some (.pel v.cells 0) else none
 | .ref id off n _ _=>(xI i n).bind fun j=>some (.ptr id (off+j * z))
 | _=>none
def ixA (n z:Nat) (x ix:AV):Option AV:=(pW ix).bind fun i=>(xI i n).bind fun j=>aC (j * z) x
def uD:List (Option AV)->Option (List AV)
 | []=>some []
 | q::l=>q.bind fun v=>(uD l).map (v::·)
def xY (vs:List AV):AV:=match vs with
 | [v]=>v
 | vs=>.tup vs
def sub:Code->List Bool->Code
 | c,[]=>c
 | .seq a b,t::p=>cond t (sub b p) (sub a p)
 | .cond _ a b,t::p=>cond t (sub b p) (sub a p)
 | .block _ c,_::p=>sub c p
 | .loop c,_::p=>sub c p
 | .scope c,_::p=>sub c p
 | c,_=>c
def aJ (fn:Func):Code:=match fn.body with
 | some c=>c
 | none=>.skip
section
variable {E:lH} {f:FuncId} {kp:Nat} {kN:Kt} {kE:Nat->Kt} {kR:Kt} {φ φ1 φ2:Kt} {a b c:Code}
theorem bFr (h:c=.seq a b) (hb:aK E f kp b kN kE kR=φ1) (ha:aK E f kp a φ1 kE kR=φ):aK E f kp c kN kE kR=φ:=by subst h;subst hb;exact ha
theorem aTp {x:Operand} (h:c=.cond x a b) (ha:aK E f kp a kN kE kR=φ1) (hb:aK E f kp b kN kE kR=φ2):aK E f kp c kN kE kR=fun g s=>aZ (ev (bX E) g x) (φ1 g s) (φ2 g s):=by subst h;subst ha;subst hb;rfl
theorem aQo {id:Nat} (h:c=.block id a) (ha:aK E f kp a kN (fun i=>cond (Nat.beq i id) kN (kE i)) kR=φ):aK E f kp c kN kE kR=φ:=by subst h;exact ha
theorem aNg (h:c=.scope a) (ha:aK E f kp a kN kE kR=φ):aK E f kp c kN kE kR=φ:=by subst h;exact ha
theorem aM {t:Code} {p:List Bool} (hb:aK E f kp (sub t (p++[true])) kN kE kR=φ1) (ha:aK E f kp (sub t (p++[false])) φ1 kE kR=φ) (h:sub t p=.seq (sub t (p++[false])) (sub t (p++[true])):=by kernel_rfl):aK E f kp (sub t p) kN kE kR=φ:=bFr h hb ha
theorem cdA {t:Code} {p:List Bool} (x:Operand) (ha:aK E f kp (sub t (p++[false])) kN kE kR=φ1) (hb:aK E f kp (sub t (p++[true])) kN kE kR=φ2) (h:sub t p=.cond x (sub t (p++[false])) (sub t (p++[true])):=by kernel_rfl):aK E f kp (sub t p) kN kE kR=fun g s=>aZ (ev (bX E) g x) (φ1 g s) (φ2 g s):=aTp h ha hb
theorem dV {t:Code} {p:List Bool} (id:Nat) (ha:aK E f kp (sub t (p++[false])) kN (fun i=>cond (Nat.beq i id) kN (kE i)) kR=φ) (h:sub t p=.block id (sub t (p++[false])):=by kernel_rfl):aK E f kp (sub t p) kN kE kR=φ:=aQo h ha
theorem nW {t:Code} {p:List Bool} (ha:aK E f kp (sub t (p++[false])) kN kE kR=φ) (h:sub t p=.scope (sub t (p++[false])):=by kernel_rfl):aK E f kp (sub t p) kN kE kR=φ:=aNg h ha
theorem aWd {L:Nat->Kt} (h:c=.loop a) (h0:L 0=fun _ _=>False) (hs:∀ n,aK E f kp a (fun g s=>L n (fun k=>cond (bN kp k) (g k) .undef) s) kE kR=L (n+1)):aK E f kp c kN kE kR=fun g s=>∃ n,L n g s:=by
 subst h
 have key:∀ n,(Nat.rec (motive:=fun _=>Kt) (fun _ _=>False) (fun _ ih g s=>aK E f kp a (fun g s=>ih (fun k=>cond (bN kp k) (g k) .undef) s) kE kR g s) n:Kt)=L n:=by
  intro n
  induction n with
  | zero=>exact h0.symm
  | succ n ih =>rw [<- hs n];show (fun g s=>aK E f kp a (fun g s=>(Nat.rec (motive:=fun _=>Kt) (fun _ _=>False) (fun _ ih g s=>aK E f kp a (fun g s=>ih (fun k=>cond (bN kp k) (g k) .undef) s) kE kR g s) n:Kt) (fun k=>cond (bN kp k) (g k) .undef) s) kE kR g s)=_;rw [ih]
 funext g s;show (∃ n,(Nat.rec (motive:=fun _=>Kt) (fun _ _=>False) (fun _ ih g s=>aK E f kp a (fun g s=>ih (fun k=>cond (bN kp k) (g k) .undef) s) kE kR g s) n:Kt) g s)=_;simp only [key]
theorem mB {t:Code} {p:List Bool} {L:Nat->Kt} (hs:∀ n,aK E f kp (sub t (p++[false])) (fun g s=>L n (fun k=>cond (bN kp k) (g k) .undef) s) kE kR=L (n+1)) (h:sub t p=.loop (sub t (p++[false])):=by kernel_rfl) (h0:L 0=fun _ _=>False:=by kernel_rfl):aK E f kp (sub t p) kN kE kR=fun g s=>∃ n,L n g s:=aWd h h0 hs
end
end
end Go.Proofs.YtdehdahimkcakaaGreatDoor.Ai
