/- Texts joined by wip/tools/pack.py: SimE,Walk1,bB,Walk2,Walk3. -/
import Derived.Orders
import Derived.Test.YtdehdahimkcakaaGreatDoorXe
open Nat renaming reduceAdd→Z0, reduceEqDiff→Z1
set_option linter.unusedSimpArgs false
set_option linter.unusedVariables false
noncomputable section
namespace Go.Proofs.YtdehdahimkcakaaGreatDoor.Ai
open Go
section
variable {P:Program} {T:Ty} {F:Fz} {ρ ρ':fD} {s:St} {W:World}
def St.part (s:St) (p:Nat->Bool):St:=⟨fun m=>cond (p m) (s.h m) none,s.nx⟩
def St.join (s t:St) (p:Nat->Bool) (n:Nat):St:=⟨fun m=>cond (p m) (t.h m) (s.h m),n⟩
theorem TS {p:Nat->Bool} {m:Nat} (h:p m=true):(s.part p).h m=s.h m:=by simp [St.part,h]
theorem lD {p:Nat->Bool} {m:Nat} (h:(s.part p).h m≠none):p m=true/\s.h m≠none:=by
 cases hp:p m with
 | true=>rw [TS hp] at h;exact ⟨rfl,h⟩
 | false=>simp [St.part,hp] at h
theorem R.part (h:R T F ρ s W) (p:Nat->Bool):R T F ρ (s.part p) W:=by refine ⟨fun id b hb=>?_,fun i j β z1 z2 hi hj=>h.inj i j β z1 z2 (lD hi).2 (lD hj).2,fun a v ha=>⟨(h.fz a v ha).1,fun i z hi=>(h.fz a v ha).2 i z (lD hi).2⟩,h.fresh⟩;obtain ⟨h1,h2⟩:=lD (s:=s) (p:=p) (m:=id) (by rw [hb];simp);rw [TS h1] at hb;exact h.blk id b hb
theorem rZ {t:St} {p:Nat->Bool} {n m:Nat} (h:p m=true):(s.join t p n).h m=t.h m:=by simp [St.join,h]
theorem nZ {t:St} {p:Nat->Bool} {n m:Nat} (h:p m=false):(s.join t p n).h m=s.h m:=by simp [St.join,h]
theorem NJ (hR:R T F ρ s W) {p:Nat->Bool} {t:St} {F':Fz} {W':World} (hS:dM (s.part p) ρ F W t ρ' F' W') (hR':R T F' ρ' t W') {n:Nat} (hn:t.nx<=n) :
  R T F' ρ' (s.join t p n) W'/\dM s ρ F W (s.join t p n) ρ' F' W':=by
 have hsub:∀ β,uV ρ (s.part p) β->uV ρ s β:=fun β ⟨i,z,h1,h2⟩=>⟨i,z,(lD h1).2,h2⟩;have hnot:∀ m β z,p m=false->s.h m≠none->ρ m=some (β,z)->¬ uV ρ (s.part p) β:=fun m β z hp hm hρ ⟨i,z',h1,h2⟩=>by obtain ⟨q1,q2⟩:=lD h1;have:=hR.inj i m β z' z q2 hm h2 hρ;rw [this,hp] at q1;cases q1
 have hlt:∀ m β z,s.h m≠none->ρ m=some (β,z)->β < W.heap.size:=fun m β z hm hρ=>by obtain ⟨b,hb⟩:=Option.ne_none_iff_exists'.1 hm;obtain ⟨β',z',o,h1,h2,h3,h4⟩:=hR.lt hb;rw [hρ] at h1;cases h1;exact h4
 have hold:∀ m,s.h m≠none->ρ' m=ρ m:=fun m hm=>by obtain ⟨b,hb⟩:=Option.ne_none_iff_exists'.1 hm;obtain ⟨β',z',o,h1,_⟩:=hR.lt hb;rw [hS.rho _ _ h1,h1]
 refine ⟨⟨fun m b hb=>?_,fun i j β z1 z2 hi hj h1 h2=>?_,fun a v ha=>⟨(hR'.fz a v ha).1,fun i z hi hc=>?_⟩,fun i hi=>hR'.fresh i (FN hn hi)⟩,
  ⟨hS.rho,hS.fz,hS.os,hS.tape,hS.output,hS.size,fun β hβ hl=>hS.same β hβ fun h=>hl (hsub β h),fun β ⟨i,z,h1,h2⟩ hβ=>?_,fun a v ha hb hl=>hS.cold a v ha hb fun h=>hl (hsub _ h)⟩⟩
 ·cases hp:p m with
  | true=>rw [rZ hp] at hb;exact hR'.blk m b hb
  | false =>rw [nZ hp] at hb;obtain ⟨β,z,o,k1,k2,k3,k4⟩:=hR.lt hb;exact ⟨β,z,o,hS.rho _ _ k1,by rw [hS.same β k4 (hnot m β z hp (by rw [hb];simp) k1)];exact k2,k3.mono hS.fz hS.rho⟩
 ·have mixed:∀ i j β z1 z2,p i=true->p j=false->t.h i≠none->s.h j≠none->ρ' i=some (β,z1)->ρ' j=some (β,z2)->False:=by
   intro i j β z1 z2 hpi hpj hi hj h1 h2;rw [hold j hj] at h2;exact hnot j β z2 hpj hj h2 (hS.born β ⟨i,z1,hi,h1⟩ (hlt j β z2 hj h2))
  cases hpi:p i with
  | true =>
   rw [rZ hpi] at hi
   cases hpj:p j with
   | true=>rw [rZ hpj] at hj;exact hR'.inj i j β z1 z2 hi hj h1 h2
   | false=>rw [nZ hpj] at hj;exact (mixed i j β z1 z2 hpi hpj hi hj h1 h2).elim
  | false =>
   rw [nZ hpi] at hi
   cases hpj:p j with
   | true=>rw [rZ hpj] at hj;exact (mixed j i β z2 z1 hpj hpi hj hi h2 h1).elim
   | false =>rw [nZ hpj] at hj;rw [hold i hi] at h1;rw [hold j hj] at h2;exact hR.inj i j β z1 z2 hi hj h1 h2
 ·cases hpi:p i with
  | true=>rw [rZ hpi] at hi;exact (hR'.fz a v ha).2 i z hi hc
  | false =>rw [nZ hpi] at hi;rw [hold i hi] at hc;exact (hR.fz a v (hS.cold a v ha (hlt i _ z hi hc) (hnot i _ z hpi hi hc))).2 i z hi hc
 ·cases hpi:p i with
  | true=>rw [rZ hpi] at h1;exact hsub β (hS.born β ⟨i,z,h1,h2⟩ hβ)
  | false =>rw [nZ hpi] at h1;rw [hold i h1] at h2;exact ⟨i,z,h1,h2⟩
end
end Go.Proofs.YtdehdahimkcakaaGreatDoor.Ai
namespace Go.Proofs.YtdehdahimkcakaaGreatDoor.Ai
open Go
section
variable {P:Program} {T:Ty} {F:Fz} {ρ ρ':fD} {s:St} {W:World}
def dG (X:Cx):Prop:=∀ f args s r s',X.call true f args s=some (r,s')->s'=s/\∀ n,X.call true f args ⟨s.h,n⟩=some (r,⟨s.h,n⟩)
theorem bFs (T:Ty) (s:St) (n:Nat):∀ k v,pur T ⟨s.h,n⟩ k v=pur T s k v:=by
 intro k
 induction k with
 | zero=>intro v;unfold pur;rfl
 | succ k ih =>intro v;have e:pur T ⟨s.h,n⟩ k=pur T s k:=funext ih;unfold pur;simp only [e]
theorem tN (E:lX) (cl:FuncId->List AV->St->Option (AV×St)) (f:FuncId):dG (cx E cl f):=by
 intro g args s r s' h;have h:gW E cl f true g args s=some (r,s'):=h
 have goal:∀ s',gW E cl f true g args s=some (r,s')->s'=s/\∀ n,gW E cl f true g args ⟨s.h,n⟩=some (r,⟨s.h,n⟩):=by
  intro s' h;have e:∀ n,pur E.P ⟨s.h,n⟩ 12=pur E.P s 12:=fun n=>funext (bFs E.P s n 12);unfold gW at h ⊢
  split at h
  ·rename_i hp;simp only [if_pos hp,e]
   cases hl:dJ (pur E.P s 12) args with
   | none=>rw [hl] at h;cases h
   | some as =>
    rw [hl] at h;simp only [Option.bind_some] at h ⊢
    cases hc:cl g as.1 St.empty with
    | none=>rw [hc] at h;cases h
    | some q =>
     rw [hc] at h;simp only [Option.bind_some] at h ⊢
     cases hv:pur E.P q.2 12 q.1 with
     | none=>rw [hv] at h;cases h
     | some v =>
      rw [hv] at h;simp only [Option.bind_some] at h ⊢
      split at h
      ·rename_i hcond;simp only [m000,m001] at h;obtain ⟨rfl,rfl⟩:=h;exact ⟨rfl,fun n=>by rw [if_pos hcond]⟩
      ·simp at h
  ·simp at h
 exact goal s' h
theorem hY {s t:St} {r:AV} {q:Option AV} (h:q.map (·,s)=some (r,t)):t=s/\q=some r:=by
 cases q with
 | none=>cases h
 | some x=>simp only [Option.map_some,m000,m001] at h;exact ⟨h.2.symm,by rw [h.1]⟩
theorem sH {X:Cx} {b:Builtin} {ats:Array TypeId} {args:List AV} {id:Nat} {r:AV} {t:St} (h:bG X b ats args id s=some (r,t)) (hw:b≠.append/\b≠.copy/\b≠.unsafeString) :
  t=s/\∀ n,bG X b ats args id ⟨s.h,n⟩=some (r,⟨s.h,n⟩):=by
 unfold bG at h
 split at h
 ·rename_i x
  cases hd:(ats[0]?).bind (dZ X.P) with
  | none=>rw [hd] at h;cases h
  | some d =>
   rw [hd] at h;simp only [Option.bind_some] at h
   split at h
   ·rename_i hl
    cases hn:tE x s with
    | none=>rw [hn] at h;cases h
    | some k =>rw [hn] at h;simp only [Option.map_some,m000,m001] at h;obtain ⟨rfl,rfl⟩:=h;refine ⟨rfl,fun n=>?_⟩;simp only [bG,hd,Option.bind_some,if_pos hl];rw [show tE x ⟨s.h,n⟩=tE x s from rfl,hn];rfl
   ·cases h
 ·rename_i x
  cases hd:(ats[0]?).bind (dZ X.P) with
  | none=>rw [hd] at h;cases h
  | some d =>
   rw [hd] at h;simp only [Option.bind_some] at h
   split at h
   ·cases hn:QA x with
    | none=>rw [hn] at h;cases h
    | some k =>rw [hn] at h;simp only [Option.map_some,m000,m001] at h;obtain ⟨rfl,rfl⟩:=h;refine ⟨rfl,fun n=>?_⟩;simp only [bG,hd,Option.bind_some,hn];rfl
   ·cases h
 ·obtain ⟨h1,h2⟩:=hY h;exact ⟨h1,fun n=>by simp only [bG,h2];rfl⟩
 ·obtain ⟨h1,h2⟩:=hY h;exact ⟨h1,fun n=>by simp only [bG,h2];rfl⟩
 ·exact absurd rfl hw.1
 ·exact absurd rfl hw.2.1
 ·split at h
  ·simp only [m000,m001] at h;obtain ⟨rfl,rfl⟩:=h;exact ⟨rfl,fun n=>rfl⟩
  ·rename_i i off _ cap _
   cases hb:s.h i with
   | none=>rw [hb] at h;cases h
   | some bk =>
    rw [hb] at h
    cases bk with
    | cells c e' ex wr =>
     simp only at h
     split at h
     ·rename_i hc;simp only [m000,m001] at h;obtain ⟨rfl,rfl⟩:=h;refine ⟨rfl,fun n=>?_⟩;simp only [bG,hb];rw [if_pos hc]
     ·cases h
    | _=>cases h
  ·cases h
 ·exact absurd rfl hw.2.2
 ·cases h
theorem xX {X:Cx} (hp:dG X) {id:Nat} {e:Operand->AV} {o:Oper} {r:AV} {t:St} (h:fX X true id e o s=some (r,t)) (hw:cI o.op=false) :
  t=s/\∀ n,fX X true id e o ⟨s.h,n⟩=some (r,⟨s.h,n⟩):=by
 unfold fX at h ⊢
 cases ho:o.op with
 | move x=>simp only [ho,m000,m001] at h ⊢;exact ⟨h.2.symm,fun n=>⟨h.1,trivial⟩⟩
 | assign x=>simp only [ho,m000,m001] at h ⊢;exact ⟨h.2.symm,fun n=>⟨h.1,trivial⟩⟩
 | pick c a b =>
  simp only [ho] at h ⊢
  cases hb:KA (e c) with
  | none=>rw [hb] at h;cases h
  | some q=>rw [hb] at h;simp only [Option.bind_some,m000,m001] at h ⊢;exact ⟨h.2.symm,fun n=>⟨h.1,trivial⟩⟩
 | alloc=>rw [ho] at hw;cases hw
 | box=>rw [ho] at hw;cases hw
 | store=>rw [ho] at hw;cases hw
 | mapUpdate=>rw [ho] at hw;cases hw
 | makeSlice=>rw [ho] at hw;cases hw
 | makeMap=>rw [ho] at hw;cases hw
 | build=>simp only [ho] at h ⊢;obtain ⟨h1,h2⟩:=hY h;exact ⟨h1,fun n=>by rw [h2];rfl⟩
 | buildSlice=>simp only [ho] at h ⊢;obtain ⟨h1,h2⟩:=hY h;exact ⟨h1,fun n=>by rw [h2];rfl⟩
 | binOp=>simp only [ho] at h ⊢;obtain ⟨h1,h2⟩:=hY h;exact ⟨h1,fun n=>by rw [h2];rfl⟩
 | unOp=>simp only [ho] at h ⊢;obtain ⟨h1,h2⟩:=hY h;exact ⟨h1,fun n=>by rw [h2];rfl⟩
 | fieldAddr=>simp only [ho] at h ⊢;obtain ⟨h1,h2⟩:=hY h;exact ⟨h1,fun n=>by rw [h2];rfl⟩
 | field=>simp only [ho] at h ⊢;obtain ⟨h1,h2⟩:=hY h;exact ⟨h1,fun n=>by rw [h2];rfl⟩
 | indexAddr=>simp only [ho] at h ⊢;obtain ⟨h1,h2⟩:=hY h;exact ⟨h1,fun n=>by rw [h2];rfl⟩
 | index=>simp only [ho] at h ⊢;obtain ⟨h1,h2⟩:=hY h;exact ⟨h1,fun n=>by rw [h2];rfl⟩
 | convert src dst x =>simp only [ho] at h ⊢;obtain ⟨h1,h2⟩:=hY h;exact ⟨h1,fun n=>by rw [show kG X.P src dst (e x) ⟨s.h,n⟩=kG X.P src dst (e x) s from rfl,h2];rfl⟩
 | slice ty x lo hi mx =>simp only [ho] at h ⊢;obtain ⟨h1,h2⟩:=hY h;exact ⟨h1,fun n=>by rw [show fJ X.P ty (e x) (lo.map e) (hi.map e) (mx.map e) ⟨s.h,n⟩=fJ X.P ty (e x) (lo.map e) (hi.map e) (mx.map e) s from rfl,h2];rfl⟩
 | lookup ty m k ok =>simp only [ho] at h ⊢;obtain ⟨h1,h2⟩:=hY h;exact ⟨h1,fun n=>by rw [show hJ X.P ty (e m) (e k) ok ⟨s.h,n⟩=hJ X.P ty (e m) (e k) ok s from rfl,h2];rfl⟩
 | load ty a =>
  simp only [ho] at h ⊢
  cases hl:eN X.P ty with
  | none=>rw [hl] at h;cases h
  | some l =>rw [hl] at h;simp only [Option.bind_some] at h ⊢;obtain ⟨h1,h2⟩:=hY h;exact ⟨h1,fun n=>by rw [show load l.1 l.2 (e a) ⟨s.h,n⟩=load l.1 l.2 (e a) s from rfl,h2];rfl⟩
 | nilCheck x =>
  simp only [ho] at h ⊢
  split at h<;>first | (cases h;done) | (simp only [m000,m001] at h ⊢;exact ⟨h.2.symm,fun n=>⟨h.1,trivial⟩⟩)
 | makeInterface ty x =>
  simp only [ho] at h ⊢
  split at h
  ·cases h
  ·cases h
  ·simp only [m000,m001] at h;exact ⟨h.2.symm,fun n=>by simp only [h.1]⟩
 | makeFunc fn a b =>cases fn<;>simp only [ho] at h ⊢<;>first | (cases h;done) | (simp only [m000,m001] at h ⊢;exact ⟨h.2.symm,fun n=>⟨h.1,trivial⟩⟩)
 | extract x i =>
  simp only [ho] at h ⊢
  split at h
  ·rename_i vs _;obtain ⟨h1,h2⟩:=hY h;exact ⟨h1,fun n=>by simp only [h2];rfl⟩
  ·cases h
 | call c =>
  simp only [ho] at h ⊢
  cases hc:c.callee with
  | value f =>
   simp only [hc] at h ⊢
   split at h
   ·exact hp _ _ _ _ _ h
   ·cases h
  | invoke a b=>simp only [hc] at h;cases h
  | builtin b =>
   simp only [hc] at h ⊢;rw [ho] at hw
   exact sH h (by
    refine ⟨?_,?_,?_⟩<;>(intro hb;subst hb;simp [cI,hc] at hw))
 | _=>simp only [ho] at h;cases h
theorem QZ {X:Cx} {b:Builtin} {ats:Array TypeId} {args:List AV} {id:Nat} {r:AV} {t:St} (h:bG X b ats args id s=some (r,t)):t.nx=s.nx:=by
 by_cases hb:b≠.append/\b≠.copy/\b≠.unsafeString
 ·rw [(sH h hb).1]
 ·have grown_nx:∀ e z b c (s1:St),eC e z b c id s1=some (r,t)->t.nx=s1.nx:=fun e z b c s1 h=>by
   unfold eC at h
   split at h
   ·simp only [kD,m000,m001] at h;obtain ⟨_,rfl⟩:=h;rfl
   ·cases h
  have append_nx:∀ e z b x c,bM e z b x c id s=some (r,t)->t.nx=s.nx:=fun e z b x c h=>by
   unfold bM at h
   split at h
   ·split at h<;>first | (cases h;done) | (simp only [m000,m001] at h;obtain ⟨_,rfl⟩:=h;rfl)
   ·split at h
    ·cases h
    ·split at h
     ·exact grown_nx _ _ _ _ _ h
     ·split at h
      ·exact grown_nx _ _ _ _ _ h
      ·cases h
     ·split at h
      ·split at h
       ·split at h
        ·split at h
         ·split at h
          ·simp only [m000,m001] at h;obtain ⟨_,rfl⟩:=h;rfl
          ·cases h
         ·exact grown_nx _ _ _ _ _ h
        ·split at h
         ·simp only [m000,m001] at h;obtain ⟨_,rfl⟩:=h;rfl
         ·split at h
          ·exact grown_nx _ _ _ _ (s.set _ none) h
          ·cases h
       ·cases h
      ·cases h
     ·cases h
  unfold bG at h
  split at h
  ·exact absurd ⟨by simp,by simp,by simp⟩ hb
  ·exact absurd ⟨by simp,by simp,by simp⟩ hb
  ·exact absurd ⟨by simp,by simp,by simp⟩ hb
  ·exact absurd ⟨by simp,by simp,by simp⟩ hb
  ·split at h
   ·split at h
    ·split at h
     ·exact append_nx _ _ _ _ _ h
     ·cases h
    ·cases h
   ·split at h
    ·split at h
     ·cases hc:aR _ _ s with
      | none=>rw [hc] at h;cases h
      | some c=>rw [hc] at h;exact append_nx _ _ _ _ _ h
     ·cases h
    ·cases h
   ·split at h
    ·split at h
     ·cases hc:aR _ _ s with
      | none=>rw [hc] at h;cases h
      | some c=>rw [hc] at h;exact append_nx _ _ _ _ _ h
     ·cases h
    ·cases h
   ·cases h
  ·split at h
   ·split at h
    ·split at h
     ·cases h
     ·cases hc:aR _ _ s with
      | none=>rw [hc] at h;cases h
      | some c =>
       rw [hc] at h;simp only [Option.bind_some] at h;unfold oX at h
       split at h
       ·simp only [m000,m001] at h;obtain ⟨_,rfl⟩:=h;rfl
       ·simp only [m000,m001] at h;obtain ⟨_,rfl⟩:=h;rfl
       ·simp only [m000,m001] at h;obtain ⟨_,rfl⟩:=h;rfl
       ·simp only at h
        split at h
        ·split at h
         ·simp only [m000,m001] at h;obtain ⟨_,rfl⟩:=h;rfl
         ·cases h
        ·cases h
       ·cases h
    ·cases h
   ·cases h
  ·exact absurd ⟨by simp,by simp,by simp⟩ hb
  ·split at h
   ·split at h
    ·split at h
     ·split at h
      ·split at h
       ·cases hc:fW _ with
        | none=>rw [hc] at h;cases h
        | some c =>
         rw [hc] at h;simp only [Option.bind_some] at h
         split at h
         ·simp only [m000,m001] at h;obtain ⟨_,rfl⟩:=h;rfl
         ·cases h
       ·cases h
      ·cases h
     ·cases h
    ·simp only [m000,m001] at h;obtain ⟨_,rfl⟩:=h;rfl
    ·simp only [m000,m001] at h;obtain ⟨_,rfl⟩:=h;rfl
    ·cases h
   ·cases h
  ·cases h
theorem aZa {X:Cx} (hp:dG X) {id:Nat} {e:Operand->AV} {o:Oper} {r:AV} {t:St} (h:fX X true id e o s=some (r,t)):t.nx=s.nx:=by
 cases hw:cI o.op with
 | false=>rw [(xX hp h hw).1]
 | true =>
  unfold fX at h;cases ho:o.op<;>rw [ho] at hw<;>first | (cases hw;done) | skip
  case alloc ty =>
   simp only [ho] at h
   cases hz:zero X.P ty with
   | none=>rw [hz] at h;cases h
   | some z=>rw [hz] at h;simp only [Option.map_some,m000,m001] at h;obtain ⟨_,rfl⟩:=h;rfl
  case box ty x =>
   simp only [ho] at h
   split at h
   ·simp only [m000,m001] at h;obtain ⟨_,rfl⟩:=h;rfl
   ·cases h
  case store ty a x =>
   simp only [ho] at h
   cases hl:eN X.P ty with
   | none=>rw [hl] at h;cases h
   | some l =>
    rw [hl] at h;simp only [Option.bind_some] at h
    cases hs:Ai.store l.1 (e a) (e x) s with
    | none=>rw [hs] at h;cases h
    | some s1 =>
     rw [hs] at h;simp only [Option.map_some,m000,m001] at h;obtain ⟨_,rfl⟩:=h;unfold Ai.store at hs
     split at hs
     ·split at hs
      ·split at hs
       ·simp only [m000] at hs;subst hs;rfl
       ·cases hs
      ·cases hs
     ·cases hs
  case makeMap ty q =>
   cases q with
   | none=>simp only [ho,m000,m001] at h;obtain ⟨_,rfl⟩:=h;rfl
   | some q=>simp only [ho] at h;cases h
  case makeSlice ty n c =>
   simp only [ho] at h
   split at h
   ·split at h
    ·split at h
     ·simp only [m000,m001] at h;obtain ⟨_,rfl⟩:=h;rfl
     ·cases h
    ·cases h
   ·cases h
  case mapUpdate ty m k x =>
   simp only [ho] at h
   cases hs:iC X.P ty (e m) (e k) (e x) s with
   | none=>rw [hs] at h;cases h
   | some s1 =>
    rw [hs] at h;simp only [Option.map_some,m000,m001] at h;obtain ⟨_,rfl⟩:=h;unfold iC at hs
    split at hs
    ·rename_i kt _ _
     cases hk:dZ X.P kt with
     | none=>rw [hk] at hs;cases hs
     | some kd =>
      rw [hk] at hs;simp only [Option.bind_some] at hs
      split at hs
      ·split at hs
       ·split at hs
        ·cases hf:find (e k) _ with
         | none=>rw [hf] at hs;cases hs
         | some q=>rw [hf] at hs;simp only [Option.map_some,m000] at hs;subst hs;rfl
        ·cases hs
       ·cases hs
      ·cases hs
    ·cases hs
  case call c =>
   simp only [ho] at h
   cases hc:c.callee with
   | value f=>simp [cI,hc] at hw
   | invoke a b=>simp [cI,hc] at hw
   | builtin b=>simp only [hc] at h;exact QZ h
theorem WB {X:Cx} {dr:Bool} {id:Nat} {e e':Operand->AV} {o:Oper} (h:∀ x∈iX o.op,e x=e' x) (s:St):fX X dr id e o s=fX X dr id e' o s:=by
 have parts:∀ ps:Array (Nat×Operand),(∀ x∈ps.toList.map (·.2),e x=e' x)->(ps.toList.map fun p=>(p.1,e p.2))=(ps.toList.map fun p=>(p.1,e' p.2)):=fun ps hp =>
  List.map_congr_left fun p hm=>by rw [hp p.2 (m021.2 ⟨p,hm,rfl⟩)]
 unfold fX;cases ho:o.op<;>rw [ho] at h<;>simp only [iX] at h
 case build ty ps=>simp only [parts ps h]
 case buildSlice ty n ps=>simp only [parts ps h]
 case makeFunc fn a b =>cases fn<;>simp only;rw [List.map_congr_left (fun x hx=>h x (m041 _ hx)),List.map_congr_left (l:=b.toList) (fun x hx=>h x (m049 _ hx))]
 case slice ty x lo hi mx =>
  have h1:e x=e' x:=h x (m007 ..);have hl:lo.map e=lo.map e':=by cases lo with | none=>rfl | some y=>simp only [Option.map_some,h y (by simp)]
  have hh:hi.map e=hi.map e':=by cases hi with | none=>rfl | some y=>simp only [Option.map_some,h y (by simp)]
  have hm:mx.map e=mx.map e':=by cases mx with | none=>rfl | some y=>simp only [Option.map_some,h y (by simp)]
  simp only [h1,hl,hh,hm]
 case call c =>
  have ha:c.args.toList.map e=c.args.toList.map e':=List.map_congr_left fun x hx=>h x (m049 _ hx)
  cases hc:c.callee with
  | value f =>have hf:e f=e' f:=h f (by simp [hc]);simp only [ha,hc,hf]
  | invoke a b=>simp only [hc]
  | builtin b=>simp only [ha,hc]
 case makeMap ty q=>cases q<;>rfl
 all_goals (first | rfl | (simp_all;done))
end
end Go.Proofs.YtdehdahimkcakaaGreatDoor.Ai
namespace Go.Proofs.YtdehdahimkcakaaGreatDoor.Ai
open Go
section
variable {P:Program} {T:Ty} {F:Fz} {ρ ρ':fD} {s:St} {W:World}
theorem yY {s t:St} (h:∀ m,s.h m=t.h m) (hn:s.nx=t.nx):s=t:=by cases s;cases t;simp only at hn;subst hn;congr 1;exact funext h
theorem bL {n:Nat}:∀ {l:List Nat},dY n l=true↔n∈l:=by
 intro l
 induction l with
 | nil=>simp [dY]
 | cons m l ih=>simp [dY,ih,Nat.beq_eq]
theorem VO (hR:R T F ρ s W) {m:Nat} (h:ρ m=none):s.h m=none:=by
 cases hb:s.h m with
 | none=>rfl
 | some b=>obtain ⟨β,z,o,h1,_⟩:=hR.blk m b hb;rw [h] at h1;cases h1
theorem bAr {X:Cx} (hT:dO P X.P) (hE:xU P X.P X.eqOk) (hC:lK P X) (hp:dG X) (hR:R X.P F ρ s W) (hG:GlobOk X.P X.glob F W) {id:Nat} (hid:ρ id=none) (hlt:id < s.nx) {e:Operand->AV} {g:Operand->Value} (he:∀ x,VR X.P F ρ (e x) (g x))
  {o:Oper} {r:AV} {s':St} (h:rR X id e o s=some (r,s')):cY P X.P id s ρ F W r s' (execOp g o):=by
 have hdead:=VO hR hid;unfold rR at h;generalize dL e o.op s=l at h
 cases hw:gQ X e o.op with
 | true =>
  rw [hw] at h;simp only [cond_true] at h
  cases ho:fX X false id e o (s.only l) with
  | none=>rw [ho] at h;cases h
  | some q =>
   obtain ⟨r1,t⟩:=q;rw [ho] at h;simp only [Option.map_some,m000,m001] at h;obtain ⟨rfl,rfl⟩:=h
   let p:Nat->Bool:=fun m=>dY m l||Nat.ble s.nx m
   have hpart:s.only l=s.part p:=yY (fun m=>by
    simp only [St.only,St.part,p]
    cases hb:Nat.ble s.nx m with
    | false=>simp
    | true =>
     have:s.h m=none:=VO hR (hR.fresh m (Nat.le_of_ble_eq_true hb))
     rw [this];cases dY m l<;>rfl) rfl
   rw [hpart] at ho;have:=QF hT hE hC (hR.part p) hG hid hlt he ho;refine this.map fun v W' ⟨ρ',F',k1,k2,k3,k4,k5⟩=>?_;obtain ⟨q1,q2⟩:=NJ hR k3 k2 (bH t.nx);exact ⟨ρ',F',k1,q1,q2,k4,k5⟩
 | false =>
  rw [hw] at h;simp only [cond_false] at h
  cases ho:fX X true id e o (s.only l) with
  | none=>rw [ho] at h;cases h
  | some q =>
   obtain ⟨r1,t⟩:=q;rw [ho] at h;simp only [Option.map_some,m000,m001] at h;obtain ⟨rfl,rfl⟩:=h
   let p:Nat->Bool:=fun m=>dY m (id::l)
   have hpart:s.only l=s.part p:=yY (fun m=>by
    simp only [St.only,St.part,p,dY]
    cases hb:Nat.beq m id with
    | false=>simp
    | true =>
     have hm:=jS hb;subst hm
     rw [hdead];cases dY m l<;>rfl) rfl
   have hnx:=aZa hp ho;have hrd:cI o.op=false->t=s.only l:=fun hwr=>(xX hp ho hwr).1;rw [hpart] at ho;have:=QF hT hE hC (hR.part p) hG hid hlt he ho;refine this.map fun v W' ⟨ρ',F',k1,k2,k3,k4,k5⟩=>?_;obtain ⟨q1,q2⟩:=NJ hR k3 k2 (n:=s.nx) (by rw [hnx];exact bH _)
   cases hwr:cI o.op with
   | true=>exact ⟨ρ',F',k1,q1,q2,k4,bH _⟩
   | false =>
    have hj:s.join t p s.nx=s:=yY (fun m=>by
     rw [hrd hwr];simp only [St.join,p]
     cases hm:dY m (id::l) with
     | false=>rfl
     | true =>
      simp only [cond_true,St.only];simp only [dY] at hm
      cases hb:Nat.beq m id with
      | true=>have hm':=jS hb;subst hm';rw [hdead];cases dY m l<;>rfl
      | false=>rw [hb,m026] at hm;rw [hm];rfl) rfl
    rw [hj] at q1 q2;exact ⟨ρ',F',k1,q1,q2,k4,bH _⟩
end
end Go.Proofs.YtdehdahimkcakaaGreatDoor.Ai
namespace Go.Proofs.YtdehdahimkcakaaGreatDoor.Ai
open Go
section
variable {s:St}
def re (n:Nat) (r:AV×St):AV×St:=(r.1,⟨r.2.h,n⟩)
theorem aFl (n:Nat) (e z b c id) (s:St):eC e z b c id ⟨s.h,n⟩=(eC e z b c id s).map (re n):=by unfold eC;split<;>rfl
theorem tB (n:Nat) (e z b x c id) (s:St):bM e z b x c id ⟨s.h,n⟩=(bM e z b x c id s).map (re n):=by
 have hg:∀ (c:List AV) (s:St),eC e z b c id ⟨s.h,n⟩=(eC e z b c id s).map (re n):=fun c s=>aFl n e z b c id s;unfold bM;dsimp only
 split
 ·split<;>rfl
 ·split
  ·rfl
  ·split
   ·exact hg _ _
   ·split
    ·exact hg _ _
    ·rfl
   ·split
    ·split
     ·split
      ·split
       ·split<;>rfl
       ·exact hg _ _
      ·split
       ·rfl
       ·split
        ·exact hg _ (s.set _ none)
        ·rfl
     ·rfl
    ·rfl
   ·rfl
theorem aNb (n:Nat) (z x c) (s:St):oX z x c ⟨s.h,n⟩=(oX z x c s).map (re n):=by
 unfold oX;dsimp only
 split
 ·rfl
 ·rfl
 ·rfl
 ·split
  ·split<;>rfl
  ·rfl
 ·rfl
theorem OH (n:Nat) (X:Cx) (b ats args id) (s:St):bG X b ats args id ⟨s.h,n⟩=(bG X b ats args id s).map (re n):=by
 unfold bG;dsimp only
 split
 ·cases (ats[0]?).bind (dZ X.P) with
  | none=>rfl
  | some d =>
   simp only [Option.bind_some]
   split
   ·rename_i x _;rw [show tE x ⟨s.h,n⟩=tE x s from rfl];cases tE x s<;>rfl
   ·rfl
 ·rename_i x
  cases (ats[0]?).bind (dZ X.P) with
  | none=>rfl
  | some d =>
   simp only [Option.bind_some]
   split
   ·cases QA x<;>rfl
   ·rfl
 ·cases FG (fun y x=>decide (y < x)) args<;>rfl
 ·cases FG (fun y x=>decide (x < y)) args<;>rfl
 ·split
  ·split
   ·split
    ·exact tB n _ _ _ _ _ id s
    ·rfl
   ·rfl
  ·split
   ·split
    ·rename_i y _ _ _ _ _ _ _ _ _ _ z _ _ _ _ _ _ _;rw [show aR _ _ ⟨s.h,n⟩=aR _ _ s from rfl]
     cases aR _ _ s with
     | none=>rfl
     | some c=>exact tB n _ _ _ _ _ id s
    ·rfl
   ·rfl
  ·split
   ·split
    ·rw [show aR _ _ ⟨s.h,n⟩=aR _ _ s from rfl]
     cases aR _ _ s with
     | none=>rfl
     | some c=>exact tB n _ _ _ _ _ id s
    ·rfl
   ·rfl
  ·rfl
 ·split
  ·split
   ·split
    ·rfl
    ·rw [show aR _ _ ⟨s.h,n⟩=aR _ _ s from rfl]
     cases aR _ _ s with
     | none=>rfl
     | some c=>exact aNb n _ _ _ s
   ·rfl
  ·rfl
 ·split
  ·rfl
  ·split
   ·split<;>rfl
   ·rfl
  ·rfl
 ·split
  ·split
   ·split
    ·split
     ·split
      ·cases fW _ with
       | none=>rfl
       | some c =>
        simp only [Option.bind_some]
        split<;>rfl
      ·rfl
     ·rfl
    ·rfl
   ·rfl
   ·rfl
   ·rfl
  ·rfl
 ·rfl
theorem yC (n:Nat) (s:St) (q:Option AV):q.map (·,(⟨s.h,n⟩:St))=(q.map (·,s)).map (re n):=by cases q<;>rfl
theorem aQx {X:Cx} (hp:dG X) (n:Nat) (f:FuncId) (args:List AV) (s:St):X.call true f args ⟨s.h,n⟩=(X.call true f args s).map (re n):=by
 cases h:X.call true f args s with
 | some q =>obtain ⟨r,s'⟩:=q;obtain ⟨rfl,h2⟩:=hp _ _ _ _ _ h;rw [h2 n];rfl
 | none =>
  cases h2:X.call true f args ⟨s.h,n⟩ with
  | none=>rfl
  | some q =>obtain ⟨r,s'⟩:=q;have:=(hp _ _ _ _ _ h2).2 s.nx;have e:(⟨(⟨s.h,n⟩:St).h,s.nx⟩:St)=s:=rfl;rw [e,h] at this;cases this
theorem bAd {X:Cx} (hp:dG X) (n:Nat) (id:Nat) (e:Operand->AV) (o:Oper) (s:St):fX X true id e o ⟨s.h,n⟩=(fX X true id e o s).map (re n):=by
 unfold fX
 cases ho:o.op with
 | move | assign=>rfl
 | pick c a b=>simp only;cases KA (e c)<;>rfl
 | alloc ty=>simp only;cases zero X.P ty<;>rfl
 | box ty x=>simp only;split<;>rfl
 | build | buildSlice | binOp | unOp | fieldAddr | field | indexAddr | index=>exact yC n s _
 | convert src dst x=>exact yC n s (kG X.P src dst (e x) s)
 | slice ty x lo hi mx=>exact yC n s (fJ X.P ty (e x) (lo.map e) (hi.map e) (mx.map e) s)
 | lookup ty m k ok=>exact yC n s (hJ X.P ty (e m) (e k) ok s)
 | load ty a =>
  simp only
  cases eN X.P ty with
  | none=>rfl
  | some l=>exact yC n s (load l.1 l.2 (e a) s)
 | store ty a x =>
  simp only
  cases eN X.P ty with
  | none=>rfl
  | some l =>
   simp only [Option.bind_some]
   have:Ai.store l.1 (e a) (e x) ⟨s.h,n⟩=(Ai.store l.1 (e a) (e x) s).map fun t=>⟨t.h,n⟩:=by
    unfold Ai.store;dsimp only
    split
    ·split
     ·split<;>rfl
     ·rfl
    ·rfl
   rw [this];cases Ai.store l.1 (e a) (e x) s<;>rfl
 | nilCheck x=>simp only;split<;>rfl
 | makeInterface ty x=>simp only;split<;>rfl
 | makeFunc fn a b=>cases fn<;>rfl
 | makeMap ty q=>cases q<;>rfl
 | makeSlice ty a c =>
  simp only
  split
  ·split
   ·split<;>rfl
   ·rfl
  ·rfl
 | mapUpdate ty m k x =>
  simp only
  have:iC X.P ty (e m) (e k) (e x) ⟨s.h,n⟩=(iC X.P ty (e m) (e k) (e x) s).map fun t=>⟨t.h,n⟩:=by
   unfold iC;dsimp only
   split
   ·rename_i kt _ _
    cases dZ X.P kt with
    | none=>rfl
    | some kd =>
     simp only [Option.bind_some]
     split
     ·split
      ·split
       ·cases find (e k) _<;>rfl
       ·rfl
      ·rfl
     ·rfl
   ·rfl
  rw [this];cases iC X.P ty (e m) (e k) (e x) s<;>rfl
 | extract x i =>
  simp only
  split
  ·exact yC n s _
  ·rfl
 | call c =>
  simp only
  cases c.callee with
  | value f =>
   simp only
   split
   ·exact aQx hp n _ _ s
   ·rfl
  | invoke a b=>rfl
  | builtin b=>exact OH n X b c.argTypes _ id s
 | _=>rfl
theorem HQ (h:Nat->Option mK):∀ (f:Nat) (w seen:List Nat),∀ m∈seen,m∈kK h f w seen:=by
 intro f
 induction f with
 | zero=>intro w seen m hm;exact hm
 | succ f ih =>
  intro w seen m hm
  cases w with
  | nil=>exact hm
  | cons x w =>
   simp only [kK]
   cases dY x seen with
   | true=>exact ih w seen m hm
   | false =>
    simp only [cond_false]
    cases h x with
    | none=>exact ih w _ m (m005 _ hm)
    | some b=>exact ih _ _ m (m005 _ hm)
theorem aDb (h h':Nat->Option mK):∀ (f:Nat) (w seen:List Nat),(∀ m∈kK h f w seen,h' m=h m)->kK h' f w seen=kK h f w seen:=by
 intro f
 induction f with
 | zero=>intro w seen _;rfl
 | succ f ih =>
  intro w seen hm
  cases w with
  | nil=>rfl
  | cons x w =>
   simp only [kK] at hm ⊢
   cases hx:dY x seen with
   | true=>rw [hx] at hm;exact ih w seen hm
   | false =>
    rw [hx] at hm;simp only [cond_false] at hm ⊢
    have hxm:h' x=h x:=by
     cases hb:h x with
     | none=>rw [hb] at hm;rw [<- hb];exact hm x (HQ h f w _ x (m007 ..))
     | some b=>rw [hb] at hm;rw [<- hb];exact hm x (HQ h f _ _ x (m007 ..))
    rw [hxm]
    cases hb:h x with
    | none=>rw [hb] at hm;exact ih w _ hm
    | some b=>rw [hb] at hm;exact ih _ _ hm
end
end Go.Proofs.YtdehdahimkcakaaGreatDoor.Ai
namespace Go.Proofs.YtdehdahimkcakaaGreatDoor.Ai
open Go
section
variable {X:Cx} {s s':St}
theorem aDp {tm:List AV} {d:Option Nat} {v:AV} {t:Nat} (h:∀ u,d=some u->u≠t):gt (put tm d v) t=gt tm t:=by
 cases d with
 | none=>rfl
 | some u =>have hne:=h u rfl;simp only [gt,put,List.getD_eq_getElem?_getD,List.getElem?_set_ne hne]
theorem AB {tm:List AV} {d e:Option Nat} {v w:AV} (h:∀ a b,d=some a->e=some b->a≠b):put (put tm d v) e w=put (put tm e w) d v:=by
 cases d with
 | none=>rfl
 | some a =>
  cases e with
  | none=>rfl
  | some b=>exact List.set_comm v w (h a b rfl rfl)
theorem bBg {tm:List AV} {d:Option Nat} {v:AV} {x:Operand} (h:∀ u,d=some u->aKv u x=false):ev X (gt (put tm d v)) x=ev X (gt tm) x:=by
 cases x with
 | tmp t =>refine aDp fun u hu hut=>?_;have:=h u hu;subst hut;simp [aKv] at this
 | _=>rfl
theorem mF {all:List Oper} {o:Oper} {tm:List AV} {d:Option Nat} {v:AV} (h:∀ u,d=some u->MO all o u=false):∀ x∈iX o.op,ev X (gt (put tm d v)) x=ev X (gt tm) x:=by intro x hx;refine bBg fun u hu=>?_;have:=h u hu;simp only [MO,JX,List.any_eq_false] at this;simpa using this.1 x hx
theorem iE {all:List Oper} {o:Oper} {tm:List AV} {d:Option Nat} {v:AV} (h:∀ u,d=some u->MO all o u=false):bD all (gt (put tm d v)) o=bD all (gt tm) o:=by
 unfold bD
 cases hg:o.guard with
 | none=>rfl
 | some jw =>
  obtain ⟨j,w⟩:=jw;simp only
  cases hd:(all[j]?).bind (·.dst) with
  | none=>rfl
  | some t =>simp only;rw [aDp fun u hu hut=>?_];have:=h u hu;simp only [MO,JX,hg,hd] at this;have h2:=this.2;rw [hut] at h2;simp at h2
theorem AR {e e':Operand->AV} {o:Op} (h:∀ x∈iX o,e x=e' x):gQ X e o=gQ X e' o:=by
 cases o<;>try rfl
 rename_i c;unfold gQ
 cases hc:c.callee with
 | value f=>simp only [hc];rw [h f (by simp [iX,hc])]
 | invoke a b=>simp only [hc]
 | builtin b=>simp only [hc]
theorem PC {e e':Operand->AV} {o:Op} (h:∀ x∈iX o,e x=e' x):sD o e=sD o e':=by
 cases o<;>simp only [sD]<;>simp only [iX] at h
 case call c =>
  cases hc:c.callee with
  | builtin b =>
   simp only [hc] at h ⊢;have:∀ x∈c.args.toList,aS (e x)=aS (e' x):=fun x hx=>by rw [h x (by simp;exact Array.mem_toList_iff.1 hx)]
   simp only [List.flatMap];rw [List.map_congr_left this]
  | _=>rfl
 all_goals (first | rfl | (rw [h _ (by simp)];done))
theorem NT {e e':Operand->AV} {o:Op} (h:∀ x∈iX o,e x=e' x):(iX o).map e=(iX o).map e':=List.map_congr_left h
theorem qP {e e':Operand->AV} {o:Op} (h:∀ x∈iX o,e x=e' x) (s:St):dL e o s=dL e' o s:=by unfold dL;simp only [NT h,PC h]
theorem rM {id:Nat} {e e':Operand->AV} {o:Oper} (h:∀ x∈iX o.op,e x=e' x) (s:St):rR X id e o s=rR X id e' o s:=by unfold rR;simp only [AR h,qP h,WB h]
theorem NY {e e':Operand->AV} {o:Op} (h:∀ x∈iX o,e x=e' x) (id:Nat) (s:St):vE o id e s=vE o id e' s:=by unfold vE;simp only [qP h]
theorem kO {i id:Nat} {e e':Operand->AV} {o:Op} (h:∀ x∈iX o,e x=e' x) (s:St):bF X i id e o s=bF X i id e' o s:=by unfold bF;simp only [AR h,qP h,NY h]
def mC (wd wr:Bool) (id nx:Nat) (l:List Nat) (m:Nat):Bool:=cond wd (dY m l||Nat.ble nx m) (wr&&dY m (id::l))
theorem aFo {e:Operand->AV} {o:Op} (h:∀ m∈dL e o s,s'.h m=s.h m):dL e o s'=dL e o s:=by
 unfold dL at h ⊢;cases o<;>try rfl
 rename_i c;simp only at h ⊢
 cases hc:c.callee with
 | value f =>simp only [hc] at h ⊢;exact aDb s.h s'.h 4000 _ [] h
 | _=>rfl
theorem SR {l:List Nat} (h:∀ m∈l,s'.h m=s.h m):s'.only l=⟨(s.only l).h,s'.nx⟩:=by
 refine yY (fun m=>?_) rfl;simp only [St.only]
 cases hm:dY m l with
 | false=>rfl
 | true=>exact h m (bL.1 hm)
theorem LM (hp:dG X) {id:Nat} {e:Operand->AV} {o:Oper} {r:AV} {t:St} (h:rR X id e o s=some (r,t)) :
  (∀ m,mC (gQ X e o.op) (cI o.op) id s.nx (dL e o.op s) m=false->t.h m=s.h m)/\(gQ X e o.op=false->t.nx=s.nx) /\
  ∀ s':St,(∀ m∈dL e o.op s,s'.h m=s.h m)->(gQ X e o.op=true->s'.nx=s.nx)->dL e o.op s'=dL e o.op s /\
   ∃ t',rR X id e o s'=some (r,t')/\(∀ m,mC (gQ X e o.op) (cI o.op) id s.nx (dL e o.op s) m=true->t'.h m=t.h m) /\
    (∀ m,mC (gQ X e o.op) (cI o.op) id s.nx (dL e o.op s) m=false->t'.h m=s'.h m)/\(gQ X e o.op=true->t'.nx=t.nx)/\(gQ X e o.op=false->t'.nx=s'.nx):=by
 have hsh:∀ s':St,(∀ m∈dL e o.op s,s'.h m=s.h m)->dL e o.op s'=dL e o.op s:=fun s' h=>aFo h;unfold rR at h ⊢;generalize hl:dL e o.op s=l at h ⊢ hsh
 cases hw:gQ X e o.op with
 | true =>
  rw [hw] at h;simp only [cond_true] at h ⊢
  cases ho:fX X false id e o (s.only l) with
  | none=>rw [ho] at h;cases h
  | some q =>
   rw [ho] at h;simp only [Option.map_some,m000,m001] at h;obtain ⟨rfl,rfl⟩:=h;refine ⟨fun m hm=>?_,(fun hf=>(nomatch hf)),fun s' h1 h2=>?_⟩
   ·simp only [mC,cond_true] at hm;simp only [lP,hm,cond_false]
   ·have h2:=h2 trivial;rw [hsh s' h1];have ho':fX X false id e o (s'.only l)=some q:=by rw [SR h1,h2];exact ho
    rw [ho'];refine ⟨rfl,_,rfl,fun m hm=>?_,fun m hm=>?_,(fun _=>rfl),(fun hf=>(nomatch hf))⟩
    ·simp only [mC,cond_true] at hm;simp only [lP,h2,hm,cond_true]
    ·simp only [mC,cond_true] at hm;simp only [lP,h2,hm,cond_false]
 | false =>
  rw [hw] at h;simp only [cond_false] at h ⊢
  cases ho:fX X true id e o (s.only l) with
  | none=>rw [ho] at h;cases h
  | some q =>
   rw [ho] at h;simp only [Option.map_some,m000,m001] at h;obtain ⟨rfl,rfl⟩:=h;refine ⟨fun m hm=>?_,fun _=>?_,fun s' h1 h2=>?_⟩
   ·simp only [mC,cond_false] at hm
    cases hwr:cI o.op with
    | false=>rfl
    | true =>rw [hwr,m031] at hm;simp only [cond_true,St.merge,hm,cond_false]
   ·cases hwr:cI o.op<;>rfl
   ·rw [hsh s' h1];have ho':fX X true id e o (s'.only l)=some (re s'.nx q):=by rw [SR h1,bAd hp,ho];rfl
    rw [ho'];refine ⟨rfl,_,rfl,fun m hm=>?_,fun m hm=>?_,fun hf=>(nomatch hf),fun _=>?_⟩
    ·simp only [mC,cond_false] at hm
     cases hwr:cI o.op with
     | false=>rw [hwr] at hm;cases hm
     | true =>rw [hwr,m031] at hm;simp only [cond_true,St.merge,hm,re]
    ·simp only [mC,cond_false] at hm
     cases hwr:cI o.op with
     | false=>rfl
     | true =>rw [hwr,m031] at hm;simp only [cond_true,St.merge,hm,cond_false]
    ·cases hwr:cI o.op<;>rfl
theorem jU:∀ {l m:List Nat},tH l m=true->∀ n∈l,dY n m=false:=by
 intro l
 induction l with
 | nil=>intro m _ n hn;cases hn
 | cons a l ih =>
  intro m h n hn;simp only [tH,bN,Bool.not_eq_true'] at h;rcases m013.1 hn with rfl | hn
  ·exact h.1
  ·exact ih h.2 n hn
theorem MX {wa ra:Bool} {ia na:Nat} {la:List Nat} {wx rx:Bool} {ix nx:Nat} {lx:List Nat} {i j:Nat}
  (h:(cond wa ⟨i,true,la,some na⟩ ⟨i,ra,cond ra (ia::la) la,none⟩:eD).apart (cond wx ⟨j,true,lx,some nx⟩ ⟨j,rx,cond rx (ix::lx) lx,none⟩)=true) :
  (∀ m∈lx,mC wa ra ia na la m=false)/\(∀ m∈la,mC wx rx ix nx lx m=false)/\(∀ m,mC wa ra ia na la m=true->mC wx rx ix nx lx m=true->False)/\(wa=true->wx=false):=by
 have flip:∀ {l m:List Nat},tH l m=true->∀ n∈m,dY n l=false:=fun {l m} hd n hn=>by
  cases hb:dY n l with
  | false=>rfl
  | true=>have:=jU hd n (bL.1 hb);rw [bL.2 hn] at this;cases this
 have low:∀ {l:List Nat} {k:Nat},(l.all fun m=>Nat.blt m k)=true->∀ n∈l,Nat.ble k n=false:=fun {l k} hl n hn=>by
  have h1:=m032.1 hl n hn;have h2:n < k:=by simpa [Nat.blt_eq] using h1
  cases hb:Nat.ble k n with
  | false=>rfl
  | true=>have:=Nat.le_of_ble_eq_true hb;omega
 have tr:∀ {l m:List Nat} {n:Nat},tH l m=true->dY n l=true->dY n m=true->False:=fun {l m n} hd h1 h2=>by have:=jU hd n (bL.1 h1);rw [h2] at this;cases this
 cases wa<;>cases wx
 ·cases ra<;>cases rx
  ·simp [mC]
  all_goals
   simp only [cond_false,cond_true,eD.apart,DF,m025,m027,m059,m035,m071,m031,m026] at h;simp only [mC,cond_false,m031,m035]
  ·exact ⟨fun m _=>trivial,fun m hm=>jU h m hm,fun m h1=>(by simp at h1),fun h=>nomatch h⟩
  ·exact ⟨fun m hm=>flip h m hm,fun m hm=>trivial,fun m _ h1=>(by simp at h1),fun h=>nomatch h⟩
  ·exact ⟨fun m hm=>flip h m (m005 _ hm),fun m hm=>jU h m (m005 _ hm),fun m h1 h2=>tr h h1 h2,fun h=>nomatch h⟩
 ·simp only [cond_false,cond_true,eD.apart,DF,m025,m071,m026,m031,Option.isNone_none,bN] at h;obtain ⟨h1,h2⟩:=h;cases ra
  ·simp only [cond_false] at h1 h2;simp only [mC,cond_false,cond_true,m035];refine ⟨fun m _=>trivial,fun m hm=>?_,fun m h=>(by simp at h),(fun h=>(nomatch h))⟩;rw [jU h2 m hm,low h1 m hm];rfl
  ·simp only [cond_true] at h1 h2;simp only [mC,cond_false,cond_true,m031];refine ⟨fun m hm=>flip h2 m hm,fun m hm=>?_,fun m h3 h4=>?_,fun h=>nomatch h⟩
   ·rw [jU h2 m (m005 _ hm),low h1 m (m005 _ hm)];rfl
   ·have hm:=bL.1 h3;rw [jU h2 m hm,low h1 m hm] at h4;cases h4
 ·simp only [cond_false,cond_true,eD.apart,DF,m025,m035,m026,m031,m059,Option.isNone_none,bN] at h;obtain ⟨h1,h2⟩:=h;cases rx
  ·simp only [cond_false] at h1 h2;simp only [mC,cond_false,cond_true,m035];refine ⟨fun m hm=>?_,fun m _=>trivial,fun m _ h=>(by simp at h),fun _=>trivial⟩;rw [flip h2 m hm,low h1 m hm];rfl
  ·simp only [cond_true] at h1 h2;simp only [mC,cond_false,cond_true,m031];refine ⟨fun m hm=>?_,fun m hm=>jU h2 m hm,fun m h4 h3=>?_,fun _=>trivial⟩
   ·rw [flip h2 m (m005 _ hm),low h1 m (m005 _ hm)];rfl
   ·have hm:=bL.1 h3;rw [flip h2 m hm,low h1 m hm] at h4;cases h4
 ·simp [eD.apart,DF] at h
def qQ (X:Cx) (base:Nat) (all:List Oper) (i:Nat) (q:List AV×St):Option (Option eD×(List AV×St)) :=
 match all[i]? with
 | none=>none
 | some o=>(bD all (gt q.1) o).bind fun w=>cond w
   ((rR X (base+i) (ev X (gt q.1)) o q.2).map fun r=>(some (bF X i (base+i) (ev X (gt q.1)) o.op q.2),(put q.1 o.dst r.1,r.2)))
   (some (none,(put q.1 o.dst (.tup []),q.2)))
theorem MP {all:List Oper} {a x:Oper} (h:tK all a x=true) :
  (∀ u,a.dst=some u->MO all x u=false)/\(∀ u,x.dst=some u->MO all a u=false)/\∀ u v,a.dst=some u->x.dst=some v->u≠v:=by
 unfold tK at h;simp only [bN] at h;obtain ⟨h1,h2⟩:=h;refine ⟨fun u hu=>?_,fun u hu=>?_,fun u v hu hv huv=>?_⟩
 ·rw [hu] at h1;simp only [bN,Bool.not_eq_true'] at h1;exact h1.1
 ·rw [hu] at h2;simpa using h2
 ·rw [hu,hv] at h1;subst huv;simp at h1
theorem swap (hp:dG X) {base:Nat} {all:List Oper} {a x:Nat} {oa ox:Oper} (ha:all[a]?=some oa) (hx:all[x]?=some ox) (hap:tK all oa ox=true)
  {q q1 q2:List AV×St} {ma mx:Option eD} (h1:qQ X base all a q=some (ma,q1)) (h2:qQ X base all x q1=some (mx,q2)) (hm:∀ p k,ma=some p->mx=some k->p.apart k=true) :
  ∃ q1',qQ X base all x q=some (mx,q1')/\qQ X base all a q1'=some (ma,q2):=by
 obtain ⟨d1,d2,d3⟩:=MP hap;unfold qQ at h1 h2 ⊢;rw [ha] at h1 ⊢;rw [hx] at h2 ⊢;simp only at h1 h2 ⊢
 cases hwa:bD all (gt q.1) oa with
 | none=>rw [hwa] at h1;cases h1
 | some wa =>
 rw [hwa] at h1;simp only [Option.bind_some] at h1
 cases wa with
 | false =>
  simp only [cond_false,m000,m001] at h1;obtain ⟨rfl,rfl⟩:=h1;simp only [iE d1,rM (mF d1),kO (mF d1)] at h2
  cases hwx:bD all (gt q.1) ox with
  | none=>rw [hwx] at h2;cases h2
  | some wx =>
  rw [hwx] at h2;simp only [Option.bind_some] at h2 ⊢
  cases wx with
  | false =>simp only [cond_false,m000,m001] at h2 ⊢;obtain ⟨rfl,rfl⟩:=h2;refine ⟨_,⟨rfl,rfl⟩,?_⟩;simp only [iE d2,hwa,Option.bind_some,cond_false,m000,m001,true_and];exact ⟨(AB d3).symm,trivial⟩
  | true =>
   simp only [cond_true] at h2 ⊢
   cases ho:rR X (base+x) (ev X (gt q.1)) ox q.2 with
   | none=>rw [ho] at h2;cases h2
   | some r =>
   rw [ho] at h2;simp only [Option.map_some,m000,m001] at h2 ⊢;obtain ⟨rfl,rfl⟩:=h2;refine ⟨_,⟨rfl,rfl⟩,?_⟩;simp only [iE d2,hwa,Option.bind_some,cond_false,m000,m001,true_and];exact ⟨(AB d3).symm,trivial⟩
 | true =>
  simp only [cond_true] at h1
  cases hoa:rR X (base+a) (ev X (gt q.1)) oa q.2 with
  | none=>rw [hoa] at h1;cases h1
  | some ra =>
  obtain ⟨ra,s1⟩:=ra;rw [hoa] at h1;simp only [Option.map_some,m000,m001] at h1;obtain ⟨rfl,rfl⟩:=h1;simp only [iE d1,rM (mF d1),kO (mF d1)] at h2
  cases hwx:bD all (gt q.1) ox with
  | none=>rw [hwx] at h2;cases h2
  | some wx =>
  rw [hwx] at h2;simp only [Option.bind_some] at h2 ⊢
  cases wx with
  | false =>simp only [cond_false,m000,m001] at h2 ⊢;obtain ⟨rfl,rfl⟩:=h2;refine ⟨_,⟨rfl,rfl⟩,?_⟩;simp only [iE d2,hwa,Option.bind_some,cond_true,rM (mF d2),kO (mF d2),hoa,Option.map_some,m000,m001,true_and];exact ⟨(AB d3).symm,trivial⟩
  | true =>
   simp only [cond_true] at h2 ⊢
   cases hox:rR X (base+x) (ev X (gt q.1)) ox s1 with
   | none=>rw [hox] at h2;cases h2
   | some rx =>
   obtain ⟨rx,s2⟩:=rx;rw [hox] at h2;simp only [Option.map_some,m000,m001] at h2;obtain ⟨rfl,rfl⟩:=h2;have hma:=hm _ _ rfl rfl;simp only [bF,vE] at hma;obtain ⟨f1,f2,f3,f4⟩:=MX hma;obtain ⟨a1,a2,a3⟩:=LM hp hoa;obtain ⟨x1,x2,x3⟩:=LM hp hox
   obtain ⟨y1,t1,y2,y3,y4,y5,y6⟩:=x3 q.2 (fun m hm=>(a1 m (f1 m hm)).symm) (fun hwx'=>by
    cases hwa':gQ X (ev X (gt q.1)) oa.op with
    | false=>exact (a2 hwa').symm
    | true=>rw [f4 hwa'] at hwx';cases hwx')
   obtain ⟨z1,t2,z2,z3,z4,z5,z6⟩:=a3 t1 (fun m hm=>y4 m (f2 m hm)) (fun hwa'=>y6 (f4 hwa'));rw [y2];simp only [Option.map_some,m000,m001];refine ⟨_,⟨?_,rfl⟩,?_⟩
   ·simp only [bF,vE,y1]
    cases hwx':gQ X (ev X (gt q.1)) ox.op with
    | false=>rfl
    | true =>
     have:s1.nx=q.2.nx:=by
      cases hwa':gQ X (ev X (gt q.1)) oa.op with
      | false=>exact a2 hwa'
      | true=>rw [f4 hwa'] at hwx';cases hwx'
     rw [this]
   ·simp only [iE d2,hwa,Option.bind_some,cond_true,rM (mF d2),kO (mF d2),z2,Option.map_some,m000,m001];refine ⟨?_,(AB d3).symm,yY (fun m=>?_) ?_⟩
    ·simp only [bF,vE,z1]
     cases hwa':gQ X (ev X (gt q.1)) oa.op with
     | false=>rfl
     | true=>rw [y6 (f4 hwa')]
    ·cases hA:mC (gQ X (ev X (gt q.1)) oa.op) (cI oa.op) (base+a) q.2.nx (dL (ev X (gt q.1)) oa.op q.2) m with
     | true =>
      rw [z3 m hA];refine (x1 m ?_).symm
      cases hB:mC (gQ X (ev X (gt q.1)) ox.op) (cI ox.op) (base+x) s1.nx (dL (ev X (gt q.1)) ox.op s1) m with
      | false=>rfl
      | true=>exact (f3 m hA hB).elim
     | false =>
      rw [z4 m hA]
      cases hB:mC (gQ X (ev X (gt q.1)) ox.op) (cI ox.op) (base+x) s1.nx (dL (ev X (gt q.1)) ox.op s1) m with
      | true=>exact y3 m hB
      | false=>rw [y4 m hB,x1 m hB,a1 m hA]
    ·cases hwa':gQ X (ev X (gt q.1)) oa.op with
     | true=>rw [z5 hwa',x2 (f4 hwa')]
     | false =>
      rw [z6 hwa']
      cases hwx':gQ X (ev X (gt q.1)) ox.op with
      | true=>exact y5 hwx'
      | false=>rw [y6 hwx',x2 hwx',a2 hwa']
end
end Go.Proofs.YtdehdahimkcakaaGreatDoor.Ai
namespace Go.Proofs.YtdehdahimkcakaaGreatDoor.Ai
open Go
section
variable {X:Cx} {s s':St}
def tA (X:Cx) (base:Nat) (all:List Oper):List Nat->List AV×St->Option (List (Nat×Option eD)×(List AV×St))
 | [],q=>some ([],q)
 | i::l,q=>(qQ X base all i q).bind fun r=>(tA X base all l r.2).map fun z=>((i,r.1)::z.1,z.2)
def bCi (all:List Oper) (p k:Nat×Option eD):Prop:=(∃ oa ox,all[p.1]?=some oa/\all[k.1]?=some ox/\tK all oa ox=true)/\∀ u v,p.2=some u->k.2=some v->u.apart v=true
def Apt (all:List Oper) (ms:List Nat) (p k:Nat×Option eD):Prop:=bO (ms.getD k.1 0) p.1=true\/bCi all p k
theorem fC {base:Nat} {all:List Oper} {i:Nat} {l:List Nat} {q:List AV×St} {ml:List (Nat×Option eD)} {r:List AV×St} :
  tA X base all (i::l) q=some (ml,r)↔∃ m q1 ml1,qQ X base all i q=some (m,q1)/\tA X base all l q1=some (ml1,r)/\ml=(i,m)::ml1:=by
 constructor
 ·intro h;simp only [tA] at h
  cases h1:qQ X base all i q with
  | none=>rw [h1] at h;cases h
  | some mq =>
   obtain ⟨m,q1⟩:=mq;rw [h1] at h;simp only [Option.bind_some] at h
   cases h2:tA X base all l q1 with
   | none=>rw [h2] at h;cases h
   | some z =>obtain ⟨ml1,r1⟩:=z;rw [h2] at h;simp only [Option.map_some,m000,m001] at h;obtain ⟨rfl,rfl⟩:=h;exact ⟨m,q1,ml1,rfl,h2,rfl⟩
 ·rintro ⟨m,q1,ml1,h1,h2,rfl⟩
  simp only [tA,h1,Option.bind_some,h2,Option.map_some]
theorem bEs (hp:dG X) {base:Nat} {all:List Oper} (x:Nat) (B:List Nat):∀ (A:List Nat) (q:List AV×St) (ml:List (Nat×Option eD)) (r:List AV×St),tA X base all (A++x::B) q=some (ml,r) ->
  ∃ mlA mx mlB,ml=mlA++(x,mx)::mlB/\mlA.map (·.1)=A/\((∀ p∈mlA,bCi all p (x,mx))->tA X base all (x::(A++B)) q=some ((x,mx)::(mlA++mlB),r)):=by
 intro A
 induction A with
 | nil =>intro q ml r h;obtain ⟨m,q1,ml1,h1,h2,rfl⟩:=fC.1 h;exact ⟨[],m,ml1,rfl,rfl,fun _=>h⟩
 | cons a A ih =>intro q ml r h;obtain ⟨m,q1,ml1,h1,h2,rfl⟩:=fC.1 h;obtain ⟨mlA,mx,mlB,rfl,rfl,k⟩:=ih q1 ml1 r h2;refine ⟨(a,m)::mlA,mx,mlB,rfl,rfl,fun hf=>?_⟩;obtain ⟨mx',q2,ml2,k1,k2,k3⟩:=fC.1 (k fun p hp=>hf p (m005 _ hp));simp only [m057,m001,true_and] at k3;obtain ⟨rfl,rfl⟩:=k3;obtain ⟨⟨oa,ox,e1,e2,e3⟩,e4⟩:=hf (a,m) (m007 ..);obtain ⟨q1',s1,s2⟩:=swap hp e1 e2 e3 h1 k1 e4;exact fC.2 ⟨mx,q1',_,s1,fC.2 ⟨m,q2,_,s2,k2,rfl⟩,rfl⟩
theorem aGn (hp:dG X) {base:Nat} {all:List Oper} {ms:List Nat}:∀ (L M:List Nat) (q:List AV×St) (ml:List (Nat×Option eD)) (r:List AV×St),L.Perm M->tA X base all M q=some (ml,r) ->
  ml.Pairwise (Apt all ms)->L.Pairwise (fun x a=>bO (ms.getD x 0) a=false)->∃ ml',tA X base all L q=some (ml',r):=by
 intro L
 induction L with
 | nil =>intro M q ml r hL h _ _;have:=hL.symm.eq_nil;subst this;exact ⟨ml,h⟩
 | cons x L ih =>
  intro M q ml r hL h hw ho;have hx:x∈M:=hL.subset (m007 ..);obtain ⟨A,B,rfl⟩:=List.append_of_mem hx;have hLp:L.Perm (A++B):=List.Perm.cons_inv (hL.trans List.perm_middle);obtain ⟨mlA,mx,mlB,rfl,rfl,k⟩:=bEs hp x B A q ml r h;rw [List.pairwise_cons] at ho;rw [List.pairwise_append] at hw;obtain ⟨w1,w2,w3⟩:=hw;rw [List.pairwise_cons] at w2
  have hfree:∀ p∈mlA,bCi all p (x,mx):=fun p hpm=>by
   rcases w3 p hpm (x,mx) (m007 ..) with hb | hb
   ·have hin:p.1∈L:=hLp.symm.subset (m041 _ (m021.2 ⟨p,hpm,rfl⟩));have:=ho.1 p.1 hin;simp only at hb;rw [this] at hb;cases hb
   ·exact hb
  obtain ⟨m,q1,ml1,k1,k2,k3⟩:=fC.1 (k hfree);simp only [m057,m001,true_and] at k3;obtain ⟨rfl,rfl⟩:=k3;obtain ⟨ml',k4⟩:=ih (mlA.map (·.1)++B) q1 (mlA++mlB) r hLp k2 (List.pairwise_append.2 ⟨w1,w2.2,fun a ha b hb=>w3 a ha b (m005 _ hb)⟩) ho.2;exact ⟨_,fC.2 ⟨mx,q1,ml',k1,k4,rfl⟩⟩
theorem aFj (m n k:Nat):bO (m ||| n) k=(bO m k||bO n k):=by
 have e:∀ m k,bO m k=m.testBit k:=fun m k=>by
  simp only [bO,Nat.testBit_eq_decide_div_mod_eq,Nat.shiftRight_eq_div_pow];by_cases h:m / 2 ^ k % 2=1
  ·rw [h];rfl
  ·rw [decide_eq_false h]
   cases hb:Nat.beq (m / 2 ^ k % 2) 1 with
   | false=>rfl
   | true=>exact absurd (jS hb) h
 simp only [e,Nat.testBit_or]
theorem ZT (j k:Nat):bO (1 <<< j) k=true->k=j:=by
 intro h;simp only [bO,Nat.shiftLeft_eq,Nat.one_mul,Nat.shiftRight_eq_div_pow] at h;have h:=jS h;rcases Nat.lt_trichotomy k j with hl | he | hg
 ·have:2 ^ j / 2 ^ k=2 ^ (j - k):=Nat.pow_div (Nat.le_of_lt hl) (by decide);rw [this] at h;have h2:2 ^ (j - k)=2 * 2 ^ (j - k - 1):=by rw [<- Nat.pow_succ'];congr 1;omega
  omega
 ·exact he
 ·have:2 ^ j / 2 ^ k=0:=Nat.div_eq_of_lt (Nat.pow_lt_pow_right (by decide) hg);rw [this] at h;cases h
theorem PZ (ms:List Nat) (a:Nat):∀ (l:List Edge) (m0:Nat),bO (l.foldl (fun m e=>cond (Region.binds .any e) (m ||| ((1 <<< e.on) ||| ms.getD e.on 0)) m) m0) a=true ->
  bO m0 a=true\/∃ e∈l,Region.binds .any e=true/\(a=e.on\/bO (ms.getD e.on 0) a=true):=by
 intro l
 induction l with
 | nil=>intro m0 h;exact .inl h
 | cons e l ih =>
  intro m0 h;simp only [List.foldl_cons] at h;rcases ih _ h with h1 | ⟨e',h2,h3,h4⟩
  ·cases hb:Region.binds .any e with
   | false=>rw [hb] at h1;exact .inl h1
   | true =>
    rw [hb] at h1;simp only [cond_true,aFj,uN] at h1;rcases h1 with h1 | h1 | h1
    ·exact .inl h1
    ·exact .inr ⟨e,m007 ..,hb,.inl (ZT _ _ h1)⟩
    ·exact .inr ⟨e,m007 ..,hb,.inr h1⟩
  ·exact .inr ⟨e',m005 _ h2,h3,h4⟩
theorem SF:∀ (l:List Oper) (ms:List Nat),∃ r,eB ms l=ms++r:=by
 intro l
 induction l with
 | nil=>intro ms;exact ⟨[],by simp [eB]⟩
 | cons o l ih=>intro ms;obtain ⟨r,hr⟩:=ih (ms++[mE o ms]);exact ⟨mE o ms::r,by simp [eB,hr]⟩
theorem RM:∀ (l:List Oper) (ms:List Nat) (j:Nat) (o:Oper),l[j]?=some o->∃ fF,(eB ms l)[ms.length+j]?=some (mE o fF)/\fF.length=ms.length+j/\∀ i,i < ms.length+j->fF.getD i 0=(eB ms l).getD i 0:=by
 intro l
 induction l with
 | nil=>intro ms j o h;simp at h
 | cons p l ih =>
  intro ms j o h
  cases j with
  | zero =>
   simp only [List.getElem?_cons_zero,m000] at h;subst h;obtain ⟨r,hr⟩:=SF l (ms++[mE p ms]);refine ⟨ms,?_,by simp,fun i hi=>?_⟩
   ·simp [eB,hr]
   ·simp only [eB,hr,List.getD_eq_getElem?_getD,m019];rw [m051 (by omega)]
  | succ j =>simp only [List.getElem?_cons_succ] at h;obtain ⟨fF,h1,h2,h3⟩:=ih (ms++[mE p ms]) j o h;simp only [m006,List.length_cons,List.length_nil] at h1 h2 h3;exact ⟨fF,by simp only [eB];rw [<- h1];congr 1;omega,by omega,fun i hi=>by simp only [eB];exact h3 i (by omega)⟩
theorem MH {all:List Oper} {m:Nat} {x:Oper}:∀ (l:List Oper) (a:Nat),JG all m x a l=true->∀ j o,l[j]?=some o->bO m (a+j)=true\/tK all o x=true:=by
 intro l
 induction l with
 | nil=>intro a _ j o h;simp at h
 | cons p l ih =>
  intro a h j o ho;simp only [JG,bN,uN] at h
  cases j with
  | zero=>simp only [List.getElem?_cons_zero,m000] at ho;subst ho;exact h.1
  | succ j =>
   simp only [List.getElem?_cons_succ] at ho;have:=ih (a+1) h.2 j o ho
   rwa [show a+1+j=a+(j+1) by omega] at this
theorem MD {all:List Oper} {ms:List Nat}:∀ (l fF:List Oper) (i:Nat),fF.length=i->JI all ms fF i l=true->∀ j x,l[j]?=some x ->
  (∀ e∈x.after.toList,Region.binds .any e=true->e.on < i+j)/\∀ a o,a < i+j->(fF++l)[a]?=some o->bO (ms.getD (i+j) 0) a=true\/tK all o x=true:=by
 intro l
 induction l with
 | nil=>intro fF i _ _ j x h;simp at h
 | cons p l ih =>
  intro fF i hi h j x hx;simp only [JI,bN] at h;obtain ⟨⟨h1,h2⟩,h3⟩:=h
  cases j with
  | zero =>
   simp only [List.getElem?_cons_zero,m000] at hx;subst hx;refine ⟨fun e he hb=>?_,fun a o ha ho=>?_⟩
   ·have:=m032.1 h1 e he;rw [hb] at this;simpa [Nat.blt_eq] using this
   ·rw [m051 (by omega)] at ho;have:=MH fF 0 h2 a o ho
    rwa [m023] at this
  | succ j =>simp only [List.getElem?_cons_succ] at hx;have:=ih (fF++[p]) (i+1) (by simp [hi]) h3 j x hx;rw [show i+1+j=i+(j+1) by omega] at this;refine ⟨this.1,fun a o ha ho=>this.2 a o ha ?_⟩;simpa using ho
theorem aHv (X:Cx) (base:Nat) (all:List Oper) (ms:List Nat) (i:Nat) (lg:List eD) (tm:List AV) (s:St):mX X base all ms [] i lg tm s=some (tm,s):=rfl
theorem ZS (X:Cx) (base:Nat) (all:List Oper) (ms:List Nat) (o:Oper) (l:List Oper) (i:Nat) (lg:List eD) (tm:List AV) (s:St):mX X base all ms (o::l) i lg tm s =
  (bD all (gt tm) o).bind fun w=>cond w
   (cond (clear (ms.getD i 0) (bF X i (base+i) (ev X (gt tm)) o.op s) lg)
    ((rR X (base+i) (ev X (gt tm)) o s).bind fun r=>mX X base all ms l (i+1) (bF X i (base+i) (ev X (gt tm)) o.op s::lg) (put tm o.dst r.1) r.2) none)
   (mX X base all ms l (i+1) lg (put tm o.dst (.tup [])) s):=rfl
theorem OC (X:Cx) (i id:Nat) (e:Operand->AV) (o:Op) (s:St):(bF X i id e o s).i=i:=by unfold bF;cases gQ X e o<;>rfl
theorem aLh {base:Nat} {all:List Oper} {ms:List Nat} {tm':List AV} {s':St}:∀ (l:List Oper) (i:Nat) (lg:List eD) (tm:List AV) (s:St),all.drop i=l->mX X base all ms l i lg tm s=some (tm',s') ->
  ∃ ml,tA X base all (List.range' i l.length) (tm,s)=some (ml,(tm',s'))/\(∀ p∈ml,i<=p.1/\∀ k,p.2=some k->k.i=p.1/\∀ g∈lg,bO (ms.getD p.1 0) g.i=true\/g.apart k=true) /\
   ml.Pairwise fun p k=>p.1 < k.1/\(bO (ms.getD k.1 0) p.1=true\/∀ u v,p.2=some u->k.2=some v->u.apart v=true):=by
 intro l
 induction l with
 | nil =>intro i lg tm s hl h;rw [aHv] at h;simp only [m000,m001] at h;obtain ⟨rfl,rfl⟩:=h;exact ⟨[],rfl,fun p hp=>(by cases hp),List.Pairwise.nil⟩
 | cons o l ih =>
  intro i lg tm s hl h;have hoi:all[i]?=some o:=by have:=congrArg (·[0]?) hl;simpa using this
  have hl':all.drop (i+1)=l:=by
   have:(all.drop i).drop 1=l:=by rw [hl];rfl
   rwa [List.drop_drop] at this
  rw [ZS] at h
  cases hw:bD all (gt tm) o with
  | none=>rw [hw] at h;cases h
  | some w =>
   rw [hw] at h;simp only [Option.bind_some] at h;rw [List.length_cons,List.range'_succ]
   cases w with
   | false =>
    simp only [cond_false] at h;obtain ⟨ml,h1,h2,h3⟩:=ih (i+1) lg _ s hl' h;refine ⟨(i,none)::ml,fC.2 ⟨none,_,ml,?_,h1,rfl⟩,fun p hp=>?_,List.pairwise_cons.2 ⟨fun p hp=>⟨(h2 p hp).1,.inr fun u v hu=>nomatch hu⟩,h3⟩⟩
    ·simp only [qQ,hoi,hw,Option.bind_some,cond_false]
    ·rcases m013.1 hp with rfl | hp
     ·exact ⟨bH _,fun k hk=>nomatch hk⟩
     ·exact ⟨by have:=(h2 p hp).1;omega,(h2 p hp).2⟩
   | true =>
    simp only [cond_true] at h
    cases hc:clear (ms.getD i 0) (bF X i (base+i) (ev X (gt tm)) o.op s) lg with
    | false=>rw [hc] at h;cases h
    | true =>
     rw [hc] at h;simp only [cond_true] at h
     cases ho:rR X (base+i) (ev X (gt tm)) o s with
     | none=>rw [ho] at h;cases h
     | some r =>
      rw [ho] at h;simp only [Option.bind_some] at h;obtain ⟨ml,h1,h2,h3⟩:=ih (i+1) _ _ r.2 hl' h;refine ⟨(i,some (bF X i (base+i) (ev X (gt tm)) o.op s))::ml,fC.2 ⟨_,_,ml,?_,h1,rfl⟩,fun p hp=>?_,List.pairwise_cons.2 ⟨fun p hp=>⟨(h2 p hp).1,?_⟩,h3⟩⟩
      ·simp only [qQ,hoi,hw,Option.bind_some,cond_true,ho,Option.map_some]
      ·rcases m013.1 hp with rfl | hp
       ·refine ⟨bH _,fun k hk=>?_⟩;simp only [m000] at hk;subst hk;refine ⟨OC ..,fun g hg=>?_⟩;have:=m032.1 hc g hg;simpa using this
       ·exact ⟨by have:=(h2 p hp).1;omega,fun k hk=>⟨((h2 p hp).2 k hk).1,fun g hg=>((h2 p hp).2 k hk).2 g (m005 _ hg)⟩⟩
      ·cases hk:p.2 with
       | none=>exact .inr fun u v _ hv=>nomatch hv
       | some k =>
        rcases ((h2 p hp).2 k hk).2 _ (m007 ..) with hb | hb
        ·rw [OC] at hb;exact .inl hb
        ·refine .inr fun u v hu hv=>?_;simp only [m000] at hu hv;subst hu;subst hv;exact hb
end
end Go.Proofs.YtdehdahimkcakaaGreatDoor.Ai
namespace Go.Proofs.YtdehdahimkcakaaGreatDoor.Ai
open Go
section
theorem YP:∀ (l:List Bool) (i:Nat),l[i]?=some false->(l.set i true).count false+1=l.count false:=by
 intro l
 induction l with
 | nil=>intro i h;simp at h
 | cons b l ih =>
  intro i h
  cases i with
  | zero =>simp only [List.getElem?_cons_zero,m000] at h;subst h;simp
  | succ i =>simp only [List.getElem?_cons_succ] at h;simp only [List.set_cons_succ,List.count_cons];have:=ih i h;omega
theorem GS {ops:Array Oper} {listed:Array Bool} {i:Nat}:i∈Region.ready .any ops listed↔i < ops.size/\listed.getD i true=false/\∃ o,ops[i]?=some o/\∀ e∈o.after.toList,Region.binds .any e=true->listed.getD e.on false=true:=by
 unfold Region.ready;rw [List.mem_filter,List.mem_range];constructor
 ·rintro ⟨h1,h2⟩
  simp only [bN,Bool.not_eq_true'] at h2;refine ⟨h1,h2.1,?_⟩;have ho:ops[i]?=some ops[i]:=m016 h1;refine ⟨_,ho,fun e he hb=>?_⟩;have h3:=h2.2;rw [ho] at h3;simp only [Option.map_some,Option.getD_some,Array.all_eq_true_iff_forall_mem] at h3;have:=h3 e (by simpa using he);simpa [hb] using this
 ·rintro ⟨h1,h2,o,h3,h4⟩
  refine ⟨h1,?_⟩;simp only [h2,h3,m027,m031,Option.map_some,Option.getD_some,Array.all_eq_true_iff_forall_mem];intro e he
  cases hb:Region.binds .any e with
  | false=>rfl
  | true=>simpa using h4 e (by simpa using he) hb
theorem aQi {ops:Array Oper} (hb:∀ (i:Nat) x,ops[i]?=some x->∀ e∈x.after.toList,Region.binds .any e=true->e.on < i) :
  ∀ (fuel t:Nat) (listed:Array Bool),listed.size=ops.size->listed.toList.count false<=fuel->∀ L,L=Region.linearise.go .any ops fuel t listed [] ->
  (∀ i∈L,i < ops.size/\listed[i]?=some false)/\L.Nodup/\(∀ i,i < ops.size->listed[i]?=some false->i∈L) /\
   ∀ fF x post o,L=fF++x::post->ops[x]?=some o->∀ e∈o.after.toList,Region.binds .any e=true->listed[e.on]?=some true\/e.on∈fF:=by
 intro fuel
 induction fuel with
 | zero =>
  intro t listed hs hc L hL;simp only [Region.linearise.go,List.reverse_nil] at hL;subst hL;refine ⟨fun i h=>(by cases h),List.nodup_nil,fun i hi h=>?_,fun fF x post o h=>by simp at h⟩;have h0:listed.toList.count false=0:=by omega
  rw [List.count_eq_zero] at h0;exact absurd (m017 (by simpa using h)) h0
 | succ fuel ih =>
  intro t listed hs hc L hL;simp only [Region.linearise.go] at hL
  change L=(match (Region.ready .any ops listed)[t % (Region.ready .any ops listed).length]? with
   | some i=>Region.linearise.go .any ops fuel (t / (Region.ready .any ops listed).length) (listed.setIfInBounds i true) [i]
   | none=>[].reverse) at hL
  cases hi:(Region.ready .any ops listed)[t % (Region.ready .any ops listed).length]? with
  | none =>
   have hnil:Region.ready .any ops listed=[]:=by
    cases hr:Region.ready .any ops listed with
    | nil=>rfl
    | cons x xs =>rw [hr] at hi;have hlt:t % (x::xs).length < (x::xs).length:=Nat.mod_lt _ (by simp);rw [m004 hlt] at hi;cases hi
   rw [hi] at hL;simp only [List.reverse_nil] at hL;subst hL;refine ⟨fun i h=>(by cases h),List.nodup_nil,fun i hi h=>?_,fun fF x post o h=>by simp at h⟩;exfalso
   have key:∀ i,i < ops.size->listed[i]?≠some false:=by
    intro i
    induction i using Nat.strongRecOn with
    | ind i ihi =>
     intro hi hf
     have:i∈Region.ready .any ops listed:=by
      refine GS.2 ⟨hi,?_,ops[i],m016 hi,fun e he hbe=>?_⟩
      ·simp [Array.getD_eq_getD_getElem?,hf]
      ·have hlt:=hb i _ (m016 hi) e he hbe;have hne:=ihi e.on hlt (by omega);have hlt2:e.on < listed.size:=by omega
       rw [m016 hlt2] at hne;rw [Array.getD_eq_getD_getElem?,m016 hlt2]
       cases hq:listed[e.on] with
       | true=>rfl
       | false=>rw [hq] at hne;exact absurd rfl hne
     rw [hnil] at this;cases this
   exact key i hi h
  | some i =>
   rw [hi] at hL;simp only at hL;rw [linearise_go_acc,List.reverse_singleton,List.singleton_append] at hL;obtain ⟨r1,r2,o,r3,r4⟩:=GS.1 (m017 hi);have hlt:i < listed.size:=by omega
   have hfi:listed[i]?=some false:=by rw [Array.getD_eq_getD_getElem?,m016 hlt] at r2;rw [m016 hlt];simpa using r2
   have hset:∀ j,(listed.setIfInBounds i true)[j]?=if i=j then some true else listed[j]?:=fun j=>by
    rw [m029]
    split
    ·rename_i h;subst h;simp [hlt]
    ·rfl
   generalize hL':Region.linearise.go .any ops fuel (t / (Region.ready .any ops listed).length) (listed.setIfInBounds i true) []=L' at hL
   obtain ⟨k1,k2,k3,k4⟩:=ih _ (listed.setIfInBounds i true) (by simpa using hs) (by
    have:(listed.setIfInBounds i true).toList=listed.toList.set i true:=by simp
    rw [this];have:=YP listed.toList i (by simpa using hfi)
    omega) L' hL'.symm
   subst hL;refine ⟨fun j hj=>?_,?_,fun j hj hf=>?_,fun fF x post o' hsp ho' e he hbe=>?_⟩
   ·rcases m013.1 hj with rfl | hj
    ·exact ⟨r1,hfi⟩
    ·have:=k1 j hj;rw [hset] at this
     split at this
     ·exact absurd this.2 (by simp)
     ·exact this
   ·rw [m036];refine ⟨fun hin=>?_,k2⟩;have:=(k1 i hin).2;rw [hset,if_pos rfl] at this;simp at this
   ·by_cases hij:i=j
    ·subst hij;exact m007 ..
    ·exact m005 _ (k3 j hj (by rw [hset,if_neg hij];exact hf))
   ·cases fF with
    | nil =>
     simp only [List.nil_append,m057] at hsp;obtain ⟨rfl,rfl⟩:=hsp;left;rw [r3] at ho';simp only [m000] at ho';subst ho';have:=r4 e he hbe;rw [Array.getD_eq_getD_getElem?] at this
     cases hq:listed[e.on]? with
     | none=>rw [hq] at this;cases this
     | some b=>rw [hq] at this;simp only [Option.getD_some] at this;rw [this]
    | cons p fF =>
     simp only [List.cons_append,m057] at hsp;obtain ⟨rfl,hsp⟩:=hsp;rcases k4 fF x post o' hsp ho' e he hbe with h | h
     ·rw [hset] at h
      split at h
      ·rename_i hie;right;rw [<- hie];exact m007 ..
      ·exact .inl h
     ·exact .inr (m005 _ h)
theorem FA {α:Type} {R:α->α->Prop}:∀ (L:List α),(∀ fF x post,L=fF++x::post->∀ a∈post,R x a)->L.Pairwise R:=by
 intro L
 induction L with
 | nil=>intro _;exact List.Pairwise.nil
 | cons x L ih =>intro h;refine List.pairwise_cons.2 ⟨fun a ha=>h [] x L rfl a ha,ih fun fF y post hp a ha=>h (x::fF) y post (by rw [hp];rfl) a ha⟩
theorem PH {L:List Nat} {n:Nat} (h1:∀ i∈L,i < n) (h2:L.Nodup) (h3:∀ i,i < n->i∈L):L.Perm (List.range n):=by
 rw [List.perm_iff_count];intro a;by_cases ha:a < n
 ·rw [h2.count,List.nodup_range.count,if_pos (h3 a ha),if_pos (List.mem_range.2 ha)]
 ·rw [h2.count,List.nodup_range.count,if_neg (fun h=>ha (h1 a h)),if_neg (fun h=>ha (List.mem_range.1 h))]
variable {P:Program} {F:Fz} {ρ:fD} {s:St} {W:World}
theorem aHb {X:Cx} (hT:dO P X.P) (hE:xU P X.P X.eqOk) (hC:lK P X) (hp:dG X) (hR:R X.P F ρ s W) (hG:GlobOk X.P X.glob F W) {id:Nat} (hid:ρ id=none) (hlt:id < s.nx) {tm:List AV} {a:Act} (hTM:TM X.P F ρ tm a.tmps) (hdf:a.defers=[])
  {o:Oper} {r:AV} {s':St} (h:rR X id (ev X (gt tm)) o s=some (r,s')) {next:Act->World->Prop} {Q:Exit->Act->World->Prop}
  (hn:∀ a' W' ρ' F',TM X.P F' ρ' (put tm o.dst r) a'.tmps->R X.P F' ρ' s' W'->dM s ρ F W s' ρ' F' W'->(∀ i,i < s.nx->i≠id->ρ' i=ρ i)->s.nx<=s'.nx->a'.defers=[]->next a' W'):o.wp P a W next Q:=by
 obtain ⟨ts,ds⟩:=a;simp only at hTM hdf;subst hdf;have hfin:∀ v W',ET X.P id s ρ F W r s' v W'->next ((⟨ts,[]⟩:Act).put o.dst v) W':=by intro v W' ⟨ρ',F',h1,h2,h3,h4,h5⟩;exact hn _ _ ρ' F' ((hTM.mono h3.fz h3.rho).put h1 o.dst []) h2 h3 h4 h5 (oL _ _ _)
 unfold Oper.wp;rcases bAr hT hE hC hp hR hG hid hlt (fun x=>aOa hG hTM [] x) h with ⟨v,W',h1,h2⟩ | ⟨W',h1,h2⟩ | ⟨f,args,h1,h2⟩
 ·rw [h1,Oper.upon_value];exact hfin _ _ h2
 ·rw [h1,Oper.upon_skip];exact hfin _ _ h2
 ·rw [h1,Oper.upon_enter];refine h2.mono ?_;intro e W' he
  cases e with
  | returned v=>exact hfin _ _ he
  | panicked c=>exact he.elim
  | outgrown=>exact he.elim
theorem aRm {X:Cx} (hT:dO P X.P) (hE:xU P X.P X.eqOk) (hC:lK P X) (hp:dG X) {ops:Array Oper} {base:Nat} {Q:Exit->Act->World->Prop} {tm':List AV} {s':St}:∀ (L:List Nat) (ml:List (Nat×Option eD)) (tm:List AV) (s:St) (ρ:fD) (F:Fz) (W:World) (a:Act),
  L.Nodup->(∀ i∈L,i < ops.size)->R X.P F ρ s W->GlobOk X.P X.glob F W->TM X.P F ρ tm a.tmps->a.defers=[]->(∀ j∈L,ρ (base+j)=none)->base+ops.size<=s.nx->tA X base ops.toList L (tm,s)=some (ml,(tm',s')) ->
  (∀ a' W' ρ' F',TM X.P F' ρ' tm' a'.tmps->R X.P F' ρ' s' W'->dM s ρ F W s' ρ' F' W'->(∀ k,k < base->ρ' k=ρ k)->s.nx<=s'.nx->a'.defers=[]->Q .normal a' W') ->
  wpOps P ops Q L a W:=by
 intro L
 induction L with
 | nil =>intro ml tm s ρ F W a _ _ hR hG hTM hdf _ _ h hq;simp only [tA,m000,m001] at h;obtain ⟨rfl,rfl,rfl⟩:=h;exact hq a W ρ F hTM hR (dM.refl _ _ _ _) (fun _ _=>rfl) (bH _) hdf
 | cons i L ih =>
  intro ml tm s ρ F W a hnd hlt hR hG hTM hdf hfree hnx h hq;rw [m036] at hnd;have hi:i < ops.size:=hlt i (m007 ..);have hoi:ops[i]?=some ops[i]:=m016 hi;obtain ⟨m,q1,ml1,h1,h2,rfl⟩:=fC.1 h;generalize ops[i]=o at hoi;simp only [wpOps,hoi];simp only [qQ,Array.getElem?_toList,hoi] at h1
  cases hw:bD ops.toList (gt tm) o with
  | none=>rw [hw] at h1;cases h1
  | some w =>
   rw [hw] at h1;simp only [Option.bind_some] at h1;rw [HD hTM hw]
   cases w with
   | true =>
    simp only [cond_true,if_true] at h1 ⊢
    cases ho:rR X (base+i) (ev X (gt tm)) o s with
    | none=>rw [ho] at h1;cases h1
    | some r =>
     obtain ⟨r,s1⟩:=r;rw [ho] at h1;simp only [Option.map_some,m000,m001] at h1;obtain ⟨rfl,rfl⟩:=h1;left;refine aHb hT hE hC hp hR hG (hfree i (m007 ..)) (by omega) hTM hdf ho ?_;intro a1 W1 ρ1 F1 k1 k2 k3 k4 k5 k6;refine ih ml1 _ s1 ρ1 F1 W1 a1 hnd.2 (fun j hj=>hlt j (m005 _ hj)) k2 (hG.step hR k3) k1 k6 (fun j hj=>?_) (by omega) h2 ?_
     ·have hji:j≠i:=fun e=>hnd.1 (e ▸ hj);have:=hlt j (m005 _ hj);rw [k4 _ (by omega) (by omega)];exact hfree j (m005 _ hj)
     ·intro a2 W2 ρ2 F2 m1 m2 m3 m4 m5 m6;exact hq a2 W2 ρ2 F2 m1 m2 (k3.trans m3) (fun k hk=>(m4 k hk).trans (k4 k (by omega) (by omega))) (by omega) m6
   | false =>simp only [cond_false,m015,if_false] at h1 ⊢;simp only [m000,m001] at h1;obtain ⟨rfl,rfl⟩:=h1;obtain ⟨ts,ds⟩:=a;refine ih ml1 _ s ρ F W _ hnd.2 (fun j hj=>hlt j (m005 _ hj)) hR hG (hTM.put (.tup [] #[] rfl (fun i h=>by simp at h)) o.dst ds) (by rw [oL];exact hdf) (fun j hj=>hfree j (m005 _ hj)) hnx h2 hq
theorem aZd {X:Cx} (hT:dO P X.P) (hE:xU P X.P X.eqOk) (hC:lK P X) (hp:dG X):DL P X:=by
 intro ops tm s ρ F W a base tm' s' hR hG hTM hdf hfree hnx h Q hQ t;unfold drawn at h
 cases hm:CV (eB [] ops.toList) ops.toList with
 | false=>rw [hm] at h;cases h
 | true =>
 rw [hm] at h;simp only [cond_true] at h;obtain ⟨ml,g1,g2,g3⟩:=aLh (X:=X) ops.toList 0 [] tm s (by simp) h;have hmix:=MD ops.toList [] 0 rfl hm;simp only [m023,List.nil_append] at hmix;have hb:∀ (i:Nat) x,ops[i]?=some x->∀ e∈x.after.toList,Region.binds .any e=true->e.on < i:=fun i x hx=>(hmix i x (by simpa using hx)).1;obtain ⟨L1,L2,L3,L4⟩:=aQi hb ops.size t (Array.replicate ops.size false) (by simp) (by simp) _ rfl;have hlist:∀ i,i < ops.size->(Array.replicate ops.size false)[i]?=some false:=fun i hi=>by simp [hi]
 change wpOps P ops Q (Region.linearise.go .any ops ops.size t (Array.replicate ops.size false) []) a W;generalize hLe:Region.linearise.go .any ops ops.size t (Array.replicate ops.size false) []=L at L1 L2 L3 L4;have hperm:L.Perm (List.range' 0 ops.toList.length):=by rw [<- List.range_eq_range',Array.length_toList];exact PH (fun i hi=>(L1 i hi).1) L2 (fun i hi=>L3 i hi (hlist i hi))
 have hahead:∀ x fF post,L=fF++x::post->∀ b,bO ((eB [] ops.toList).getD x 0) b=true->b∈fF:=by
  intro x
  induction x using Nat.strongRecOn with
  | ind x ihx =>
   intro fF post hsp b hbit;have hx:x < ops.size:=(L1 x (by rw [hsp];simp)).1;have hox:ops[x]?=some ops[x]:=m016 hx;obtain ⟨pre0,p1,p2,p3⟩:=RM ops.toList [] x ops[x] (by simp [hox]);simp only [List.length_nil,m023] at p1 p2 p3;rw [List.getD_eq_getElem?_getD,p1,Option.getD_some] at hbit;rcases PZ pre0 b _ _ hbit with h0 | ⟨e,he,hbe,h1⟩
   ·simp [bO] at h0
   ·have hin:e.on∈fF:=by
     rcases L4 fF x post _ hsp hox e he hbe with h2 | h2
     ·rw [Array.getElem?_replicate] at h2
      split at h2<;>simp at h2
     ·exact h2
    rcases h1 with h1 | h1
    ·subst h1;exact hin
    ·have hlt:=hb x _ hox e he hbe;rw [p3 e.on hlt] at h1;obtain ⟨p1',p2',hpre⟩:=List.append_of_mem hin;have:=ihx e.on hlt p1' (p2'++x::post) (by rw [hsp,hpre];simp) b h1;rw [hpre];exact m041 _ this
 have hpw:L.Pairwise (fun x b=>bO ((eB [] ops.toList).getD x 0) b=false):=by
  refine FA L fun fF x post hsp b hbm=>?_
  cases hbit:bO ((eB [] ops.toList).getD x 0) b with
  | false=>rfl
  | true =>have hin:=hahead x fF post hsp b hbit;rw [hsp,List.nodup_append] at L2;exact absurd rfl (L2.2.2 b hin b (m005 _ hbm))
 have hfst:∀ p∈ml,p.1 < ops.size:=by
  have hmap:∀ (l:List Nat) (q:List AV×St) (ml:List (Nat×Option eD)) (r:List AV×St),tA X base ops.toList l q=some (ml,r)->ml.map (·.1)=l:=by
   intro l
   induction l with
   | nil=>intro q ml r h;simp only [tA,m000,m001] at h;obtain ⟨rfl,_⟩:=h;rfl
   | cons i l ih=>intro q ml r h;obtain ⟨m,q1,ml1,_,h2,rfl⟩:=fC.1 h;simp [ih _ _ _ h2]
  intro p hpm;have:p.1∈List.range' 0 ops.toList.length:=by rw [<- hmap _ _ _ _ g1];exact m021.2 ⟨p,hpm,rfl⟩
  rw [<- List.range_eq_range',Array.length_toList,List.mem_range] at this;exact this
 have happ:ml.Pairwise (Apt ops.toList (eB [] ops.toList)):=by
  have:ml.Pairwise fun p k=>p∈ml/\k∈ml/\(p.1 < k.1/\(bO ((eB [] ops.toList).getD k.1 0) p.1=true\/∀ u v,p.2=some u->k.2=some v->u.apart v=true)) :=
   List.Pairwise.imp_of_mem (fun {p k} hp hk h=>⟨hp,hk,h⟩) g3
  refine this.imp ?_
  rintro p k ⟨hpm,hkm,hlt,hor⟩
  have hpo:ops.toList[p.1]?=some (ops[p.1]'(hfst p hpm)):=by simp [m016 (hfst p hpm)]
  have hko:ops.toList[k.1]?=some (ops[k.1]'(hfst k hkm)):=by simp [m016 (hfst k hkm)]
  rcases hor with hor | hor
  ·exact .inl hor
  ·rcases (hmix k.1 _ hko).2 p.1 _ hlt hpo with hb' | hb'
   ·exact .inl hb'
   ·exact .inr ⟨⟨_,_,hpo,hko,hb'⟩,hor⟩
 obtain ⟨ml',hrun⟩:=aGn hp L _ (tm,s) ml (tm',s') hperm g1 happ hpw;exact aRm hT hE hC hp L ml' tm s ρ F W a L2 (fun i hi=>(L1 i hi).1) hR hG hTM hdf (fun j hj=>hfree j (L1 j hj).1) hnx hrun hQ
theorem yZ {E:lX} (hE:AZ P E) (n:Nat):aOr P E (cL E n) :=
 aJz hE (fun cl f hC=>aZd (X:=cx E cl f) hE.ty hE.eq hC (tN E cl f)) n
end
end Go.Proofs.YtdehdahimkcakaaGreatDoor.Ai
end
namespace Go.Proofs.YtdehdahimkcakaaGreatDoor.Ai
open Go
noncomputable section
section
abbrev uU:=FuncId->List AV->St->Option (AV×St)
def CLe (a b:uU):Prop:=∀ f args s r,a f args s=some r->b f args s=some r
def MM (X Y:Cx):Prop:=Y={ X with call:=Y.call }/\∀ dr f args s r,X.call dr f args s=some r->Y.call dr f args s=some r
def LLe (a b:Code->List AV->St->CB):Prop:=∀ c tm s r,a c tm s=some r->b c tm s=some r
theorem CLe.refl (a:uU):CLe a a:=fun _ _ _ _ h=>h
theorem CLe.trans {a b c:uU} (h:CLe a b) (k:CLe b c):CLe a c:=fun f x s r q=>k f x s r (h f x s r q)
theorem nE {X Y:Cx} (h:MM X Y) {dr:Bool} {id:Nat} {e:Operand->AV} {o:Oper} {s:St} {r:AV×St} (ho:fX X dr id e o s=some r):fX Y dr id e o s=some r:=by
 obtain ⟨hy,hc⟩:=h;rw [hy];generalize Y.call=cl at hc;unfold fX at ho ⊢
 cases h:o.op with
 | call c =>
  simp only [h] at ho ⊢
  cases hcal:c.callee with
  | value f =>
   simp only [hcal] at ho ⊢
   split at ho
   ·exact hc _ _ _ _ _ ho
   ·cases ho
  | invoke a b=>simp only [hcal] at ho;cases ho
  | builtin b=>simp only [hcal] at ho ⊢;exact ho
 | makeFunc fn a b=>cases fn<;>(simp only [h] at ho ⊢;exact ho)
 | makeMap t q=>cases q<;>(simp only [h] at ho ⊢;exact ho)
 | _=>simp only [h] at ho ⊢;exact ho
theorem rX {X Y:Cx} (h:MM X Y) (g:Nat->AV):ev Y g=ev X g:=by rw [h.1];rfl
theorem GG {X Y:Cx} (h:MM X Y) (e:Operand->AV) (o:Op):gQ Y e o=gQ X e o:=by rw [h.1];rfl
theorem gN {α β:Type} {o o':Option α} {f f':α->Option β} {r:β} (h:∀ a,o=some a->o'=some a) (hf:∀ a b,f a=some b->f' a=some b) (hr:o.bind f=some r):o'.bind f'=some r:=by
 cases ho:o with
 | none=>rw [ho] at hr;cases hr
 | some a=>rw [ho] at hr;rw [h a ho];exact hf a r hr
theorem DQ {α β:Type} {o o':Option α} {f:α->β} {r:β} (h:∀ a,o=some a->o'=some a) (hr:o.map f=some r):o'.map f=some r:=by
 cases ho:o with
 | none=>rw [ho] at hr;cases hr
 | some a=>rw [ho] at hr;rw [h a ho];exact hr
theorem jC {β:Type} {t:Bool} {a b a' b':Option β} {r:β} (ha:a=some r->a'=some r) (hb:b=some r->b'=some r) (h:cond t a b=some r):cond t a' b'=some r:=by
 cases t with
 | true=>exact ha h
 | false=>exact hb h
theorem GJ {X Y:Cx} (h:MM X Y) {dr:Bool} {base:Nat} {all:List Oper}:∀ (l:List Oper) (i:Nat) (tm:List AV) (s:St) r,iR X dr base all l i tm s=some r->iR Y dr base all l i tm s=some r:=by
 intro l
 induction l with
 | nil=>intro i tm s r hr;exact hr
 | cons o l ih =>intro i tm s r hr;change ((bD all (gt tm) o).bind fun w=>cond w ((fX X dr (base+i) (ev X (gt tm)) o s).bind fun r=>iR X dr base all l (i+1) (put tm o.dst r.1) r.2) (iR X dr base all l (i+1) (put tm o.dst (.tup [])) s))=some r at hr;change ((bD all (gt tm) o).bind fun w=>cond w ((fX Y dr (base+i) (ev Y (gt tm)) o s).bind fun r=>iR Y dr base all l (i+1) (put tm o.dst r.1) r.2) (iR Y dr base all l (i+1) (put tm o.dst (.tup [])) s))=some r;rw [rX h];exact gN (fun _ h=>h) (fun w b hb=>jC (gN (fun a ha=>nE h ha) (fun a b=>ih _ _ _ _)) (ih _ _ _ _) hb) hr
theorem BK {X Y:Cx} (h:MM X Y) {id:Nat} {e:Operand->AV} {o:Oper} {s:St} {r:AV×St} (ho:rR X id e o s=some r):rR Y id e o s=some r:=by unfold rR at ho ⊢;rw [GG h];exact jC (DQ fun a ha=>nE h ha) (DQ fun a ha=>nE h ha) ho
theorem yJ {X Y:Cx} (h:MM X Y) (i id:Nat) (e:Operand->AV) (o:Op) (s:St):bF Y i id e o s=bF X i id e o s:=by unfold bF;rw [GG h]
theorem GM {X Y:Cx} (h:MM X Y) {base:Nat} {all:List Oper} {ms:List Nat}:∀ (l:List Oper) (i:Nat) (lg:List eD) (tm:List AV) (s:St) r,mX X base all ms l i lg tm s=some r->mX Y base all ms l i lg tm s=some r:=by
 intro l
 induction l with
 | nil=>intro i lg tm s r hr;exact hr
 | cons o l ih =>
  intro i lg tm s r hr
  change ((bD all (gt tm) o).bind fun w=>cond w
   (cond (clear (ms.getD i 0) (bF X i (base+i) (ev X (gt tm)) o.op s) lg)
    ((rR X (base+i) (ev X (gt tm)) o s).bind fun r=>mX X base all ms l (i+1) (bF X i (base+i) (ev X (gt tm)) o.op s::lg) (put tm o.dst r.1) r.2) none)
   (mX X base all ms l (i+1) lg (put tm o.dst (.tup [])) s))=some r at hr
  change ((bD all (gt tm) o).bind fun w=>cond w
   (cond (clear (ms.getD i 0) (bF Y i (base+i) (ev Y (gt tm)) o.op s) lg)
    ((rR Y (base+i) (ev Y (gt tm)) o s).bind fun r=>mX Y base all ms l (i+1) (bF Y i (base+i) (ev Y (gt tm)) o.op s::lg) (put tm o.dst r.1) r.2) none)
   (mX Y base all ms l (i+1) lg (put tm o.dst (.tup [])) s))=some r
  rw [rX h,yJ h];exact gN (fun _ h=>h) (fun w b hb=>jC (jC (gN (fun a ha=>BK h ha) (fun a b=>ih _ _ _ _ _)) id) (ih _ _ _ _ _) hb) hr
theorem RU {X Y:Cx} (h:MM X Y) {base:Nat} {all:List Oper} {tm:List AV} {s:St} {r:List AV×St} (hr:drawn X base all tm s=some r):drawn Y base all tm s=some r:=by unfold drawn at hr ⊢;exact jC (GM h _ _ _ _ _ _) id hr
theorem NV {a a':CB} {f f':List AV->St->CB} {r:Ex×List AV×St} (ha:∀ q,a=some q->a'=some q) (hf:∀ tm s q,f tm s=some q->f' tm s=some q) (h:GC a f=some r):GC a' f'=some r:=by
 cases hq:a with
 | none=>rw [hq] at h;cases h
 | some q =>
  rw [hq] at h;rw [ha q hq];obtain ⟨e,tm,s⟩:=q
  cases e with
  | nm=>exact hf _ _ _ h
  | _=>exact h
theorem lC {X Y:Cx} (h:MM X Y) {lf lf':Code->List AV->St->CB} (hl:LLe lf lf') (c:Code):∀ tm s r,code X lf c tm s=some r->code Y lf' c tm s=some r:=by
 induction c with
 | region id ops dr =>intro tm s r hr;change ((cond dr (drawn X s.nx ops.toList tm ⟨s.h,s.nx+ops.size⟩) (iR X false s.nx ops.toList ops.toList 0 tm ⟨s.h,s.nx+ops.size⟩)).map fun r=>(Ex.nm,r.1,r.2))=some r at hr;change ((cond dr (drawn Y s.nx ops.toList tm ⟨s.h,s.nx+ops.size⟩) (iR Y false s.nx ops.toList ops.toList 0 tm ⟨s.h,s.nx+ops.size⟩)).map fun r=>(Ex.nm,r.1,r.2))=some r;exact DQ (fun a ha=>jC (fun h'=>RU h h') (GJ h _ _ _ _ _) ha) hr
 | seq a b iha ihb=>intro tm s r hr;exact NV (iha tm s) ihb hr
 | cond c a b iha ihb =>intro tm s r hr;change ((KA (ev X (gt tm) c)).bind fun t=>cond t (code X lf a tm s) (code X lf b tm s))=some r at hr;change ((KA (ev Y (gt tm) c)).bind fun t=>cond t (code Y lf' a tm s) (code Y lf' b tm s))=some r;rw [rX h];exact gN (fun _ h=>h) (fun t q hq=>jC (iha tm s q) (ihb tm s q) hq) hr
 | block id c ih =>
  intro tm s r hr;change blk id (code X lf c tm s)=some r at hr;change blk id (code Y lf' c tm s)=some r
  cases hq:code X lf c tm s with
  | none=>rw [hq] at hr;cases hr
  | some q=>rw [hq] at hr;rw [ih tm s q hq];exact hr
 | loop c ih=>intro tm s r hr;exact hl c tm s r hr
 | scope c ih =>
  intro tm s r hr;change XP (code X lf c tm s)=some r at hr;change XP (code Y lf' c tm s)=some r
  cases hq:code X lf c tm s with
  | none=>rw [hq] at hr;cases hr
  | some q=>rw [hq] at hr;rw [ih tm s q hq];exact hr
 | skip | exit | label | goto | ret=>intro tm s r hr;exact hr
 | _=>intro tm s r hr;cases hr
theorem oE (X:Cx) (kp n:Nat) (c:Code) (tm:List AV) (s:St):gR X kp (n+1) c tm s=GC (code X (gR X kp n) c tm s) fun tm s=>gR X kp n c (mask kp 0 tm) s:=rfl
theorem jK {X Y:Cx} (h:MM X Y) (kp:Nat):∀ n m,n<=m->LLe (gR X kp n) (gR Y kp m):=by
 intro n
 induction n with
 | zero=>intro m _ c tm s r hr;cases hr
 | succ n ih =>intro m hm c tm s r hr;obtain ⟨k,rfl⟩:∃ k,m=k+1:=⟨m - 1,by omega⟩;rw [oE] at hr ⊢;exact NV (lC h (ih k (by omega)) c tm s) (fun tm s q=>ih k (by omega) c _ s q) hr
theorem PV (E:lX) {a b:uU} (h:CLe a b) (f:FuncId) (dr:Bool) (g:FuncId) (args:List AV) (s:St) (r:AV×St) (hr:gW E a f dr g args s=some r):gW E b f dr g args s=some r:=by
 unfold gW at hr ⊢
 split at hr
 ·rename_i hp;rw [if_pos hp];refine gN (fun _ h=>h) (fun as q hq=>?_) hr;exact gN (fun x hx=>h _ _ _ _ hx) (fun _ _ h=>h) hq
 ·rename_i hp;rw [if_neg hp]
  split at hr
  ·cases hr
  ·rename_i hd;rw [if_neg hd]
   split at hr
   ·rename_i hz;rw [if_pos hz];exact gN (fun _ h=>h) (fun q _ hq=>gN (fun x hx=>h _ _ _ _ hx) (fun _ _ h=>h) hq) hr
   ·rename_i hz;rw [if_neg hz];exact h _ _ _ _ hr
theorem UP (E:lX) {a b:uU} (h:CLe a b) (f:FuncId):MM (cx E a f) (cx E b f):=⟨rfl,fun dr g args s r hr=>PV E h f dr g args s r hr⟩
theorem sU (E:lX) (n:Nat) (f:FuncId) (args:List AV) (s:St):cL E (n+1) f args s=match E.prim f with
   | some g=>g args s
   | none=>match E.fns f with
    | none=>none
    | some fn=>match fn.body with
     | none=>none
     | some c=>lV E.P fn (code (cx E (cL E n) f) (gR (cx E (cL E n) f) (E.kp f) n) c (fR fn args) s):=rfl
theorem RG (E:lX):∀ n m,n<=m->CLe (cL E n) (cL E m):=by
 intro n
 induction n with
 | zero=>intro m _ f args s r hr;cases hr
 | succ n ih =>
  intro m hm f args s r hr;obtain ⟨k,rfl⟩:∃ k,m=k+1:=⟨m - 1,by omega⟩;rw [sU] at hr ⊢
  cases hp:E.prim f with
  | some g=>rw [hp] at hr;exact hr
  | none =>
   rw [hp] at hr;simp only at hr ⊢
   cases hf:E.fns f with
   | none=>rw [hf] at hr;cases hr
   | some fn =>
    rw [hf] at hr;simp only at hr ⊢
    cases hb:fn.body with
    | none=>rw [hb] at hr;cases hr
    | some c =>
     rw [hb] at hr;simp only at hr ⊢;have hX:=UP E (ih k (by omega)) f
     cases hc:code (cx E (cL E n) f) (gR (cx E (cL E n) f) (E.kp f) n) c (fR fn args) s with
     | none=>rw [hc] at hr;cases hr
     | some q =>rw [hc] at hr;rw [lC hX (jK hX (E.kp f) n k (by omega)) c _ _ q hc];exact hr
end
end
noncomputable section
section
variable {X:Cx} {s:St} {l:List Nat}
def zO:Op->Bool
 | .call c=>match c.callee with
  | .value _=>true
  | _=>false
 | _=>false
theorem fG {m:Nat} (h:m∈l):(s.only l).h m=s.h m:=by simp only [St.only,bL.2 h,cond_true]
theorem YU {id a:Nat} {b:Option mK} (hid:s.h id=none) (ha:a∈id::l):s.merge ((s.only l).set a b) (id::l)=s.set a b:=by
 refine yY (fun m=>?_) rfl;simp only [St.merge,St.set,St.only]
 cases hm:dY m (id::l) with
 | false =>
  cases hb:Nat.beq m a with
  | false=>rfl
  | true=>rw [jS hb,bL.2 ha] at hm;cases hm
 | true =>
  simp only [cond_true]
  cases hb:Nat.beq m a with
  | true=>rfl
  | false =>
   simp only [cond_false]
   cases hl:dY m l with
   | true=>rfl
   | false =>
    rcases m013.1 (bL.1 hm) with h | h
    ·subst h;rw [hid];rfl
    ·rw [bL.2 h] at hl;cases hl
theorem QD {id:Nat} (hid:s.h id=none):s.merge (s.only l) (id::l)=s:=by
 refine yY (fun m=>?_) rfl;simp only [St.merge,St.only]
 cases hm:dY m (id::l) with
 | false=>rfl
 | true =>
  simp only [cond_true]
  cases hl:dY m l with
  | true=>rfl
  | false =>
   rcases m013.1 (bL.1 hm) with h | h
   ·subst h;rw [hid];rfl
   ·rw [bL.2 h] at hl;cases hl
def bB (id:Nat) (l:List Nat) (s:St) (q q':Option (AV×St)):Prop:=∀ r s',q=some (r,s')->∃ t,q'=some (r,t)/\(s.h id=.none->s.merge t (id::l)=s')
theorem bB.set {id:Nat} {a:Nat} (ha:a∈id::l) (r:AV) (b:Option mK):bB id l s (some (r,s.set a b)) (some (r,(s.only l).set a b)):=by intro r' s' h;simp only [m000,m001] at h;obtain ⟨rfl,rfl⟩:=h;exact ⟨_,rfl,fun hid=>YU hid ha⟩
theorem bB.same {id:Nat} (r:AV):bB id l s (some (r,s)) (some (r,s.only l)):=by intro r' s' h;simp only [m000,m001] at h;obtain ⟨rfl,rfl⟩:=h;exact ⟨_,rfl,fun hid=>QD hid⟩
theorem bB.none {id:Nat} {q':Option (AV×St)}:bB id l s none q':=by intro r s' h;cases h
theorem set_set (s:St) (a c:Nat) (b d:Option mK):(s.set a b).set c d=⟨fun m=>cond (Nat.beq m c) d (cond (Nat.beq m a) b (s.h m)),s.nx⟩:=rfl
theorem tX {id:Nat} (e z b:Nat) (c:List AV):bB id l s (eC e z b c id s) (eC e z b c id (s.only l)):=by
 unfold eC
 split
 ·exact bB.set (m007 ..) _ _
 ·exact bB.none
theorem LP {id a:Nat} (ha:a∈l) (e z b:Nat) (c:List AV):bB id l s (eC e z b c id (s.set a none)) (eC e z b c id ((s.only l).set a none)):=by
 unfold eC
 split
 ·intro r s' h;simp only [m000,kD,m001] at h;obtain ⟨rfl,rfl⟩:=h;refine ⟨_,rfl,fun hid=>yY (fun m=>?_) rfl⟩;simp only [St.merge,St.set,St.only]
  cases hm:dY m (id::l) with
  | false =>
   have h1:Nat.beq m id=false:=by
    cases hb:Nat.beq m id with
    | false=>rfl
    | true=>rw [jS hb,bL.2 (m007 ..)] at hm;cases hm
   have h2:Nat.beq m a=false:=by
    cases hb:Nat.beq m a with
    | false=>rfl
    | true=>rw [jS hb,bL.2 (m005 _ ha)] at hm;cases hm
   rw [h1,h2];rfl
  | true =>
   simp only [cond_true]
   cases h1:Nat.beq m id with
   | true=>rfl
   | false =>
    simp only [cond_false]
    cases h2:Nat.beq m a with
    | true=>rfl
    | false =>
     simp only [cond_false]
     cases hl:dY m l with
     | true=>rfl
     | false =>
      rcases m013.1 (bL.1 hm) with h | h
      ·subst h;simp at h1
      ·rw [bL.2 h] at hl;cases hl
 ·exact bB.none
theorem mW {z:Nat} {x:AV} (h:∀ m∈aS x,m∈l):aR z x (s.only l)=aR z x s:=by
 cases x<;>try rfl
 simp only [aR];rw [fG (h _ (m008.2 rfl))]
theorem oR {id:Nat} {e z b:Nat} {x:AV} {news:List AV} (h:∀ m∈aS x,m∈l):bB id l s (bM e z b x news id s) (bM e z b x news id (s.only l)):=by
 unfold bM
 split
 ·split<;>first | exact bB.same _ | exact bB.none
 ·split
  ·exact bB.none
  ·split
   ·exact tX _ _ _ _
   ·split
    ·exact tX _ _ _ _
    ·exact bB.none
   ·have ha:=h _ (m008.2 rfl);rw [fG ha]
    split
    ·split
     ·split
      ·split
       ·split
        ·exact bB.set (m005 _ ha) _ _
        ·exact bB.none
       ·exact tX _ _ _ _
      ·split
       ·exact bB.set (m005 _ ha) _ _
       ·split
        ·exact LP ha _ _ _ _
        ·exact bB.none
     ·exact bB.none
    ·exact bB.none
   ·exact bB.none
theorem RI {id:Nat} {z:Nat} {x:AV} {c:List AV} (h:∀ m∈aS x,m∈l):bB id l s (oX z x c s) (oX z x c (s.only l)):=by
 unfold oX
 split
 ·exact bB.same _
 ·exact bB.same _
 ·exact bB.same _
 ·have ha:=h _ (m008.2 rfl);simp only;rw [fG ha]
  split
  ·split
   ·exact bB.set (m005 _ ha) _ _
   ·exact bB.none
  ·exact bB.none
 ·exact bB.none
theorem aAi {c:Call} {b:Builtin} (hc:c.callee=.builtin b) {e:Operand->AV}:∀ x∈c.args.toList.map e,∀ m∈aS x,m∈sD (.call c) e:=by intro x hx m hm;obtain ⟨y,hy,rfl⟩:=m021.1 hx;simp only [sD,hc,List.mem_flatMap];exact ⟨y,hy,hm⟩
theorem nF {id:Nat} {q q':Option AV} (h:q'=q):bB id l s (q.map (·,s)) (q'.map (·,s.only l)):=by
 subst h
 cases q' with
 | none=>exact bB.none
 | some r=>exact bB.same r
theorem IQ {id:Nat} {b:Builtin} {ats:Array TypeId} {args:List AV} (h:∀ x∈args,∀ m∈aS x,m∈l):bB id l s (bG X b ats args id s) (bG X b ats args id (s.only l)):=by
 unfold bG
 split
 ·rename_i x
  cases (ats[0]?).bind (dZ X.P) with
  | none=>exact bB.none
  | some d =>
   simp only [Option.bind_some]
   split
   ·have:tE x (s.only l)=tE x s:=by
     cases x<;>try rfl
     simp only [tE];rw [fG (h _ (m007 ..) _ (m008.2 rfl))]
    rw [this]
    cases tE x s with
    | none=>exact bB.none
    | some n=>exact bB.same _
   ·exact bB.none
 ·cases (ats[0]?).bind (dZ X.P) with
  | none=>exact bB.none
  | some d =>
   simp only [Option.bind_some]
   split
   ·cases QA _ with
    | none=>exact bB.none
    | some n=>exact bB.same _
   ·exact bB.none
 ·cases FG (fun y x=>decide (y < x)) args with
  | none=>exact bB.none
  | some r=>exact bB.same _
 ·cases FG (fun y x=>decide (x < y)) args with
  | none=>exact bB.none
  | some r=>exact bB.same _
 ·rename_i x y;have hx:∀ m∈aS x,m∈l:=h x (by simp);have hy:∀ m∈aS y,m∈l:=h y (by simp)
  split
  ·split
   ·split
    ·exact oR hx
    ·exact bB.none
   ·exact bB.none
  ·split
   ·split
    ·rw [mW hy]
     cases aR _ _ s with
     | none=>exact bB.none
     | some c=>exact oR hx
    ·exact bB.none
   ·exact bB.none
  ·split
   ·split
    ·rw [mW hy]
     cases aR _ _ s with
     | none=>exact bB.none
     | some c=>exact oR hx
    ·exact bB.none
   ·exact bB.none
  ·exact bB.none
 ·rename_i x y;have hx:∀ m∈aS x,m∈l:=h x (by simp);have hy:∀ m∈aS y,m∈l:=h y (by simp)
  split
  ·split
   ·split
    ·exact bB.none
    ·rw [mW hy]
     cases aR _ _ s with
     | none=>exact bB.none
     | some c=>exact RI hx
   ·exact bB.none
  ·exact bB.none
 ·split
  ·exact bB.same _
  ·rw [fG (h _ (m007 ..) _ (m008.2 rfl))]
   split
   ·split
    ·exact bB.same _
    ·exact bB.none
   ·exact bB.none
  ·exact bB.none
 ·split
  ·split
   ·rw [fG (h _ (m007 ..) _ (m008.2 rfl))]
    split
    ·split
     ·split
      ·cases fW _ with
       | none=>exact bB.none
       | some c =>
        simp only [Option.bind_some]
        split
        ·exact bB.set (m005 _ (h _ (m007 ..) _ (m008.2 rfl))) _ _
        ·exact bB.none
      ·exact bB.none
     ·exact bB.none
    ·exact bB.none
   ·exact bB.same _
   ·exact bB.same _
   ·exact bB.none
  ·exact bB.none
 ·exact bB.none
theorem PF {P:Ty} {src dst:TypeId} {x:AV} (h:∀ m∈aS x,m∈l):kG P src dst x (s.only l)=kG P src dst x s:=by
 unfold kG
 split
 ·rfl
 ·rfl
 ·rfl
 ·split
  ·rfl
  ·rfl
  ·rw [fG (h _ (m008.2 rfl))]
  ·rfl
 ·rfl
 ·rfl
 ·rw [fG (h _ (m008.2 rfl))]
 ·rw [fG (h _ (m008.2 rfl))]
 ·rfl
theorem MF {P:Ty} {ty:TypeId} {x:AV} {lo hi mx:Option AV} (h:∀ m∈aS x,m∈l):fJ P ty x lo hi mx (s.only l)=fJ P ty x lo hi mx s:=by
 unfold fJ
 split
 ·rfl
 ·rename_i e _
  cases eN P e with
  | none=>rfl
  | some y =>
   simp only [Option.bind_some];cases x<;>try rfl
   simp only;rw [fG (h _ (m008.2 rfl))]
 ·cases x<;>try rfl
  rename_i n e _ id off;simp only
  cases eN P e with
  | none=>rfl
  | some y =>simp only [Option.bind_some];rw [fG (h _ (m008.2 rfl))]
 ·rfl
theorem aLj {id:Nat} {e:Operand->AV} {o:Oper} (hv:zO o.op=false) (hf:sD o.op e=l):bB id l s (fX X true id e o s) (fX X true id e o (s.only l)):=by
 subst hf;unfold fX
 cases ho:o.op with
 | move | assign=>exact bB.same _
 | pick c a b=>simp only;cases KA (e c) with | none=>exact bB.none | some t=>exact bB.same _
 | alloc ty=>simp only;cases zero X.P ty with | none=>exact bB.none | some z=>exact bB.set (m007 ..) _ _
 | box ty x =>
  simp only
  split
  ·exact bB.set (m007 ..) _ _
  ·exact bB.none
 | build | buildSlice | binOp | unOp | fieldAddr | field | indexAddr | index=>exact nF rfl
 | convert src dst x =>exact nF (PF fun m hm=>hm)
 | slice ty x lo hi mx =>exact nF (MF fun m hm=>hm)
 | lookup ty m k ok =>
  refine nF ?_
  have:qY (e m) (e k) (s.only (sD (.lookup ty m k ok) e))=qY (e m) (e k) s:=by
   cases hx:e m<;>try rfl
   simp only [qY];rw [fG (by simp [sD,hx,aS])]
  simp only [hJ,this]
 | load ty a =>
  simp only
  cases eN X.P ty with
  | none=>exact bB.none
  | some y =>
   simp only [Option.bind_some];refine nF ?_;cases hx:e a<;>try rfl
   simp only [Ai.load];rw [fG (by simp [sD,hx,aS])]
 | store ty a x =>
  simp only
  cases eN X.P ty with
  | none=>exact bB.none
  | some y =>
   simp only [Option.bind_some];cases hx:e a<;>try exact bB.none
   have ha:∀ i o,e a=.ptr i o->i∈sD (.store ty a x) e:=fun i o h=>by simp [sD,h,aS]
   simp only [Ai.store];rw [fG (ha _ _ hx)]
   split
   ·split
    ·exact bB.set (m005 _ (ha _ _ hx)) _ _
    ·exact bB.none
   ·exact bB.none
 | nilCheck x=>simp only;split<;>first | exact bB.same _ | exact bB.none
 | makeInterface ty x=>simp only;split<;>first | exact bB.same _ | exact bB.none
 | makeFunc fn a b=>cases fn<;>first | exact bB.same _ | exact bB.none
 | makeMap ty q=>cases q with
  | none=>exact bB.set (m007 ..) _ _
  | some q=>exact bB.none
 | makeSlice ty a c =>
  simp only
  split
  ·split
   ·split
    ·exact bB.set (m007 ..) _ _
    ·exact bB.none
   ·exact bB.none
  ·exact bB.none
 | mapUpdate ty m k x =>
  simp only;unfold iC
  split
  ·rename_i kt _ _
   cases dZ X.P kt with
   | none=>exact bB.none
   | some kd =>
    simp only [Option.bind_some]
    split
    ·rename_i i hx;have ha:i∈sD (.mapUpdate ty m k x) e:=by simp [sD,hx,aS]
     rw [fG ha]
     split
     ·split
      ·cases find (e k) _ with
       | none=>exact bB.none
       | some q=>exact bB.set (m005 _ ha) _ _
      ·exact bB.none
     ·exact bB.none
    ·exact bB.none
  ·exact bB.none
 | extract x i =>
  simp only
  split
  ·exact nF rfl
  ·exact bB.none
 | call c =>
  cases hc:c.callee with
  | value f=>rw [ho] at hv;simp [zO,hc] at hv
  | invoke a b=>simp only [hc];exact bB.none
  | builtin b =>simp only [hc];exact IQ (aAi hc)
 | _=>exact bB.none
theorem QV {e:Operand->AV} {o:Op} (hv:zO o=false):dL e o s=sD o e:=by
 cases o<;>try rfl
 rename_i c;unfold dL;simp only
 cases hc:c.callee with
 | value f=>simp [zO,hc] at hv
 | _=>rfl
theorem LX (hp:dG X) {id:Nat} {e:Operand->AV} {o:Oper} {r:AV} {s':St} (hid:cI o.op=true->s.h id=none) (hv:zO o.op=false) (h:fX X true id e o s=some (r,s')):rR X id e o s=some (r,s'):=by
 have hw:gQ X e o.op=false:=by
  cases ho:o.op<;>try rfl
  rename_i c;unfold gQ
  cases hc:c.callee with
  | value f=>rw [ho] at hv;simp [zO,hc] at hv
  | _=>simp only [hc]
 unfold rR;rw [hw,QV hv];simp only [cond_false];obtain ⟨t,h1,h2⟩:=aLj (X:=X) hv rfl r s' h;rw [h1];simp only [Option.map_some]
 cases hwr:cI o.op with
 | true=>rw [cond_true,h2 (hid hwr)]
 | false =>rw [cond_false,(xX hp h hwr).1]
end
end
noncomputable section
abbrev Gf:=Nat->AV
abbrev Kt:=Gf->St->Prop
def pA (g:Gf) (d:Option Nat) (v:AV):Gf:=match d with
 | some d=>fun k=>cond (Nat.beq k d) v (g k)
 | none=>g
inductive aA {α:Type} (o:Option α) (k:α->Prop):Prop
 | mk (a:α) (h:o=some a) (hk:k a):aA o k
inductive aP (v:AV) (a b:Prop):Prop
 | t (h:v=.bool true) (ha:a):aP v a b
 | f (h:v=.bool false) (hb:b):aP v a b
inductive Gd (w:Option Bool) (s:St) (op:(aC)->Prop) (k:aC):Prop
 | t (h:w=some true) (hk:op k):Gd w s op k
 | f (h:w=some false) (hk:k (.tup []) s):Gd w s op k
theorem Bnd_some {α:Type} {a:α} {k:α->Prop}:aA (some a) k↔k a:=by
 constructor
 ·intro h
  cases h with
  | mk b h hk=>cases h;exact hk
 ·intro h;exact .mk a rfl h
theorem Bnd_none {α:Type} {k:α->Prop}:aA none k↔False:=by
 constructor
 ·intro h
  cases h with
  | mk b h hk=>cases h
 ·intro h;exact h.elim
theorem IfP_bool {t:Bool} {a b:Prop}:aP (.bool t) a b↔(if t=true then a else b):=by
 cases t with
 | false =>
  constructor
  ·intro h
   cases h with
   | t h _=>cases h
   | f _ h=>exact h
  ·intro h;exact .f rfl h
 | true =>
  constructor
  ·intro h
   cases h with
   | t _ h=>exact h
   | f h _=>cases h
  ·intro h;exact .t rfl h
theorem Gd_some {t:Bool} {s:St} {op:(aC)->Prop} {k:aC}:Gd (some t) s op k↔(if t=true then op k else k (.tup []) s):=by
 cases t with
 | false =>
  constructor
  ·intro h
   cases h with
   | t h _=>cases h
   | f _ h=>exact h
  ·intro h;exact .f rfl h
 | true =>
  constructor
  ·intro h
   cases h with
   | t _ h=>exact h
   | f h _=>cases h
  ·intro h;exact .t rfl h
def bT (r:Option AV) (Q:AV->Prop):Prop:=match r with
 | some v=>Q v
 | none=>False
def aB (v:AV) (want:Bool):Option Bool:=match v with
 | .bool b=>some (b==want)
 | .undef=>none
 | _=>some false
def adv (s:St) (n:Nat):St:=⟨s.h,s.nx+n⟩
def dE:AV->Bool
 | .ptr _ _ | .pel _ _ | .fn _ _ _=>true
 | _=>false
def aQ (v:AV) (i:Nat):Option AV:=match v with
 | .tup vs=>vs[i]?
 | _=>none
def aJ (c a b:AV):Option AV:=match c with
 | .bool t=>some (cond t a b)
 | _=>none
def mkS (P:Ty) (t:TypeId) (n c:AV) (id:Nat) (s:St):Option (AV×St):=match dZ P t with
 | some (.slice et)=>match eN P et,dN P et,zero P et,pF n,pF c with
  | some (z,_),some b,some zv,some n,some c=>if 0<=n/\n=c/\n * b<=most/\n<=most/\zv.cells.length=z/\0 < z then
    some (.ref id 0 n.toNat (some n.toNat) et,s.set id (some (.cells (List.replicate n.toNat zv.cells).flatten et true true))) else none
  | _,_,_,_,_=>none
 | _=>none
def mkI (P:Ty) (t:TypeId) (x:AV):Option AV:=match dZ P t with
 | none | some (.interface _)=>none
 | some _=>some (.iface t x)
def aU (E:lX) (h:FuncId) (args:List AV) (v:AV):Prop:=∃ n r s' ids,cL E n h args St.empty=some (r,s')/\pur E.P s' 12 r=some (v,ids)
def WideC (E:lX) (h:FuncId) (args:List AV) (s:St) (r:AV) (s':St):Prop:=∃ n,cL E n h args s=some (r,s')
inductive aE (E:lX) (h:FuncId) (args:List AV) (s:St) (k:aC):Prop
 | mk (as:List AV) (ids:List Nat) (v:AV) (hp:dJ (pur E.P s 12) args=some (as,ids)) (hc:aU E h as v) (hk:k v (if ids.isEmpty||v.flat then s else s.drop ids)):aE E h args s k
inductive aY (E:lX) (h:FuncId) (args:List AV) (s:St) (k:aC):Prop
 | mk (hc:cond (E.fz h) (aA (qF E.P s (E.se h) args) fun q=>∃ r s',WideC E h q.1 (s.drop q.2) r s'/\aA (pur E.P s' 12 r) fun v=>k v.1 (s'.drop v.2)) (∃ r s',WideC E h args s r s'/\k r s')):aY E h args s k
def NE (E:lX) (f h:FuncId) (args:List AV) (s:St) (k:aC):Prop:=Bool.rec (motive:=fun _=>Prop) (aY E h args s k) (aE E h args s k) (E.pm f h)
def EH (E:lX) (f:FuncId) (v:AV) (args:List AV) (s:St) (k:aC):Prop:=match v with
 | .fn h a cap=>NE E f h (a++args++cap) s k
 | _=>False
def x0 (E:lX) (f:FuncId):Cx:=cx E (fun _ _ _=>none) f
def bX (E:lX):Cx:=⟨E.P,E.eqOk,E.glob,fun _ _ _ _=>none,fun _=>false⟩
def PD (E:lX) (f:FuncId) (id:Nat) (e:Operand->AV) (o:Oper) (s:St) (k:aC):Prop :=
 match o.op with
 | .move x | .assign x=>k (e x) s
 | .pick c a b=>aA (aJ (e c) (e a) (e b)) fun v=>k v s
 | .alloc t=>aA (zero E.P t) fun z=>k (.ptr id 0) (s.set id (some (.cells z.cells t true true)))
 | .box t x=>(e x).cells.all AV.one=true/\k (.ptr id 0) (s.set id (some (.cells (e x).cells t true true)))
 | .build t parts=>aA (DP E.P t (parts.toList.map fun p=>(p.1,e p.2))) fun v=>k v s
 | .buildSlice t n parts=>aA (iQ E.P t n (parts.toList.map fun p=>(p.1,e p.2))) fun v=>k v s
 | .load t a=>aA ((eN E.P t).bind fun l=>Ai.load l.1 l.2 (e a) s) fun v=>k v s
 | .store t a x=>aA ((eN E.P t).bind fun l=>Ai.store l.1 (e a) (e x) s) fun s'=>k (.tup []) s'
 | .nilCheck x=>dE (e x)=true/\k (e x) s
 | .binOp op t x y _=>aA (lA E.P E.eqOk op t (e x) (e y)) fun v=>k v s
 | .unOp op _ x=>aA (un op (e x)) fun v=>k v s
 | .convert src dst x=>aA (kG E.P src dst (e x) s) fun v=>k v s
 | .makeFunc (.func f) first captured=>k (.fn f (first.toList.map e) (captured.toList.map e)) s
 | .makeSlice t n c=>aA (mkS E.P t (e n) (e c) id s) fun r=>k r.1 r.2
 | .makeMap _ none=>k (.map id) (s.set id (some (.map [])))
 | .makeInterface t x=>aA (mkI E.P t (e x)) fun v=>k v s
 | .slice t x lo hi mx=>aA (fJ E.P t (e x) (lo.map e) (hi.map e) (mx.map e) s) fun v=>k v s
 | .fieldAddr t x f=>aA (AK E.P t f (e x)) fun v=>k v s
 | .field t x f=>aA (JP E.P t f (e x)) fun v=>k v s
 | .indexAddr t x i=>aA (AM E.P t (e x) (e i)) fun v=>k v s
 | .index t x i=>aA (yE E.P t (e x) (e i)) fun v=>k v s
 | .lookup t m q ok=>aA (hJ E.P t (e m) (e q) ok s) fun v=>k v s
 | .mapUpdate t m q x=>aA (iC E.P t (e m) (e q) (e x) s) fun s'=>k (.tup []) s'
 | .extract t i=>aA (aQ (e t) i) fun v=>k v s
 | .call c=>(match c.callee with
  | .builtin b=>aA (bG (bX E) b c.argTypes (c.args.toList.map e) id s) fun r=>k r.1 r.2
  | .value fo=>EH E f (e fo) (c.args.toList.map e) s k
  | _=>False)
 | _=>aA (fX (x0 E f) false id e o s) fun r=>k r.1 r.2
noncomputable def KW (E:lX) (f:FuncId) (base:Nat) (all:List Oper) (l:List Oper):Nat->Gf->St->Kt->Prop :=
 List.rec (motive:=fun _=>Nat->Gf->St->Kt->Prop) (fun _ g s k=>k g s)
  (fun o _ ih i g s k=>Option.rec (motive:=fun _=>Prop)
   (PD E f (base+i) (ev (bX E) g) o s fun v s'=>ih (i+1) (pA g o.dst v) s' k)
   (fun _=>Gd (bD all g o) s (PD E f (base+i) (ev (bX E) g) o s) fun v s'=>ih (i+1) (pA g o.dst v) s' k) o.guard) l
def rch (s:St) (vs:List AV):List Nat:=kK s.h 4000 (iA vs) []
inductive dW (E:lX) (h:FuncId) (args:List AV) (l:List Nat) (s:St) (k:aC):Prop
 | mk (as:List AV) (ids:List Nat) (v:AV) (hp:dJ (pur E.P (s.only l) 12) args=some (as,ids)) (hc:aU E h as v) (hf:(ids.isEmpty||v.flat)=true) (hk:k v s):dW E h args l s k
inductive gZ (E:lX) (h:FuncId) (args:List AV) (l:List Nat) (s:St) (k:aC):Prop
 | mk (hc:cond (E.fz h) (aA (qF E.P (s.only l) (E.se h) args) fun q=>∃ r s',WideC E h q.1 ((s.only l).drop q.2) r s'/\aA (pur E.P s' 12 r) fun v=>k v.1 (lP s (s'.drop v.2) l)) (∃ r s',WideC E h args (s.only l) r s'/\k r (lP s s' l))):gZ E h args l s k
def aGk (E:lX) (f:FuncId) (v:AV) (args:List AV) (l:List Nat) (s:St) (k:aC):Prop:=match v with
 | .fn h a cap=>Bool.rec (motive:=fun _=>Prop) (gZ E h (a++args++cap) l s k) (dW E h (a++args++cap) l s k) (E.pm f h)
 | _=>False
def FM (E:lX) (f:FuncId) (id:Nat) (e:Operand->AV) (o:Oper) (s:St) (k:aC):Prop :=
 match o.op with
 | .call c=>(match c.callee with
  | .builtin b=>Bool.rec (motive:=fun _=>Prop) (PD E f id e o s k) (s.h id=none/\PD E f id e o s k) (cI o.op)
  | .value fo=>aGk E f (e fo) (c.args.toList.map e) (rch s ((iX o.op).map e)) s k
  | _=>False)
 | _=>Bool.rec (motive:=fun _=>Prop) (PD E f id e o s k) (s.h id=none/\PD E f id e o s k) (cI o.op)
def qSt (E:lX) (f:FuncId) (o:Oper):Bool:=!cI o.op&&match o.op with
 | .call c=>(match c.callee with
  | .value (.func h)=>E.pm f h
  | .value _=>false
  | _=>true)
 | _=>true
def eSt (o:Op):Bool:=match o with
 | .load _ _ | .store _ _ _ | .mapUpdate _ _ _ _ | .convert _ _ _ | .lookup _ _ _ _ | .slice _ _ _ _ _=>false
 | .call _=>false
 | _=>true
def EO (E:lX) (f:FuncId) (m:Nat) (b:Oper):Nat->List Oper->Bool
 | _,[]=>true
 | j,a::l=>(bO m j||(qSt E f a&&qSt E f b)||(qSt E f a&&eSt a.op)||(qSt E f b&&eSt b.op))&&EO E f m b (j+1) l
noncomputable def yX (E:lX) (f:FuncId) (base:Nat) (all:List Oper) (ms:List Nat) (l:List Oper):Nat->List eD->Gf->St->Kt->Prop :=
 List.rec (motive:=fun _=>Nat->List eD->Gf->St->Kt->Prop) (fun _ _ g s k=>k g s)
  (fun o _ ih i lg g s k=>Bool.rec (motive:=fun _=>Prop)
   (clear (ms.getD i 0) (bF (x0 E f) i (base+i) (ev (bX E) g) o.op s) lg=true/\Option.rec (motive:=fun _=>Prop)
    (FM E f (base+i) (ev (bX E) g) o s fun v s'=>ih (i+1) (bF (x0 E f) i (base+i) (ev (bX E) g) o.op s::lg) (pA g o.dst v) s' k)
    (fun _=>Gd (bD all g o) s (FM E f (base+i) (ev (bX E) g) o s) fun v s'=>ih (i+1) (bF (x0 E f) i (base+i) (ev (bX E) g) o.op s::lg) (pA g o.dst v) s' k) o.guard)
   (Option.rec (motive:=fun _=>Prop)
    (FM E f (base+i) (ev (bX E) g) o s fun v s'=>ih (i+1) (bF (x0 E f) i (base+i) (ev (bX E) g) o.op s::lg) (pA g o.dst v) s' k)
    (fun _=>Gd (bD all g o) s (FM E f (base+i) (ev (bX E) g) o s) fun v s'=>ih (i+1) (bF (x0 E f) i (base+i) (ev (bX E) g) o.op s::lg) (pA g o.dst v) s' k) o.guard)
   (EO E f (ms.getD i 0) o 0 (all.take i))) l
noncomputable def wN (n:Nat) (k:Nat->Prop):Prop:=Nat.rec (motive:=fun _=>Prop) (k 0) (fun m _=>k (Nat.succ m)) n
theorem bKu (n:Nat) (k:Nat->Prop):wN n k=k n:=by cases n<;>rfl
noncomputable def ahK (l:List Oper):List Nat->(List Nat->Prop)->Prop :=
 List.rec (motive:=fun _=>List Nat->(List Nat->Prop)->Prop) (fun ms k=>k ms) (fun o _ ih ms k=>wN (mE o ms) fun m=>ih (ms++[m]) k) l
theorem bBk:∀ (l:List Oper) (ms:List Nat) (k:List Nat->Prop),ahK l ms k=k (eB ms l):=by
 intro l
 induction l with
 | nil=>intro ms k;rfl
 | cons o l ih =>intro ms k;show wN (mE o ms) (fun m=>ahK l (ms++[m]) k)=_;rw [bKu,ih];rfl
noncomputable def aL (E:lX) (f:FuncId) (kp:Nat) (c:Code):Kt->(Nat->Kt)->Kt->Kt :=
 Code.rec (motive:=fun _=>Kt->(Nat->Kt)->Kt->Kt)
  (fun kN _ _ g s=>kN g s)
  (fun _ ops dr kN _ _ g s=>Bool.rec (motive:=fun _=>Prop) (KW E f s.nx ops.toList ops.toList 0 g (adv s ops.size) kN) (ahK ops.toList [] fun ms=>Bool.rec (motive:=fun _=>Prop) False (yX E f s.nx ops.toList ms ops.toList 0 [] g (adv s ops.size) kN) (CV ms ops.toList)) dr)
  (fun _ _ ia ib kN kE kR g s=>ia (ib kN kE kR) kE kR g s)
  (fun c _ _ ia ib kN kE kR g s=>aP (ev (bX E) g c) (ia kN kE kR g s) (ib kN kE kR g s))
  (fun id _ ic kN kE kR g s=>ic kN (fun i=>cond (Nat.beq i id) kN (kE i)) kR g s)
  (fun _ ic kN kE kR g s=>∃ n,Nat.rec (motive:=fun _=>Kt) (fun _ _=>False) (fun _ ih g s=>ic (fun g s=>ih (fun k=>cond (bO kp k) (g k) .undef) s) kE kR g s) n g s)
  (fun _ _ _ _ _ _ _ _ _ _ _=>False)
  (fun id _ kE _ g s=>kE id g s)
  (fun _ ic kN kE kR g s=>ic kN kE kR g s)
  (fun _ kN _ _ g s=>kN g s)
  (fun _ _ _ _ _ _=>False)
  (fun _ _ kR g s=>kR g s)
  (fun _ _ _ _ _ _=>False) c
section
variable {E:lX} {f:FuncId}
theorem aA.get {α:Type} {o:Option α} {k:α->Prop} (h:aA o k):∃ a,o=some a/\k a:=by obtain ⟨a,h1,h2⟩:=h;exact ⟨a,h1,h2⟩
noncomputable def xN (E:lX) (f:FuncId) (n:Nat):Cx:=cx E (cL E n) f
theorem nI {n m:Nat} (h:n<=m):MM (xN E f n) (xN E f m):=UP E (RG E n m h) f
theorem aNx {h:FuncId} {args:List AV} {s:St} {k:aC} (hk:NE E f h args s k):∃ n r s',(xN E f n).call false h args s=some (r,s')/\k r s':=by
 unfold NE at hk
 cases hp:E.pm f h with
 | true =>
  rw [hp] at hk;obtain ⟨as,ids,v,h1,⟨n,r,s',ids',h2,h3⟩,h4⟩:=hk;refine ⟨n,v,_,?_,h4⟩;show gW E (cL E n) f false h args s=_;simp only [gW,hp,if_true,h1,Option.bind_some,h2,h3,m015,if_false]
  split<;>simp_all
 | false =>
  rw [hp] at hk;obtain ⟨h2⟩:=hk
  cases hz:E.fz h with
  | true =>rw [hz] at h2;obtain ⟨q,h0,r,s',⟨n,h1⟩,h2⟩:=aA.get h2;obtain ⟨v,h3,h4⟩:=aA.get h2;refine ⟨n,v.1,_,?_,h4⟩;show gW E (cL E n) f false h args s=_;simp only [gW,hp,m015,if_false,h0,h1,Option.bind_some,hz,if_true,h3,Option.map_some]
  | false =>rw [hz] at h2;obtain ⟨r,s',⟨n,h1⟩,h2⟩:=h2;refine ⟨n,r,s',?_,h2⟩;show gW E (cL E n) f false h args s=_;simp only [gW,hp,m015,if_false,h1,hz]
theorem aGq {id:Nat} {e:Operand->AV} {o:Oper} {s:St} {k:aC} (h:PD E f id e o s k):∃ n r s',fX (xN E f n) false id e o s=some (r,s')/\k r s':=by
 have gen:aA (fX (x0 E f) false id e o s) (fun r=>k r.1 r.2)->∃ n r s',fX (xN E f n) false id e o s=some (r,s')/\k r s':=fun hb=>by obtain ⟨r,h1,h2⟩:=aA.get hb;exact ⟨0,r.1,r.2,nE (UP E (a:=fun _ _ _=>none) (fun _ _ _ _ h=>nomatch h) f) h1,h2⟩
 have vv:∀ {q:Option AV},aA q (fun v=>k v s)->(fX (xN E f 0) false id e o s=q.map (·,s))->∃ n r s',fX (xN E f n) false id e o s=some (r,s')/\k r s':=fun hb he=>by obtain ⟨v,h1,h2⟩:=aA.get hb;exact ⟨0,v,s,by rw [he,h1];rfl,h2⟩
 unfold PD at h
 cases ho:o.op with
 | move x | assign x=>rw [ho] at h;exact ⟨0,_,s,by simp only [fX,ho],h⟩
 | pick c a b =>
  rw [ho] at h;obtain ⟨v,h1,h2⟩:=aA.get h;refine ⟨0,v,s,?_,h2⟩;simp only [fX,ho];unfold aJ at h1
  cases hv:e c with
  | bool t=>rw [hv] at h1;cases h1;cases t<;>rfl
  | _=>rw [hv] at h1;cases h1
 | alloc t =>rw [ho] at h;obtain ⟨z,h1,h2⟩:=aA.get h;refine ⟨0,_,_,?_,h2⟩;show fX (cx E _ f) false id e o s=_;simp only [fX,ho,cx,h1,Option.map_some]
 | box t x =>rw [ho] at h;exact ⟨0,_,_,by simp only [fX,ho];rw [if_pos h.1],h.2⟩
 | load t a =>
  rw [ho] at h;obtain ⟨v,h1,h2⟩:=aA.get h
  cases hl:eN E.P t with
  | none=>rw [hl] at h1;cases h1
  | some l =>
  rw [hl] at h1;refine ⟨0,v,s,?_,h2⟩;show fX (cx E _ f) false id e o s=_;have h1:Ai.load l.1 l.2 (e a) s=some v:=h1;simp only [fX,ho,cx,hl,Option.bind_some,h1,Option.map_some]
 | store t a x =>
  rw [ho] at h;obtain ⟨s',h1,h2⟩:=aA.get h
  cases hl:eN E.P t with
  | none=>rw [hl] at h1;cases h1
  | some l =>
  rw [hl] at h1;refine ⟨0,_,s',?_,h2⟩;show fX (cx E _ f) false id e o s=_;have h1:Ai.store l.1 (e a) (e x) s=some s':=h1;simp only [fX,ho,cx,hl,Option.bind_some,h1,Option.map_some]
 | nilCheck x =>rw [ho] at h;refine ⟨0,_,s,?_,h.2⟩;have h1:=h.1;simp only [fX,ho];cases hx:e x<;>rw [hx] at h1<;>first | rfl | cases h1
 | build | buildSlice | binOp | unOp | convert | slice | fieldAddr | field | indexAddr | index | lookup =>rw [ho] at h;refine vv h ?_;simp only [fX,ho]<;>rfl
 | mapUpdate t m q x =>rw [ho] at h;obtain ⟨s',h1,h2⟩:=aA.get h;refine ⟨0,_,s',?_,h2⟩;show fX (cx E _ f) false id e o s=_;simp only [fX,ho,cx,h1,Option.map_some]
 | extract t i =>
  rw [ho] at h;obtain ⟨v,h1,h2⟩:=aA.get h;refine ⟨0,v,s,?_,h2⟩;unfold aQ at h1
  cases hv:e t with
  | tup vs=>rw [hv] at h1;simp only [fX,ho,hv];simp only at h1;rw [h1];rfl
  | _=>rw [hv] at h1;cases h1
 | makeFunc fn a b =>
  rw [ho] at h
  cases fn with
  | func g=>exact ⟨0,_,s,by simp only [fX,ho],h⟩
  | _=>exact gen h
 | call c =>
  rw [ho] at h
  cases hc:c.callee with
  | builtin b =>simp only [hc] at h;obtain ⟨r,h1,h2⟩:=aA.get h;refine ⟨0,r.1,r.2,?_,h2⟩;simp only [fX,ho,hc];exact h1
  | invoke a b=>simp only [hc] at h
  | value fo =>
   simp only [hc] at h;unfold EH at h
   cases hv:e fo with
   | fn g a cap =>rw [hv] at h;obtain ⟨n,r,s',h1,h2⟩:=aNx h;refine ⟨n,r,s',?_,h2⟩;simp only [fX,ho,hc,hv];exact h1
   | _=>rw [hv] at h;exact h.elim
 | makeMap t r =>
  rw [ho] at h
  cases r with
  | none=>exact ⟨0,_,_,by simp only [fX,ho],h⟩
  | some r=>exact gen h
 | makeSlice t n c =>
  rw [ho] at h;obtain ⟨r,h1,h2⟩:=aA.get h;refine ⟨0,r.1,r.2,?_,h2⟩;have:fX (xN E f 0) false id e o s=mkS E.P t (e n) (e c) id s:=by show fX (cx E _ f) false id e o s=_;simp only [fX,ho,cx];rfl
  rw [this];exact h1
 | makeInterface t x =>
  rw [ho] at h;obtain ⟨v,h1,h2⟩:=aA.get h;refine ⟨0,v,s,?_,h2⟩;show fX (cx E _ f) false id e o s=_;simp only [fX,ho,cx];unfold mkI at h1
  split at h1
  ·cases h1
  ·cases h1
  ·rename_i d hn he;cases h1;rw [he]
   split
   ·rename_i hh;cases hh
   ·rename_i hh;cases hh;exact absurd rfl (hn _)
   ·rfl
 | _=>rw [ho] at h;exact gen h
theorem AG {tm:List AV} {d:Option Nat} {v:AV} (h:∀ u,d=some u->u < tm.length):gt (put tm d v)=pA (gt tm) d v:=by
 cases d with
 | none=>rfl
 | some d =>
  funext k;have hd:=h d rfl;simp only [gt,put,pA,List.getD_eq_getElem?_getD,List.getElem?_set];by_cases hk:d=k
  ·subst hk;simp [hd]
  ·have hb:Nat.beq k d=false:=by
    cases hb:Nat.beq k d with
    | false=>rfl
    | true=>exact absurd (jS hb).symm hk
   rw [if_neg hk,hb];rfl
theorem AJ (tm:List AV) (d:Option Nat) (v:AV):(put tm d v).length=tm.length:=by cases d<;>simp [put]
def oK (N:Nat) (l:List Oper):Bool:=l.all fun o=>match o.dst with
 | some d=>Nat.blt d N
 | none=>true
theorem aKt {N:Nat} {o:Oper} {l:List Oper} (h:oK N (o::l)=true):∀ u,o.dst=some u->u < N:=by intro u hu;simp only [oK,List.all_cons,bN] at h;have:=h.1;rw [hu] at this;simpa [Nat.blt_eq] using this
theorem aUd {N base:Nat} {all:List Oper}:∀ (l:List Oper),oK N l=true->∀ (i:Nat) (tm:List AV) (s:St) (k:Kt),tm.length=N->KW E f base all l i (gt tm) s k ->
  ∃ n tm' s',iR (xN E f n) false base all l i tm s=some (tm',s')/\tm'.length=N/\k (gt tm') s':=by
 intro l
 induction l with
 | nil=>intro _ i tm s k hN h;exact ⟨0,tm,s,rfl,hN,h⟩
 | cons o l ih =>
  intro hd i tm s k hN h;have hd2:oK N l=true:=by simp only [oK,List.all_cons,bN] at hd;exact hd.2
  have hlt:=aKt hd;have hrun:∀ n,iR (xN E f n) false base all (o::l) i tm s=(bD all (gt tm) o).bind fun w=>cond w ((fX (xN E f n) false (base+i) (ev (bX E) (gt tm)) o s).bind fun r=>iR (xN E f n) false base all l (i+1) (put tm o.dst r.1) r.2) (iR (xN E f n) false base all l (i+1) (put tm o.dst (.tup [])) s):=fun n=>rfl
  have step:PD E f (base+i) (ev (bX E) (gt tm)) o s (fun v s'=>KW E f base all l (i+1) (pA (gt tm) o.dst v) s' k)->bD all (gt tm) o=some true ->
    ∃ n tm' s',iR (xN E f n) false base all (o::l) i tm s=some (tm',s')/\tm'.length=N/\k (gt tm') s':=fun hs hw=>by
   obtain ⟨n,r,s1,h1,h2⟩:=aGq hs;rw [<- AG (fun u hu=>by rw [hN];exact hlt u hu)] at h2;obtain ⟨m,tm',s',h3,h4,h5⟩:=ih hd2 (i+1) _ s1 k (by rw [AJ];exact hN) h2;refine ⟨max n m,tm',s',?_,h4,h5⟩;rw [hrun,hw];simp only [Option.bind_some,cond_true];rw [nE (nI (Nat.le_max_left n m)) h1];exact GJ (nI (Nat.le_max_right n m)) _ _ _ _ _ h3
  change Option.rec (motive:=fun _=>Prop)
   (PD E f (base+i) (ev (bX E) (gt tm)) o s fun v s'=>KW E f base all l (i+1) (pA (gt tm) o.dst v) s' k)
   (fun _=>Gd (bD all (gt tm) o) s (PD E f (base+i) (ev (bX E) (gt tm)) o s) fun v s'=>KW E f base all l (i+1) (pA (gt tm) o.dst v) s' k) o.guard at h
  cases hg:o.guard with
  | none =>rw [hg] at h;exact step h (by simp only [bD,hg])
  | some jw =>
   rw [hg] at h;change Gd (bD all (gt tm) o) s (PD E f (base+i) (ev (bX E) (gt tm)) o s) (fun v s'=>KW E f base all l (i+1) (pA (gt tm) o.dst v) s' k) at h
   cases h with
   | t hw h=>exact step h hw
   | f hw h =>have h:KW E f base all l (i+1) (pA (gt tm) o.dst (.tup [])) s k:=h;rw [<- AG (fun u hu=>by rw [hN];exact hlt u hu)] at h;obtain ⟨m,tm',s',h3,h4,h5⟩:=ih hd2 (i+1) _ s k (by rw [AJ];exact hN) h;refine ⟨m,tm',s',?_,h4,h5⟩;rw [hrun,hw];exact h3
theorem aFr {id:Nat} {e:Operand->AV} {o:Oper} {s:St} {r:AV×St} {n:Nat} (hv:zO o.op=false) (h:fX (xN E f n) false id e o s=some r):fX (xN E f n) true id e o s=some r:=by
 unfold fX at h ⊢
 cases ho:o.op with
 | call c =>
  cases hc:c.callee with
  | value fo=>rw [ho] at hv;simp [zO,hc] at hv
  | _=>simp only [ho,hc] at h ⊢;exact h
 | makeFunc fn a b=>cases fn<;>(simp only [ho] at h ⊢;exact h)
 | makeMap t q=>cases q<;>(simp only [ho] at h ⊢;exact h)
 | _=>simp only [ho] at h ⊢;exact h
theorem aRe {id:Nat} {e:Operand->AV} {o:Oper} {s:St} {k:aC} (h:FM E f id e o s k):∃ n r s',rR (xN E f n) id e o s=some (r,s')/\k r s':=by
 have plain:zO o.op=false->Bool.rec (motive:=fun _=>Prop) (PD E f id e o s k) (s.h id=none/\PD E f id e o s k) (cI o.op)->∃ n r s',rR (xN E f n) id e o s=some (r,s')/\k r s':=fun hv hc=>by
  have key:(cI o.op=true->s.h id=none)/\PD E f id e o s k:=by
   cases hw:cI o.op with
   | true=>rw [hw] at hc;exact ⟨fun _=>hc.1,hc.2⟩
   | false=>rw [hw] at hc;exact ⟨(fun h=>(nomatch h)),hc⟩
  obtain ⟨n,r,s',h1,h2⟩:=aGq key.2;exact ⟨n,r,s',LX (tN E (cL E n) f) key.1 hv (aFr hv h1),h2⟩
 unfold FM at h
 cases ho:o.op with
 | call c =>
  cases hc:c.callee with
  | builtin b =>simp only [ho,hc] at h;rw [<- ho] at h;exact plain (by rw [ho];simp [zO,hc]) h
  | invoke a b=>simp only [ho,hc] at h
  | value fo =>
   simp only [ho,hc] at h;unfold aGk at h;have hsh:rch s ((iX (Op.call c)).map e)=dL e o.op s:=by rw [ho];unfold dL rch;simp only [hc]
   rw [hsh] at h
   cases hv:e fo with
   | fn g a cap =>
    rw [hv] at h;simp only at h;have hwd:∀ n,gQ (xN E f n) e o.op=!E.pm f g:=fun n=>by rw [ho];unfold gQ;simp only [hc,hv];rfl
    have hop:∀ n dr t,fX (xN E f n) dr id e o t=gW E (cL E n) f dr g (a++c.args.toList.map e++cap) t:=fun n dr t=>by simp only [fX,ho,hc,hv];rfl
    cases hp:E.pm f g with
    | true =>
     rw [hp] at h;obtain ⟨as,ids,v,h1,⟨n,r,s',ids',h2,h3⟩,h4,h5⟩:=h;refine ⟨n,v,s,?_,h5⟩;have hwr:cI o.op=false:=by rw [ho];simp [cI,hc]
     simp only [rR,hwd,hp,m025,cond_false,hop,hwr];have:gW E (cL E n) f true g (a++c.args.toList.map e++cap) (s.only (dL e o.op s))=some (v,s.only (dL e o.op s)):=by simp only [gW,hp,if_true,h1,Option.bind_some,h2,h3,h4]
     rw [this];rfl
    | false =>
     rw [hp] at h;obtain ⟨h2⟩:=h
     cases hz:E.fz g with
     | true =>rw [hz] at h2;obtain ⟨q,h0,r,s',⟨n,h1⟩,h2⟩:=aA.get h2;obtain ⟨v,h3,h4⟩:=aA.get h2;refine ⟨n,v.1,_,?_,h4⟩;simp only [rR,hwd,hp,m027,cond_true,hop,gW,m015,if_false,h0,h1,Option.bind_some,hz,if_true,h3,Option.map_some]
     | false =>rw [hz] at h2;obtain ⟨r,s',⟨n,h1⟩,h2⟩:=h2;refine ⟨n,r,_,?_,h2⟩;simp only [rR,hwd,hp,m027,cond_true,hop,gW,m015,if_false,h1,Option.bind_some,hz,Option.map_some]
   | _=>rw [hv] at h;exact h.elim
 | _=>rw [ho] at h;simp only at h;rw [<- ho] at h;exact plain (by rw [ho];rfl) h
theorem uY {o:Oper} (h:qSt E f o=true) (e:Operand->AV) (he:∀ h,e (.func h)=.fn h [] []):gQ (x0 E f) e o.op=false/\cI o.op=false:=by
 simp only [qSt,bN,Bool.not_eq_true'] at h;refine ⟨?_,h.1⟩;cases ho:o.op<;>try rfl
 rename_i c;have h2:=h.2;rw [ho] at h2;unfold gQ;simp only at h2
 cases hc:c.callee with
 | value fo =>
  rw [hc] at h2
  cases fo with
  | func g =>simp only at h2;simp only [hc,he];show (!E.pm f g)=false;rw [h2];rfl
  | _=>cases h2
 | _=>simp only [hc]
theorem OX {o:Op} (h:eSt o=true) (e:Operand->AV) (s:St):dL e o s=[]:=by cases o<;>first | rfl | cases h
theorem pM:∀ (l:List Nat),tH l []=true:=by
 intro l
 induction l with
 | nil=>rfl
 | cons n l ih=>simp [tH,dY,ih]
def aZt (E:lX) (f:FuncId) (base:Nat) (all:List Oper) (i:Nat) (lg:List eD):Prop:=∀ p∈lg,∃ j o e s,j < i/\all[j]?=some o/\(∀ h,e (.func h)=.fn h [] [])/\p=bF (x0 E f) j (base+j) e o.op s
theorem QY {m:Nat} {b:Oper}:∀ (l:List Oper) (j:Nat),EO E f m b j l=true->∀ k a,l[k]?=some a->(bO m (j+k)=true\/(qSt E f a=true/\qSt E f b=true)\/(qSt E f a=true/\eSt a.op=true)\/(qSt E f b=true/\eSt b.op=true)):=by
 intro l
 induction l with
 | nil=>intro j _ k a h;simp at h
 | cons x l ih =>
  intro j h k a ha;simp only [EO,bN,uN] at h
  cases k with
  | zero =>
   simp only [List.getElem?_cons_zero,m000] at ha;subst ha;rcases h.1 with ((h1 | h1) | h1) | h1
   ·exact .inl h1
   ·exact .inr (.inl h1)
   ·exact .inr (.inr (.inl h1))
   ·exact .inr (.inr (.inr h1))
  | succ k =>
   simp only [List.getElem?_cons_succ] at ha;have:=ih (j+1) h.2 k a ha
   rwa [show j+1+k=j+(k+1) by omega] at this
theorem JM {base i m:Nat} {all:List Oper} {o:Oper} {lg:List eD} {e:Operand->AV} {s:St} (he:∀ h,e (.func h)=.fn h [] []) (hr:EO E f m o 0 (all.take i)=true) (hl:aZt E f base all i lg) :
  clear m (bF (x0 E f) i (base+i) e o.op s) lg=true:=by
 refine m032.2 fun p hp=>?_;obtain ⟨j,a,e',s',hj,ha,he',rfl⟩:=hl p hp;have ha':(all.take i)[j]?=some a:=by rw [List.getElem?_take,if_pos hj];exact ha
 have:=QY _ 0 hr j a ha';rw [m023] at this;have hi:(bF (x0 E f) j (base+j) e' a.op s').i=j:=by unfold bF;cases gQ (x0 E f) e' a.op<;>rfl
 rw [hi,uN];rcases this with h1 | ⟨h1,h2⟩ | ⟨h1,h2⟩ | ⟨h1,h2⟩
 ·exact .inl h1
 ·obtain ⟨a1,a2⟩:=uY h1 e' he';obtain ⟨b1,b2⟩:=uY h2 e he;right;simp [eD.apart,bF,a1,a2,b1,b2]
 ·obtain ⟨a1,a2⟩:=uY h1 e' he';right;simp only [bF,a1,a2,cond_false,eD.apart,vE,OX h2,DF,tH,m059,m031,uN];right
  split
  ·rfl
  ·rfl
 ·obtain ⟨b1,b2⟩:=uY h1 e he;right;simp only [bF,b1,b2,cond_false,eD.apart,vE,OX h2,DF,pM,m059,m031,uN];right
  split
  ·rfl
  ·rfl
theorem aAv {m:Nat} {k:eD} {lg lg':List eD} (hs:∀ p∈lg',p∈lg) (h:clear m k lg=true):clear m k lg'=true :=
 m032.2 fun p hp=>m032.1 h p (hs p hp)
theorem aFy {N base:Nat} {all:List Oper} {ms:List Nat}:∀ (l:List Oper),oK N l=true->∀ (i:Nat) (lg lg':List eD) (tm:List AV) (s:St) (k:Kt),all.drop i=l->tm.length=N->aZt E f base all i lg->(∀ p∈lg',p∈lg)->yX E f base all ms l i lg (gt tm) s k ->
  ∃ n tm' s',mX (xN E f n) base all ms l i lg' tm s=some (tm',s')/\tm'.length=N/\k (gt tm') s':=by
 intro l
 induction l with
 | nil=>intro _ i lg lg' tm s k _ hN _ _ h;exact ⟨0,tm,s,rfl,hN,h⟩
 | cons o l ih =>
  intro hd i lg lg' tm s k hal hN hlg hsub h;have hd2:oK N l=true:=by simp only [oK,List.all_cons,bN] at hd;exact hd.2
  have hlt:=aKt hd;have hoi:all[i]?=some o:=by have:=congrArg (·[0]?) hal;simpa using this
  have hal':all.drop (i+1)=l:=by
   have:(all.drop i).drop 1=l:=by rw [hal];rfl
   rwa [List.drop_drop] at this
  have hev:∀ h,ev (bX E) (gt tm) (.func h)=.fn h [] []:=fun h=>rfl;have hmk:∀ n,bF (xN E f n) i (base+i) (ev (bX E) (gt tm)) o.op s=bF (x0 E f) i (base+i) (ev (bX E) (gt tm)) o.op s:=fun n=>rfl
  have hlg2:aZt E f base all (i+1) (bF (x0 E f) i (base+i) (ev (bX E) (gt tm)) o.op s::lg):=fun p hp=>by
   rcases m013.1 hp with rfl | hp
   ·exact ⟨i,o,_,_,Nat.lt_succ_self _,hoi,hev,rfl⟩
   ·obtain ⟨j,a,e',s',hj,hr⟩:=hlg p hp;exact ⟨j,a,e',s',Nat.lt_succ_of_lt hj,hr⟩
  have hrun:∀ n,mX (xN E f n) base all ms (o::l) i lg' tm s=(bD all (gt tm) o).bind fun w=>cond w
    (cond (clear (ms.getD i 0) (bF (x0 E f) i (base+i) (ev (bX E) (gt tm)) o.op s) lg')
     ((rR (xN E f n) (base+i) (ev (bX E) (gt tm)) o s).bind fun r=>mX (xN E f n) base all ms l (i+1) (bF (x0 E f) i (base+i) (ev (bX E) (gt tm)) o.op s::lg') (put tm o.dst r.1) r.2) none)
    (mX (xN E f n) base all ms l (i+1) lg' (put tm o.dst (.tup [])) s):=fun n=>rfl
  have hboth:clear (ms.getD i 0) (bF (x0 E f) i (base+i) (ev (bX E) (gt tm)) o.op s) lg=true/\(Option.rec (motive:=fun _=>Prop)
    (FM E f (base+i) (ev (bX E) (gt tm)) o s fun v s'=>yX E f base all ms l (i+1) (bF (x0 E f) i (base+i) (ev (bX E) (gt tm)) o.op s::lg) (pA (gt tm) o.dst v) s' k)
    (fun _=>Gd (bD all (gt tm) o) s (FM E f (base+i) (ev (bX E) (gt tm)) o s) fun v s'=>yX E f base all ms l (i+1) (bF (x0 E f) i (base+i) (ev (bX E) (gt tm)) o.op s::lg) (pA (gt tm) o.dst v) s' k) o.guard):=by
   change Bool.rec (motive:=fun _=>Prop) (_/\_) _ (EO E f (ms.getD i 0) o 0 (all.take i)) at h
   cases hr:EO E f (ms.getD i 0) o 0 (all.take i) with
   | true=>rw [hr] at h;exact ⟨JM hev hr hlg,h⟩
   | false=>rw [hr] at h;exact h
  obtain ⟨hcl,h⟩:=hboth
  have step:FM E f (base+i) (ev (bX E) (gt tm)) o s (fun v s'=>yX E f base all ms l (i+1) (bF (x0 E f) i (base+i) (ev (bX E) (gt tm)) o.op s::lg) (pA (gt tm) o.dst v) s' k)->bD all (gt tm) o=some true ->
    ∃ n tm' s',mX (xN E f n) base all ms (o::l) i lg' tm s=some (tm',s')/\tm'.length=N/\k (gt tm') s':=fun hs hw=>by
   obtain ⟨n,r,s1,h1,h2⟩:=aRe hs;rw [<- AG (fun u hu=>by rw [hN];exact hlt u hu)] at h2
   obtain ⟨m,tm',s',h3,h4,h5⟩:=ih hd2 (i+1) _ (bF (x0 E f) i (base+i) (ev (bX E) (gt tm)) o.op s::lg') _ s1 k hal' (by rw [AJ];exact hN) hlg2 (fun p hp=>by
    rcases m013.1 hp with rfl | hp
    ·exact m007 ..
    ·exact m005 _ (hsub p hp)) h2
   refine ⟨max n m,tm',s',?_,h4,h5⟩;rw [hrun,hw];simp only [Option.bind_some,cond_true];rw [aAv hsub hcl];simp only [cond_true];rw [BK (nI (Nat.le_max_left n m)) h1];exact GM (nI (Nat.le_max_right n m)) _ _ _ _ _ _ h3
  cases hg:o.guard with
  | none =>rw [hg] at h;exact step h (by simp only [bD,hg])
  | some jw =>
   rw [hg] at h;change Gd (bD all (gt tm) o) s (FM E f (base+i) (ev (bX E) (gt tm)) o s) (fun v s'=>yX E f base all ms l (i+1) (bF (x0 E f) i (base+i) (ev (bX E) (gt tm)) o.op s::lg) (pA (gt tm) o.dst v) s' k) at h
   cases h with
   | t hw h=>exact step h hw
   | f hw h =>have h:yX E f base all ms l (i+1) (bF (x0 E f) i (base+i) (ev (bX E) (gt tm)) o.op s::lg) (pA (gt tm) o.dst (.tup [])) s k:=h;rw [<- AG (fun u hu=>by rw [hN];exact hlt u hu)] at h;obtain ⟨m,tm',s',h3,h4,h5⟩:=ih hd2 (i+1) _ lg' _ s k hal' (by rw [AJ];exact hN) hlg2 (fun p hp=>m005 _ (hsub p hp)) h;refine ⟨m,tm',s',?_,h4,h5⟩;rw [hrun,hw];exact h3
noncomputable def tL (N:Nat) (c:Code):Bool :=
 Code.rec (motive:=fun _=>Bool) true (fun _ ops _=>oK N ops.toList) (fun _ _ a b=>a&&b) (fun _ _ _ a b=>a&&b) (fun _ _ a=>a) (fun _ a=>a)
  (fun _ _ _ _ _ _=>true) (fun _=>true) (fun _ a=>a) (fun _=>true) (fun _=>true) true (fun _=>true) c
def aSe (kN:Kt) (kE:Nat->Kt) (kR:Kt):Ex->Kt
 | .nm=>kN
 | .ex i=>kE i
 | .gt _=>fun _ _=>False
 | .rt=>kR
noncomputable def iY (E:lX) (f:FuncId) (n:Nat) (c:Code):List AV->St->CB:=code (xN E f n) (gR (xN E f n) (E.kp f) n) c
theorem BM {n m:Nat} (h:n<=m) (c:Code) (tm:List AV) (s:St) (r:Ex×List AV×St) (hr:iY E f n c tm s=some r):iY E f m c tm s=some r :=
 lC (nI h) (jK (nI h) (E.kp f) n m h) c tm s r hr
theorem aPn (m:Nat) (tm:List AV):gt (mask m 0 tm)=fun k=>cond (bO m k) (gt tm k) .undef:=by
 have key:∀ (l:List AV) (i k:Nat),(mask m i l)[k]?=(l[k]?).map fun v=>cond (bO m (i+k)) v .undef:=by
  intro l
  induction l with
  | nil=>intro i k;rfl
  | cons v l ih =>
   intro i k
   cases k with
   | zero=>rfl
   | succ k=>show (mask m (i+1) l)[k]?=_;rw [ih,show i+1+k=i+(k+1) by omega];rfl
 funext k;simp only [gt,List.getD_eq_getElem?_getD,key tm 0 k,m023]
 cases tm[k]? with
 | none=>cases bO m k<;>rfl
 | some v=>rfl
theorem aNo {N:Nat} (c:Code):tL N c=true->∀ (kN:Kt) (kE:Nat->Kt) (kR:Kt) (tm:List AV) (s:St),tm.length=N->aL E f (E.kp f) c kN kE kR (gt tm) s ->
  ∃ n e tm' s',iY E f n c tm s=some (e,tm',s')/\tm'.length=N/\aSe kN kE kR e (gt tm') s':=by
 induction c with
 | skip | label=>intro _ kN kE kR tm s hN h;exact ⟨0,.nm,tm,s,rfl,hN,h⟩
 | exit id=>intro _ kN kE kR tm s hN h;exact ⟨0,.ex id,tm,s,rfl,hN,h⟩
 | ret=>intro _ kN kE kR tm s hN h;exact ⟨0,.rt,tm,s,rfl,hN,h⟩
 | region id ops dr =>
  intro hok kN kE kR tm s hN h;change Bool.rec (motive:=fun _=>Prop) (KW E f s.nx ops.toList ops.toList 0 (gt tm) (adv s ops.size) kN) (ahK ops.toList [] fun ms=>Bool.rec (motive:=fun _=>Prop) False (yX E f s.nx ops.toList ms ops.toList 0 [] (gt tm) (adv s ops.size) kN) (CV ms ops.toList)) dr at h
  cases dr with
  | true =>
   simp only [bBk] at h
   cases hm:CV (eB [] ops.toList) ops.toList with
   | false=>rw [hm] at h;exact h.elim
   | true =>rw [hm] at h;obtain ⟨n,tm',s',h1,h2,h3⟩:=aFy ops.toList hok 0 [] [] tm _ kN (by simp) hN (fun p hp=>by cases hp) (fun p hp=>by cases hp) h;refine ⟨n,.nm,tm',s',?_,h2,h3⟩;show (cond true (drawn (xN E f n) s.nx ops.toList tm ⟨s.h,s.nx+ops.size⟩) (iR (xN E f n) false s.nx ops.toList ops.toList 0 tm ⟨s.h,s.nx+ops.size⟩)).map (fun r=>(Ex.nm,r.1,r.2))=_;simp only [cond_true,drawn,hm];have h1:mX (xN E f n) s.nx ops.toList (eB [] ops.toList) ops.toList 0 [] tm ⟨s.h,s.nx+ops.size⟩=some (tm',s'):=h1;rw [h1];rfl
  | false =>obtain ⟨n,tm',s',h1,h2,h3⟩:=aUd ops.toList hok 0 tm _ kN hN h;refine ⟨n,.nm,tm',s',?_,h2,h3⟩;show (cond false (drawn (xN E f n) s.nx ops.toList tm ⟨s.h,s.nx+ops.size⟩) (iR (xN E f n) false s.nx ops.toList ops.toList 0 tm ⟨s.h,s.nx+ops.size⟩)).map (fun r=>(Ex.nm,r.1,r.2))=_;simp only [cond_false];have h1:iR (xN E f n) false s.nx ops.toList ops.toList 0 tm ⟨s.h,s.nx+ops.size⟩=some (tm',s'):=h1;rw [h1];rfl
 | seq a b iha ihb =>
  intro hok kN kE kR tm s hN h;have hok:(tL N a&&tL N b)=true:=hok;simp only [bN] at hok;obtain ⟨n,e,tm1,s1,h1,h2,h3⟩:=iha hok.1 (aL E f (E.kp f) b kN kE kR) kE kR tm s hN h
  cases e with
  | nm =>obtain ⟨m,e,tm2,s2,k1,k2,k3⟩:=ihb hok.2 kN kE kR tm1 s1 h2 h3;refine ⟨max n m,e,tm2,s2,?_,k2,k3⟩;show GC (iY E f (max n m) a tm s) (iY E f (max n m) b)=_;rw [BM (Nat.le_max_left n m) a _ _ _ h1];exact BM (Nat.le_max_right n m) b _ _ _ k1
  | ex i=>exact ⟨n,.ex i,tm1,s1,by show GC (iY E f n a tm s) (iY E f n b)=_;rw [h1];rfl,h2,h3⟩
  | gt i=>exact h3.elim
  | rt=>exact ⟨n,.rt,tm1,s1,by show GC (iY E f n a tm s) (iY E f n b)=_;rw [h1];rfl,h2,h3⟩
 | cond c a b iha ihb =>
  intro hok kN kE kR tm s hN h;have hok:(tL N a&&tL N b)=true:=hok;simp only [bN] at hok;change aP (ev (bX E) (gt tm) c) (aL E f (E.kp f) a kN kE kR (gt tm) s) (aL E f (E.kp f) b kN kE kR (gt tm) s) at h
  cases h with
  | t hv h =>obtain ⟨n,e,tm1,s1,h1,h2,h3⟩:=iha hok.1 kN kE kR tm s hN h;refine ⟨n,e,tm1,s1,?_,h2,h3⟩;show (KA (ev (bX E) (gt tm) c)).bind (fun t=>cond t (iY E f n a tm s) (iY E f n b tm s))=_;rw [hv];exact h1
  | f hv h =>obtain ⟨n,e,tm1,s1,h1,h2,h3⟩:=ihb hok.2 kN kE kR tm s hN h;refine ⟨n,e,tm1,s1,?_,h2,h3⟩;show (KA (ev (bX E) (gt tm) c)).bind (fun t=>cond t (iY E f n a tm s) (iY E f n b tm s))=_;rw [hv];exact h1
 | block id c ih =>
  intro hok kN kE kR tm s hN h;obtain ⟨n,e,tm1,s1,h1,h2,h3⟩:=ih hok kN (fun i=>cond (Nat.beq i id) kN (kE i)) kR tm s hN h;have hb:iY E f n (.block id c) tm s=blk id (iY E f n c tm s):=rfl
  cases e with
  | nm=>exact ⟨n,.nm,tm1,s1,by rw [hb,h1];rfl,h2,h3⟩
  | ex i =>
   by_cases hi:i=id
   ·subst hi;refine ⟨n,.nm,tm1,s1,by rw [hb,h1];simp [blk],h2,?_⟩;simpa [aSe] using h3
   ·refine ⟨n,.ex i,tm1,s1,by rw [hb,h1];simp [blk,hi],h2,?_⟩
    have hne:Nat.beq i id=false:=by
     cases hb:Nat.beq i id with
     | false=>rfl
     | true=>exact absurd (jS hb) hi
    simpa [aSe,hne] using h3
  | gt i=>exact h3.elim
  | rt=>exact ⟨n,.rt,tm1,s1,by rw [hb,h1];rfl,h2,h3⟩
 | loop c ih =>
  intro hok kN kE kR tm s hN h;change ∃ n,Nat.rec (motive:=fun _=>Kt) (fun _ _=>False) (fun _ ih g s=>aL E f (E.kp f) c (fun g s=>ih (fun k=>cond (bO (E.kp f) k) (g k) .undef) s) kE kR g s) n (gt tm) s at h;obtain ⟨n,h⟩:=h
  suffices hs:∀ n (tm:List AV) (s:St),tm.length=N->Nat.rec (motive:=fun _=>Kt) (fun _ _=>False) (fun _ ih g s=>aL E f (E.kp f) c (fun g s=>ih (fun k=>cond (bO (E.kp f) k) (g k) .undef) s) kE kR g s) n (gt tm) s ->
    ∃ m e tm' s',gR (xN E f m) (E.kp f) m c tm s=some (e,tm',s')/\tm'.length=N/\aSe kN kE kR e (gt tm') s' by
   exact hs n tm s hN h
  intro n
  induction n with
  | zero=>intro tm s _ h;exact h.elim
  | succ n ihn =>
   intro tm s hN h;obtain ⟨m,e,tm1,s1,h1,h2,h3⟩:=ih hok _ kE kR tm s hN h
   cases e with
   | nm =>have h3:Nat.rec (motive:=fun _=>Kt) (fun _ _=>False) (fun _ ih g s=>aL E f (E.kp f) c (fun g s=>ih (fun k=>cond (bO (E.kp f) k) (g k) .undef) s) kE kR g s) n (fun k=>cond (bO (E.kp f) k) (gt tm1 k) .undef) s1:=h3;rw [<- aPn] at h3;obtain ⟨m2,e2,tm2,s2,k1,k2,k3⟩:=ihn (mask (E.kp f) 0 tm1) s1 (by rw [DR];exact h2) h3;refine ⟨max m m2+1,e2,tm2,s2,?_,k2,k3⟩;rw [oE];have hA:=lC (nI (E:=E) (f:=f) (FN (Nat.le_max_left m m2) (HS _))) (jK (nI (FN (Nat.le_max_left m m2) (HS _))) (E.kp f) m (max m m2) (Nat.le_max_left m m2)) c tm s _ h1;rw [hA];exact jK (nI (FN (Nat.le_max_right m m2) (HS _))) (E.kp f) m2 (max m m2) (Nat.le_max_right m m2) c _ _ _ k1
   | ex i =>refine ⟨m+1,.ex i,tm1,s1,?_,h2,h3⟩;rw [oE];have hA:=lC (nI (E:=E) (f:=f) (HS m)) (jK (nI (HS m)) (E.kp f) m m (bH m)) c tm s _ h1;rw [hA];rfl
   | gt i=>exact h3.elim
   | rt =>refine ⟨m+1,.rt,tm1,s1,?_,h2,h3⟩;rw [oE];have hA:=lC (nI (E:=E) (f:=f) (HS m)) (jK (nI (HS m)) (E.kp f) m m (bH m)) c tm s _ h1;rw [hA];rfl
 | scope c ih =>
  intro hok kN kE kR tm s hN h;obtain ⟨n,e,tm1,s1,h1,h2,h3⟩:=ih hok kN kE kR tm s hN h;have hb:iY E f n (.scope c) tm s=XP (iY E f n c tm s):=rfl
  cases e with
  | gt i=>exact h3.elim
  | nm=>exact ⟨n,.nm,tm1,s1,by rw [hb,h1];rfl,h2,h3⟩
  | ex i=>exact ⟨n,.ex i,tm1,s1,by rw [hb,h1];rfl,h2,h3⟩
  | rt=>exact ⟨n,.rt,tm1,s1,by rw [hb,h1];rfl,h2,h3⟩
 | _=>intro _ kN kE kR tm s hN h;exact h.elim
theorem aUb {h:FuncId} {fn:Func} {c:Code} {args:List AV} {s:St} {Q:aC} (hp:E.prim h=none) (hf:E.fns h=some fn) (hb:fn.body=some c) (hok:tL fn.ntmps c=true) (hl:args.length<=fn.ntmps)
  (hc:aL E h (E.kp h) c (fun g s=>bT (iB E.P fn g s) fun v=>Q v s) (fun _ _ _=>False) (fun g s=>bT (iB E.P fn g s) fun v=>Q v s) (gt (fR fn args)) s):∃ r s',WideC E h args s r s'/\Q r s':=by
 have hlen:(fR fn args).length=fn.ntmps:=by simp [fR];omega
 obtain ⟨n,e,tm',s',h1,h2,h3⟩:=aNo c hok _ _ _ _ s hlen hc
 have hres:∀ e,(e=Ex.nm\/e=Ex.rt)->iY E h n c (fR fn args) s=some (e,tm',s')->bT (iB E.P fn (gt tm') s') (fun v=>Q v s')->∃ r s',WideC E h args s r s'/\Q r s':=fun e he h1 h3=>by
  obtain ⟨v,k1,k2⟩:∃ v,iB E.P fn (gt tm') s'=some v/\Q v s':=by
   cases hr:iB E.P fn (gt tm') s' with
   | none=>rw [hr] at h3;exact h3.elim
   | some v=>rw [hr] at h3;exact ⟨v,rfl,h3⟩
  refine ⟨v,s',⟨n+1,?_⟩,k2⟩;rw [sU,hp,hf];simp only [hb];have h1:code (cx E (cL E n) h) (gR (cx E (cL E n) h) (E.kp h) n) c (fR fn args) s=some (e,tm',s'):=h1;rw [h1];rcases he with rfl | rfl<;>simp only [lV,k1,Option.map_some]
 cases e with
 | nm=>exact hres _ (.inl rfl) h1 h3
 | rt=>exact hres _ (.inr rfl) h1 h3
 | ex i=>exact h3.elim
 | gt i=>exact h3.elim
theorem aH {h:FuncId} {fn:Func} {c:Code} {args:List AV} {s:St} {Q:aC} {P:Kt} {hP:Prop}
  (pf:aL E h (E.kp h) c (fun g s=>bT (iB E.P fn g s) fun v=>Q v s) (fun _ _ _=>False) (fun g s=>bT (iB E.P fn g s) fun v=>Q v s)=P) (hh:hP) (he:hP=P (gt (fR fn args)) s:=by kernel_rfl)
  (hp:E.prim h=none:=by kernel_rfl) (hf:E.fns h=some fn:=by kernel_rfl) (hb:fn.body=some c:=by kernel_rfl) (hok:tL fn.ntmps c=true:=by kernel_rfl) (hl:args.length<=fn.ntmps:=by exact of_decide_eq_true (by kernel_rfl)):∃ r s',WideC E h args s r s'/\Q r s' :=
 aUb hp hf hb hok hl (by rw [pf,<- he];exact hh)
theorem AC {h:FuncId} {args:List AV} {v:AV} (hw:∃ r s',WideC E h args St.empty r s'/\∃ ids,pur E.P s' 12 r=some (v,ids)):aU E h args v:=by obtain ⟨r,s',⟨n,h1⟩,ids,h2⟩:=hw;exact ⟨n,r,s',ids,h1,h2⟩
end
end
noncomputable section
def cA (z:Nat) (x ix:AV):Option AV:=(pF ix).bind fun i=>match x with
 | .sl _ l=>(zK i l.length).bind fun j=>(l[j]?).bind fun v=>if v.cells.length=z then some (.pel v.cells 0) else none
 | .ref id off n _ _=>(zK i n).bind fun j=>some (.ptr id (off+j * z))
 | _=>none
def FD (n z:Nat) (x ix:AV):Option AV:=(pF ix).bind fun i=>(zK i n).bind fun j=>aD (j * z) x
def bW:List (Option AV)->Option (List AV)
 | []=>some []
 | q::l=>q.bind fun v=>(bW l).map (v::·)
def bY (vs:List AV):AV:=match vs with
 | [v]=>v
 | vs=>.tup vs
def sub:Code->List Bool->Code
 | c,[]=>c
 | .seq a b,t::p=>cond t (sub b p) (sub a p)
 | .cond _ a b,t::p=>cond t (sub b p) (sub a p)
 | .block _ c,_::p=>sub c p
 | .loop c,_::p=>sub c p
 | .scope c,_::p=>sub c p
 | c,_=>c
def aN (fn:Func):Code:=match fn.body with
 | some c=>c
 | none=>.skip
section
variable {E:lX} {f:FuncId} {kp:Nat} {kN:Kt} {kE:Nat->Kt} {kR:Kt} {φ φ1 φ2:Kt} {a b c:Code}
theorem aZp (h:c=.seq a b) (hb:aL E f kp b kN kE kR=φ1) (ha:aL E f kp a φ1 kE kR=φ):aL E f kp c kN kE kR=φ:=by subst h;subst hb;exact ha
theorem aUa {x:Operand} (h:c=.cond x a b) (ha:aL E f kp a kN kE kR=φ1) (hb:aL E f kp b kN kE kR=φ2):aL E f kp c kN kE kR=fun g s=>aP (ev (bX E) g x) (φ1 g s) (φ2 g s):=by subst h;subst ha;subst hb;rfl
theorem aJw {id:Nat} (h:c=.block id a) (ha:aL E f kp a kN (fun i=>cond (Nat.beq i id) kN (kE i)) kR=φ):aL E f kp c kN kE kR=φ:=by subst h;exact ha
theorem aO {t:Code} {p:List Bool} (hb:aL E f kp (sub t (p++[true])) kN kE kR=φ1) (ha:aL E f kp (sub t (p++[false])) φ1 kE kR=φ) (h:sub t p=.seq (sub t (p++[false])) (sub t (p++[true])):=by kernel_rfl):aL E f kp (sub t p) kN kE kR=φ:=aZp h hb ha
theorem cdA {t:Code} {p:List Bool} (x:Operand) (ha:aL E f kp (sub t (p++[false])) kN kE kR=φ1) (hb:aL E f kp (sub t (p++[true])) kN kE kR=φ2) (h:sub t p=.cond x (sub t (p++[false])) (sub t (p++[true])):=by kernel_rfl):aL E f kp (sub t p) kN kE kR=fun g s=>aP (ev (bX E) g x) (φ1 g s) (φ2 g s):=aUa h ha hb
theorem dI {t:Code} {p:List Bool} (id:Nat) (ha:aL E f kp (sub t (p++[false])) kN (fun i=>cond (Nat.beq i id) kN (kE i)) kR=φ) (h:sub t p=.block id (sub t (p++[false])):=by kernel_rfl):aL E f kp (sub t p) kN kE kR=φ:=aJw h ha
theorem aSb {L:Nat->Kt} (h:c=.loop a) (h0:L 0=fun _ _=>False) (hs:∀ n,aL E f kp a (fun g s=>L n (fun k=>cond (bO kp k) (g k) .undef) s) kE kR=L (n+1)):aL E f kp c kN kE kR=fun g s=>∃ n,L n g s:=by
 subst h
 have key:∀ n,(Nat.rec (motive:=fun _=>Kt) (fun _ _=>False) (fun _ ih g s=>aL E f kp a (fun g s=>ih (fun k=>cond (bO kp k) (g k) .undef) s) kE kR g s) n:Kt)=L n:=by
  intro n
  induction n with
  | zero=>exact h0.symm
  | succ n ih =>rw [<- hs n];show (fun g s=>aL E f kp a (fun g s=>(Nat.rec (motive:=fun _=>Kt) (fun _ _=>False) (fun _ ih g s=>aL E f kp a (fun g s=>ih (fun k=>cond (bO kp k) (g k) .undef) s) kE kR g s) n:Kt) (fun k=>cond (bO kp k) (g k) .undef) s) kE kR g s)=_;rw [ih]
 funext g s;show (∃ n,(Nat.rec (motive:=fun _=>Kt) (fun _ _=>False) (fun _ ih g s=>aL E f kp a (fun g s=>ih (fun k=>cond (bO kp k) (g k) .undef) s) kE kR g s) n:Kt) g s)=_;simp only [key]
theorem jW {t:Code} {p:List Bool} {L:Nat->Kt} (hs:∀ n,aL E f kp (sub t (p++[false])) (fun g s=>L n (fun k=>cond (bO kp k) (g k) .undef) s) kE kR=L (n+1)) (h:sub t p=.loop (sub t (p++[false])):=by kernel_rfl) (h0:L 0=fun _ _=>False:=by kernel_rfl):aL E f kp (sub t p) kN kE kR=fun g s=>∃ n,L n g s:=aSb h h0 hs
end
end
end Go.Proofs.YtdehdahimkcakaaGreatDoor.Ai
