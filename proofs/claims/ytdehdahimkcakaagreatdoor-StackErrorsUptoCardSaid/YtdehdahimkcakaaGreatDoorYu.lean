/- Texts joined by wip/tools/pack.py: Kj,Ar,Ap,Km,Kn,Ko,Kl,Kp,Rd,Bk,Rk. -/
import Derived.Test.YtdehdahimkcakaaGreatDoorYt
open Nat (reduceAdd reduceEqDiff)
set_option linter.unusedSimpArgs false
set_option linter.unusedVariables false
set_option maxHeartbeats 4000000
set_option maxRecDepth 100000
namespace Go.Proofs.YtdehdahimkcakaaGreatDoor
open Go Ai
noncomputable section
section
variable {s s':St} {p:Nat} {K:Sk} {F:List Nat} {xd xm xa xn m:AV}
theorem bPp (Q:aE) (ih1:AV->AV->aE) (t17 t18:AV) (D:List Dc) (hl:D.length<=2 ^ 20) (jj j:Nat) :
  ∀ (k i:Nat) (s:St) (N:List (List UInt8)),i+k=D.length->aI s->gA s p { K with N:=some N } xd xm xa xn (.map j)->s.h jj=some (.cells ((D.map Dc.av).flatMap AV.cells) 67 false true)->jj ∉ p::aO xd xm xa xn (.map j) ->
   (∀ s',gA s' p { K with N:=some (((D.drop i).map Dc.nm).foldl wR N) } xd xm xa xn (.map j)->EF [j] s s'->yF Q ih1 (.ptr p 0) t18 t17 s') ->
   qT Q ih1 (k+1) (.ptr p 0) t17 t18 (.ref jj 0 D.length none 67) (.int .i64 D.length) (.int .i64 i) s:=by
 obtain ⟨Z,hZ,zl,zo,zi,za⟩:=z67;intro k
 induction k with
 | zero =>
  intro i s N hi fr c hj hjn hQ;show tM Q ih1 (qT Q ih1 0) _ _ _ _ _ _ s;have c1:decide ((i:Int) < (D.length:Int))=false:=by simp;omega
  rw [m044 (by omega)] at hQ;simp only [tM,c1,wx,wy,reduceAdd,reduceEqDiff,reduceCtorEq];exact hQ _ (c.keep fun _ _=>rfl) (EF.refl _ fr).adv
 | succ k ih =>
  intro i s N hi fr c hj hjn hQ;show tM Q ih1 (qT Q ih1 (k+1)) _ _ _ _ _ _ s;obtain ⟨y,hy⟩:∃ y,D[i]?=some y:=⟨_,m004 (by omega)⟩;have c1:decide ((i:Int) < (D.length:Int))=true:=by simp;omega
  obtain ⟨e1,e2,e3,e4⟩:=KM (z:=10) (i:=jj) (e:=67) (n:=D.length) (vs:=D.map Dc.av) (k:=i) (v:=y.av) (fun v hv=>by obtain ⟨y,_,rfl⟩:=m021.1 hv;exact fE y) (by rw [m002]) (by rw [m047,hy];rfl) rfl;have hR:cR s p { K with N:=some N } (p::aO xd xm xa xn (.map j)):=⟨_,_,_,_,_,c,rfl⟩;have hF:=hR.lt fr;have hj0:j∈p::aO xd xm xa xn (.map j):=by simp [aO,aF]
  have hjs:=hF j hj0;have hps:=hF p (m007 ..);have hjjs:=fr.lt hj;have hpj:p≠j:=fun e=>by have:=c.nd;simp only [m036,m003,aF,m008,not_or] at this;exact this.1.2.2.2.2 e
  have hm:s.h j=some (.map (pD N)):=by
   rcases c.n with ⟨_,h⟩ | ⟨l,i,h1,h,h2⟩
   ·cases h
   ·cases h;cases h1;exact h2
  simp only [tM,c1,e1,hj,e2,hZ,wx,wy,reduceAdd,reduceEqDiff,reduceCtorEq];rw [bI (id:=s.nx+3) (z:=10) (c:=Z.cells) (e:=67) (ex:=true) (v:=y.av) (by rw [adv_h,aG]) zl (fE y) (dS y)];simp only [Bnd_some];obtain ⟨S,hS⟩:∃ S,S=(Ai.adv (s.set (s.nx+3) (some (.cells Z.cells 67 true true))) 5).set (s.nx+3) (some (.cells y.av.cells 67 true true)):=⟨_,rfl⟩;rw [<- hS];have nS:S.nx=s.nx+5:=by rw [hS];rfl
  have kS:∀ j,j≠s.nx+3->S.h j=s.h j:=fun j hj=>by rw [hS,aB hj,adv_h,aB hj]
  have bS:S.h (s.nx+3)=some (.cells y.av.cells 67 true true):=by rw [hS,aG]
  have fS:aI S:=fun j hj=>by rw [kS j (by omega)];exact fr j (by omega)
  have cS:=c.keep (s':=S) fun j hj=>kS j (by have:=hF j hj;omega);refine ⟨rfl,?_⟩;simp only [cS.cell,bS,dc0,wx,wy,reduceAdd,reduceEqDiff,reduceCtorEq];refine ⟨fS _ (by omega),?_⟩;rw [aXd (S:=Ai.adv S 7) (by rw [adv_h,kS j (by omega)];exact hm)];simp only [Bnd_some,aNu,wx,wy,reduceAdd,reduceEqDiff,reduceCtorEq];rw [bY i D.length (by omega) (by have:maxLen=9223372036854775807:=rfl;omega)];obtain ⟨T,hT⟩:∃ T,T=Ai.adv (S.set j (some (.map (pD (wR N y.nm))))) 9:=⟨_,rfl⟩;have kT:∀ i,i≠j->T.h i=S.h i:=fun i hi=>by rw [hT,adv_h,aB hi]
  have nT:T.nx=S.nx+9:=by rw [hT];rfl
  have cT:gA T p { K with N:=some (wR N y.nm) } xd xm xa xn (.map j):=WH cS fS (id:=S.nx) (bJ _) (by rw [kT p hpj,cS.cell]) (fun i _ _ hi=>kT i (by simpa [aF] using hi)) (fun i hi=>.inr hi) (.inr ⟨_,j,rfl,rfl,by rw [hT,adv_h,aG]⟩);have fT:aI T:=fun i hi=>by rw [kT i (by omega)];exact fS i (by omega)
  have eT:EF [j] s T:=⟨by omega,fun i hi hn=>by rw [kT i (by simpa using hn),kS i (by omega)],fT⟩;have hjT:T.h jj=some (.cells ((D.map Dc.av).flatMap AV.cells) 67 false true):=by rw [kT jj (fun e=>hjn (e ▸ hj0)),kS jj (by omega),hj]
  refine (show qT Q ih1 (k+1) (.ptr p 0) t17 t18 (.ref jj 0 D.length none 67) (.int .i64 D.length) (.int .i64 ((i+1:Nat):Int)) T from ih (i+1) T _ (by omega) fT cT hjT hjn fun s' c' e'=>hQ s' ?_ (eT.trans e' fun i hi=>.inr hi)) |> fun h=>by rw [hT] at h;exact h
  rw [bZ D i y hy];exact c'
theorem bRj (Q:aE) (ih1:AV->AV->aE) (t17 t18 r:AV) (s:St) (hQ:∀ n,yF Q ih1 (.ptr p 0) t18 t17 (Ai.adv s n)):qT Q ih1 1 (.ptr p 0) t17 t18 r (.int .i64 0) (.int .i64 0) s:=by show tM Q ih1 (qT Q ih1 0) _ _ _ _ _ _ s;have c1:decide ((0:Int) < 0)=false:=rfl;simp only [tM,c1,wx,wy,reduceAdd,reduceEqDiff,reduceCtorEq];exact hQ _
theorem bEn:mEv.fz 102=false:=by kernel_rfl
theorem bDq:mEv.fz 103=false:=by kernel_rfl
theorem l51 (Q:aE) (N:Nat) (hN:N<=2 ^ 18):∀ (k i:Nat) (s:St) (F1:List Nat) (K1:Sk),i+k=N->aI s->cR s p K1 F1->IN K1->k<=K1.dm.length ->
  (∀ s',bR s p F1 (QO k K1) s'->Q (.int .i64 0) s')->gP Q (k+1) (.ptr p 0) (.int .i64 N) (.int .i64 i) s:=by
 intro k
 induction k with
 | zero =>
  intro i s F1 K1 hi fr h hk hd hQ;show CY Q (gP Q 0) _ _ _ s;have c1:decide ((i:Int) < (N:Int))=false:=by simp;omega
  simp only [CY,yG,c1,wx,wy,reduceAdd,reduceEqDiff,reduceCtorEq];exact hQ _ (bR.same h fr (EF.refl [] fr).adv)
 | succ k ih =>
  intro i s F1 K1 hi fr h hk hd hQ;show CY Q (gP Q (k+1)) _ _ _ s;have c1:decide ((i:Int) < (N:Int))=true:=by simp;omega
  have hF:=h.lt fr;have hp:=hF p h.pin;have lD:=hk.ld;have lX:=hk.lx;have lm:=hk.lm;have lam:=hk.l;obtain ⟨ms,q,ns,r,h1,h2,q1,q2,r1,r2,hk2,hpop⟩:=TS hk (fun e=>by rw [e] at hd;simp at hd);obtain ⟨xd,xm,xa,xn,m,c,rfl⟩:=h;simp only [CY,c1,wx,wy,reduceAdd,reduceEqDiff,reduceCtorEq];refine ⟨rfl,?_⟩;rw [dW (c:=[xd,xm,xa,xn,m]) (e:=88) (ex:=true) (by rw [adv_h,aB (by omega),c.cell]) (by simp) rfl rfl];simp only [Bnd_some];rw [show ([xd,xm,xa,xn,m].set 4 (.map (s.nx+2)))=[xd,xm,xa,xn,.map (s.nx+2)] from rfl];obtain ⟨S,hS⟩:∃ S,S=(Ai.adv (s.set (s.nx+2) (some (.map []))) 6).set p (some (.cells [xd,xm,xa,xn,.map (s.nx+2)] 88 true true)):=⟨_,rfl⟩;rw [<- hS];have nS:S.nx=s.nx+6:=by rw [hS];rfl
  have kS:∀ j,j≠p->j≠s.nx+2->S.h j=s.h j:=fun j a b=>by rw [hS,aB a,adv_h,aB b]
  have fS:aI S:=fun j hj=>by rw [kS j (by omega) (by omega)];exact fr j (by omega)
  have cS:gA S p { K1 with N:=some [] } xd xm xa xn (.map (s.nx+2)):=WH c fr (id:=s.nx+2) (by omega) (by rw [hS,aG]) (fun j a b _=>kS j b (by omega)) (fun j hj=>.inl (by simpa [aF] using hj)) (.inr ⟨[],_,rfl,rfl,by rw [hS,aB (by omega),adv_h,aG];rfl⟩);have eS:EF (p::aO xd xm xa xn m) s S:=⟨by omega,fun j a b=>kS j (fun e=>b (by simp [e])) (by omega),fS⟩
  have mS:∀ j∈p::aO xd xm xa xn (.map (s.nx+2)),j∈p::aO xd xm xa xn m\/s.nx<=j:=fun j hj=>by
   simp only [m013,aO,m003,aF,m008] at hj ⊢;have:s.nx<=s.nx+2:=by omega
   grind
  refine ⟨rfl,?_⟩;obtain ⟨rr,s3,s1,w1,w2,w4⟩:=bPm (s:=Ai.adv S 6) (K:={ K1 with N:=some [] }) fS.adv (cR.adv ⟨_,_,_,_,_,cS,rfl⟩) h1 q1 q2 (by show K1.dm.length<=2 ^ 20;omega) (by show K1.D.length<=2 ^ 20;omega);refine bP bEn ⟨rr,s3,w1,?_⟩;obtain ⟨F3,r3,e3,m3⟩:=w2.from (s:=S) (EF.refl [] fS).adv;obtain ⟨yd,ym,ya,yn,m',c3,rfl⟩:=r3;have hR3:cR s1 p _ (p::aO yd ym ya yn m'):=⟨_,_,_,_,_,c3,rfl⟩;have lt3:=hR3.lt e3.fr;have c3:=c3.keep (s':=s3) fun j hj=>w4.1.h j (lt3 j hj) (by simp);have e3:=e3.trans w4.1 (fun j hj=>by cases hj)
  obtain ⟨l0,j,hl0,hmj,hj⟩:∃ l j,some []=some l/\m'=.map j/\s3.h j=some (.map (pD l)):=by
   rcases c3.n with ⟨h,_⟩ | h
   ·cases h
   ·exact h
  subst hmj;have e03:=eS.trans e3 (fun j hj=>(mS j hj).symm)
  have m03:∀ w∈p::aO yd ym ya yn (.map j),w∈p::aO xd xm xa xn m\/s.nx<=w:=fun w hw=>by
   rcases m3 w hw with h | h
   ·exact mS w h
   ·exact .inr (by omega)
  have fin:∀ s4,gA s4 p { D:=K1.D.take q.toNat,dm:=ms,X:=K1.X,am:=K1.am,N:=some (((K1.D.take q.toNat).map Dc.nm).foldl wR []) } yd ym ya yn (.map j)->EF [j] s3 s4->yF Q (gP Q (k+1)) (.ptr p 0) (.int .i64 i) (.int .i64 N) s4:=fun s4 c4 e4=>by unfold yF;refine ⟨rfl,?_⟩;simp only [wx,wy,reduceAdd,reduceEqDiff,reduceCtorEq];obtain ⟨r5,s5,s51,x1,x2,x3⟩:=bQc (s:=Ai.adv s4 4) e4.fr.adv (cR.adv ⟨_,_,_,_,_,c4,rfl⟩) h2 r1 r2 (by show K1.am.length<=2 ^ 20;omega) (by show K1.X.length<=2 ^ 20;omega);refine bP bDq ⟨r5,s5,x1,?_⟩;have e34:EF (p::aO yd ym ya yn (.map j)) s3 s4:=e4.sub fun i hi=>.inr (by simp only [m008] at hi;subst hi;simp [aO,aF]);have e04:=e03.trans e34 (fun i hi=>(m03 i hi).symm);obtain ⟨F5,r5',e5,m5⟩:=bR.step e04.adv m03 x2;have r5':=r5'.ext e5.fr x3.1;have e5:=e5.trans x3.1 (fun j hj=>by cases hj);simp only [AS,wx,wy,reduceAdd,reduceEqDiff,reduceCtorEq];rw [bY i N (by omega) (by have:maxLen=9223372036854775807:=rfl;omega)];refine ih (i+1) _ F5 (NP K1) (by omega) e5.fr.adv (by rw [hpop];exact r5'.adv) hk2 (by rw [hpop];show k<=ms.length;rw [h1] at hd;simp at hd;omega) fun s6 q6=>hQ s6 (bR.step e5.adv m5 q6)
  have w4':=w4;obtain ⟨z1,z2 | ⟨jj,z3,rfl,z4,z5⟩⟩:=w4
  ·have hD0:K1.D.take q.toNat=[]:=by simpa using z2.1
   simp only [bCd w4',hD0,List.length_nil,wx,wy,reduceAdd,reduceEqDiff,reduceCtorEq];refine ⟨1,bRj Q _ _ _ _ _ fun n=>?_⟩;refine fin _ ?_ (EF.refl _ e3.fr).adv;rw [hD0];rw [hD0] at c3;exact c3.keep fun _ _=>rfl
  ·simp only [bCd w4',wx,wy,reduceAdd,reduceEqDiff,reduceCtorEq];rw [m002];cases hl0;have hjjn:jj ∉ p::aO yd ym ya yn (.map j):=fun hm=>by have:=lt3 jj hm;omega
   refine ⟨(K1.D.take q.toNat).length+1,bPp (K:={ D:=K1.D.take q.toNat,dm:=ms,X:=K1.X,am:=K1.am,N:=none }) Q _ _ _ (K1.D.take q.toNat) (by rw [m020];omega) jj j (K1.D.take q.toNat).length 0 s3 [] (by omega) e3.fr c3 z5 hjjn fun s4 c4 e4=>fin s4 c4 e4⟩
theorem c51 (fr:aI s) (h:cR s p K F) (hk:IN K) (n:Int):mU 51 [.ptr p 0,.int .i64 n] s p F (.int .i64 (sPop K n).1) (sPop K n).2:=by
 have lm:=hk.lm
 have r:=aTv (.ptr p 0) (.int .i64 n) s (Q:=fun r s'=>r=.int .i64 (sPop K n).1/\bR s p F (sPop K n).2 s') (by
  unfold f51;simp only [lA,UN,wx,wy,reduceAdd,reduceEqDiff,reduceCtorEq];have e20:∀ k,EF [] s (Ai.adv s k):=fun k=>(EF.refl [] fr).adv
  cases h1:decide (n < 0) with
  | true =>simp only [sPop,h1,cond_true,wx,wy,reduceAdd,reduceEqDiff,reduceCtorEq];exact bR.same h fr (e20 _)
  | false =>
   simp only [h1,wx,wy,reduceAdd,reduceEqDiff,reduceCtorEq];refine (c46 fr.adv h.adv).call VW fun s1 e1=>?_;have e2:=(e20 _).nil_trans e1;simp only [wx,wy,reduceAdd,reduceEqDiff,reduceCtorEq]
   cases h2:decide (n > (K.dm.length:Int)) with
   | true =>simp only [sPop,h1,h2,cond_true,cond_false,wx,wy,reduceAdd,reduceEqDiff,reduceCtorEq];exact bR.same h fr e2.adv
   | false =>
    simp only [sPop,h1,h2,cond_false,NO,wx,wy,reduceAdd,reduceEqDiff,reduceCtorEq]
    have hn:((n.toNat:Nat):Int)=n:=by
     have:¬ (n < 0):=by simpa using h1
     omega
    have hn2:n.toNat<=K.dm.length:=by
     have:¬ (n > (K.dm.length:Int)):=by simpa using h2
     omega
    refine ⟨n.toNat+1,?_⟩;have:=l51 (p:=p) (fun r s'=>r=.int .i64 0/\bR s p F (QO n.toNat K) s') n.toNat (by omega) n.toNat 0 (Ai.adv s1 2) F K (by omega) e2.fr.adv (h.ext fr e2).adv hk hn2 (fun s4 q4=>⟨rfl,q4.from e2.adv⟩);rw [hn] at this
    exact this)
 obtain ⟨r,s',h1,rfl,h2⟩:=r;exact ⟨_,s',h1,rfl,h2⟩
theorem NC {ms:List Int} {n k:Nat} (h:MOk ms n) (hk:n<=k):MOk ms k:=⟨fun x hx=>⟨(h.le x hx).1,by have:=(h.le x hx).2;omega⟩,h.up⟩
theorem LA {ms:List Int} {n:Nat} (h:MOk ms n):MOk (ms++[(n:Int)]) n:=by
 refine ⟨fun x hx=>?_,List.pairwise_append.2 ⟨h.up,by simp,fun x hx y hy=>?_⟩⟩
 ·rcases m003.1 hx with hx | hx
  ·exact h.le x hx
  ·simp only [m008] at hx;subst hx;omega
 ·simp only [m008] at hy;subst hy;exact (h.le x hx).2
theorem aQf (h:IN K) (hl:K.dm.length+1<=100):IN (FJ K) :=
 ⟨LA h.d,LA h.x,by simp [FJ,h.l],h.ld,h.lx,by simp [FJ];omega⟩
theorem aDb:∀ (n:Nat) (K:Sk),IN K->K.dm.length+n<=100->IN (DF n K):=by
 intro n
 induction n with
 | zero=>intro K h _;exact h
 | succ n ih=>intro K h hl;exact ih _ (aQf h (by omega)) (by simp [FJ];omega)
theorem aBg (h:IN K) (n:Int):IN (sPush K n).2:=by
 unfold sPush;cases h1:decide (n < 0)
 ·cases h2:decide (n > 100 - (K.dm.length:Int))
  ·simp only [cond_false];have:¬ (n < 0):=by simpa using h1
   have:¬ (n > 100 - (K.dm.length:Int)):=by simpa using h2
   have:=h.lm;exact aDb _ _ h (by omega)
  ·exact h
 ·exact h
theorem aJj:∀ (n:Nat) (K:Sk),IN K->n<=K.dm.length->IN (QO n K):=by
 intro n
 induction n with
 | zero=>intro K h _;exact h
 | succ n ih =>intro K h hl;obtain ⟨ms,q,ns,r,h1,h2,q1,q2,r1,r2,hk2,hpop⟩:=TS h (fun e=>by rw [e] at hl;simp at hl);exact ih _ hk2 (by rw [hpop];show n<=ms.length;rw [h1] at hl;simp at hl;omega)
theorem aJa (h:IN K) (n:Int):IN (sPop K n).2:=by
 unfold sPop;cases h1:decide (n < 0)
 ·cases h2:decide (n > (K.dm.length:Int))
  ·simp only [cond_false];have:¬ (n < 0):=by simpa using h1
   have:¬ (n > (K.dm.length:Int)):=by simpa using h2
   exact aJj _ _ h (by omega)
  ·exact h
 ·exact h
theorem aMq (h:IN K) (d:Dc):IN (pJ K d).2:=by
 unfold pJ;cases h1:((K.D.length:Int)==500)
 ·have:(K.D.length:Int)≠500:=by simpa using h1
  have:=h.ld;exact ⟨NC h.d (by simp),h.x,h.l,by simp;omega,h.lx,h.lm⟩
 ·exact h
theorem aIh (h:IN K) (hl:K.X.length < 500) (y:Sx):IN { K with X:=K.X++[y] }:=⟨h.d,NC h.x (by simp),h.l,h.ld,by simp;omega,h.lm⟩
end
end
noncomputable section
def mO (v:Nat):List Nat:=if h:v=0 then [] else v % 4294967296::mO (v / 4294967296)
termination_by v
decreasing_by omega
theorem iU:mO 0=[]:=by unfold mO;rfl
theorem wL {v:Nat} (h:v≠0):mO v=v % 4294967296::mO (v / 4294967296):=by rw [mO];simp [h]
theorem CO:∀ v,val (mO v)=v:=by
 intro v
 induction v using Nat.strongRecOn with
 | ind v ih =>
  by_cases h:v=0
  ·subst h;rw [iU];rfl
  ·rw [wL h];simp only [val,ih _ (show v / 4294967296 < v by omega)];omega
theorem oG:∀ v,cD (mO v):=by
 intro v
 induction v using Nat.strongRecOn with
 | ind v ih =>
  by_cases h:v=0
  ·subst h;rw [iU];intro x hx;cases hx
  ·rw [wL h];intro x hx;rcases m013.1 hx with rfl | hx
   ·rw [EG];omega
   ·exact ih _ (show v / 4294967296 < v by omega) x hx
theorem wJ:∀ (k v:Nat),v < pw k->(mO v).length<=k:=by
 intro k
 induction k with
 | zero =>
  intro v h;rw [AL] at h;have:v=0:=by omega
  subst this;rw [iU];simp
 | succ k ih =>
  intro v h;by_cases h0:v=0
  ·subst h0;rw [iU];simp
  ·rw [wL h0];rw [jY] at h;have:=ih (v / 4294967296) (by omega);simp only [List.length_cons];omega
def noT (l:List Nat):Prop:=l=[]\/∃ x,l[l.length - 1]?=some x/\x≠0
theorem bHx:∀ (l:List Nat),cD l->noT l->l=mO (val l):=by
 intro l
 induction l with
 | nil=>intro _ _;simp only [val];rw [iU]
 | cons x l ih =>
  intro hl hn;have hx:=hl x (m007 ..);rw [EG] at hx;have hl':cD l:=fun y hy=>hl y (m005 _ hy);rcases hn with hn | ⟨y,hy,hy0⟩
  ·cases hn
  ·have hv:val (x::l)≠0:=by
    simp only [val]
    cases l with
    | nil=>simp at hy;omega
    | cons z l =>
     have hn2:noT (z::l):=.inr ⟨y,by simpa using hy,hy0⟩;have:=ih hl' hn2;intro h;have h0:val (z::l)=0:=by omega
     rw [h0,iU] at this;cases this
   rw [wL hv];simp only [val];have h1:(x+4294967296 * val l) % 4294967296=x:=by omega
   have h2:(x+4294967296 * val l) / 4294967296=val l:=by omega
   rw [h1,h2];congr 1;refine ih hl' ?_
   cases l with
   | nil=>exact .inl rfl
   | cons z l=>exact .inr ⟨y,by simpa using hy,hy0⟩
theorem BX {l:List Nat} (h:cD l):bO l=mO (val l):=by
 have h1:=bHx (bO l) (fA h) (by
  obtain ⟨_,h2⟩:=rE l l.length (bJ _);have hle:=BZ l l.length;unfold bO;rcases h2 with h2 | ⟨x,h2,h3⟩
  ·rw [h2];exact .inl rfl
  ·by_cases h0:iI l l.length=0
   ·rw [h0];exact .inl rfl
   ·right;refine ⟨x,?_,h3⟩;rw [m020,tA hle,List.getElem?_take_of_lt (by omega)]
    exact h2)
 rw [qF] at h1;exact h1
theorem WM {l:List Nat} {k u:Nat} (v:Nat) (h:l[k]?=some u):val (l.set k v)+pw k * u=val l+pw k * v:=by
 induction l generalizing k with
 | nil=>simp at h
 | cons x l ih =>
  cases k with
  | zero=>simp at h;subst h;simp only [List.set_cons_zero,val,AL];omega
  | succ k =>simp only [List.getElem?_cons_succ] at h;have:=ih h;simp only [List.set_cons_succ,val,jY];have e1:4294967296 * pw k * u=4294967296 * (pw k * u):=NH ..;have e2:4294967296 * pw k * v=4294967296 * (pw k * v):=NH ..;omega
theorem aWg (n:Nat):val (List.replicate n 0)=0:=by
 induction n with
 | zero=>rfl
 | succ n ih=>simp only [List.replicate_succ,val,ih]
def lb (a:List Nat) (i:Nat):Nat:=(a[i]?).getD 0
theorem aZa {a:List Nat} (h:cD a) (i:Nat):lb a i < 2 ^ 32:=by
 unfold lb
 cases he:a[i]? with
 | none=>decide
 | some x=>exact h x (m017 he)
theorem vZ (a:List Nat) (i:Nat):val (a.take (i+1))=val (a.take i)+pw i * lb a i:=by
 unfold lb
 cases he:a[i]? with
 | none =>have:=List.getElem?_eq_none_iff.1 he;rw [m014 (by omega),m014 this];simp
 | some x =>have hlt:=(m012.1 he).1;rw [m062,he,oS];simp only [m020,tA (Nat.le_of_lt hlt),Option.toList,val,Option.getD_some,Nat.mul_zero,Nat.add_zero]
theorem VH {i j:Nat} (h:i<=j):pw i<=pw j:=Nat.pow_le_pow_right (by decide) h
theorem bFz (a:List Nat) (i:Nat) (h:cD a):bB mEv 214 [fX a,.int .i64 i] (.int .u64 (lb a i)):=by
 refine cQ (aOs _ _ _ ?_);unfold f214;have hg:∀ u v:Int,bn .geq 3 (.int .i64 u) (.int .i64 v)=some (.bool (decide (u >= v))):=fun _ _=>bin_geq;simp only [fX,yQ,m002,hg,wx,wy,reduceAdd,reduceEqDiff,reduceCtorEq]
 cases he:a[i]? with
 | none =>have:=List.getElem?_eq_none_iff.1 he;have hd:decide ((i:Int) >= (a.length:Int))=true:=decide_eq_true (by omega);simp only [hd,lb,he,Option.getD_none,wx,wy,reduceAdd,reduceEqDiff,reduceCtorEq];exact aT rfl
 | some x =>have hlt:=(m012.1 he).1;have hd:decide ((i:Int) >= (a.length:Int))=false:=decide_eq_false (by omega);have hx:=h x (m017 he);rw [EG] at hx;simp only [hd,cL SA false he,aIi,xQ,lb,he,Option.getD_some,wx,wy,reduceAdd,reduceEqDiff,reduceCtorEq];rw [show IntKind.u64.wrap (x:Int)=(x:Int) from IntWalk.u64_in _ (by omega)];exact aT rfl
theorem PP (a:Nat):bn .shr 159 (.int .u64 (a:Int)) (.int .u64 32)=some (.int .u64 ((a / 4294967296:Nat):Int)):=by have h:bn .shr 159 (.int .u64 (a:Int)) (.int .u64 32)=some (.int .u64 ((a:Int).fdiv (2 ^ 32))):=aVh (n:=32) (by decide);rw [h];congr 2;rw [Int.fdiv_eq_ediv_of_nonneg _ (by decide)];rfl
theorem SX (a:Nat):IntKind.u32.wrap (a:Int)=((a % 4294967296:Nat):Int):=by
 simp [IntKind.wrap,IntKind.bits,IntKind.signed]
 try omega
theorem bPe (a b:List Nat) (ha:cD a) (hb:cD b) (n:Nat) (hn:n<=2 ^ 31) (hla:a.length < n) (hlb:b.length < n) (Q:aE) (N c:Nat) (e':TypeId)
  (hQ:∀ (out:List Nat) s,cD out->out.length=n->val out=val a+val b->s.h N=some (.cells (out.map kV) e' true true)->wT Q (.ref N 0 n (some c) 211) s) :
  ∀ (m i:Nat) (done:List Nat) (cy:Nat) (s:St),i+m=n->done.length=i->cD done->cy<=1->val done+pw i * cy=val (a.take i)+val (b.take i)->s.h N=some (.cells ((done++List.replicate m 0).map kV) e' true true) ->
   rA Q (m+1) (fX a) (fX b) (.ref N 0 n (some c) 211) (.int .u64 cy) (.int .i64 n) (.int .i64 i) s:=by
 intro m
 induction m with
 | zero =>
  intro i done cy s hi hd hld hcy hv hs;show uT Q (rA Q 0) _ _ _ _ _ _ s;have c1:decide ((i:Int) < (n:Int))=false:=by simp;omega
  rw [m014 (by omega),m014 (by omega)] at hv;simp only [List.replicate_zero,m011] at hs
  have hcy0:cy=0:=by
   have h1:=RU a ha;have h2:=RU b hb;have h3:pw a.length<=pw (n - 1):=VH (by omega);have h4:pw b.length<=pw (n - 1):=VH (by omega);have h5:pw n=4294967296 * pw (n - 1):=by rw [<- jY];congr 1;omega
   have hin:i=n:=by omega
   subst hin;rcases OK cy with h | h
   ·exact h
   ·exfalso;have:cy=1:=by omega
    subst this;have:=aFz (i - 1);omega
  simp only [uT,c1,wx,wy,reduceAdd,reduceEqDiff,reduceCtorEq];refine hQ done _ hld (by omega) (by rw [<- hv,hcy0];simp) (by rw [adv_h];exact hs)
 | succ m ih =>
  intro i done cy s hi hd hld hcy hv hs;show uT Q (rA Q (m+1)) _ _ _ _ _ _ s;have c1:decide ((i:Int) < (n:Int))=true:=by simp;omega
  have w1:IntKind.i64.wrap ((i:Int)+1)=((i+1:Nat):Int):=iT (n:=n) (by omega) (by omega);have la:=aZa ha i;have lb':=aZa hb i;rw [EG] at la lb';have hadd:∀ x y:Nat,x+y < 2 ^ 64->bn .add 159 (.int .u64 (x:Int)) (.int .u64 (y:Int))=some (.int .u64 ((x+y:Nat):Int)):=fun x y h=>by have h1:bn .add 159 (.int .u64 (x:Int)) (.int .u64 (y:Int))=some (.int .u64 (IntKind.u64.wrap ((x:Int)+(y:Int)))):=bin_add;rw [h1,show IntKind.u64.wrap ((x:Int)+(y:Int))=((x+y:Nat):Int) by rw [IntWalk.u64_in _ (by omega)];rfl]
  have hix:cC 1 (.ref N 0 n (some c) 211) (.int .i64 (i:Int))=some (.ptr N i):=AJ (by omega) .i64;simp only [uT,c1,wx,wy,reduceAdd,reduceEqDiff,reduceCtorEq];refine aP (bFz a i ha) (by simp [dB,AV.closed]) ?_;refine aP (bFz b i hb) (by simp [dB,AV.closed]) ?_;rw [hadd _ _ (by omega)];simp only [Bnd_some];rw [hadd _ _ (by omega)];simp only [rT,SX,hix,PP,wx,wy,reduceAdd,reduceEqDiff,reduceCtorEq];obtain ⟨t,ht⟩:∃ t,t=cy+(lb a i+lb b i):=⟨_,rfl⟩;rw [<- ht];rw [dW (v:=.int .u32 ((t % 4294967296:Nat):Int)) (c:=(done++List.replicate (m+1) 0).map kV) (by rw [adv_h];exact hs) (by simp;omega) rfl rfl];simp only [QZ,w1,wx,wy,reduceAdd,reduceEqDiff,reduceCtorEq];have hset:((done++List.replicate (m+1) 0).map kV).set i (.int .u32 ((t % 4294967296:Nat):Int))=((done++[t % 4294967296])++List.replicate m 0).map kV:=by subst hd;simp [List.replicate_succ,kV]
  rw [hset];refine ih (i+1) (done++[t % 4294967296]) (t / 4294967296) _ (by omega) (by simp [hd]) (fun x hx=>?_) (by omega) ?_ (by rw [adv_h,aG])
  ·rcases m003.1 hx with hx | hx
   ·exact hld x hx
   ·rw [m008.1 hx,EG];omega
  ·rw [oS,vZ,vZ,hd,jY];simp only [val,Nat.mul_zero,Nat.add_zero];have hm:t=4294967296 * (t / 4294967296)+t % 4294967296:=(Nat.div_add_mod t 4294967296).symm
   have e1:pw i * (t % 4294967296)+4294967296 * pw i * (t / 4294967296)=pw i * t:=by
    have e:pw i * t=pw i * (4294967296 * (t / 4294967296)+t % 4294967296):=by rw [<- hm]
    rw [e,EZ,<- NH,Nat.mul_comm (pw i) 4294967296];omega
   have e2:pw i * t=pw i * cy+(pw i * lb a i+pw i * lb b i):=by rw [ht,EZ,EZ]
   omega
theorem bCt (a b:Nat) (id:Nat) (s:St):bt .max #[3,3] [.int .i64 (a:Int),.int .i64 (b:Int)] id s=some (.int .i64 ((Nat.max a b:Nat):Int),s):=by
 have h:bt .max #[3,3] [.int .i64 (a:Int),.int .i64 (b:Int)] id s=(zL (fun y x=>decide (x < y)) [.int .i64 (a:Int),.int .i64 (b:Int)]).map (·,s):=by kernel_rfl
 rw [h];simp only [zL,if_true,Option.map_some,decide_eq_true_eq];congr 3;by_cases hc:(a:Int) < (b:Int)
 ·rw [if_pos hc];congr 1;exact (Nat.max_eq_right (by omega)).symm
 ·rw [if_neg hc];congr 1;exact (Nat.max_eq_left (by omega)).symm
theorem bNm (a b:List Nat) (ha:cD a) (hb:cD b) (hla:a.length<=2 ^ 29) (hlb:b.length<=2 ^ 29):bB mEv 179 [fX a,fX b] (fX (mO (val a+val b))):=by
 refine cQ (aQw _ _ _ ?_);have hz:zero Tryz.ty 211=some (.int .u32 0):=TX;have hc0:(AV.int .u32 0).cells=[.int .u32 0]:=rfl;have h1:a.length<=Nat.max a.length b.length:=Nat.le_max_left ..;have h2:b.length<=Nat.max a.length b.length:=Nat.le_max_right ..;have h3:Nat.max a.length b.length<=2 ^ 29:=Nat.max_le.2 ⟨hla,hlb⟩;have hw:IntKind.i64.wrap (((Nat.max a.length b.length:Nat):Int)+1)=((Nat.max a.length b.length+1:Nat):Int):=by rw [IntWalk.i64_in _ (by omega)];rfl
 unfold f179;simp only [wX,bCt,hw,KD CU hz (Nat.max a.length b.length+1) (by omega) (by omega),hc0,vP,wx,wy,reduceAdd,reduceEqDiff,reduceCtorEq];refine ⟨_,bPe a b ha hb (Nat.max a.length b.length+1) (by omega) (by omega) (by omega) _ _ _ 211 (fun out s g1 g2 g3 g4=>?_) (Nat.max a.length b.length+1) 0 [] 0 _ (by omega) rfl (fun x hx=>by cases hx) (by omega) (by simp [val]) (by rw [adv_h,aG];simp [kV])⟩;unfold wT;have hp:=AK (s:=Ai.adv s 3) (c:=some (Nat.max a.length b.length+1)) (k:=11) (l:=out) (f:=kV) CU (by rw [adv_h];exact g4) (fun _ _=>rfl) (fun _ _=>rfl);rw [g2] at hp;refine rN (args2:=[fX out]) (ids:=[St.empty.nx+9]) (by simp only [dL,hp,fX,m011]) (aAv _ (by rw [g2];omega)) ?_;rw [BX g1,g3];exact aT (dB _)
theorem yH {l:List Nat} (h:cD l) {k v:Nat} (hv:v < 2 ^ 32):cD (l.set k v):=fun x hx=>by
 rcases List.mem_or_eq_of_mem_set hx with h1 | rfl
 ·exact h x h1
 ·exact hv
theorem aCe {x y u c:Nat} (hx:x < 4294967296) (hy:y < 4294967296) (hu:u < 4294967296) (hc:c < 4294967296):c+(x * y+u) < 18446744073709551616:=by have h1:x * y<=4294967295 * 4294967295:=Nat.mul_le_mul (by omega) (by omega);omega
theorem bEo {x:Nat} (h:x < 4294967296):IntKind.u64.wrap (x:Int)=(x:Int):=IntWalk.u64_in _ (by omega)
theorem bLc (a b:List Nat) (hb:cD b) (hla:a.length<=2 ^ 28) (hlb:b.length<=2 ^ 28) (Q:aE) (ih1:AV->AV->AV->AV->aE) (N c n:Nat) (e':TypeId) (i x:Nat) (hi:i < a.length) (hn:n=a.length+b.length) (hx:x < 2 ^ 32) (v0:Nat)
  (hQ:∀ (out:List Nat) s,cD out->out.length=n->val out=v0+pw i * (x * val b)->(∀ k,i+b.length < k->k < n->out[k]?=some 0)->s.h N=some (.cells (out.map kV) e' true true)->qV Q ih1 (.int .i64 i) (fX b) (.ref N 0 n (some c) 211) (fX a) (.int .i64 a.length) s) :
  ∀ (m j:Nat) (out:List Nat) (cy:Nat) (s:St),j+m=b.length->cD out->out.length=n->cy < 2 ^ 32->val out+pw (i+j) * cy=v0+pw i * (x * val (b.take j))->(∀ k,i+b.length<=k->k < n->out[k]?=some 0)->s.h N=some (.cells (out.map kV) e' true true) ->
   qP Q ih1 (m+1) (fX b) (.ref N 0 n (some c) 211) (.int .i64 i) (.int .u32 x) (.int .u64 cy) (fX a) (.int .i64 a.length) (.int .i64 i) (.int .i64 b.length) (.int .i64 j) s:=by
 rw [EG] at hx;intro m
 induction m with
 | zero =>
  intro j out cy s hj hlo hlen hcy hv hz hs;rw [EG] at hcy;show vK Q ih1 (qP Q ih1 0) _ _ _ _ _ _ _ _ _ _ s;have c1:decide ((j:Int) < (b.length:Int))=false:=by simp;omega
  rw [m014 (by omega)] at hv;have hjb:j=b.length:=by omega
  subst hjb;have hz0:=hz (i+b.length) (bJ _) (by omega);have hix:cC 1 (.ref N 0 n (some c) 211) (.int .i64 ((i+b.length:Nat):Int))=some (.ptr N (i+b.length)):=AJ (by omega) .i64;have wij:IntKind.i64.wrap ((i:Int)+(b.length:Int))=((i+b.length:Nat):Int):=by rw [IntWalk.i64_in _ (by omega)];rfl
  simp only [vK,c1,CT,wX,wij,rT,SX,hix,wx,wy,reduceAdd,reduceEqDiff,reduceCtorEq];rw [dW (v:=.int .u32 ((cy % 4294967296:Nat):Int)) (c:=out.map kV) (by simp only [adv_h];exact hs) (by simp;omega) rfl rfl];simp only [Bnd_some];have hset:(out.map kV).set (i+b.length) (.int .u32 ((cy % 4294967296:Nat):Int))=(out.set (i+b.length) cy).map kV:=by rw [Nat.mod_eq_of_lt hcy,List.map_set];rfl
  rw [hset];have hvs:=WM cy hz0;refine hQ (out.set (i+b.length) cy) _ (yH hlo (by rw [EG];exact hcy)) (by rw [List.length_set];exact hlen) (by simp only [Nat.mul_zero,Nat.add_zero] at hvs;omega) (fun k hk hk2=>?_) (by rw [aG]);rw [List.getElem?_set_ne (by omega)];exact hz k (by omega) hk2
 | succ m ih =>
  intro j out cy s hj hlo hlen hcy hv hz hs;rw [EG] at hcy;show vK Q ih1 (qP Q ih1 (m+1)) _ _ _ _ _ _ _ _ _ _ s;have c1:decide ((j:Int) < (b.length:Int))=true:=by simp;omega
  have w1:IntKind.i64.wrap ((j:Int)+1)=((j+1:Nat):Int):=iT (n:=b.length) (by omega) (by omega);obtain ⟨y,hy⟩:∃ y,b[j]?=some y:=⟨_,m004 (by omega)⟩;have hyl:=hb y (m017 hy);rw [EG] at hyl;obtain ⟨u,hu⟩:∃ u,out[i+j]?=some u:=⟨_,m004 (by omega)⟩;have hul:=hlo u (m017 hu);rw [EG] at hul;have hix:cC 1 (.ref N 0 n (some c) 211) (.int .i64 ((i+j:Nat):Int))=some (.ptr N (i+j)):=AJ (by omega) .i64;have hub:(out.map kV)[i+j]?=some (.int .u32 (u:Int)):=by rw [m047,hu];rfl
  have hsm:=aCe hx hyl hul hcy;have h1:x * y < 2 ^ 64:=by rw [p64];omega
  have hiy:cC 1 (fX b) (.int .i64 (j:Int))=some (.pel (kV y).cells 0):=cL SA false hy .i64;have c8:∀ (z:Nat) (s:St),z < 4294967296->cv 211 159 (.int .u32 (z:Int)) s=some (.int .u64 (z:Int)):=fun z s hz=>by rw [xQ,bEo hz]
  have wij:IntKind.i64.wrap ((i:Int)+(j:Int))=((i+j:Nat):Int):=by rw [IntWalk.i64_in _ (by omega)];rfl
  have wxy:IntKind.u64.wrap ((x:Int) * (y:Int))=((x * y:Nat):Int):=by rw [IntWalk.u64_in _ (by rw [<- Int.natCast_mul];omega)];exact (Int.natCast_mul ..).symm
  have wu:IntKind.u64.wrap (((x * y:Nat):Int)+(u:Int))=((x * y+u:Nat):Int):=by rw [IntWalk.u64_in _ (by omega)];rfl
  have wc:IntKind.u64.wrap (((cy:Nat):Int)+((x * y+u:Nat):Int))=((cy+(x * y+u):Nat):Int):=by rw [IntWalk.u64_in _ (by omega)];rfl
  simp only [vK,c1,hiy,aIi,c8 x _ hx,c8 y _ hyl,wij,wxy,hix,ld_ptr,adv_h,hs,part_one,hub,c8 u _ hul,wu,wc,wx,wy,reduceAdd,reduceEqDiff,reduceCtorEq];obtain ⟨t,ht⟩:∃ t,t=cy+(x * y+u):=⟨_,rfl⟩;rw [<- ht];simp only [rT,SX,PP,Bnd_some,hix];rw [dW (v:=.int .u32 ((t % 4294967296:Nat):Int)) (c:=out.map kV) (by simp only [adv_h];exact hs) (by simp;omega) rfl rfl];simp only [QS,w1,wx,wy,reduceAdd,reduceEqDiff,reduceCtorEq];have hset:(out.map kV).set (i+j) (.int .u32 ((t % 4294967296:Nat):Int))=(out.set (i+j) (t % 4294967296)).map kV:=by rw [List.map_set];rfl
  rw [hset];have htl:t < 18446744073709551616:=by rw [ht];exact hsm
  refine ih (j+1) (out.set (i+j) (t % 4294967296)) (t / 4294967296) _ (by omega) (yH hlo (by rw [EG];omega)) (by rw [List.length_set];exact hlen) (by rw [EG];omega) ?_ (fun k hk hk2=>by rw [List.getElem?_set_ne (by omega)];exact hz k hk hk2) (by rw [adv_h,aG]);have hvs:=WM (t % 4294967296) hu;have hvt:=vZ b j;have hlbj:lb b j=y:=by unfold lb;rw [hy];rfl
  rw [hlbj] at hvt;have hm:t=4294967296 * (t / 4294967296)+t % 4294967296:=(Nat.div_add_mod t 4294967296).symm;have hpij:pw (i+j)=pw i * pw j:=by unfold pw;rw [Nat.pow_add]
  rw [<- m066,jY,hvt]
  have e1:pw (i+j) * (t % 4294967296)+4294967296 * pw (i+j) * (t / 4294967296)=pw (i+j) * t:=by
   have e:pw (i+j) * t=pw (i+j) * (4294967296 * (t / 4294967296)+t % 4294967296):=by rw [<- hm]
   rw [e,EZ,<- NH,Nat.mul_comm (pw (i+j)) 4294967296];omega
  have e2:pw (i+j) * t=pw (i+j) * cy+(pw (i+j) * (x * y)+pw (i+j) * u):=by rw [ht,EZ,EZ]
  have e3:pw i * (x * (val (b.take j)+pw j * y))=pw i * (x * val (b.take j))+pw (i+j) * (x * y):=by rw [hpij,EZ,EZ,Nat.mul_left_comm x (pw j) y,NH]
  rw [e3];omega
theorem bKx (a b:List Nat) (ha:cD a) (hb:cD b) (hla:a.length<=2 ^ 28) (hlb:b.length<=2 ^ 28) (Q:aE) (N c n:Nat) (e':TypeId) (hn:n=a.length+b.length)
  (hQ:∀ (out:List Nat) s,cD out->out.length=n->val out=val a * val b->s.h N=some (.cells (out.map kV) e' true true)->oN Q (.ref N 0 n (some c) 211) s) :
  ∀ (m i:Nat) (out:List Nat) (s:St),i+m=a.length->cD out->out.length=n->val out=val (a.take i) * val b->(∀ k,i+b.length<=k->k < n->out[k]?=some 0)->s.h N=some (.cells (out.map kV) e' true true) ->
   eN Q (m+1) (fX b) (.ref N 0 n (some c) 211) (fX a) (.int .i64 a.length) (.int .i64 i) s:=by
 intro m
 induction m with
 | zero =>
  intro i out s hi hlo hlen hv hz hs;show wI Q (eN Q 0) _ _ _ _ _ s;have c1:decide ((i:Int) < (a.length:Int))=false:=by simp;omega
  rw [m014 (by omega)] at hv;simp only [wI,c1,wx,wy,reduceAdd,reduceEqDiff,reduceCtorEq];exact hQ out _ hlo hlen hv hs
 | succ m ih =>
  intro i out s hi hlo hlen hv hz hs;show wI Q (eN Q (m+1)) _ _ _ _ _ s;have c1:decide ((i:Int) < (a.length:Int))=true:=by simp;omega
  have w1:IntKind.i64.wrap ((i:Int)+1)=((i+1:Nat):Int):=iT (n:=a.length) (by omega) (by omega);obtain ⟨x,hx⟩:∃ x,a[i]?=some x:=⟨_,m004 (by omega)⟩;have hxl:=ha x (m017 hx);have hix:cC 1 (fX a) (.int .i64 (i:Int))=some (.pel (kV x).cells 0):=cL SA false hx .i64;simp only [wI,c1,hix,aIi,wX,wx,wy,reduceAdd,reduceEqDiff,reduceCtorEq];refine ⟨_,bLc a b hb hla hlb Q (eN Q (m+1)) N c n e' i x (by omega) hn hxl (val out) (fun out2 s2 g1 g2 g3 g4 g5=>?_) b.length 0 out 0 _ (by omega) hlo hlen (by decide) (by simp [val]) (fun k hk hk2=>hz k hk hk2) (by rw [adv_h];exact hs)⟩;simp only [qV,w1,wx,wy,reduceAdd,reduceEqDiff,reduceCtorEq];refine ih (i+1) out2 _ (by omega) g1 g2 ?_ (fun k hk hk2=>g4 k (by omega) hk2) (by rw [adv_h];exact g5);have hvt:=vZ a i;have:lb a i=x:=by unfold lb;rw [hx];rfl
  rw [this] at hvt;rw [g3,hv,hvt,oK,NH]
theorem bQf (a b:List Nat) (ha:cD a) (hb:cD b) (hla:a.length<=2 ^ 28) (hlb:b.length<=2 ^ 28):bB mEv 180 [fX a,fX b] (fX (mO (val a * val b))):=by
 refine cQ (aFc _ _ _ ?_);have hz:zero Tryz.ty 211=some (.int .u32 0):=TX;have hc0:(AV.int .u32 0).cells=[.int .u32 0]:=rfl;unfold f180;simp only [wX,wx,wy,reduceAdd,reduceEqDiff,reduceCtorEq];have hw:IntKind.i64.wrap ((a.length:Int)+(b.length:Int))=((a.length+b.length:Nat):Int):=by rw [IntWalk.i64_in _ (by omega)];rfl
 simp only [hw,KD CU hz (a.length+b.length) (by omega) (by omega),hc0,vP,wX,wx,wy,reduceAdd,reduceEqDiff,reduceCtorEq];refine ⟨_,bKx a b ha hb hla hlb _ _ _ (a.length+b.length) 211 rfl (fun out s g1 g2 g3 g4=>?_) a.length 0 (List.replicate (a.length+b.length) 0) _ (by omega) (fun x hx=>by rw [List.eq_of_mem_replicate hx];decide) (by simp) (by rw [aWg];simp [val]) (fun k _ hk=>by simp [hk]) (by rw [adv_h,aG];simp [kV])⟩;unfold oN;have hp:=AK (s:=Ai.adv s 3) (c:=some (a.length+b.length)) (k:=11) (l:=out) (f:=kV) CU (by rw [adv_h];exact g4) (fun _ _=>rfl) (fun _ _=>rfl);rw [g2] at hp;refine rN (args2:=[fX out]) (ids:=[St.empty.nx+6]) (by simp only [dL,hp,fX,m011]) (aAv _ (by rw [g2];omega)) ?_;rw [BX g1,g3];exact aT (dB _)
end
noncomputable section
def KK (x:List UInt8):List Nat×Int:=cond (x==[]||(decide (x.length > 2000)||(x.head?==some 48&&x != [48]))) ([],8) (cond (x.all fG) (mO (nY x),0) ([],8))
theorem FS (l:List UInt8) (c:UInt8):nY (l++[c])=10 * nY l+(c.toNat - 48):=by unfold nY;rw [List.foldl_append];rfl
theorem aEq:∀ (n:Nat) (l:List UInt8),l.length=n->(∀ c∈l,fG c=true)->nY l < pw n:=by
 intro n
 induction n with
 | zero=>intro l hl _;cases l with
  | nil=>decide
  | cons c l=>cases hl
 | succ n ih =>
  intro l hl h;rcases m061 l with rfl | ⟨l',c,rfl⟩
  ·cases hl
  simp only [List.concat_eq_append] at hl h ⊢;have h1:=ih l' (by simp at hl;exact hl) fun d hd=>h d (m041 _ hd);have h2:=h c (m049 _ (m008.2 rfl));simp only [fG,cN,decide_eq_true_eq] at h2;rw [FS,jY];omega
theorem IP (l:List UInt8) (h:∀ c∈l,fG c=true):nY l < pw l.length:=aEq _ l rfl h
theorem bPx (x:List UInt8) (hx:x.length<=2000) (Q:aE)
  (hbad:x.all fG=false->∀ s,Q (.tup [.nils,.int .i64 8]) s)
  (hgood:x.all fG=true->∀ s,Q (.tup [fX (mO (nY x)),.int .i64 0]) s) :
  ∀ (m i:Nat) (a:AV) (s:St),i+m=x.length->(∀ c∈x.take i,fG c=true)->(∀ s:St,pur mEv.P s 12 a=some (fX (mO (nY (x.take i))),[])) ->
   oF Q (m+1) a (.sl false (x.map EX)) (.int .i64 x.length) (.int .i64 i) s:=by
 intro m
 induction m with
 | zero =>
  intro i a s hi hd ha;show nX Q (oF Q 0) _ _ _ _ s;have c1:decide ((i:Int) < (x.length:Int))=false:=by simp;omega
  rw [m014 (by omega)] at hd ha;simp only [nX,c1,CZ,wx,wy,reduceAdd,reduceEqDiff,reduceCtorEq];have hall:x.all fG=true:=m032.2 hd;have hlt:=IP x hd;refine rN (args2:=[fX (mO (nY x))]) (ids:=[]) (by simp only [dL,ha,m011]) (aAv _ (EW (wJ _ _ hlt) (by omega))) ?_;rw [BX (oG _),CO];exact hgood hall _
 | succ m ih =>
  intro i a s hi hd ha;show nX Q (oF Q (m+1)) _ _ _ _ s;have c1:decide ((i:Int) < (x.length:Int))=true:=by simp;omega
  have w1:IntKind.i64.wrap ((i:Int)+1)=((i+1:Nat):Int):=iT (n:=x.length) (by omega) (by omega);obtain ⟨c,hc⟩:∃ c,x[i]?=some c:=⟨_,m004 (by omega)⟩;have hix:cC 1 (.sl false (x.map EX)) (.int .i64 (i:Int))=some (.pel (EX c).cells 0):=cL bIb false hc .i64;have hb0:(EX c).cells[0]?=some (.int .u8 c.toNat):=rfl;have hmem:c∈x:=m017 hc
  have hno:fG c=false->x.all fG=false:=fun h=>by
   cases h2:x.all fG with
   | false=>rfl
   | true=>rw [m032.1 h2 c hmem] at h;cases h
  by_cases h48:c.toNat < 48
  ·have k1:decide ((c.toNat:Int) < 48)=true:=by simp;omega
   simp only [nX,c1,hix,hb0,k1,wx,wy,reduceAdd,reduceEqDiff,reduceCtorEq];exact hbad (hno (by simp [fG];omega)) _
  by_cases h57:57 < c.toNat
  ·have k1:decide ((c.toNat:Int) < 48)=false:=by simp;omega
   have k2:decide ((c.toNat:Int) > 57)=true:=by simp;omega
   simp only [nX,c1,hix,hb0,k1,k2,wx,wy,reduceAdd,reduceEqDiff,reduceCtorEq];exact hbad (hno (by simp [fG];omega)) _
  have k1:decide ((c.toNat:Int) < 48)=false:=by simp;omega
  have k2:decide ((c.toNat:Int) > 57)=false:=by simp;omega
  have hdc:fG c=true:=by simp [fG];omega
  have w2:IntKind.u8.wrap ((c.toNat:Int) - 48)=((c.toNat - 48:Nat):Int):=by rw [IntWalk.u8_in _ (by omega)];omega
  have w3:IntKind.u32.wrap ((c.toNat - 48:Nat):Int)=((c.toNat - 48:Nat):Int):=by rw [IntWalk.u32_in _ (by omega)]
  have b1:∀ n:Nat,kZ 22 1 [(0,.int .u32 (n:Int))]=some (.sl true [kV n]):=fun n=>dZ CU (by decide) rfl rfl;have hp10:∀ (n:Nat) (s:St),pur mEv.P s 12 (.sl true [kV n])=some (fX [n],[]):=fun n s=>rfl;have e10:kZ 22 1 [(0,.int .u32 10)]=some (.sl true [kV 10]):=b1 10;have hlt:=IP _ hd;have hle:(x.take i).length=i:=by rw [m020];omega
  rw [hle] at hlt;have hlen:=wJ _ _ hlt;have htk:x.take (i+1)=x.take i++[c]:=by rw [m062,hc];rfl
  have hl1:cD [10]:=by intro y hy;rw [m008.1 hy,EG];decide
  have hl2:cD [c.toNat - 48]:=by intro y hy;rw [m008.1 hy,EG];omega
  simp only [nX,c1,hix,hb0,k1,k2,w2,aSu,w3,b1,e10,wx,wy,reduceAdd,reduceEqDiff,reduceCtorEq];refine rN (args2:=[fX (mO (nY (x.take i))),fX [10]]) (ids:=[]) (by simp only [dL,ha,hp10,m011]) (bQf _ _ (oG _) hl1 (by omega) (by simp)) ?_;rw [CO];have hv10:val [10]=10:=rfl;have hvc:val [c.toNat - 48]=c.toNat - 48:=by simp [val]
  rw [hv10];have hdd:nY (x.take i) * 10 < pw (i+1):=by rw [jY];omega
  have hlen2:=wJ _ _ hdd;refine rN (args2:=[fX (mO (nY (x.take i) * 10)),fX [c.toNat - 48]]) (ids:=[]) (by simp only [dL,dT 12 (dB _),hp10,m011]) (bNm _ _ (oG _) hl2 (by omega) (by simp)) ?_;rw [CO,hvc];have hfin:nY (x.take i) * 10+(c.toNat - 48)=nY (x.take (i+1)):=by rw [htk,FS,Nat.mul_comm]
  rw [hfin];simp only [RD,w1,wx,wy,reduceAdd,reduceEqDiff,reduceCtorEq]
  exact ih (i+1) _ _ (by omega) (fun d hd'=>by
   rw [htk] at hd';rcases m003.1 hd' with h | h
   ·exact hd d h
   ·rw [m008.1 h];exact hdc) (fun s=>dT 12 (dB _))
theorem bNy (x:List UInt8) (hxl:x.length<=2 ^ 30):bB mEv 127 [.str x] (.tup [fX (KK x).1,.int .i64 (KK x).2]):=by
 have hbad:∀ s:St,oV (.tup [fX [],.int .i64 8]) (.tup [.nils,.int .i64 8]) s:=fun s=>⟨[],rfl⟩;by_cases h0:x=[]
 ·subst h0;refine cQ (PM _ _ ?_);unfold f127;simp only [wx,wy,reduceAdd,reduceEqDiff,reduceCtorEq];exact hbad _
 have h0':(x==[])=false:=by cases x with
  | nil=>exact absurd rfl h0
  | cons=>rfl
 refine cQ (PM _ _ ?_);unfold f127;by_cases h2:2000 < x.length
 ·have k1:decide ((x.length:Int) > 2000)=true:=by simp;omega
  have k2:decide (x.length > 2000)=true:=by simp;omega
  simp only [h0',AO,sB,k1,wx,wy,reduceAdd,reduceEqDiff,reduceCtorEq];have hp:KK x=([],8):=by unfold KK;rw [k2,m033,m078];rfl
  rw [hp];exact hbad _
 have k1:decide ((x.length:Int) > 2000)=false:=by simp;omega
 have k2:decide (x.length > 2000)=false:=by simp;omega
 have hcv:(x.map fun c=>AV.int .u8 c.toNat)=x.map EX:=rfl
 have hrest:(x.head?==some 48&&x != [48])=false->∀ (s:St),∃ n,oF (oV (AV.tup [fX (KK x).fst,AV.int IntKind.i64 (KK x).snd])) n AV.nils (.sl false (x.map EX)) (.int .i64 x.length) (.int .i64 0) s:=fun hh s=>by
  have hp:KK x=cond (x.all fG) (mO (nY x),0) ([],8):=by unfold KK;rw [h0',k2,hh];rfl
  rw [hp];refine ⟨_,bPx x (by omega) _ (fun hd s=>by rw [hd];exact hbad s) (fun hd s=>by rw [hd];exact aT (by simp [AV.closed,dB,aW])) x.length 0 .nils s (by omega) (fun c hc=>by simp at hc) (fun s=>?_)⟩;show _=some (fX (mO 0),[]);rw [iU];rfl
 obtain ⟨c,l,rfl⟩:∃ c l,x=c::l:=by cases x with
  | nil=>exact absurd rfl h0
  | cons c l=>exact ⟨c,l,rfl⟩
 have hix:MU 9 (.str (c::l)) (.int .i64 0)=some (.int .u8 c.toNat):=rM (x:=c::l) (i:=0) .i64 rfl;by_cases h48:c=48
 ·have k3:(((c.toNat:Nat):Int)==48)=true:=by rw [h48];rfl
  by_cases hone:c::l=[48]
  ·have k4:(c::l==[48])=true:=by rw [hone];rfl
   have k5:(c::l != [48])=false:=by rw [hone];rfl
   simp only [h0',AO,sB,k1,hix,k3,k4,hcv,aGy,m002,wx,wy,reduceAdd,reduceEqDiff,reduceCtorEq];exact hrest (by rw [k5,m071]) _
  ·have k4:(c::l==[48])=false:=by rw [beq_eq_false_iff_ne];exact hone
   have k5:(c::l != [48])=true:=by rw [bne_iff_ne];exact hone
   simp only [h0',AO,sB,k1,hix,k3,k4,wx,wy,reduceAdd,reduceEqDiff,reduceCtorEq];have hp:KK (c::l)=([],8):=by unfold KK;rw [k5,h48];simp
   rw [hp];exact hbad _
 ·have k3:(((c.toNat:Nat):Int)==48)=false:=by
   rw [beq_eq_false_iff_ne];intro h;exact h48 (UInt8.toNat_inj.1 (by rw [show (48:UInt8).toNat=48 from rfl];omega))
  simp only [h0',AO,sB,k1,hix,k3,hcv,aGy,m002,wx,wy,reduceAdd,reduceEqDiff,reduceCtorEq];exact hrest (by simp [h48]) _
theorem OU:IL KK:=by
 intro x hx;refine ⟨bNy x hx,?_,?_⟩
 ·unfold KK
  cases (x==[]||(decide (x.length > 2000)||(x.head?==some 48&&x != [48]))) with
  | true=>intro y hy;cases hy
  | false =>
   cases x.all fG with
   | true=>exact oG _
   | false=>intro y hy;cases hy
 ·unfold KK;by_cases h2:2000 < x.length
  ·have k:decide (x.length > 2000)=true:=by simp;omega
   rw [k,m033,m078];exact mH _
  cases (x==[]||(decide (x.length > 2000)||(x.head?==some 48&&x != [48]))) with
  | true=>exact mH _
  | false =>
   cases hd:x.all fG with
   | true=>exact EW (wJ _ _ (IP x (m032.1 hd))) (by omega)
   | false=>exact mH _
end
noncomputable section
structure CkR (s:St) (b t6 t3:Nat) (d:Dc) (B:Bk) (F:List Nat) (ns:List (List UInt8)) (ids:List Int) (x y:AV):Prop where
 bank:kM s b B F
 box:s.h t3=some (.cells d.av.cells 67 true true)
 sc:s.h t6=some (.cells [x,y] 254 true true)
 gx:Gw 9 1 0 s x (ns.map lQ)
 gy:Gw 3 1 0 s y (ids.map dV)
 n3:t3 ∉ F
 n6:t6 ∉ F
 n36:t3≠t6
 xn:∀ j∈aF x,j≠t3/\j≠t6/\j ∉ F/\j ∉ aF y
 yn:∀ j∈aF y,j≠t3/\j≠t6/\j ∉ F
section
variable {s s':St} {b t6 t3:Nat} {d:Dc} {B:Bk} {F:List Nat} {ns:List (List UInt8)} {ids:List Int} {x y:AV} {L:List Dc}
theorem CkR.keep (c:CkR s b t6 t3 d B F ns ids x y) (hk:∀ j,j∈F\/j=t3\/j=t6\/j∈aF x\/j∈aF y->s'.h j=s.h j):CkR s' b t6 t3 d B F ns ids x y :=
 ⟨c.bank.keep fun j hj=>hk j (.inl hj),by rw [hk t3 (by simp)];exact c.box,by rw [hk t6 (by simp)];exact c.sc,c.gx.keep fun j hj=>hk j (by simp [hj]),c.gy.keep fun j hj=>hk j (by simp [hj]),c.n3,c.n6,c.n36,c.xn,c.yn⟩
theorem CkR.lt (c:CkR s b t6 t3 d B F ns ids x y) (fr:aI s):∀ j,j∈F\/j=t3\/j=t6\/j∈aF x\/j∈aF y->j < s.nx:=fun j hj=>by
 rcases hj with hj | rfl | rfl | hj | hj
 ·exact c.bank.lt fr j hj
 ·exact fr.lt c.box
 ·exact fr.lt c.sc
 ·exact fr.lt (c.gx.has j hj)
 ·exact fr.lt (c.gy.has j hj)
theorem CkR.ext (c:CkR s b t6 t3 d B F ns ids x y) (fr:aI s) (e:EF [] s s'):CkR s' b t6 t3 d B F ns ids x y:=c.keep fun j hj=>e.h j (c.lt fr j hj) (by simp)
theorem ck3 (hL:qX L) (hbf:d.body.fit) (hbw:d.body.wt<=2 ^ 20) (fr:aI s) (c:CkR s b t6 t3 d B F ns ids x y) (hw:Wf B) (hid:∀ i∈ids,hO B i) (hl:ns.length=ids.length) (hln:ns.length<=2 ^ 20) {Q:aE} (hQ:∀ (e:Int) s',Q (.int .i64 e) s'):xO Q (.ptr b 0) (.sl false (L.map Dc.av)) (.ptr t6 0) (.ptr t3 0) s:=by
 have hlt:=c.lt fr;have lb:=hlt b (.inl c.bank.mem);have l3:=hlt t3 (.inr (.inl rfl));have l6:=hlt t6 (.inr (.inr (.inl rfl)));have p2:Ai.part 2 true 0 [x,y]=some (nP (x,y)):=rfl;have hone:(nP (x,y)).cells.all AV.one=true:=by show ([x,y]:List AV).all AV.one=true;simp only [List.all_cons,c.gx.one.2,c.gy.one.2,List.all_nil,iS]
 have hb122:kZ 122 1 [(0,nP (x,y))]=some (.sl true [nP (x,y)]):=dZ MY (by decide) rfl hone;have hb124:∀ k,lS 124 [(0,.ptr b 0),(1,.sl false (L.map Dc.av)),(2,.sl true [nP (x,y)]),(3,.map k)]=some (.agg [.ptr b 0,.sl false (L.map Dc.av),.sl true [nP (x,y)],.map k]):=fun k=>by rw [aWx];rfl
 have hcl:∀ k,(AV.agg [.ptr b 0,.sl false (L.map Dc.av),.sl true [nP (x,y)],.map k]).cells=[.ptr b 0,.sl false (L.map Dc.av),.sl true [nP (x,y)],.map k]:=fun k=>rfl;have q3:¬ (t3=s.nx+4):=by omega
 have q4:¬ (t3=s.nx+6):=by omega
 unfold xO;simp only [c.sc,p2,hb122,hb124,hcl,wx,wy,reduceAdd,reduceEqDiff,reduceCtorEq];refine ⟨rfl,?_⟩;simp only [q3,q4,if_false,c.box,iX,wx,wy,reduceAdd,reduceEqDiff,reduceCtorEq];obtain ⟨S,hS⟩:∃ S,S=Ai.adv ((s.set (s.nx+4) (some (.map []))).set (s.nx+6) (some (.cells [.ptr b 0,.sl false (L.map Dc.av),.sl true [nP (x,y)],.map (s.nx+4)] 124 true true))) 17:=⟨_,rfl⟩;rw [<- hS];have nS:S.nx=s.nx+17:=by rw [hS];rfl
 have kS:∀ j,j < s.nx->S.h j=s.h j:=fun j hj=>by rw [hS,adv_h,aB (by omega),aB (by omega)]
 have fS:aI S:=fun j hj=>by rw [hS,adv_h,aB (by omega),aB (by omega)];exact fr j (by omega)
 have cS:=c.keep (s':=S) fun j hj=>kS j (hlt j hj);have z1:(List.zip ns ids).map (·.1)=ns:=List.map_fst_zip (by omega);have z2:(List.zip ns ids).map (·.2)=ids:=List.map_snd_zip (by omega);have hsc:ScR S (x,y) (List.zip ns ids):=⟨by rw [z1];exact cS.gx,.inr (by rw [z2];exact cS.gy),by simp only [List.length_zip];omega⟩
 have hmk:oY S (s.nx+6) b (L.take L.length) [List.zip ns ids] (B,[]) ((s.nx+6)::(s.nx+4)::(F++bF (.sl true [nP (x,y)]) [(x,y)])):=by
  refine ⟨_,[(x,y)],s.nx+4,F,⟨by rw [m045,hS,adv_h,aG];rfl,cS.bank,by rw [hS,adv_h,aB (by omega),aG];rfl,.inr (.inl rfl),⟨hsc,trivial⟩,by omega,fun h=>by have:=hlt _ (.inl h);omega,fun h=>by have:=hlt _ (.inl h);omega,fun a ha=>?_⟩,rfl⟩;simp only [bF,jB,List.nil_append,m024,m042,m011,m003] at ha;rcases ha with ha | ha
  ·have:=hlt a (.inr (.inr (.inr (.inl ha))));exact ⟨by omega,by omega,(c.xn a ha).2.2.1⟩
  ·have:=hlt a (.inr (.inr (.inr (.inr ha))));exact ⟨by omega,by omega,(c.yn a ha).2.2⟩
 have hok:qK KK L ([List.zip ns ids]:List Ev).flatten (B,[]):=⟨hw,by
  simp only [List.flatten_cons,List.flatten_nil,m011]
  exact mQ _ ids hid,DA KK L B⟩
 obtain ⟨n,⟨r,B',M'⟩,hT⟩:=aXe KK true L ([List.zip ns ids]:List Ev).flatten d.body (B,[]);obtain ⟨v,s1,t1,rfl,F1,t2⟩:=WU OU n S (s.nx+6) b L L.length [List.zip ns ids] (B,[]) _ d.body r (B',M') fS hmk hok hL hbf (by simp only [List.length_singleton];omega) (by rw [m045];exact hT);refine bP bBs ⟨_,s1,t1,?_⟩;simp only [zU,zX,wx,wy,reduceAdd,reduceEqDiff,reduceCtorEq];obtain ⟨rv,re⟩:=r;by_cases he:re=0
 case neg =>
  have k0:(re != 0)=true:=by simpa using he
  simp only [k0,wx,wy,reduceAdd,reduceEqDiff,reduceCtorEq];exact hQ _ _
 case pos =>
 subst he;have k0:((0:Int) != 0)=false:=rfl;simp only [k0,wx,wy,reduceAdd,reduceEqDiff,reduceCtorEq];obtain ⟨i1,i2,i3,i4⟩:=aHj (j:=L.length) (by have:=hL.len;omega) hok (by rw [m045];exact hT);have hin:hO B' rv:=i3 rfl;obtain ⟨nd,hnd⟩:∃ nd,qH B' rv=some nd:=xY hin;obtain ⟨⟨xin,vs,jm,FB,cc,hF1⟩,e1,m1,_⟩:=t2
 have h3:s1.h t3=some (.cells d.av.cells 67 true true):=by
  rw [e1.h t3 (by omega) (fun hm=>?_),kS t3 l3,c.box];simp only [m013,bF,jB,List.nil_append,m024,m042,m011,m003] at hm;rcases hm with h | h | h | h | h
  ·omega
  ·omega
  ·exact c.n3 h
  ·exact (c.xn t3 h).1 rfl
  ·exact (c.yn t3 h).1 rfl
 refine (bCw e1.fr.adv cc.bank.adv hin hnd).call bEf fun s2 e2=>?_;have h32:s2.h t3=some (.cells d.av.cells 67 true true):=by rw [e2.h t3 (by have:=e1.nx;simp only [adv_nx];omega) (by simp),adv_h,h3]
 have x0:aV (.tup [nd.av,.bool true]) 0=some nd.av:=rfl;have x1:aV (.tup [nd.av,.bool true]) 1=some (.bool true):=rfl;have hz:(AV.agg [.int .i64 0,.int .i64 0,.nils,.str [],.bool false,.nils,.nils]).cells=[.int .i64 0,.int .i64 0,.nils,.str [],.bool false,.nils,.nils]:=rfl;simp only [x0,x1,FP,hz,Bnd_some];rw [bI (id:=s1.nx+8) (z:=7) (c:=[.int .i64 0,.int .i64 0,.nils,.str [],.bool false,.nils,.nils]) (e:=101) (ex:=true) (v:=nd.av) aG rfl rfl rfl];simp only [Bnd_some];have nd1:nd.av.cells[1]?=some (.int .i64 nd.so):=rfl;have n31:t3≠s1.nx+8:=by have:=e1.nx;omega
 have h3f:((s2.set (s1.nx+8) (some (.cells [.int .i64 0,.int .i64 0,.nils,.str [],.bool false,.nils,.nils] 101 true true))).set (s1.nx+8) (some (.cells nd.av.cells 101 true true))).h t3=some (.cells d.av.cells 67 true true):=by rw [aB n31,aB n31,h32]
 simp only [aG,nd1,h3f,dc1,Bnd_some];have hne:bn .neq 3 (.int .i64 nd.so) (.int .i64 d.so)=some (.bool (nd.so != d.so)):=bin_neq;rw [hne];simp only [Bnd_some];cases nd.so != d.so
 ·simp only [IfP_bool,m015,if_false];exact hQ _ _
 ·simp only [IfP_bool,if_true];exact hQ _ _
theorem aQm (l:List (List UInt8×Int)) (i:Nat) (q:List UInt8×Int) (h:l[i]?=some q):cC 2 (.sl false (l.map iP)) (.int .i64 (i:Int))=some (.pel (iP q).cells 0):=by obtain ⟨hi,rfl⟩:=m012.1 h;simp [cC,pE,uD,hi,iP,AV.cells]
theorem ck1 (hL:qX L) (hbf:d.body.fit) (hbw:d.body.wt<=2 ^ 20) (hps:d.ps.length<=2 ^ 20) {Q:aE} (hQ:∀ (e:Int) s',Q (.int .i64 e) s') :
  ∀ (k i:Nat) (s:St) (B:Bk) (F:List Nat) (ids:List Int) (y:AV),i+k=d.ps.length->aI s->CkR s b t6 t3 d B F (d.ps.map (·.1)) ids x y->Wf B->(∀ i∈ids,hO B i)->ids.length=i ->
   pV Q (k+1) (.sl false (L.map Dc.av)) (.ptr t3 0) (.ptr b 0) (.ptr t6 0) (.sl false (d.ps.map iP)) (.int .i64 d.ps.length) (.int .i64 i) s:=by
 intro k
 induction k with
 | zero =>
  intro i s B F ids y hi fr c hw hid hil;show wE Q (pV Q 0) _ _ _ _ _ _ _ s;have c1:decide ((i:Int) < (d.ps.length:Int))=false:=by simp;omega
  simp only [wE,c1,wx,wy,reduceAdd,reduceEqDiff,reduceCtorEq];exact ck3 hL hbf hbw fr.adv (c.keep fun _ _=>rfl) hw hid (by rw [m002];omega) (by rw [m002];exact hps) hQ
 | succ k ih =>
  intro i s B F ids y hi fr c hw hid hil;show wE Q (pV Q (k+1)) _ _ _ _ _ _ _ s;obtain ⟨q,hq⟩:∃ q,d.ps[i]?=some q:=⟨_,m004 (by omega)⟩;have c1:decide ((i:Int) < (d.ps.length:Int))=true:=by simp;omega
  have hix:=aQm d.ps i q hq;have pp:Ai.part 2 true 0 (iP q).cells=some (iP q):=rfl;have hz:(AV.agg [.str [],.int .i64 0]).cells=[.str [],.int .i64 0]:=rfl;have p0:(iP q).cells[0]?=some (.str q.1):=rfl;have p1:(iP q).cells[1]?=some (.int .i64 q.2):=rfl;have hlt:=c.lt fr;simp only [wE,c1,hix,pp,aGp,hz,wx,wy,reduceAdd,reduceEqDiff,reduceCtorEq];rw [bI (id:=s.nx+3) (z:=2) (c:=[.str [],.int .i64 0]) (e:=151) (ex:=true) (v:=iP q) (by rw [adv_h,aG]) rfl rfl rfl];simp only [Bnd_some];obtain ⟨S,hS⟩:∃ S,S=(Ai.adv (s.set (s.nx+3) (some (.cells [.str [],.int .i64 0] 151 true true))) 5).set (s.nx+3) (some (.cells (iP q).cells 151 true true)):=⟨_,rfl⟩;rw [<- hS];have nS:S.nx=s.nx+5:=by rw [hS];rfl
  have kS:∀ j,j≠s.nx+3->S.h j=s.h j:=fun j hj=>by rw [hS,aB hj,adv_h,aB hj]
  have bS:S.h (s.nx+3)=some (.cells (iP q).cells 151 true true):=by rw [hS,aG]
  have fS:aI S:=fun j hj=>by rw [kS j (by omega)];exact fr j (by omega)
  have cS:=c.keep (s':=S) fun j hj=>kS j (by have:=hlt j hj;omega);simp only [bS,p0,p1,wx,wy,reduceAdd,reduceEqDiff,reduceCtorEq];have hst:=(xB hw q.1 q.2) [] (oH B q.1 q.2).1 (oH B q.1 q.2).2 [] rfl;have cw:=WC (fS.adv (n:=11)) cS.bank.adv q.1 q.2;generalize oH B q.1 q.2=r at hst cw;obtain ⟨⟨id,e⟩,B'⟩:=r;refine cw.call bKr fun s3 q3=>?_;simp only [zU,zX,wx,wy,reduceAdd,reduceEqDiff,reduceCtorEq];by_cases he:e=0
  case neg =>
   have k0:(e != 0)=true:=by simpa using he
   simp only [k0,wx,wy,reduceAdd,reduceEqDiff,reduceCtorEq];exact hQ _ _
  case pos =>
  subst he;have k0:((0:Int) != 0)=false:=rfl;obtain ⟨_,hext,hw',h4,_⟩:=hst;have hin:hO B' id:=(h4 rfl).1;obtain ⟨F',b1,b2,b3⟩:=q3;have n3:=b2.nx;simp only [adv_nx] at n3;have kF:∀ j,j < s.nx->j ∉ F->s3.h j=s.h j:=fun j hj hn=>by rw [b2.h j (by simp only [adv_nx];omega) hn,adv_h,kS j (by omega)]
  have l3:=hlt t3 (.inr (.inl rfl));have l6:=hlt t6 (.inr (.inr (.inl rfl)));have F'lt:=b1.lt b2.fr;have hF':∀ j∈F',j∈F\/s.nx+5<=j:=fun j hj=>(b3 j hj).imp_right fun h=>by simp only [adv_nx] at h;omega
  have sc3:s3.h t6=some (.cells [x,y] 254 true true):=by rw [kF t6 l6 c.n6,c.sc]
  have gy3:Gw 3 1 0 s3 y (ids.map dV):=c.gy.keep fun j hj=>kF j (hlt j (.inr (.inr (.inr (.inr hj))))) (c.yn j hj).2.2;have gx3:Gw 9 1 0 s3 x ((d.ps.map (·.1)).map lQ):=c.gx.keep fun j hj=>kF j (hlt j (.inr (.inr (.inr (.inl hj))))) (c.xn j hj).2.2.1;have happ:=gQ rX jU (gy3.adv (n:=9)) (a:=id) (by omega) (by omega) true (s3.nx+6);have hb:kZ 72 1 [(0,.int .i64 id)]=some (.sl true [dV id]):=dZ rX (by decide) rfl rfl;simp only [k0,sc3,hb,happ,wx,wy,reduceAdd,reduceEqDiff,reduceCtorEq];have nt6:t6 ∉ aF y:=fun h=>(c.yn t6 h).2.1 rfl;have nt3:t3 ∉ aF y:=fun h=>(c.yn t3 h).1 rfl;rw [dW (c:=[x,y]) (e:=254) (ex:=true) (by rw [adv_h,aB (by omega),get_drop',if_neg nt6,sc3]) (by simp) rfl rfl];simp only [Bnd_some,SC,wx,wy,reduceAdd,reduceEqDiff,reduceCtorEq];rw [bY i d.ps.length (by omega) (by have:maxLen=9223372036854775807:=rfl;omega)];have hset:[x,y].set 1 (.ref (s3.nx+6) 0 (ids.length+1) none 3)=[x,.ref (s3.nx+6) 0 (ids.length+1) none 3]:=rfl;rw [hset];obtain ⟨T,hT⟩:∃ T,T=Ai.adv (((s3.drop (aF y)).set (s3.nx+6) (some (.cells (((ids++[id]).map dV).flatMap AV.cells) 3 false true))).set t6 (some (.cells [x,.ref (s3.nx+6) 0 (ids.length+1) none 3] 254 true true))) 11:=⟨_,rfl⟩;rw [<- hT];have nT:T.nx=s3.nx+11:=by rw [hT];show (s3.drop (aF y)).nx+11=_;rw [pH]
  have kT:∀ j,j≠t6->j≠s3.nx+6->j ∉ aF y->T.h j=s3.h j:=fun j a b c=>by rw [hT,adv_h,aB a,aB b,get_drop',if_neg c]
  have fT:aI T:=fun j hj=>by rw [hT,adv_h,aB (by omega),aB (by omega)];exact wC (b2.fr j (by omega))
  have ydis:∀ j∈F',j ∉ aF y:=fun j hj hy=>by
   rcases hF' j hj with h | h
   ·exact (c.yn j hy).2.2 h
   ·have:=hlt j (.inr (.inr (.inr (.inr hy))));omega
  refine ih (i+1) T B' F' (ids++[id]) (.ref (s3.nx+6) 0 (ids.length+1) none 3) (by omega) fT ⟨b1.keep fun j hj=>kT j (fun e=>?_) (by have:=F'lt j hj;omega) (ydis j hj),?_,by rw [hT,adv_h,aG],gx3.keep fun j hj=>?_,⟨fun v hv=>?_,.inr ⟨s3.nx+6,mH _,by rw [m002,m006];rfl,by rw [hT,adv_h,aB (by omega),aG]⟩⟩,fun hm=>?_,fun hm=>?_,c.n36,fun j hj=>?_,fun j hj=>?_⟩ hw' (fun j hj=>?_) (by rw [m006,List.length_singleton,hil])
  ·subst e;rcases hF' j hj with h | h
   ·exact c.n6 h
   ·omega
  ·rw [kT t3 c.n36 (by omega) nt3,kF t3 l3 c.n3,c.box]
  ·obtain ⟨a1,a2,a3,a4⟩:=c.xn j hj;exact kT j a2 (by have:=hlt j (.inr (.inr (.inr (.inl hj))));omega) a4
  ·obtain ⟨w,_,rfl⟩:=m021.1 hv;exact ⟨rfl,rfl⟩
  ·rcases hF' t3 hm with h | h
   ·exact c.n3 h
   ·omega
  ·rcases hF' t6 hm with h | h
   ·exact c.n6 h
   ·omega
  ·obtain ⟨a1,a2,a3,a4⟩:=c.xn j hj;have:=hlt j (.inr (.inr (.inr (.inl hj))));refine ⟨a1,a2,fun hm=>?_,fun hm=>?_⟩
   ·rcases hF' j hm with h | h
    ·exact a3 h
    ·omega
   ·simp only [aF,m008] at hm;omega
  ·simp only [aF,m008] at hj;subst hj;exact ⟨by omega,by omega,fun hm=>by have:=F'lt _ hm;omega⟩
  ·rcases m003.1 hj with h | h
   ·exact (hid j h).ext hext
   ·rw [m008] at h;subst h;exact hin
def EU (so:Int):Bool:=decide (so < 1)||decide (so > 3)
theorem bJr (so:Int):bB mEv 191 [.int .i64 so] (.bool (EU so)):=by
 refine aY rfl (aKh _ _ ?_);unfold f191 EU
 cases h1:decide (so < 1) with
 | true=>simp only [h1,m033,wx,wy,reduceAdd,reduceEqDiff,reduceCtorEq]
 | false =>
  cases h2:decide (so > 3) with
  | true=>simp only [h1,h2,m078,wx,wy,reduceAdd,reduceEqDiff,reduceCtorEq]
  | false=>simp only [h1,h2,Bool.or_self,wx,wy,reduceAdd,reduceEqDiff,reduceCtorEq]
theorem bJy:mEv.fz 195=false:=by kernel_rfl
theorem bKq:mEv.fz 194=false:=by kernel_rfl
theorem bLx:mEv.fz 223=false:=by kernel_rfl
theorem bQn (fr:aI s) {q:Nat} (hq:s.h q=some (.cells [.fn 191 [] []] 175 true true)) (z:List UInt8×Int):KI 195 [iP z,.ptr q 0] s (.bool (EU z.2)):=by
 have hqs:=fr.lt hq;refine aFl _ _ _ (Q:=fun r s'=>r=.bool (EU z.2)/\EF [] s s') ?_;unfold f195;refine ⟨rfl,?_⟩;have q1:¬ (q=s.nx):=by omega
 have p1:(iP z).cells[1]?=some (.int .i64 z.2):=rfl;simp only [q1,hq,p1,if_false,List.getElem?_cons_zero,wx,wy,reduceAdd,reduceEqDiff,reduceCtorEq];refine DT (by kernel_rfl) ?_;refine aP (bJr z.2) (by simp [AV.closed]) ?_;refine ⟨rfl,by simp only [adv_nx,set_nx];omega,fun j hj _=>by rw [adv_h,aB (by omega)],bV fr _ (by omega)⟩
theorem bNd (fr:aI s) {q:Nat} (hq:s.h q=some (.cells [.fn 191 [] []] 175 true true)) (l:List (List UInt8×Int)) (hl:l.length<=2 ^ 20):∃ r,KI 194 [.sl false (l.map iP),.fn 195 [] [.ptr q 0]] s (.bool r):=by
 refine ⟨l.any fun z=>EU z.2,?_⟩;refine aFb _ _ _ (Q:=fun r s'=>r=.bool (l.any fun z=>EU z.2)/\EF [] s s') ?_;unfold f194
 have key:∀ (Q:aE) (r:Bool) (s0:St),aI s0->s0.h q=some (.cells [.fn 191 [] []] 175 true true)->(∀ (k:Int) (s':St),EF [] s0 s'->decide (k >= 0)=r->Q (.int .i64 k) s')->∀ (m j:Nat) (s:St),j+m=l.length->EF [] s0 s->r=(l.drop j).any (fun z=>EU z.2)->qI Q (m+1) (.sl false (l.map iP)) (.fn 195 [] [.ptr q 0]) (.int .i64 l.length) (.int .i64 j) s:=by
  intro Q r s0 fr0 hq0 hQ m
  induction m with
  | zero =>
   intro j s hj e hr;show wK Q (qI Q 0) _ _ _ _ s;have c1:decide ((j:Int) < (l.length:Int))=false:=by simp;omega
   rw [m037 (by omega)] at hr;simp only [wK,c1,BA,wx,wy,reduceAdd,reduceEqDiff,reduceCtorEq];exact hQ _ _ e.adv (by rw [hr];rfl)
  | succ m ih =>
   intro j s hj e hr;show wK Q (qI Q (m+1)) _ _ _ _ s;have c1:decide ((j:Int) < (l.length:Int))=true:=by simp;omega
   obtain ⟨y,hy⟩:∃ y,l[j]?=some y:=⟨_,m004 (by omega)⟩;rw [bZ l j y hy,List.any_cons] at hr;have pp:Ai.part 2 true 0 (iP y).cells=some (iP y):=rfl;have hqs:=fr0.lt hq0;simp only [wK,c1,aQm l j y hy,pp,wx,wy,reduceAdd,reduceEqDiff,reduceCtorEq];refine BT (by kernel_rfl) ?_;refine (bQn e.fr.adv (by rw [adv_h,e.h q hqs (by simp)];exact hq0) y).call bJy fun s1 e1=>?_;have e2:=e.adv.nil_trans e1
   cases h:EU y.2 with
   | true =>rw [h,m033] at hr;simp only [wx,wy,reduceAdd,reduceEqDiff,reduceCtorEq];exact hQ _ _ e2.adv (by rw [hr];simp)
   | false =>rw [h,m026] at hr;simp only [RQ,wx,wy,reduceAdd,reduceEqDiff,reduceCtorEq];rw [bY j l.length (by omega) (by have:maxLen=9223372036854775807:=rfl;omega)];exact ih (j+1) _ (by omega) e2.adv hr
 have h223:∃ k s',WideC mEv 223 [.sl false (l.map iP),.fn 195 [] [.ptr q 0]] (Ai.adv s 6) k s'/\∃ n:Int,k=.int .i64 n/\EF [] s s'/\decide (n >= 0)=l.any (fun z=>EU z.2):=by refine aIt _ _ _ ?_;unfold f223;simp only [yM,m002,wx,wy,reduceAdd,reduceEqDiff,reduceCtorEq];exact ⟨_,key _ _ (Ai.adv s 6) fr.adv hq (fun k s' e hk=>⟨k,rfl,(EF.refl [] fr).adv.nil_trans e,hk⟩) l.length 0 _ (by omega) ⟨by simp only [adv_nx];omega,fun _ _ _=>rfl,fr.adv⟩ rfl⟩
 obtain ⟨k,s',h1,n,rfl,h2,h3⟩:=h223;refine bP bLx ⟨_,s',h1,?_⟩;have hg:∀ a b:Int,bn .geq 3 (.int .i64 a) (.int .i64 b)=some (.bool (decide (a >= b))):=fun a b=>bin_geq;simp only [hg,h3,wx,wy,reduceAdd,reduceEqDiff,reduceCtorEq];exact h2
theorem ckj (hL:qX L) (hbf:d.body.fit) (hbw:d.body.wt<=2 ^ 20) (hps:d.ps.length<=2 ^ 20) {Q:aE} (hQ:∀ (e:Int) s',Q (.int .i64 e) s') (fr:aI s) (c:CkR s b t6 t3 d [] F (d.ps.map (·.1)) [] x .nils):xG Q (.ptr t6 0) (.ptr t3 0) (.sl false (L.map Dc.av)) (.ptr b 0) s:=by
 have hlt:=c.lt fr;have hz:zr 175=some .nilf:=by kernel_rfl
 have hcl:(AV.nilf).cells=[.nilf]:=rfl;unfold xG;simp only [hz,hcl,wx,wy,reduceAdd,reduceEqDiff,reduceCtorEq];rw [dW (c:=[.nilf]) (e:=175) (ex:=true) (by rw [adv_h,aG]) (by simp) rfl rfl];simp only [Bnd_some];rw [show ([AV.nilf].set 0 (AV.fn 191 [] []))=[AV.fn 191 [] []] from rfl];obtain ⟨S,hS⟩:∃ S,S=(Ai.adv (s.set s.nx (some (gL.cells [AV.nilf] 175 true true))) 2).set s.nx (some (gL.cells [AV.fn 191 [] []] 175 true true)):=⟨_,rfl⟩;rw [<- hS];have nS:S.nx=s.nx+2:=by rw [hS];rfl
 have kS:∀ j,j < s.nx->S.h j=s.h j:=fun j hj=>by rw [hS,aB (by omega),adv_h,aB (by omega)]
 have qS:S.h s.nx=some (.cells [.fn 191 [] []] 175 true true):=by rw [hS,aG]
 have fS:aI S:=fun j hj=>by rw [hS,aB (by omega),adv_h,aB (by omega)];exact fr j (by omega)
 have cS:=c.keep (s':=S) fun j hj=>kS j (hlt j hj);have hnl:(d.ps.map (·.1)).length<=2 ^ 20:=by rw [m002];exact hps
 obtain ⟨ids,p1,p2⟩:=pM EQ (cS.gx.adv (n:=4)) (fun _ _=>rfl) (fun _ _=>rfl) 11;have hpl:dL (pur mEv.P (Ai.adv S 4) 12) [x]=some ([.sl false ((d.ps.map (·.1)).map lQ)],ids):=by simp only [dL,p1,m011]
 simp only [cS.sc,List.getElem?_cons_zero,wx,wy,reduceAdd,reduceEqDiff,reduceCtorEq];refine AB hpl (bKl (d.ps.map (·.1)) (by omega)) rfl ?_
 cases dbl (d.ps.map (·.1)) with
 | true=>simp only [wx,wy,reduceAdd,reduceEqDiff,reduceCtorEq];exact hQ _ _
 | false =>
 simp only [cS.sc,List.getElem?_cons_zero,wx,wy,reduceAdd,reduceEqDiff,reduceCtorEq];refine (bIr fS.adv cS.gx.adv (by omega)).call aZk fun s4 e4=>?_;have e4:=(EF.refl [] fS).adv.nil_trans e4
 cases (d.ps.map (·.1)).any bC with
 | true=>simp only [wx,wy,reduceAdd,reduceEqDiff,reduceCtorEq];exact hQ _ _
 | false =>
 have c4:=cS.ext fS e4;have q4:s4.h s.nx=some (.cells [.fn 191 [] []] 175 true true):=by rw [e4.h s.nx (by omega) (by simp),qS]
 simp only [c4.box,q4,dc1,List.getElem?_cons_zero,wx,wy,reduceAdd,reduceEqDiff,reduceCtorEq];refine DT (by kernel_rfl) ?_;refine aP (bJr d.so) (by simp [AV.closed]) ?_
 cases EU d.so with
 | true=>simp only [wQ,wx,wy,reduceAdd,reduceEqDiff,reduceCtorEq];exact hQ _ _
 | false =>
 simp only [c4.box,PV,wx,wy,reduceAdd,reduceEqDiff,reduceCtorEq];obtain ⟨r,hr⟩:=bNd (s:=Ai.adv s4 10) e4.fr.adv (q:=s.nx) (by rw [adv_h,q4]) d.ps hps;refine hr.call bKq fun s6 e6=>?_;have e6:=(EF.refl [] e4.fr).adv.nil_trans e6;have c6:=c4.ext e4.fr e6
 cases r with
 | true=>simp only [wQ,wx,wy,reduceAdd,reduceEqDiff,reduceCtorEq];exact hQ _ _
 | false =>
 simp only [wQ,BM,c6.box,PV,yM,m002,wx,wy,reduceAdd,reduceEqDiff,reduceCtorEq];exact ⟨d.ps.length+1,ck1 hL hbf hbw hps hQ d.ps.length 0 _ [] F [] .nils (by omega) e6.fr.adv (c6.keep fun _ _=>rfl) RH (fun i hi=>by cases hi) rfl⟩
theorem ck2 (hL:qX L) (hbf:d.body.fit) (hbw:d.body.wt<=2 ^ 20) (hps:d.ps.length<=2 ^ 20) {Q:aE} (hQ:∀ (e:Int) s',Q (.int .i64 e) s') :
  ∀ (k i:Nat) (s:St) (F:List Nat) (x:AV),i+k=d.ps.length->aI s->CkR s b t6 t3 d [] F ((d.ps.take i).map (·.1)) [] x .nils ->
   pL Q (k+1) (.sl false (L.map Dc.av)) (.ptr t3 0) (.ptr b 0) (.ptr t6 0) (.sl false (d.ps.map iP)) (.int .i64 d.ps.length) (.int .i64 i) s:=by
 intro k
 induction k with
 | zero =>
  intro i s F x hi fr c;show uS Q (pL Q 0) _ _ _ _ _ _ _ s;have c1:decide ((i:Int) < (d.ps.length:Int))=false:=by simp;omega
  rw [m014 (by omega)] at c;simp only [uS,c1,wx,wy,reduceAdd,reduceEqDiff,reduceCtorEq];exact ckj hL hbf hbw hps hQ fr.adv (c.keep fun _ _=>rfl)
 | succ k ih =>
  intro i s F x hi fr c;show uS Q (pL Q (k+1)) _ _ _ _ _ _ _ s;obtain ⟨q,hq⟩:∃ q,d.ps[i]?=some q:=⟨_,m004 (by omega)⟩;have c1:decide ((i:Int) < (d.ps.length:Int))=true:=by simp;omega
  have hix:=aQm d.ps i q hq;have pp:Ai.part 2 true 0 (iP q).cells=some (iP q):=rfl;have hz:(AV.agg [.str [],.int .i64 0]).cells=[.str [],.int .i64 0]:=rfl;have p0:(iP q).cells[0]?=some (.str q.1):=rfl;have hlt:=c.lt fr;simp only [uS,c1,hix,pp,aGp,hz,wx,wy,reduceAdd,reduceEqDiff,reduceCtorEq];rw [bI (id:=s.nx+3) (z:=2) (c:=[.str [],.int .i64 0]) (e:=151) (ex:=true) (v:=iP q) (by rw [adv_h,aG]) rfl rfl rfl];simp only [Bnd_some];obtain ⟨S,hS⟩:∃ S,S=(Ai.adv (s.set (s.nx+3) (some (.cells [.str [],.int .i64 0] 151 true true))) 5).set (s.nx+3) (some (.cells (iP q).cells 151 true true)):=⟨_,rfl⟩;rw [<- hS];have nS:S.nx=s.nx+5:=by rw [hS];rfl
  have kS:∀ j,j≠s.nx+3->S.h j=s.h j:=fun j hj=>by rw [hS,aB hj,adv_h,aB hj]
  have bS:S.h (s.nx+3)=some (.cells (iP q).cells 151 true true):=by rw [hS,aG]
  have fS:aI S:=fun j hj=>by rw [kS j (by omega)];exact fr j (by omega)
  have cS:=c.keep (s':=S) fun j hj=>kS j (by have:=hlt j hj;omega);have l3:=hlt t3 (.inr (.inl rfl));have l6:=hlt t6 (.inr (.inr (.inl rfl)));have htl:((d.ps.take i).map (·.1)).length=i:=by simp;omega
  have happ:=gQ EQ sD (cS.gx.adv (n:=8)) (a:=q.1) (by omega) (by omega) true (S.nx+5);have hb:kZ 52 1 [(0,.str q.1)]=some (.sl true [lQ q.1]):=dZ EQ (by decide) rfl rfl;simp only [bS,p0,cS.sc,List.getElem?_cons_zero,hb,happ,wx,wy,reduceAdd,reduceEqDiff,reduceCtorEq];have nt6:t6 ∉ aF x:=fun h=>(c.xn t6 h).2.1 rfl;have nt3:t3 ∉ aF x:=fun h=>(c.xn t3 h).1 rfl;rw [dW (c:=[x,.nils]) (e:=254) (ex:=true) (by rw [adv_h,aB (by omega),get_drop',if_neg nt6,cS.sc]) (by simp) rfl rfl];simp only [Bnd_some,TJ,wx,wy,reduceAdd,reduceEqDiff,reduceCtorEq];rw [bY i d.ps.length (by omega) (by have:maxLen=9223372036854775807:=rfl;omega)];rw [show ([x,AV.nils].set 0 (.ref (S.nx+5) 0 (((d.ps.take i).map (·.1)).length+1) none 9))=[.ref (S.nx+5) 0 (((d.ps.take i).map (·.1)).length+1) none 9,.nils] from rfl];obtain ⟨C,hC⟩:∃ C,C=(some (gL.cells (((((d.ps.take i).map (·.1))++[q.1]).map lQ).flatMap AV.cells) 9 false true):Option gL):=⟨_,rfl⟩;rw [<- hC];obtain ⟨T,hT⟩:∃ T,T=Ai.adv (((S.drop (aF x)).set (S.nx+5) C).set t6 (some (.cells [.ref (S.nx+5) 0 (((d.ps.take i).map (·.1)).length+1) none 9,.nils] 254 true true))) 10:=⟨_,rfl⟩;rw [<- hT];have nT:T.nx=S.nx+10:=by rw [hT];show (S.drop (aF x)).nx+10=_;rw [pH]
  have kT:∀ j,j≠t6->j≠S.nx+5->j ∉ aF x->T.h j=S.h j:=fun j a b c=>by rw [hT,adv_h,aB a,aB b,get_drop',if_neg c]
  have fT:aI T:=fun j hj=>by rw [hT,adv_h,aB (by omega),aB (by omega)];exact wC (fS j (by omega))
  have htk:(d.ps.take (i+1)).map (·.1)=(d.ps.take i).map (·.1)++[q.1]:=by rw [m062,hq];simp
  refine ih (i+1) T F (.ref (S.nx+5) 0 (((d.ps.take i).map (·.1)).length+1) none 9) (by omega) fT ⟨cS.bank.keep fun j hj=>kT j (fun e=>c.n6 (e ▸ hj)) (by have:=hlt j (.inl hj);omega) (fun hx=>(c.xn j hx).2.2.1 hj),?_,by rw [hT,adv_h,aG],?_,gK,c.n3,c.n6,c.n36,fun j hj=>?_,fun j hj=>by cases hj⟩
  ·rw [kT t3 c.n36 (by omega) nt3,cS.box]
  ·rw [htk];refine ⟨fun v hv=>?_,.inr ⟨S.nx+5,mH _,by simp only [m002,m006,List.length_singleton],by rw [hT,adv_h,aB (by omega),aG,hC]⟩⟩;obtain ⟨w,_,rfl⟩:=m021.1 hv;exact ⟨rfl,rfl⟩
  ·simp only [aF,m008] at hj;subst hj;exact ⟨by omega,by omega,fun hm=>by have:=hlt _ (.inl hm);omega,by simp [aF]⟩
theorem bOt (hL:qX L) (d:Dc) (hbf:d.body.fit) (hbw:d.body.wt<=2 ^ 20) (hps:d.ps.length<=2 ^ 20):∃ e:Int,bB mEv 149 [.sl false (L.map Dc.av),d.av] (.int .i64 e):=by
 have r:=aEk (.sl false (L.map Dc.av)) d.av St.empty (Q:=fun r _=>∃ e,r=.int .i64 e) (by
  unfold f149;refine ⟨dS d,?_⟩;have hb58:lS 58 []=some (.agg [.nils,.nilm,.nils]):=by rw [bIl];rfl
  have hc0:(AV.agg [AV.nils,AV.nilm,AV.nils]).cells=[.nils,.nilm,.nils]:=rfl;have hc1:(AV.agg [AV.nils,AV.nils]).cells=[.nils,.nils]:=rfl
  cases hm:d.mac with
  | false =>simp only [WF,hm,wx,wy,reduceAdd,reduceEqDiff,reduceCtorEq];exact ⟨1,rfl⟩
  | true =>
   simp only [WF,hm,hb58,hc0,aHk,hc1,PV,yM,m002,wx,wy,reduceAdd,reduceEqDiff,reduceCtorEq];refine ⟨rfl,d.ps.length+1,?_⟩;obtain ⟨S,hS⟩:∃ S,S=Ai.adv (((St.empty.set St.empty.nx (some (gL.cells d.av.cells 67 true true))).set (St.empty.nx+6) (some (gL.cells [AV.nils,AV.nilm,AV.nils] 58 true true))).set (St.empty.nx+8) (some (gL.cells [AV.nils,AV.nils] 254 true true))) 13:=⟨_,rfl⟩;rw [<- hS];have n0:St.empty.nx=0:=rfl;have nS:S.nx=13:=by rw [hS];rfl
   have fS:aI S:=fun j hj=>by rw [hS,adv_h,aB (by omega),aB (by omega),aB (by omega)];rfl
   have h8:S.h (St.empty.nx+8)=some (.cells [.nils,.nils] 254 true true):=by rw [hS,adv_h,aG]
   have h6:S.h (St.empty.nx+6)=some (.cells [.nils,.nilm,.nils] 58 true true):=by rw [hS,adv_h,aB (by omega),aG]
   have h0:S.h St.empty.nx=some (.cells d.av.cells 67 true true):=by rw [hS,adv_h,aB (by omega),aB (by omega),aG]
   exact ck2 hL hbf hbw hps (fun e _=>⟨e,rfl⟩) d.ps.length 0 S [St.empty.nx+6] .nils (by omega) fS ⟨⟨.nils,.nilm,.nils,⟨h6,gK,.inl ⟨rfl,rfl⟩,gK,by simp [aF],fun n h=>(by cases h),by decide⟩,rfl⟩,h0,h8,gK,gK,by simp [n0],by simp [n0],by omega,fun j hj=>(by cases hj),fun j hj=>(by cases hj)⟩)
 obtain ⟨r,s',h1,e,rfl⟩:=r;exact ⟨e,aY rfl ⟨_,s',h1,rfl⟩⟩
end
end
noncomputable section
structure EY (K:Sk):Prop where
 so:IN K
 d:∀ d∈K.D,d.body.fit/\d.body.wt<=2 ^ 20/\d.ps.length<=2 ^ 20/\d.ok=true
 x:∀ y∈K.X,y.fit/\y.ok=true
theorem EY.dc {K:Sk} (h:EY K):qX K.D:=⟨by have:=h.so.ld;omega,fun d hd=>(h.d d hd).1,fun d hd=>by have:=(h.d d hd).2.1;omega,fun d hd=>(h.d d hd).2.2.1⟩
section
variable {s s':St} {p:Nat} {K:Sk} {F:List Nat}
theorem aYa (fr:aI s) (h:cR s p K F) (hk:EY K) {k:aE} (hK:∀ s',EF [] s s'->k (.sl false (K.D.map Dc.av)) s'):aL mEv 44 [.ptr p 0] s k:=by obtain ⟨xd,xm,xa,xn,m,c,rfl⟩:=h;exact (c44 fr c.cell rfl c.d (by have:=hk.so.ld;omega) (fun d hd=>⟨(hk.d d hd).1,(hk.d d hd).2.2.1⟩)).call aYk bIt hK
theorem aYw (fr:aI s) (h:cR s p K F) (hk:EY K) {k:aE} (hK:∀ s',EF [] s s'->k (.sl false (K.X.map Sx.av)) s'):aL mEv 45 [.ptr p 0] s k:=by obtain ⟨xd,xm,xa,xn,m,c,rfl⟩:=h;exact (c45 fr c.cell rfl c.x (by have:=hk.so.lx;omega) (fun d hd=>(hk.x d hd).1)).call bMj bPq hK
theorem aZc (fr:aI s) (h:cR s p K F) (hk:EY K) {l:List Nat} {f:FuncId} (hl:l=rch s [.fn f [] [],.ptr p 0]) {k:aE} (hK:∀ s',EF [] s s'->k (.sl false (K.D.map Dc.av)) s'):cI mEv 44 [.ptr p 0] l s k:=by
 have hm:∀ j,j∈l↔j∈F:=fun j=>by rw [hl];exact h.rch rfl j
 have h':cR (s.only l) p K F:=h.keep fun j hj=>by rw [jJ,if_pos ((hm j).2 hj)]
 obtain ⟨xd,xm,xa,xn,m,c,rfl⟩:=h';exact (c44 (gY fr) c.cell rfl c.d (by have:=hk.so.ld;omega) (fun d hd=>⟨(hk.d d hd).1,(hk.d d hd).2.2.1⟩)).callD aYk bIt hK
theorem bFh:mEv.fz 99=false:=by kernel_rfl
theorem c99 (fr:aI s) (h:cR s p K F) (hk:EY K) (d:Dc) (hd1:d.body.fit) (hd2:d.body.wt<=2 ^ 20) (hd3:d.ps.length<=2 ^ 20):∃ e K',mU 99 [.ptr p 0,d.av] s p F (.int .i64 e) K'/\(e≠0->K'=K)/\(K'=K\/K'=(pJ K d).2):=by
 have hF:=h.lt fr;have hp:=hF p h.pin;have ld:=hk.so.ld;obtain ⟨e0,he0⟩:=bOt hk.dc d hd1 hd2 hd3
 have r:=aTq (.ptr p 0) d.av s (Q:=fun r s'=>∃ e K',r=.int .i64 e/\bR s p F K' s'/\(e≠0->K'=K)/\(K'=K\/K'=(pJ K d).2)) (by
  unfold f99;refine ⟨dS d,?_⟩;simp only [lA,dc0,wx,wy,reduceAdd,reduceEqDiff,reduceCtorEq];obtain ⟨S,hS⟩:∃ S,S=Ai.adv (s.set s.nx (some (.cells d.av.cells 67 true true))) 9:=⟨_,rfl⟩;rw [<- hS];have nS:S.nx=s.nx+9:=by rw [hS];rfl
  have kS:∀ j,j < s.nx->S.h j=s.h j:=fun j hj=>by rw [hS,adv_h,aB (by omega)]
  have bS:S.h s.nx=some (.cells d.av.cells 67 true true):=by rw [hS,adv_h,aG]
  have fS:aI S:=fun j hj=>by rw [hS,adv_h,aB (by omega)];exact fr j (by omega)
  have eS:EF [] s S:=⟨by omega,fun j hj _=>kS j hj,fS⟩;refine (bFk fS (h.ext fr eS) d.nm).call aZp fun s1 e1=>?_;have e2:=eS.nil_trans e1;have n1:=e1.nx;have b1:s1.h s.nx=some (.cells d.av.cells 67 true true):=by rw [e1.h _ (by omega) (by simp),bS]
  simp only [wx,wy,reduceAdd,reduceEqDiff,reduceCtorEq]
  cases hq:(oZ K d.nm != 0) with
  | true =>simp only [hq,wx,wy,reduceAdd,reduceEqDiff,reduceCtorEq];exact ⟨oZ K d.nm,K,rfl,bR.same h fr e2.adv,fun _=>rfl,.inl rfl⟩
  | false =>
   simp only [hq,wx,wy,reduceAdd,reduceEqDiff,reduceCtorEq];have h1:=(h.ext fr e2).adv (n:=7);refine aZc e2.fr.adv h1 hk rfl fun s3 e3=>?_;have e4:=e2.adv.nil_trans e3;have n3:=e3.nx;simp only [adv_nx] at n3;have b3:s3.h s.nx=some (.cells d.av.cells 67 true true):=by rw [e3.h _ (by simp only [adv_nx];omega) (by simp),adv_h,b1]
   have hn:s.nx ∉ rch (Ai.adv s1 7) [.fn 44 [] [],.ptr p 0]:=fun hm=>by have:=hF _ ((h1.rch rfl _).1 hm);omega
   have hlt:s.nx < s1.nx+7:=by omega
   refine ⟨by simp [clear,dU.apart,sX,bN,lG,zS hn,vF _ _ hn,hlt],?_⟩;simp only [b3,iZ,wx,wy,reduceAdd,reduceEqDiff,reduceCtorEq];refine kC he0 (by simp only [m013,m052,or_false,forall_eq_or_imp,forall_eq];exact ⟨oA K.D,eI d⟩) ?_;simp only [wx,wy,reduceAdd,reduceEqDiff,reduceCtorEq]
   cases hq2:(e0 != 0) with
   | true =>simp only [hq2,wx,wy,reduceAdd,reduceEqDiff,reduceCtorEq];exact ⟨e0,K,rfl,bR.same h fr e4.adv,fun _=>rfl,.inl rfl⟩
   | false =>
    simp only [hq2,b3,iZ,wx,wy,reduceAdd,reduceEqDiff,reduceCtorEq];refine (bHd (dcv d) hd1 hd3 e4.fr.adv (h.ext fr e4).adv (by omega)).call aYt fun s5 q5=>?_;refine ⟨_,_,rfl,q5.from e4.adv,fun hne=>?_,.inr rfl⟩;unfold pJ at hne ⊢;cases hc:((K.D.length:Int)==500)
    ·rw [hc] at hne;exact absurd rfl hne
    ·rfl)
 obtain ⟨r,s',h1,e,K',rfl,h2,h3⟩:=r;exact ⟨e,K',⟨_,s',h1,rfl,h2⟩,h3⟩
theorem c92 (fr:aI s) (h:cR s p K F) (hk:EY K) (x:Sx) (hx:x.fit) (hw:x.wt<=2 ^ 20):∃ e K',mU 92 [.ptr p 0,x.av] s p F (.int .i64 e) K'/\(e≠0->K'=K)/\(K'=K\/(K.X.length < 500/\K'={ K with X:=K.X++[x] })):=by
 have hF:=h.lt fr;have hp:=hF p h.pin;have ld:=hk.so.ld;have lx:=hk.so.lx
 have r:=aVo (.ptr p 0) x.av s (Q:=fun r s'=>∃ e K',r=.int .i64 e/\bR s p F K' s'/\(e≠0->K'=K)/\(K'=K\/(K.X.length < 500/\K'={ K with X:=K.X++[x] }))) (by
  have hb58:lS 58 []=some (.agg [.nils,.nilm,.nils]):=by rw [bIl];rfl
  have hc0:(AV.agg [AV.nils,AV.nilm,AV.nils]).cells=[.nils,.nilm,.nils]:=rfl;unfold f92;refine ⟨cH x,?_⟩;simp only [lA,hb58,hc0,wx,wy,reduceAdd,reduceEqDiff,reduceCtorEq];refine ⟨rfl,?_⟩;obtain ⟨S,hS⟩:∃ S,S=Ai.adv ((s.set s.nx (some (.cells x.av.cells 33 true true))).set (s.nx+5) (some (.cells [.nils,.nilm,.nils] 58 true true))) 17:=⟨_,rfl⟩;have nS:S.nx=s.nx+17:=by rw [hS];rfl
  have kS:∀ j,j < s.nx->S.h j=s.h j:=fun j hj=>by rw [hS,adv_h,aB (by omega),aB (by omega)]
  have b0:S.h s.nx=some (.cells x.av.cells 33 true true):=by rw [hS,adv_h,aB (by omega),aG]
  have b5:S.h (s.nx+5)=some (.cells [.nils,.nilm,.nils] 58 true true):=by rw [hS,adv_h,aG]
  have fS:aI S:=fun j hj=>by rw [hS,adv_h,aB (by omega),aB (by omega)];exact fr j (by omega)
  have eS:EF [] s S:=⟨by omega,fun j hj _=>kS j hj,fS⟩;rw [<- hS];have hR:=h.ext fr eS;refine aZc fS hR hk rfl fun s3 e3=>?_;have e03:=eS.nil_trans e3;have n3:=e3.nx;have a0:s3.h s.nx=some (.cells x.av.cells 33 true true):=by rw [e3.h _ (by omega) (by simp),b0]
  have a5:s3.h (s.nx+5)=some (.cells [.nils,.nilm,.nils] 58 true true):=by rw [e3.h _ (by omega) (by simp),b5]
  have hn:s.nx ∉ rch S [.fn 44 [] [],.ptr p 0]:=fun hm=>by have:=hF _ ((hR.rch rfl _).1 hm);omega
  have hlt:s.nx < S.nx:=by omega
  refine ⟨by simp [clear,dU.apart,sX,bN,lG,zS hn,vF _ _ hn,hlt],?_⟩;simp only [a0,dF,wx,wy,reduceAdd,reduceEqDiff,reduceCtorEq];have hB0:kM s3 (s.nx+5) [] [s.nx+5]:=⟨.nils,.nilm,.nils,⟨a5,gK,.inl ⟨rfl,rfl⟩,gK,by simp [aF],fun n h=>(by cases h),by decide⟩,rfl⟩;obtain ⟨n1,⟨r,B1,M1⟩,h1⟩:=aXe KK true K.D [] x ([],[]);refine QM.callDS bOc e3.fr hB0 rfl (by simp only [dA,eC,aPi,jD (eK Dc.av K.D eI)];rfl) (fun S'=>bDy S' _ K.D x) (fun S' f' h'=>bEi OU f' h' RH hk.dc x hx (by omega) h1) fun s4 q4=>?_;obtain ⟨F1,m1,m2,m3⟩:=q4;have e34:EF [] s s4:=(e03.trans m2 fun j hj=>.inl (by simp only [m008] at hj;omega));have n4:=m2.nx;simp only [zU,zX,wx,wy,reduceAdd,reduceEqDiff,reduceCtorEq];obtain ⟨rv,re⟩:=r;by_cases he:re=0
  case neg =>
   have k0:(re != 0)=true:=by simpa using he
   simp only [k0,wx,wy,reduceAdd,reduceEqDiff,reduceCtorEq];exact ⟨re,K,rfl,bR.same h fr e34.adv,fun _=>rfl,.inl rfl⟩
  case pos =>
  subst he;have k0:((0:Int) != 0)=false:=rfl;simp only [k0,wx,wy,reduceAdd,reduceEqDiff,reduceCtorEq];obtain ⟨i1,i2,i3,i4⟩:=aHj (ps:=KK) (L0:=K.D) (env:=[]) (j:=K.D.length) (by omega) ⟨RH,fun q hq=>(by cases hq),DA KK K.D []⟩ (by rw [m045];exact h1);have hin:hO B1 rv:=i3 rfl;obtain ⟨nd,hnd⟩:=xY hin;refine (bCw m2.fr.adv m1.adv hin hnd).call bEf fun s5 e5=>?_;have e05:=e34.adv.nil_trans e5;have n5:=e5.nx;simp only [adv_nx] at n5;have x0:aV (.tup [nd.av,.bool true]) 0=some nd.av:=rfl;have x1:aV (.tup [nd.av,.bool true]) 1=some (.bool true):=rfl;have hz:(AV.agg [.int .i64 0,.int .i64 0,.nils,.str [],.bool false,.nils,.nils]).cells=[.int .i64 0,.int .i64 0,.nils,.str [],.bool false,.nils,.nils]:=rfl;simp only [x0,x1,FP,hz,Bnd_some];rw [bI (id:=s4.nx+8) (z:=7) (c:=[.int .i64 0,.int .i64 0,.nils,.str [],.bool false,.nils,.nils]) (e:=101) (ex:=true) (v:=nd.av) aG rfl rfl rfl];simp only [Bnd_some];obtain ⟨T,hT⟩:∃ T,T=(s5.set (s4.nx+8) (some (.cells [.int .i64 0,.int .i64 0,.nils,.str [],.bool false,.nils,.nils] 101 true true))).set (s4.nx+8) (some (.cells nd.av.cells 101 true true)):=⟨_,rfl⟩;rw [<- hT];have nT:T.nx=s5.nx:=by rw [hT];rfl
  have kT:∀ j,j≠s4.nx+8->T.h j=s5.h j:=fun j hj=>by rw [hT,aB hj,aB hj]
  have bT:T.h (s4.nx+8)=some (.cells nd.av.cells 101 true true):=by rw [hT,aG]
  have fT:aI T:=fun j hj=>by rw [kT j (by omega)];exact e5.fr j (by omega)
  have eT:EF [] s T:=⟨by have:=e05.nx;omega,fun j hj _=>by rw [kT j (by omega)];exact e05.h j hj (by simp),fT⟩;have nd1:nd.av.cells[1]?=some (.int .i64 nd.so):=rfl;have hx4:s4.h s.nx=some (.cells x.av.cells 33 true true):=by rw [m2.h _ (by omega) (by simp),a0]
  have hxT:T.h s.nx=some (.cells x.av.cells 33 true true):=by rw [kT _ (by omega),e5.h _ (by simp only [adv_nx];omega) (by simp),adv_h,hx4]
  simp only [bT,nd1,wx,wy,reduceAdd,reduceEqDiff,reduceCtorEq]
  cases hs:(nd.so != 1) with
  | true =>simp only [hs,wx,wy,reduceAdd,reduceEqDiff,reduceCtorEq];exact ⟨90,K,rfl,bR.same h fr eT.adv,fun _=>rfl,.inl rfl⟩
  | false =>
  simp only [hs,wx,wy,reduceAdd,reduceEqDiff,reduceCtorEq];refine ⟨rfl,?_⟩;have hRT:=h.ext fr eT;obtain ⟨xd,xm,xa,xn,m,cT,hFe⟩:=hRT;obtain ⟨r8,s8,w1,w2⟩:=c96 (p:=p) (o:=2) (s:=Ai.adv T 9) (vs:=K.X.map Sx.av) fT.adv cT.cell rfl (cT.x.keep fun _ _=>rfl) (by rw [m002];omega);refine bP bGi ⟨r8,s8,w1,?_⟩;have e8:=eT.adv.nil_trans w2.1;have n8:=w2.1.nx;simp only [adv_nx] at n8;have hx8:s8.h s.nx=some (.cells x.av.cells 33 true true):=by rw [w2.1.h _ (by simp only [adv_nx];omega) (by simp),adv_h,hxT]
  simp only [bRh w2,wx,wy,reduceAdd,reduceEqDiff,reduceCtorEq]
  cases hc:((K.X.length:Int)==500) with
  | true =>simp only [hc,wx,wy,reduceAdd,reduceEqDiff,reduceCtorEq];exact ⟨2,K,rfl,bR.same h fr e8.adv,fun _=>rfl,.inl rfl⟩
  | false =>
  have hcl:K.X.length < 500:=by
   have:(K.X.length:Int)≠500:=by simpa using hc
   omega
  simp only [hc,wx,wy,reduceAdd,reduceEqDiff,reduceCtorEq];refine ⟨rfl,?_⟩;simp only [hx8,dF,wx,wy,reduceAdd,reduceEqDiff,reduceCtorEq];refine kC (c97 x hx) (by simp [aS]) ?_;refine mU.callD (K:=K) (F:=F) bMh e8.fr.adv ((h.ext fr e8).adv) rfl (by simp [dA,eC,aPi]) (fun s' f' h'=>bPa f' h' x (by omega)) fun s10 q10=>?_
  exact ⟨0,_,rfl,(q10.from e8.adv).adv,fun hne=>absurd rfl hne,.inr ⟨hcl,rfl⟩⟩)
 obtain ⟨r,s',h1,e,K',rfl,h2,h3⟩:=r;exact ⟨e,K',⟨_,s',h1,rfl,h2⟩,h3⟩
end
end
noncomputable section
def DcF (d:Dc):Prop:=d.body.fit/\d.body.wt<=2 ^ 20/\d.ps.length<=2 ^ 20/\d.ok=true
def SxF (y:Sx):Prop:=y.fit/\y.ok=true
structure ClF (c:Cl):Prop where
 d:DcF c.d
 x:SxF c.x
 w:c.x.wt<=2 ^ 20
def bCy (K K':Sk):Prop:=K'=K\/(∃ d,DcF d/\K'=(pJ K d).2)\/∃ y,SxF y/\K.X.length < 500/\K'={ K with X:=K.X++[y] }
structure DoR (K:Sk) (c:Cl) (e:Int) (K':Sk):Prop where
 er:e≠0->K'=K
 kd:((c.kind=0\/c.kind=1\/c.kind=2)/\bCy K K')\/(c.kind=3/\e=(sPush K c.n).1/\K'=(sPush K c.n).2)\/((c.kind < 0\/3 < c.kind)/\e=(sPop K c.n).1/\K'=(sPop K c.n).2)
theorem UF:∀ (n:Nat) (K:Sk),(DF n K).D=K.D/\(DF n K).X=K.X
 | 0,K=>⟨rfl,rfl⟩
 | n+1,K=>UF n (FJ K)
theorem JX:∀ (n:Nat) (K:Sk),(∀ d∈(QO n K).D,d∈K.D)/\∀ y∈(QO n K).X,y∈K.X
 | 0,K=>⟨fun _ h=>h,fun _ h=>h⟩
 | n+1,K=>⟨fun d h=>List.mem_of_mem_take ((JX n (NP K)).1 d h),fun d h=>List.mem_of_mem_take ((JX n (NP K)).2 d h)⟩
section
variable {s s':St} {p:Nat} {K K':Sk} {F:List Nat}
theorem EY.sPush (h:EY K) (n:Int):EY (sPush K n).2:=by
 refine ⟨aBg h.so n,?_,?_⟩<;>(unfold Proofs.YtdehdahimkcakaaGreatDoor.sPush;cases decide (n < 0)<;>cases decide (n > 100 - (K.dm.length:Int))<;>simp only [cond_true,cond_false,UF])
 all_goals first | exact h.d | exact h.x
theorem EY.sPop (h:EY K) (n:Int):EY (sPop K n).2:=by
 refine ⟨aJa h.so n,?_,?_⟩<;>(unfold Proofs.YtdehdahimkcakaaGreatDoor.sPop;cases decide (n < 0)<;>cases decide (n > (K.dm.length:Int))<;>simp only [cond_true,cond_false])
 all_goals first | exact h.d | exact h.x | exact fun d hd=>h.d d ((JX _ _).1 d hd) | exact fun d hd=>h.x d ((JX _ _).2 d hd)
theorem EY.addR (h:EY K) (a:bCy K K'):EY K':=by
 rcases a with rfl | ⟨d,hd,rfl⟩ | ⟨y,hy,hl,rfl⟩
 ·exact h
 ·refine ⟨aMq h.so d,?_,?_⟩<;>(unfold pJ;cases (K.D.length:Int)==500<;>simp only [cond_true,cond_false])
  ·intro b hb;rcases m003.1 hb with hb | hb
   ·exact h.d b hb
   ·simp only [m008] at hb;subst hb;exact hd
  ·exact h.d
  ·exact h.x
  ·exact h.x
 ·refine ⟨aIh h.so hl y,h.d,fun b hb=>?_⟩;rcases m003.1 hb with hb | hb
  ·exact h.x b hb
  ·simp only [m008] at hb;subst hb;exact hy
theorem DoR.ok {c:Cl} {e:Int} (r:DoR K c e K') (h:EY K):EY K':=by
 rcases r.kd with ⟨_,a⟩ | ⟨_,_,rfl⟩ | ⟨_,_,rfl⟩
 ·exact h.addR a
 ·exact h.sPush _
 ·exact h.sPop _
theorem aAt {nm:List UInt8} {so:Int} (hs:oU so=true) (hn:nm.length<=maxLen):DcF (tH nm so):=by
 refine ⟨⟨⟨by decide,by decide⟩,by simp,by simp,trivial⟩,?_,by simp [tH],?_⟩
 ·show mR.wt<=2 ^ 20;decide
 ·have:mR.ok=true:=by decide
  simp [Dc.ok,tH,hs,hn,this]
theorem aDl (K:Sk) {nm:List UInt8} {so:Int} (hs:oU so=true) (hn:nm.length<=maxLen):bCy K (nD K nm so).2:=by
 unfold nD;cases (decide (so < 1)||(decide (so > 3)||decide ((nm.length:Int) > 16384)))<;>cases oZ K nm != 0<;>simp only [cond_true,cond_false]
 ·exact .inr (.inl ⟨tH nm so,aAt hs hn,rfl⟩)
 all_goals exact .inl rfl
theorem aKl {d:Dc} (h:(pJ K d).1≠0):(pJ K d).2=K:=by
 unfold pJ at h ⊢;cases hc:((K.D.length:Int)==500)
 ·rw [hc] at h;exact absurd rfl h
 ·rfl
theorem ZN {nm:List UInt8} {so:Int} (h:(nD K nm so).1≠0):(nD K nm so).2=K:=by unfold nD at h ⊢;cases h1:(decide (so < 1)||(decide (so > 3)||decide ((nm.length:Int) > 16384)))<;>cases h2:oZ K nm != 0<;>simp only [h1,h2,cond_true,cond_false] at h ⊢;exact aKl h
theorem XP {n:Int} (h:(sPush K n).1≠0):(sPush K n).2=K:=by unfold sPush at h ⊢;cases h1:decide (n < 0)<;>cases h2:decide (n > 100 - (K.dm.length:Int))<;>simp only [h1,h2,cond_true,cond_false] at h ⊢;exact absurd rfl h
theorem aHw {n:Int} (h:(sPop K n).1≠0):(sPop K n).2=K:=by unfold sPop at h ⊢;cases h1:decide (n < 0)<;>cases h2:decide (n > (K.dm.length:Int))<;>simp only [h1,h2,cond_true,cond_false] at h ⊢;exact absurd rfl h
theorem bFp:mEv.fz 92=false:=by kernel_rfl
theorem bIu:mEv.fz 50=false:=by kernel_rfl
theorem bGu:mEv.fz 51=false:=by kernel_rfl
theorem c47 (fr:aI s) (h:cR s p K F) (hk:EY K) (c:Cl) (hc:ClF c):∃ e K',mU 47 [.ptr p 0,c.av] s p F (.int .i64 e) K'/\DoR K c e K':=by
 have hF:=h.lt fr;have hp:=hF p h.pin;have ld:=hk.so.ld;have lm:=hk.so.lm;have lam:=hk.so.l;obtain ⟨⟨d1,d2,d3,d4⟩,⟨x1,x2⟩,xw⟩:=hc;have d5:=d4;simp only [Dc.ok,cN,decide_eq_true_eq] at d5;have hnm:=d5.1.1.1;have hso:=d5.1.1.2
 have r:=aSt (.ptr p 0) c.av s (Q:=fun r s'=>∃ e K',r=.int .i64 e/\bR s p F K' s'/\DoR K c e K') (by
  unfold f47;refine ⟨VN c,?_⟩;obtain ⟨S,hS⟩:∃ S,S=(Ai.adv s 2).set s.nx (some (.cells c.av.cells 93 true true)):=⟨_,rfl⟩;dsimp only;rw [<- hS];have nS:S.nx=s.nx+2:=by rw [hS];rfl
  have bS:S.h s.nx=some (.cells c.av.cells 93 true true):=by rw [hS,aG]
  have kS:∀ j,j < s.nx->S.h j=s.h j:=fun j hj=>by rw [hS,aB (by omega),adv_h]
  have fS:aI S:=fun j hj=>by rw [hS,aB (by omega),adv_h];exact fr j (by omega)
  have eS:EF [] s S:=⟨by omega,fun j hj _=>kS j hj,fS⟩;simp only [bS,cl0,wx,wy,reduceAdd,reduceEqDiff,reduceCtorEq]
  cases h0:(c.kind==0) with
  | true =>simp only [h0,cl2,cl3,wx,wy,reduceAdd,reduceEqDiff,reduceCtorEq];refine (c91 (eS.adv.fr) (h.ext fr eS.adv) c.d.nm c.d.so (by omega)).call bMu fun s2 q2=>?_;exact ⟨_,_,rfl,q2.from eS.adv,ZN,.inl ⟨.inl (by simpa using h0),aDl K hso hnm⟩⟩
  | false =>
  cases h1:(c.kind==1) with
  | true =>simp only [h0,h1,bDp,wx,wy,reduceAdd,reduceEqDiff,reduceCtorEq];obtain ⟨e,K',w,w1,w2⟩:=c99 (eS.adv.fr) (h.ext fr eS.adv) hk c.d d1 d2 d3;refine w.call bFh fun s2 q2=>?_;exact ⟨_,_,rfl,q2.from eS.adv,w1,.inl ⟨.inr (.inl (by simpa using h1)),w2.imp_right fun h=>.inl ⟨c.d,⟨d1,d2,d3,d4⟩,h⟩⟩⟩
  | false =>
  cases h2:(c.kind==2) with
  | true =>simp only [h0,h1,h2,zO,wx,wy,reduceAdd,reduceEqDiff,reduceCtorEq];obtain ⟨e,K',w,w1,w2⟩:=c92 (eS.adv.fr) (h.ext fr eS.adv) hk c.x x1 xw;refine w.call bFp fun s2 q2=>?_;exact ⟨_,_,rfl,q2.from eS.adv,w1,.inl ⟨.inr (.inr (by simpa using h2)),w2.imp_right fun h=>.inr ⟨c.x,⟨x1,x2⟩,h⟩⟩⟩
  | false =>
  cases h3:(c.kind==3) with
  | true =>simp only [h0,h1,h2,h3,cl1,wx,wy,reduceAdd,reduceEqDiff,reduceCtorEq];refine (c50 (eS.adv.fr) (h.ext fr eS.adv) c.n lm (by omega)).call bIu fun s2 q2=>?_;exact ⟨_,_,rfl,q2.from eS.adv,XP,.inr (.inl ⟨by simpa using h3,rfl,rfl⟩)⟩
  | false =>
   simp only [h0,h1,h2,h3,aJc,bS,cl1,wx,wy,reduceAdd,reduceEqDiff,reduceCtorEq];refine (c51 (eS.adv.fr) (h.ext fr eS.adv) hk.so c.n).call bGu fun s2 q2=>?_;refine ⟨_,_,rfl,q2.from eS.adv,aHw,.inr (.inr ⟨?_,rfl,rfl⟩)⟩;simp only [beq_eq_false_iff_ne] at h0 h1 h2 h3
   omega)
 obtain ⟨r,s',h1,e,K',rfl,h2,h3⟩:=r;exact ⟨e,K',⟨_,s',h1,rfl,h2⟩,h3⟩
end
end
noncomputable section
theorem bOa (items:List Sx) (hlen:items.length<=maxLen) (ih0:∀ s∈items,bB mEv 18 [s.av,s.av,.bool true] (.bool true)) (s0:Sx) (hc:∃ l k x p a,s0=.mk l k x p a items) (b1 b2:Nat) (e1 e2:TypeId) (Q:aE) (hQ:∀ s,Q (.bool true) s) :
  ∀ (m i:Nat) (s:St),i+m=items.length->s.h b1=some (.cells s0.av.cells e1 true true)->s.h b2=some (.cells s0.av.cells e2 true true)->yV Q (m+1) (.bool true) (.ptr b1 0) (.ptr b2 0) (.int .i64 i) s:=by
 obtain ⟨l,k,x,p,a,rfl⟩:=hc;intro m
 induction m with
 | zero =>
  intro i s hi hs1 hs2;show BC Q (yV Q 0) _ _ _ _ s;have c1:decide ((i:Int) < (items.length:Int))=false:=by simp;omega
  simp only [BC,OT,hs1,eU,oX,eM,c1,wx,wy,reduceAdd,reduceEqDiff,reduceCtorEq];exact hQ _
 | succ m ih =>
  intro i s hi hs1 hs2;show BC Q (yV Q (m+1)) _ _ _ _ s;have c1:decide ((i:Int) < (items.length:Int))=true:=by simp;omega
  obtain ⟨y,hy⟩:∃ y,items[i]?=some y:=⟨_,m004 (by omega)⟩;have hix:=KB false items i y hy;have w1:IntKind.i64.wrap ((i:Int)+1)=((i+1:Nat):Int):=by have:maxLen=9223372036854775807:=rfl;rw [IntWalk.i64_in _ (by omega)];rfl
  simp only [BC,hs1,hs2,eU,oX,eM,c1,hix,dF,wx,wy,reduceAdd,reduceEqDiff,reduceCtorEq];refine kC (ih0 y (m017 hy)) (by simp [aS,AV.closed]) ?_;simp only [aIp,w1,wx,wy,reduceAdd,reduceEqDiff,reduceCtorEq];exact ih (i+1) _ (by omega) (by rw [adv_h];exact hs1) (by rw [adv_h];exact hs2)
theorem bJc:∀ x:Sx,x.ok=true->bB mEv 18 [x.av,x.av,.bool true] (.bool true):=by
 refine DP fun l k t p a items ih ho=>?_;obtain ⟨h1,h2⟩:=DL ho;refine cQ (aSd _ _ _ _ ?_);unfold f18;refine ⟨rfl,rfl,?_⟩;have e1:∀ i:Int,(i != i)=false:=fun i=>by simp
 have e2:∀ b:Bool,(b != b)=false:=fun b=>by cases b<;>rfl
 cases l with
 | false =>simp only [eU,bDs,e1,e2,oX,eM,wx,wy,reduceAdd,reduceEqDiff,reduceCtorEq];exact aT rfl
 | true =>
  simp only [eU,bDs,e1,e2,oX,eM,wx,wy,reduceAdd,reduceEqDiff,reduceCtorEq];refine ⟨items.length+1,bOa items h1 (fun s hs=>ih s hs (h2 s hs)) (Sx.mk true k t p a items) ⟨true,k,t,p,a,rfl⟩ St.empty.nx (St.empty.nx+1) 33 33 _ (fun s=>aT rfl) items.length 0 _ (by omega) ?_ ?_⟩
  ·rw [adv_h,aB (by omega),aG];rfl
  ·rw [adv_h,aG];rfl
theorem JV (i:Int):(i != i)=false:=by simp
theorem aKz (b:Bool):(b != b)=false:=by cases b<;>rfl
theorem aLd (x:List UInt8):(x != x)=false:=by simp
theorem c49 (l:List Sx) (hl:l.length<=2 ^ 20) (ho:∀ y∈l,y.ok=true):bB mEv 49 [.sl false (l.map Sx.av),.sl false (l.map Sx.av)] (.bool true):=by
 have key:∀ (Q:aE),(∀ s,Q (.bool true) s)->∀ (m i:Nat) (s:St),i+m=l.length->yP Q (m+1) (.sl false (l.map Sx.av)) (.sl false (l.map Sx.av)) (.int .i64 i) s:=by
  intro Q hQ m
  induction m with
  | zero =>
   intro i s hi;show DQ Q (yP Q 0) _ _ _ s;have c1:decide ((i:Int) < (l.length:Int))=false:=by simp;omega
   simp only [DQ,PN,oX,m002,c1,wx,wy,reduceAdd,reduceEqDiff,reduceCtorEq];exact hQ _
  | succ m ih =>
   intro i s hi;show DQ Q (yP Q (m+1)) _ _ _ s;have c1:decide ((i:Int) < (l.length:Int))=true:=by simp;omega
   obtain ⟨y,hy⟩:∃ y,l[i]?=some y:=⟨_,m004 (by omega)⟩;have hix:=KB false l i y hy;rw [Sx.avs_eq] at hix;simp only [DQ,oX,m002,c1,hix,dF,wx,wy,reduceAdd,reduceEqDiff,reduceCtorEq];refine kC (bJc y (ho y (m017 hy))) (by simp [aS,AV.closed]) ?_;simp only [aEv,wx,wy,reduceAdd,reduceEqDiff,reduceCtorEq];rw [bY i l.length (by omega) (by have:maxLen=9223372036854775807:=rfl;omega)];exact ih (i+1) _ (by omega)
 refine aY rfl (aSb _ _ _ ?_);unfold f49;simp only [oX,m002,JV,wx,wy,reduceAdd,reduceEqDiff,reduceCtorEq];exact ⟨l.length+1,key _ (fun _=>rfl) l.length 0 _ (by omega)⟩
theorem aRk (q:List UInt8×Int):Ai.part 2 true 0 (iP q).cells=some (iP q):=rfl
theorem bLt (q:List UInt8×Int):bn .neq 151 (iP q) (iP q)=some (.bool false):=by
 have hz:zero Tryz.ty 151=some (.agg [.str [],.int .i64 0]):=by kernel_rfl
 have hq:Tryz.eqOk 151=true:=by kernel_rfl
 show kX Tryz.ty Tryz.eqOk .neq 151 (.agg [.str q.1,.int .i64 q.2]) (.agg [.str q.1,.int .i64 q.2])=_;simp [kX,hq,hz,lP,lY,gB,AV.cells]
theorem c48 (l:List Dc) (hl:l.length<=2 ^ 20) (ho:∀ d∈l,d.ok=true) (hp:∀ d∈l,d.ps.length<=2 ^ 20):bB mEv 48 [.sl false (l.map Dc.av),.sl false (l.map Dc.av)] (.bool true):=by
 have k2:∀ (Q:aE) (ih1:AV->AV->aE) (d:Dc),d.ps.length<=2 ^ 20->∀ (b1 b2 i0:Nat) (S:St),S.h b1=some (.cells d.av.cells 67 true true)->S.h b2=some (.cells d.av.cells 67 true true)->(∀ s,yZ Q ih1 (.int .i64 i0) (.sl false (l.map Dc.av)) (.sl false (l.map Dc.av)) s) ->
   ∀ (m i:Nat) (s:St),i+m=d.ps.length->s.h=S.h->yW Q ih1 (m+1) (.sl false (l.map Dc.av)) (.sl false (l.map Dc.av)) (.int .i64 i0) (.ptr b1 0) (.ptr b2 0) (.int .i64 i) s:=by
  intro Q ih1 d hd b1 b2 i0 S h1 h2 hQ m
  induction m with
  | zero =>
   intro i s hi hs;show DY Q ih1 (yW Q ih1 0) _ _ _ _ _ _ s;have c1:decide ((i:Int) < (d.ps.length:Int))=false:=by simp;omega
   have g1:s.h b1=some (.cells d.av.cells 67 true true):=by rw [hs];exact h1
   simp only [DY,g1,PV,yM,m002,c1,wx,wy,reduceAdd,reduceEqDiff,reduceCtorEq];exact hQ _
  | succ m ih =>
   intro i s hi hs;show DY Q ih1 (yW Q ih1 (m+1)) _ _ _ _ _ _ s;have c1:decide ((i:Int) < (d.ps.length:Int))=true:=by simp;omega
   have g1:s.h b1=some (.cells d.av.cells 67 true true):=by rw [hs];exact h1
   have g2:s.h b2=some (.cells d.av.cells 67 true true):=by rw [hs];exact h2
   obtain ⟨y,hy⟩:∃ y,d.ps[i]?=some y:=⟨_,m004 (by omega)⟩;have hix:cC 2 (.sl false (d.ps.map iP)) (.int .i64 (i:Int))=some (.pel (iP y).cells 0):=by obtain ⟨hi,rfl⟩:=m012.1 hy;simp [cC,pE,uD,hi,iP,AV.cells]
   simp only [DY,g1,g2,PV,yM,m002,c1,hix,aRk,bLt,wx,wy,reduceAdd,reduceEqDiff,reduceCtorEq];simp only [aQx,wx,wy,reduceAdd,reduceEqDiff,reduceCtorEq];rw [bY i d.ps.length (by omega) (by have:maxLen=9223372036854775807:=rfl;omega)];exact ih (i+1) _ (by omega) hs
 have key:∀ (Q:aE),(∀ s,Q (.bool true) s)->∀ (m i:Nat) (s:St),i+m=l.length->jA Q (m+1) (.sl false (l.map Dc.av)) (.sl false (l.map Dc.av)) (.int .i64 i) s:=by
  intro Q hQ m
  induction m with
  | zero =>
   intro i s hi;show CX Q (jA Q 0) _ _ _ s;have c1:decide ((i:Int) < (l.length:Int))=false:=by simp;omega
   simp only [CX,BD,FN,m002,c1,wx,wy,reduceAdd,reduceEqDiff,reduceCtorEq];exact hQ _
  | succ m ih =>
   intro i s hi;show CX Q (jA Q (m+1)) _ _ _ s;have c1:decide ((i:Int) < (l.length:Int))=true:=by simp;omega
   obtain ⟨d,hd⟩:∃ d,l[i]?=some d:=⟨_,m004 (by omega)⟩;have hix:=bAe false l i d hd
   have hz:∃ v,zr 67=some v/\v.cells.length=10:=by
    have h:(zr 67).map (fun v=>v.cells.length)=some 10:=by kernel_rfl
    obtain ⟨v,h1,h2⟩:=m022.1 h;exact ⟨v,h1,h2⟩
   obtain ⟨Z,hZ,hZl⟩:=hz;simp only [CX,FN,m002,c1,hix,iZ,hZ,wx,wy,reduceAdd,reduceEqDiff,reduceCtorEq];rw [bI (id:=s.nx+8) (z:=10) (c:=Z.cells) (e:=67) (ex:=true) (v:=d.av) (by rw [adv_h];exact aG) hZl (fE d) (dS d)];simp only [Bnd_some];obtain ⟨S2,hS2⟩:∃ S,S=(Ai.adv (s.set (s.nx+8) (some (.cells Z.cells 67 true true))) 10).set (s.nx+8) (some (.cells d.av.cells 67 true true)):=⟨_,rfl⟩;rw [<- hS2];have n2:S2.nx=s.nx+10:=by rw [hS2];rfl
   rw [bI (id:=S2.nx+4) (z:=10) (c:=Z.cells) (e:=67) (ex:=true) (v:=d.av) (by rw [adv_h];exact aG) hZl (fE d) (dS d)];simp only [Bnd_some];obtain ⟨S4,hS4⟩:∃ S,S=(Ai.adv (S2.set (S2.nx+4) (some (.cells Z.cells 67 true true))) 6).set (S2.nx+4) (some (.cells d.av.cells 67 true true)):=⟨_,rfl⟩;rw [<- hS4];have g4:S4.h (S2.nx+4)=some (.cells d.av.cells 67 true true):=by rw [hS4,aG]
   have g8:S4.h (s.nx+8)=some (.cells d.av.cells 67 true true):=by rw [hS4,aB (by omega),adv_h,aB (by omega),hS2,aG]
   have hdo:=ho d (m017 hd);have hbo:d.body.ok=true:=by simp only [Dc.ok,cN] at hdo;exact hdo.2
   simp only [g8,g4,iX,wx,wy,reduceAdd,reduceEqDiff,reduceCtorEq];refine aP (bJc d.body hbo) (by simp [aS,AV.closed]) ?_;simp only [g8,g4,dc0,dc1,WF,PV,yM,bDs,JV,aKz,aLd,wx,wy,reduceAdd,reduceEqDiff,reduceCtorEq];refine ⟨d.ps.length+1,k2 Q _ d (hp d (m017 hd)) (s.nx+8) (S2.nx+4) i S4 g8 g4 (fun s'=>?_) d.ps.length 0 _ (by omega) rfl⟩;simp only [yZ,wx,wy,reduceAdd,reduceEqDiff,reduceCtorEq];rw [bY i l.length (by omega) (by have:maxLen=9223372036854775807:=rfl;omega)];exact ih (i+1) _ (by omega)
 refine aY rfl (aVj _ _ _ ?_);unfold f48;simp only [FN,m002,JV,wx,wy,reduceAdd,reduceEqDiff,reduceCtorEq];exact ⟨l.length+1,key _ (fun _=>rfl) l.length 0 _ (by omega)⟩
end
noncomputable section
theorem DZ (L:List Sx):(AV.sl false (L.map Sx.av)).closed=true:=by simp only [AV.closed];exact eK _ _ aS
theorem bKj:mEv.fz 47=false:=by kernel_rfl
theorem bJv (l:List AV) (id:Nat) (s:St):bt .len #[79] [.sl false l] id s=some (.int .i64 l.length,s):=by kernel_rfl
theorem aYj (a b:Int):bn .eql 34 (.int .i64 a) (.int .i64 b)=some (.bool (a==b)):=bin_eql
section
variable {p:Nat}
def sk0:Sk:=⟨[],[],[],[],none⟩
theorem aTg {s:St} (h:s.h p=some (.cells [.nils,.nils,.nils,.nils,.nilm] 88 true true)):cR s p sk0 [p]:=⟨.nils,.nils,.nils,.nils,.nilm,⟨h,JG,JG,JG,JG,.inl ⟨rfl,rfl⟩,by simp [aF]⟩,rfl⟩
theorem aWa:EY sk0:=⟨⟨⟨fun _ h=>(by cases h),.nil⟩,⟨fun _ h=>(by cases h),.nil⟩,rfl,by decide,by decide,by decide⟩,fun _ h=>(by cases h),fun _ h=>(by cases h)⟩
theorem l11 (l:List Cl) (hl:∀ c∈l,ClF c) (hn:l.length<=maxLen):∀ (k i:Nat) (s:St) (F:List Nat) (K:Sk),i+k=l.length->aI s->cR s p K F->EY K->uC (fun r _=>r=.bool true) (k+1) (.sl false (l.map Cl.av)) (.ptr p 0) (.int .i64 i) s:=by
 intro k
 induction k with
 | zero =>
  intro i s F K hi fr h hk;show DB (fun r _=>r=.bool true) (uC (fun r _=>r=.bool true) 0) _ _ _ s;have c1:decide ((i:Int) < (l.length:Int))=false:=by simp;omega
  simp only [DB,LS,bJv,m002,c1,wx,wy,reduceAdd,reduceEqDiff,reduceCtorEq]
 | succ k ih =>
  intro i s F K hi fr h hk;show DB (fun r _=>r=.bool true) (uC (fun r _=>r=.bool true) (k+1)) _ _ _ s;have c1:decide ((i:Int) < (l.length:Int))=true:=by simp;omega
  obtain ⟨c,hc⟩:∃ c,l[i]?=some c:=⟨_,m004 (by omega)⟩;have hix:=aYn false l i c hc;have ld:=hk.so.ld;have lx:=hk.so.lx;simp only [DB,bJv,m002,c1,wx,wy,reduceAdd,reduceEqDiff,reduceCtorEq];refine aYa fr.adv h.adv hk fun s1 e1=>?_;have e1:=(EF.refl [] fr).adv.nil_trans e1;refine aYw e1.fr.adv (h.ext fr e1).adv hk fun s2 e2=>?_;have e2:=e1.adv.nil_trans e2;refine (c46 e2.fr.adv (h.ext fr e2).adv).call VW fun s3 e3=>?_;have e3:=e2.adv.nil_trans e3;simp only [hix,oI,wx,wy,reduceAdd,reduceEqDiff,reduceCtorEq];obtain ⟨e,K',w1,w2⟩:=c47 e3.fr.adv (h.ext fr e3).adv hk c (hl c (m017 hc));refine w1.call bKj fun s4 q4=>?_;obtain ⟨F4,r4,e4,m4⟩:=q4;have hk':=w2.ok hk;have nxt:∀ s',EF [] s4 s'->LM (fun r _=>r=.bool true) (uC (fun r _=>r=.bool true) (k+1)) (.int .i64 i) (.sl false (l.map Cl.av)) (.ptr p 0) s':=fun s' e'=>by unfold LM;simp only [wx,wy,reduceAdd,reduceEqDiff,reduceCtorEq];rw [bY i l.length (by omega) hn];exact ih (i+1) _ F4 K' (by omega) e'.fr.adv (r4.ext e4.fr e').adv hk'
  cases he:(e==0) with
  | true =>simp only [aYj,he,wx,wy,reduceAdd,reduceEqDiff,reduceCtorEq];exact nxt _ (EF.refl [] e4.fr).adv
  | false =>
   have hne:e≠0:=by simpa using he
   obtain rfl:=w2.er hne;simp only [aYj,he,wx,wy,reduceAdd,reduceEqDiff,reduceCtorEq];refine aYa e4.fr.adv r4.adv hk fun s5 e5=>?_;have e5:=(EF.refl [] e4.fr).adv.nil_trans e5;refine aP (c48 K'.D (by omega) (fun d hd=>(hk.d d hd).2.2.2) (fun d hd=>(hk.d d hd).2.2.1)) (by simp only [m013,m052,or_false,forall_eq_or_imp,forall_eq];exact ⟨oA K'.D,oA K'.D⟩) ?_;simp only [wx,wy,reduceAdd,reduceEqDiff,reduceCtorEq];refine aYw e5.fr.adv (r4.ext e4.fr e5).adv hk fun s6 e6=>?_;have e6:=e5.adv.nil_trans e6;refine aP (c49 K'.X (by omega) (fun d hd=>(hk.x d hd).2)) (by simp only [m013,m052,or_false,forall_eq_or_imp,forall_eq];exact ⟨DZ K'.X,DZ K'.X⟩) ?_;simp only [wx,wy,reduceAdd,reduceEqDiff,reduceCtorEq];refine (c46 e6.fr.adv (r4.ext e4.fr e6).adv).call VW fun s7 e7=>?_;have e7:=e6.adv.nil_trans e7;have hq:((K'.dm.length:Int) != (K'.dm.length:Int))=false:=by simp
   simp only [hq,wx,wy,reduceAdd,reduceEqDiff,reduceCtorEq];exact nxt _ e7
theorem c11 (l:List Cl) (hl:∀ c∈l,ClF c) (hn:l.length<=maxLen) (ho:∀ c∈l,c.ok=true):∃ s',WideC mEv 11 [.sl false (l.map Cl.av)] St.empty (.bool true) s':=by
 have h:=aSg (.sl false (l.map Cl.av)) St.empty (Q:=fun r _=>r=.bool true) (by
  have hcl:(AV.sl false (l.map Cl.av)).closed=true:=by simp only [AV.closed];exact eK _ _ YT
  unfold f11;refine aP aRi (by simp) ?_;simp only [wx,wy,reduceAdd,reduceEqDiff,reduceCtorEq];refine aP (bDm false l ho) (by simp [hcl]) ?_
  cases hf:bCs l with
  | false=>simp only [wx,wy,reduceAdd,reduceEqDiff,reduceCtorEq]
  | true =>
   have hb:lS 88 []=some (.agg [.nils,.nils,.nils,.nils,.nilm]):=by rw [bNf];rfl
   have hc0:(AV.agg [AV.nils,AV.nils,AV.nils,AV.nils,.nilm]).cells=[.nils,.nils,.nils,.nils,.nilm]:=rfl;simp only [hb,hc0,wx,wy,reduceAdd,reduceEqDiff,reduceCtorEq];refine ⟨rfl,?_⟩;refine ⟨l.length+1,l11 l hl hn l.length 0 _ [St.empty.nx+13] sk0 (by omega) (fun j hj=>?_) (aTg aG).adv aWa⟩;have hj:St.empty.nx+16<=j:=hj;rw [adv_h,aB (by omega)]
   exact jE j (by omega))
 obtain ⟨r,s',h1,h2⟩:=h;subst h2;exact ⟨s',h1⟩
end
end
noncomputable section
section
variable {H:Type}
theorem aKt:lC Tryz.ty 67=some [9,3,4,65,33]:=by kernel_rfl
theorem aGr:lC Tryz.ty 93=some [3,3,67,33]:=by kernel_rfl
theorem GT:lC Tryz.ty 151=some [9,3]:=by kernel_rfl
theorem bMf (n:Nat) (d:DataW H) (h:TyD Tryz.ty n 151 d):∃ p:List UInt8×Int,dAV d=iP p:=by
 obtain ⟨m,l,rfl,rfl,hl,hf⟩:=h.struct GT
 match l,hl with
 | [d0,d1],_ =>
 obtain ⟨x,rfl,_⟩:=(hf 0 9 d0 rfl rfl).str (by kernel_rfl);obtain ⟨a,rfl,_⟩:=(hf 1 3 d1 rfl rfl).int (k:=.i64) (by kernel_rfl);exact ⟨(x,a),rfl⟩
theorem aTl {α:Type} {f:α->AV} {p:DataW H->Prop} (h:∀ d,p d->∃ a,dAV d=f a) (l:List (DataW H)) (hl:∀ d∈l,p d):∃ bs:List α,zI l=bs.map f/\bs.length=l.length:=by
 induction l with
 | nil=>exact ⟨[],rfl,rfl⟩
 | cons d l ih =>obtain ⟨a,ha⟩:=h d (hl d (m007 ..));obtain ⟨bs,h1,h2⟩:=ih fun x hx=>hl x (m005 _ hx);exact ⟨a::bs,by simp only [zI,ha,h1,m039],by simp [h2]⟩
end
end
noncomputable section
mutual
def Sx.bk:Sx->Nat
 | .mk _ _ t _ _ items=>1+t.length+Sx.bks items
def Sx.bks:List Sx->Nat
 | []=>0
 | s::l=>s.bk+Sx.bks l
end
section
variable {H:Type}
theorem aGs {T:Ty} {e t:TypeId} {n:Nat} {d:DataW H} (h:aOh T t=some e) (hd:TyD T n t d):∃ (m:Nat) (l:List (DataW H)),n=m+1/\dAV d=.sl false (zI l)/\l.length<=maxLen/\(∀ x∈l,TyD T m e x)/\Rows.uptoBulkAll l<=Rows.uptoBulk d:=by
 cases n with
 | zero=>exact hd.elim
 | succ m =>
  unfold aOh at h;unfold TyD at hd
  split at h
  ·rename_i hu;rw [hu] at hd;cases h;rcases hd with rfl | ⟨l,r,rfl,h1,h2⟩
   ·exact ⟨m,[],rfl,rfl,by simp,(fun _ h=>by cases h),by simp [Rows.uptoBulkAll]⟩
   ·exact ⟨m,l,rfl,rfl,h1,h2,by simp only [Rows.uptoBulk];omega⟩
  ·cases h
theorem UK:∀ (n:Nat) (d:DataW H),TyD Tryz.ty n 33 d->∃ s:Sx,dAV d=s.av/\s.ok=true/\s.bk<=Rows.uptoBulk d:=by
 intro n
 induction n using Nat.strongRecOn with
 | ind n ih =>
 intro d hd;obtain ⟨m,l,rfl,rfl,hl,hf⟩:=hd.struct aHq
 match l,hl with
 | [d0,d1,d2,d3],_ =>
 obtain ⟨b,rfl⟩:=(hf 0 4 d0 rfl rfl).bool (by kernel_rfl);obtain ⟨m1,l1,rfl,rfl,hl1,hf1⟩:=(hf 1 30 d1 rfl rfl).struct aKa;obtain ⟨a,rfl,ha⟩:=(hf 2 3 d2 rfl rfl).int (k:=.i64) (by kernel_rfl);obtain ⟨m2,its,hm,hv,hlen,hel,hbk⟩:=aGs (e:=33) (by kernel_rfl) (hf 3 31 d3 rfl rfl)
 match l1,hl1 with
 | [e0,e1,e2],_ =>
 obtain ⟨k,rfl,hk⟩:=(hf1 0 3 e0 rfl rfl).int (k:=.i64) (by kernel_rfl);obtain ⟨x,rfl,hx⟩:=(hf1 1 9 e1 rfl rfl).str (by kernel_rfl);obtain ⟨p,rfl,hp⟩:=(hf1 2 3 e2 rfl rfl).int (k:=.i64) (by kernel_rfl)
 have:∀ l:List (DataW H),(∀ x∈l,TyD Tryz.ty m2 33 x)->∃ is:List Sx,zI l=Sx.avs is/\is.length=l.length/\Sx.oks is=true/\Sx.bks is<=Rows.uptoBulkAll l:=by
  intro l
  induction l with
  | nil=>intro _;exact ⟨[],rfl,rfl,rfl,bJ _⟩
  | cons y l ihl =>intro hy;obtain ⟨s,hs,ho,hb⟩:=ih m2 (by omega) y (hy y (m007 ..));obtain ⟨is,h1,h2,h3,h4⟩:=ihl fun x hx=>hy x (m005 _ hx);exact ⟨s::is,by simp only [zI,Sx.avs,hs,h1],by simp [h2],by simp only [Sx.oks,ho,h3,iS],by simp only [Sx.bks,Rows.uptoBulkAll];omega⟩
 obtain ⟨is,h1,h2,h3,h4⟩:=this its hel;refine ⟨.mk b k x p a is,?_,?_,?_⟩
 ·simp only [dAV,DE,AV.cells,hv,List.cons_append,List.nil_append,m011,Sx.av,h1]
 ·simp only [Sx.ok,oU,hk,hx,hp,ha,h2,hlen,h3,decide_true,iS]
 ·simp only [Sx.bk,Rows.uptoBulk,Rows.uptoBulkAll];omega
def Dc.bk (d:Dc):Nat:=d.ps.length+d.nm.length+d.body.bk+1
theorem aVz (n:Nat) (d:DataW H) (h:TyD Tryz.ty n 151 d):1<=Rows.uptoBulk d:=by obtain ⟨m,l,rfl,rfl,hl,hf⟩:=h.struct GT;simp only [Rows.uptoBulk];omega
theorem aTc (n:Nat) (d:DataW H) (h:TyD Tryz.ty n 67 d):∃ c:Dc,dAV d=c.av/\c.ok=true/\c.bk<=Rows.uptoBulk d:=by
 obtain ⟨m,l,rfl,rfl,hl,hf⟩:=h.struct aKt
 match l,hl with
 | [d0,d1,d2,d3,d4],_ =>
 obtain ⟨x,rfl,hx⟩:=(hf 0 9 d0 rfl rfl).str (by kernel_rfl);obtain ⟨a,rfl,ha⟩:=(hf 1 3 d1 rfl rfl).int (k:=.i64) (by kernel_rfl);obtain ⟨b,rfl⟩:=(hf 2 4 d2 rfl rfl).bool (by kernel_rfl);obtain ⟨m2,its,hm,hv,hlen,hel,hbk⟩:=aGs (e:=151) (by kernel_rfl) (hf 3 65 d3 rfl rfl);obtain ⟨s,hs,ho,hb⟩:=UK m d4 (hf 4 33 d4 rfl rfl);obtain ⟨ps,h1,h2⟩:=aTl (f:=iP) (fun d h=>bMf m2 d h) its hel
 have hlb:∀ l:List (DataW H),(∀ x∈l,TyD Tryz.ty m2 151 x)->l.length<=Rows.uptoBulkAll l:=by
  intro l
  induction l with
  | nil=>intro _;exact bJ _
  | cons y l ihl =>intro hy;have h1:=aVz m2 y (hy y (m007 ..));have h2:=ihl fun x hx=>hy x (m005 _ hx);simp only [List.length_cons,Rows.uptoBulkAll];omega
 have hlb:=hlb its hel;refine ⟨⟨x,a,b,ps,s⟩,?_,?_,?_⟩
 ·simp only [dAV,DE,AV.cells,hv,h1,hs,List.cons_append,List.nil_append,m011];rfl
 ·simp only [Dc.ok,oU,hx,ha,h2,hlen,ho,decide_true,iS]
 ·simp only [Dc.bk,Rows.uptoBulk,Rows.uptoBulkAll];omega
end
mutual
theorem SG:∀ (s:Sx),s.ok=true->s.bk<=2 ^ 20->s.fit/\s.wt<=s.bk
 | .mk b k x p a items,ho,h=>by
  simp only [Sx.bk] at h;simp only [Sx.ok,oU,cN,decide_eq_true_eq] at ho;obtain ⟨f1,f2,f3⟩:=TY items ho.2 (by omega);refine ⟨⟨?_,by omega,by omega,f1⟩,?_⟩
  ·have h1:=ho.1.1.1.1.1;simp only [Lit.wf,cN,decide_eq_true_eq] at h1;exact h1
  ·simp only [Sx.wt,Sx.bk];omega
theorem TY:∀ (l:List Sx),Sx.oks l=true->Sx.bks l<=2 ^ 20->Sx.fits l/\Sx.wts l<=Sx.bks l/\l.length<=Sx.bks l
 | [],_,_=>⟨trivial,bJ _,bJ _⟩
 | s::l,ho,h=>by
  simp only [Sx.bks] at h;simp only [Sx.oks,cN] at ho;obtain ⟨f1,f2⟩:=SG s ho.1 (by omega);obtain ⟨g1,g2,g3⟩:=TY l ho.2 (by omega);have hp:1<=s.bk:=by cases s;simp only [Sx.bk];omega
  exact ⟨⟨f1,g1⟩,by simp only [Sx.wts,Sx.bks];omega,by simp only [List.length_cons,Sx.bks];omega⟩
end
end
noncomputable section
section
variable {H:Type}
theorem aVb (n:Nat) (d:DataW H) (h:TyD Tryz.ty n 93 d) (hb:Rows.uptoBulk d<=2 ^ 20):∃ c:Cl,dAV d=c.av/\c.ok=true/\ClF c:=by
 obtain ⟨m,l,rfl,rfl,hl,hf⟩:=h.struct aGr
 match l,hl with
 | [d0,d1,d2,d3],_ =>
 obtain ⟨k,rfl,hk⟩:=(hf 0 3 d0 rfl rfl).int (k:=.i64) (by kernel_rfl);obtain ⟨a,rfl,ha⟩:=(hf 1 3 d1 rfl rfl).int (k:=.i64) (by kernel_rfl);obtain ⟨c,hc,hco,hcb⟩:=aTc m d2 (hf 2 67 d2 rfl rfl);obtain ⟨s,hs,ho,hsb⟩:=UK m d3 (hf 3 33 d3 rfl rfl);simp only [Rows.uptoBulk,Rows.uptoBulkAll] at hb;have hbk:c.bk=c.ps.length+c.nm.length+c.body.bk+1:=rfl;have hbo:c.body.ok=true:=by have:=hco;simp only [Dc.ok,cN] at this;exact this.2
 obtain ⟨f1,f2⟩:=SG s ho (by omega);obtain ⟨g1,g2⟩:=SG c.body hbo (by omega);refine ⟨⟨k,a,c,s⟩,?_,?_,⟨⟨g1,?_,?_,hco⟩,⟨f1,ho⟩,?_⟩⟩
 ·simp only [dAV,DE,hc,hs,m011];rfl
 ·simp only [Cl.ok,oU,hk,ha,hco,ho,iS]
 ·show c.body.wt<=2 ^ 20;omega
 ·show c.ps.length<=2 ^ 20;omega
 ·show s.wt<=2 ^ 20;omega
theorem cls_bulk (n:Nat) (d:DataW H) (h:TyD Tryz.ty n 79 d) (hb:Rows.uptoBulk d<=2 ^ 20):∃ L:List Cl,dAV d=.sl false (L.map Cl.av)/\L.length<=maxLen/\(∀ c∈L,c.ok=true)/\∀ c∈L,ClF c:=by
 obtain ⟨m,its,hm,hv,hlen,hel,hbk⟩:=aGs (e:=93) (by kernel_rfl) h
 have:∀ l:List (DataW H),(∀ x∈l,TyD Tryz.ty m 93 x)->Rows.uptoBulkAll l<=2 ^ 20->∃ L:List Cl,zI l=L.map Cl.av/\L.length=l.length/\(∀ c∈L,c.ok=true)/\∀ c∈L,ClF c:=by
  intro l
  induction l with
  | nil=>intro _ _;exact ⟨[],rfl,rfl,(fun _ h=>by cases h),fun _ h=>by cases h⟩
  | cons y l ihl =>
   intro hy hl;simp only [Rows.uptoBulkAll] at hl;obtain ⟨c,hc,ho,hf⟩:=aVb m y (hy y (m007 ..)) (by omega);obtain ⟨L,h1,h2,h3,h4⟩:=ihl (fun x hx=>hy x (m005 _ hx)) (by omega);refine ⟨c::L,by simp only [zI,hc,h1,m039],by simp [h2],?_,?_⟩
   ·intro x hx;rcases m013.1 hx with rfl | hx
    ·exact ho
    ·exact h3 x hx
   ·intro x hx;rcases m013.1 hx with rfl | hx
    ·exact hf
    ·exact h4 x hx
 obtain ⟨L,h1,h2,h3,h4⟩:=this its hel (by omega);exact ⟨L,by rw [hv,h1],by omega,h3,h4⟩
end
end
end Go.Proofs.YtdehdahimkcakaaGreatDoor
