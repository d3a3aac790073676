/- Texts joined by wip/tools/pack.py: Kj,Ar,Ap,Km,Kn,Ko,Kl,Kp,Kq,Kr,Rd,Bk,Rk. -/
import Derived.Test.YtdehdahimkcakaaGreatDoorYt
open Nat (reduceAdd reduceEqDiff)
set_option linter.unusedSimpArgs false
set_option linter.unusedVariables false
set_option maxHeartbeats 4000000
set_option maxRecDepth 100000
namespace Go.Proofs.YtdehdahimkcakaaGreatDoor
open Go Ai
noncomputable section
section
variable {s s':St} {p:Nat} {K:Sk} {F:List Nat} {xd xm xa xn m:AV}
theorem bRe (Q:aE) (ih1:AV->AV->aE) (t17 t18:AV) (D:List Dc) (hl:D.length<=2 ^ 20) (jj j:Nat) :
  ∀ (k i:Nat) (s:St) (N:List (List UInt8)),i+k=D.length->aI s->gB s p { K with N:=some N } xd xm xa xn (.map j)->s.h jj=some (.cells ((D.map Dc.av).flatMap AV.cells) 67 false true)->jj ∉ p::aO xd xm xa xn (.map j) ->
   (∀ s',gB s' p { K with N:=some (((D.drop i).map Dc.nm).foldl wW N) } xd xm xa xn (.map j)->EF [j] s s'->yS Q ih1 (.ptr p 0) t18 t17 s') ->
   qF Q ih1 (k+1) (.ptr p 0) t17 t18 (.ref jj 0 D.length none 67) (.int .i64 D.length) (.int .i64 i) s:=by
 obtain ⟨Z,hZ,zl,zo,zi,za⟩:=z67;intro k
 induction k with
 | zero =>
  intro i s N hi fr c hj hjn hQ;show sS Q ih1 (qF Q ih1 0) _ _ _ _ _ _ s;have c1:decide ((i:Int) < (D.length:Int))=false:=by simp;omega
  rw [m044 (by omega)] at hQ;simp only [sS,c1,wx,wy,reduceAdd,reduceEqDiff,reduceCtorEq];exact hQ _ (c.keep fun _ _=>rfl) (EF.refl _ fr).adv
 | succ k ih =>
  intro i s N hi fr c hj hjn hQ;show sS Q ih1 (qF Q ih1 (k+1)) _ _ _ _ _ _ s;obtain ⟨y,hy⟩:∃ y,D[i]?=some y:=⟨_,m004 (by omega)⟩;have c1:decide ((i:Int) < (D.length:Int))=true:=by simp;omega
  obtain ⟨e1,e2,e3,e4⟩:=JT (z:=10) (i:=jj) (e:=67) (n:=D.length) (vs:=D.map Dc.av) (k:=i) (v:=y.av) (fun v hv=>by obtain ⟨y,_,rfl⟩:=m021.1 hv;exact fD y) (by rw [m002]) (by rw [m047,hy];rfl) rfl;have hR:cL s p { K with N:=some N } (p::aO xd xm xa xn (.map j)):=⟨_,_,_,_,_,c,rfl⟩;have hF:=hR.lt fr;have hj0:j∈p::aO xd xm xa xn (.map j):=by simp [aO,aF]
  have hjs:=hF j hj0;have hps:=hF p (m007 ..);have hjjs:=fr.lt hj;have hpj:p≠j:=fun e=>by have:=c.nd;simp only [m036,m003,aF,m008,not_or] at this;exact this.1.2.2.2.2 e
  have hm:s.h j=some (.map (pH N)):=by
   rcases c.n with ⟨_,h⟩ | ⟨l,i,h1,h,h2⟩
   ·cases h
   ·cases h;cases h1;exact h2
  simp only [sS,c1,e1,hj,e2,hZ,wx,wy,reduceAdd,reduceEqDiff,reduceCtorEq];rw [bI (id:=s.nx+3) (z:=10) (c:=Z.cells) (e:=67) (ex:=true) (v:=y.av) (by rw [adv_h,aG]) zl (fD y) (dP y)];simp only [Bnd_some];obtain ⟨S,hS⟩:∃ S,S=(Ai.adv (s.set (s.nx+3) (some (.cells Z.cells 67 true true))) 5).set (s.nx+3) (some (.cells y.av.cells 67 true true)):=⟨_,rfl⟩;rw [<- hS];have nS:S.nx=s.nx+5:=by rw [hS];rfl
  have kS:∀ j,j≠s.nx+3->S.h j=s.h j:=fun j hj=>by rw [hS,aB hj,adv_h,aB hj]
  have bS:S.h (s.nx+3)=some (.cells y.av.cells 67 true true):=by rw [hS,aG]
  have fS:aI S:=fun j hj=>by rw [kS j (by omega)];exact fr j (by omega)
  have cS:=c.keep (s':=S) fun j hj=>kS j (by have:=hF j hj;omega);refine ⟨rfl,?_⟩;simp only [cS.cell,bS,dc0,wx,wy,reduceAdd,reduceEqDiff,reduceCtorEq];refine ⟨fS _ (by omega),?_⟩;rw [aYi (S:=Ai.adv S 7) (by rw [adv_h,kS j (by omega)];exact hm)];simp only [Bnd_some,aMg,wx,wy,reduceAdd,reduceEqDiff,reduceCtorEq];rw [bU i D.length (by omega) (by have:maxLen=9223372036854775807:=rfl;omega)];obtain ⟨T,hT⟩:∃ T,T=Ai.adv (S.set j (some (.map (pH (wW N y.nm))))) 9:=⟨_,rfl⟩;have kT:∀ i,i≠j->T.h i=S.h i:=fun i hi=>by rw [hT,adv_h,aB hi]
  have nT:T.nx=S.nx+9:=by rw [hT];rfl
  have cT:gB T p { K with N:=some (wW N y.nm) } xd xm xa xn (.map j):=VQ cS fS (id:=S.nx) (bJ _) (by rw [kT p hpj,cS.cell]) (fun i _ _ hi=>kT i (by simpa [aF] using hi)) (fun i hi=>.inr hi) (.inr ⟨_,j,rfl,rfl,by rw [hT,adv_h,aG]⟩);have fT:aI T:=fun i hi=>by rw [kT i (by omega)];exact fS i (by omega)
  have eT:EF [j] s T:=⟨by omega,fun i hi hn=>by rw [kT i (by simpa using hn),kS i (by omega)],fT⟩;have hjT:T.h jj=some (.cells ((D.map Dc.av).flatMap AV.cells) 67 false true):=by rw [kT jj (fun e=>hjn (e ▸ hj0)),kS jj (by omega),hj]
  refine (show qF Q ih1 (k+1) (.ptr p 0) t17 t18 (.ref jj 0 D.length none 67) (.int .i64 D.length) (.int .i64 ((i+1:Nat):Int)) T from ih (i+1) T _ (by omega) fT cT hjT hjn fun s' c' e'=>hQ s' ?_ (eT.trans e' fun i hi=>.inr hi)) |> fun h=>by rw [hT] at h;exact h
  rw [bZ D i y hy];exact c'
theorem bRa (Q:aE) (ih1:AV->AV->aE) (t17 t18 r:AV) (s:St) (hQ:∀ n,yS Q ih1 (.ptr p 0) t18 t17 (Ai.adv s n)):qF Q ih1 1 (.ptr p 0) t17 t18 r (.int .i64 0) (.int .i64 0) s:=by show sS Q ih1 (qF Q ih1 0) _ _ _ _ _ _ s;have c1:decide ((0:Int) < 0)=false:=rfl;simp only [sS,c1,wx,wy,reduceAdd,reduceEqDiff,reduceCtorEq];exact hQ _
theorem bCm:mEv.fz 102=false:=by kernel_rfl
theorem bDo:mEv.fz 103=false:=by kernel_rfl
theorem l51 (Q:aE) (N:Nat) (hN:N<=2 ^ 18):∀ (k i:Nat) (s:St) (F1:List Nat) (K1:Sk),i+k=N->aI s->cL s p K1 F1->EY K1->k<=K1.dm.length ->
  (∀ s',bR s p F1 (wM k K1) s'->Q (.int .i64 0) s')->gO Q (k+1) (.ptr p 0) (.int .i64 N) (.int .i64 i) s:=by
 intro k
 induction k with
 | zero =>
  intro i s F1 K1 hi fr h hk hd hQ;show CJ Q (gO Q 0) _ _ _ s;have c1:decide ((i:Int) < (N:Int))=false:=by simp;omega
  simp only [CJ,zF,c1,wx,wy,reduceAdd,reduceEqDiff,reduceCtorEq];exact hQ _ (bR.same h fr (EF.refl [] fr).adv)
 | succ k ih =>
  intro i s F1 K1 hi fr h hk hd hQ;show CJ Q (gO Q (k+1)) _ _ _ s;have c1:decide ((i:Int) < (N:Int))=true:=by simp;omega
  have hF:=h.lt fr;have hp:=hF p h.pin;have lD:=hk.ld;have lX:=hk.lx;have lm:=hk.lm;have lam:=hk.l;obtain ⟨ms,q,ns,r,h1,h2,q1,q2,r1,r2,hk2,hpop⟩:=KU hk (fun e=>by rw [e] at hd;simp at hd);obtain ⟨xd,xm,xa,xn,m,c,rfl⟩:=h;simp only [CJ,c1,wx,wy,reduceAdd,reduceEqDiff,reduceCtorEq];refine ⟨rfl,?_⟩;rw [dW (c:=[xd,xm,xa,xn,m]) (e:=88) (ex:=true) (by rw [adv_h,aB (by omega),c.cell]) (by simp) rfl rfl];simp only [Bnd_some];rw [show ([xd,xm,xa,xn,m].set 4 (.map (s.nx+2)))=[xd,xm,xa,xn,.map (s.nx+2)] from rfl];obtain ⟨S,hS⟩:∃ S,S=(Ai.adv (s.set (s.nx+2) (some (.map []))) 6).set p (some (.cells [xd,xm,xa,xn,.map (s.nx+2)] 88 true true)):=⟨_,rfl⟩;rw [<- hS];have nS:S.nx=s.nx+6:=by rw [hS];rfl
  have kS:∀ j,j≠p->j≠s.nx+2->S.h j=s.h j:=fun j a b=>by rw [hS,aB a,adv_h,aB b]
  have fS:aI S:=fun j hj=>by rw [kS j (by omega) (by omega)];exact fr j (by omega)
  have cS:gB S p { K1 with N:=some [] } xd xm xa xn (.map (s.nx+2)):=VQ c fr (id:=s.nx+2) (by omega) (by rw [hS,aG]) (fun j a b _=>kS j b (by omega)) (fun j hj=>.inl (by simpa [aF] using hj)) (.inr ⟨[],_,rfl,rfl,by rw [hS,aB (by omega),adv_h,aG];rfl⟩);have eS:EF (p::aO xd xm xa xn m) s S:=⟨by omega,fun j a b=>kS j (fun e=>b (by simp [e])) (by omega),fS⟩
  have mS:∀ j∈p::aO xd xm xa xn (.map (s.nx+2)),j∈p::aO xd xm xa xn m\/s.nx<=j:=fun j hj=>by
   simp only [m013,aO,m003,aF,m008] at hj ⊢;have:s.nx<=s.nx+2:=by omega
   grind
  refine ⟨rfl,?_⟩;obtain ⟨rr,s3,s1,w1,w2,w4⟩:=bRi (s:=Ai.adv S 6) (K:={ K1 with N:=some [] }) fS.adv (cL.adv ⟨_,_,_,_,_,cS,rfl⟩) h1 q1 q2 (by show K1.dm.length<=2 ^ 20;omega) (by show K1.D.length<=2 ^ 20;omega);refine bO bCm ⟨rr,s3,w1,?_⟩;obtain ⟨F3,r3,e3,m3⟩:=w2.from (s:=S) (EF.refl [] fS).adv;obtain ⟨yd,ym,ya,yn,m',c3,rfl⟩:=r3;have hR3:cL s1 p _ (p::aO yd ym ya yn m'):=⟨_,_,_,_,_,c3,rfl⟩;have lt3:=hR3.lt e3.fr;have c3:=c3.keep (s':=s3) fun j hj=>w4.1.h j (lt3 j hj) (by simp);have e3:=e3.trans w4.1 (fun j hj=>by cases hj)
  obtain ⟨l0,j,hl0,hmj,hj⟩:∃ l j,some []=some l/\m'=.map j/\s3.h j=some (.map (pH l)):=by
   rcases c3.n with ⟨h,_⟩ | h
   ·cases h
   ·exact h
  subst hmj;have e03:=eS.trans e3 (fun j hj=>(mS j hj).symm)
  have m03:∀ w∈p::aO yd ym ya yn (.map j),w∈p::aO xd xm xa xn m\/s.nx<=w:=fun w hw=>by
   rcases m3 w hw with h | h
   ·exact mS w h
   ·exact .inr (by omega)
  have fin:∀ s4,gB s4 p { D:=K1.D.take q.toNat,dm:=ms,X:=K1.X,am:=K1.am,N:=some (((K1.D.take q.toNat).map Dc.nm).foldl wW []) } yd ym ya yn (.map j)->EF [j] s3 s4->yS Q (gO Q (k+1)) (.ptr p 0) (.int .i64 i) (.int .i64 N) s4:=fun s4 c4 e4=>by unfold yS;refine ⟨rfl,?_⟩;simp only [wx,wy,reduceAdd,reduceEqDiff,reduceCtorEq];obtain ⟨r5,s5,s51,x1,x2,x3⟩:=bPc (s:=Ai.adv s4 4) e4.fr.adv (cL.adv ⟨_,_,_,_,_,c4,rfl⟩) h2 r1 r2 (by show K1.am.length<=2 ^ 20;omega) (by show K1.X.length<=2 ^ 20;omega);refine bO bDo ⟨r5,s5,x1,?_⟩;have e34:EF (p::aO yd ym ya yn (.map j)) s3 s4:=e4.sub fun i hi=>.inr (by simp only [m008] at hi;subst hi;simp [aO,aF]);have e04:=e03.trans e34 (fun i hi=>(m03 i hi).symm);obtain ⟨F5,r5',e5,m5⟩:=bR.step e04.adv m03 x2;have r5':=r5'.ext e5.fr x3.1;have e5:=e5.trans x3.1 (fun j hj=>by cases hj);simp only [DT,wx,wy,reduceAdd,reduceEqDiff,reduceCtorEq];rw [bU i N (by omega) (by have:maxLen=9223372036854775807:=rfl;omega)];refine ih (i+1) _ F5 (sA K1) (by omega) e5.fr.adv (by rw [hpop];exact r5'.adv) hk2 (by rw [hpop];show k<=ms.length;rw [h1] at hd;simp at hd;omega) fun s6 q6=>hQ s6 (bR.step e5.adv m5 q6)
  have w4':=w4;obtain ⟨z1,z2 | ⟨jj,z3,rfl,z4,z5⟩⟩:=w4
  ·have hD0:K1.D.take q.toNat=[]:=by simpa using z2.1
   simp only [bCv w4',hD0,List.length_nil,wx,wy,reduceAdd,reduceEqDiff,reduceCtorEq];refine ⟨1,bRa Q _ _ _ _ _ fun n=>?_⟩;refine fin _ ?_ (EF.refl _ e3.fr).adv;rw [hD0];rw [hD0] at c3;exact c3.keep fun _ _=>rfl
  ·simp only [bCv w4',wx,wy,reduceAdd,reduceEqDiff,reduceCtorEq];rw [m002];cases hl0;have hjjn:jj ∉ p::aO yd ym ya yn (.map j):=fun hm=>by have:=lt3 jj hm;omega
   refine ⟨(K1.D.take q.toNat).length+1,bRe (K:={ D:=K1.D.take q.toNat,dm:=ms,X:=K1.X,am:=K1.am,N:=none }) Q _ _ _ (K1.D.take q.toNat) (by rw [m020];omega) jj j (K1.D.take q.toNat).length 0 s3 [] (by omega) e3.fr c3 z5 hjjn fun s4 c4 e4=>fin s4 c4 e4⟩
theorem c51 (fr:aI s) (h:cL s p K F) (hk:EY K) (n:Int):mO 51 [.ptr p 0,.int .i64 n] s p F (.int .i64 (sPop K n).1) (sPop K n).2:=by
 have lm:=hk.lm
 have r:=aUe (.ptr p 0) (.int .i64 n) s (Q:=fun r s'=>r=.int .i64 (sPop K n).1/\bR s p F (sPop K n).2 s') (by
  unfold f51;simp only [lA,XS,wx,wy,reduceAdd,reduceEqDiff,reduceCtorEq];have e20:∀ k,EF [] s (Ai.adv s k):=fun k=>(EF.refl [] fr).adv
  cases h1:decide (n < 0) with
  | true =>simp only [sPop,h1,cond_true,wx,wy,reduceAdd,reduceEqDiff,reduceCtorEq];exact bR.same h fr (e20 _)
  | false =>
   simp only [h1,wx,wy,reduceAdd,reduceEqDiff,reduceCtorEq];refine (c46 fr.adv h.adv).call MX fun s1 e1=>?_;have e2:=(e20 _).nil_trans e1;simp only [wx,wy,reduceAdd,reduceEqDiff,reduceCtorEq]
   cases h2:decide (n > (K.dm.length:Int)) with
   | true =>simp only [sPop,h1,h2,cond_true,cond_false,wx,wy,reduceAdd,reduceEqDiff,reduceCtorEq];exact bR.same h fr e2.adv
   | false =>
    simp only [sPop,h1,h2,cond_false,MW,wx,wy,reduceAdd,reduceEqDiff,reduceCtorEq]
    have hn:((n.toNat:Nat):Int)=n:=by
     have:¬ (n < 0):=by simpa using h1
     omega
    have hn2:n.toNat<=K.dm.length:=by
     have:¬ (n > (K.dm.length:Int)):=by simpa using h2
     omega
    refine ⟨n.toNat+1,?_⟩;have:=l51 (p:=p) (fun r s'=>r=.int .i64 0/\bR s p F (wM n.toNat K) s') n.toNat (by omega) n.toNat 0 (Ai.adv s1 2) F K (by omega) e2.fr.adv (h.ext fr e2).adv hk hn2 (fun s4 q4=>⟨rfl,q4.from e2.adv⟩);rw [hn] at this
    exact this)
 obtain ⟨r,s',h1,rfl,h2⟩:=r;exact ⟨_,s',h1,rfl,h2⟩
theorem OP {ms:List Int} {n k:Nat} (h:MOk ms n) (hk:n<=k):MOk ms k:=⟨fun x hx=>⟨(h.le x hx).1,by have:=(h.le x hx).2;omega⟩,h.up⟩
theorem NM {ms:List Int} {n:Nat} (h:MOk ms n):MOk (ms++[(n:Int)]) n:=by
 refine ⟨fun x hx=>?_,List.pairwise_append.2 ⟨h.up,by simp,fun x hx y hy=>?_⟩⟩
 ·rcases m003.1 hx with hx | hx
  ·exact h.le x hx
  ·simp only [m008] at hx;subst hx;omega
 ·simp only [m008] at hy;subst hy;exact (h.le x hx).2
theorem aOh (h:EY K) (hl:K.dm.length+1<=100):EY (lN K) :=
 ⟨NM h.d,NM h.x,by simp [lN,h.l],h.ld,h.lx,by simp [lN];omega⟩
theorem aDl:∀ (n:Nat) (K:Sk),EY K->K.dm.length+n<=100->EY (pushN n K):=by
 intro n
 induction n with
 | zero=>intro K h _;exact h
 | succ n ih=>intro K h hl;exact ih _ (aOh h (by omega)) (by simp [lN];omega)
theorem YK (h:EY K) (n:Int):EY (sPush K n).2:=by
 unfold sPush;cases h1:decide (n < 0)
 ·cases h2:decide (n > 100 - (K.dm.length:Int))
  ·simp only [cond_false];have:¬ (n < 0):=by simpa using h1
   have:¬ (n > 100 - (K.dm.length:Int)):=by simpa using h2
   have:=h.lm;exact aDl _ _ h (by omega)
  ·exact h
 ·exact h
theorem aEo:∀ (n:Nat) (K:Sk),EY K->n<=K.dm.length->EY (wM n K):=by
 intro n
 induction n with
 | zero=>intro K h _;exact h
 | succ n ih =>intro K h hl;obtain ⟨ms,q,ns,r,h1,h2,q1,q2,r1,r2,hk2,hpop⟩:=KU h (fun e=>by rw [e] at hl;simp at hl);exact ih _ hk2 (by rw [hpop];show n<=ms.length;rw [h1] at hl;simp at hl;omega)
theorem aGf (h:EY K) (n:Int):EY (sPop K n).2:=by
 unfold sPop;cases h1:decide (n < 0)
 ·cases h2:decide (n > (K.dm.length:Int))
  ·simp only [cond_false];have:¬ (n < 0):=by simpa using h1
   have:¬ (n > (K.dm.length:Int)):=by simpa using h2
   exact aEo _ _ h (by omega)
  ·exact h
 ·exact h
theorem aGn (h:EY K) (d:Dc):EY (pG K d).2:=by
 unfold pG;cases h1:((K.D.length:Int)==500)
 ·have:(K.D.length:Int)≠500:=by simpa using h1
  have:=h.ld;exact ⟨OP h.d (by simp),h.x,h.l,by simp;omega,h.lx,h.lm⟩
 ·exact h
theorem aRn (h:EY K) (hl:K.X.length < 500) (y:Sx):EY { K with X:=K.X++[y] }:=⟨h.d,OP h.x (by simp),h.l,h.ld,by simp;omega,h.lm⟩
end
end
noncomputable section
def mK (v:Nat):List Nat:=if h:v=0 then [] else v % 4294967296::mK (v / 4294967296)
termination_by v
decreasing_by omega
theorem iU:mK 0=[]:=by unfold mK;rfl
theorem vO {v:Nat} (h:v≠0):mK v=v % 4294967296::mK (v / 4294967296):=by rw [mK];simp [h]
theorem CN:∀ v,val (mK v)=v:=by
 intro v
 induction v using Nat.strongRecOn with
 | ind v ih =>
  by_cases h:v=0
  ·subst h;rw [iU];rfl
  ·rw [vO h];simp only [val,ih _ (show v / 4294967296 < v by omega)];omega
theorem oS:∀ v,cG (mK v):=by
 intro v
 induction v using Nat.strongRecOn with
 | ind v ih =>
  by_cases h:v=0
  ·subst h;rw [iU];intro x hx;cases hx
  ·rw [vO h];intro x hx;rcases m013.1 hx with rfl | hx
   ·rw [BN];omega
   ·exact ih _ (show v / 4294967296 < v by omega) x hx
theorem vH:∀ (k v:Nat),v < pw k->(mK v).length<=k:=by
 intro k
 induction k with
 | zero =>
  intro v h;rw [AN] at h;have:v=0:=by omega
  subst this;rw [iU];simp
 | succ k ih =>
  intro v h;by_cases h0:v=0
  ·subst h0;rw [iU];simp
  ·rw [vO h0];rw [kJ] at h;have:=ih (v / 4294967296) (by omega);simp only [List.length_cons];omega
def noT (l:List Nat):Prop:=l=[]\/∃ x,l[l.length - 1]?=some x/\x≠0
theorem bHs:∀ (l:List Nat),cG l->noT l->l=mK (val l):=by
 intro l
 induction l with
 | nil=>intro _ _;simp only [val];rw [iU]
 | cons x l ih =>
  intro hl hn;have hx:=hl x (m007 ..);rw [BN] at hx;have hl':cG l:=fun y hy=>hl y (m005 _ hy);rcases hn with hn | ⟨y,hy,hy0⟩
  ·cases hn
  ·have hv:val (x::l)≠0:=by
    simp only [val]
    cases l with
    | nil=>simp at hy;omega
    | cons z l =>
     have hn2:noT (z::l):=.inr ⟨y,by simpa using hy,hy0⟩;have:=ih hl' hn2;intro h;have h0:val (z::l)=0:=by omega
     rw [h0,iU] at this;cases this
   rw [vO hv];simp only [val];have h1:(x+4294967296 * val l) % 4294967296=x:=by omega
   have h2:(x+4294967296 * val l) / 4294967296=val l:=by omega
   rw [h1,h2];congr 1;refine ih hl' ?_
   cases l with
   | nil=>exact .inl rfl
   | cons z l=>exact .inr ⟨y,by simpa using hy,hy0⟩
theorem DV {l:List Nat} (h:cG l):bP l=mK (val l):=by
 have h1:=bHs (bP l) (fE h) (by
  obtain ⟨_,h2⟩:=rV l l.length (bJ _);have hle:=DH l l.length;unfold bP;rcases h2 with h2 | ⟨x,h2,h3⟩
  ·rw [h2];exact .inl rfl
  ·by_cases h0:iI l l.length=0
   ·rw [h0];exact .inl rfl
   ·right;refine ⟨x,?_,h3⟩;rw [m020,qJ hle,List.getElem?_take_of_lt (by omega)]
    exact h2)
 rw [pX] at h1;exact h1
theorem WP {l:List Nat} {k u:Nat} (v:Nat) (h:l[k]?=some u):val (l.set k v)+pw k * u=val l+pw k * v:=by
 induction l generalizing k with
 | nil=>simp at h
 | cons x l ih =>
  cases k with
  | zero=>simp at h;subst h;simp only [List.set_cons_zero,val,AN];omega
  | succ k =>simp only [List.getElem?_cons_succ] at h;have:=ih h;simp only [List.set_cons_succ,val,kJ];have e1:4294967296 * pw k * u=4294967296 * (pw k * u):=PJ ..;have e2:4294967296 * pw k * v=4294967296 * (pw k * v):=PJ ..;omega
theorem aTu (n:Nat):val (List.replicate n 0)=0:=by
 induction n with
 | zero=>rfl
 | succ n ih=>simp only [List.replicate_succ,val,ih]
def lb (a:List Nat) (i:Nat):Nat:=(a[i]?).getD 0
theorem aYo {a:List Nat} (h:cG a) (i:Nat):lb a i < 2 ^ 32:=by
 unfold lb
 cases he:a[i]? with
 | none=>decide
 | some x=>exact h x (m017 he)
theorem vB (a:List Nat) (i:Nat):val (a.take (i+1))=val (a.take i)+pw i * lb a i:=by
 unfold lb
 cases he:a[i]? with
 | none =>have:=List.getElem?_eq_none_iff.1 he;rw [m014 (by omega),m014 this];simp
 | some x =>have hlt:=(m012.1 he).1;rw [m062,he,oK];simp only [m020,qJ (Nat.le_of_lt hlt),Option.toList,val,Option.getD_some,Nat.mul_zero,Nat.add_zero]
theorem XK {i j:Nat} (h:i<=j):pw i<=pw j:=Nat.pow_le_pow_right (by decide) h
theorem bMp (a:List Nat) (i:Nat) (h:cG a):bA mEv 214 [fX a,.int .i64 i] (.int .u64 (lb a i)):=by
 refine cR (aIv _ _ _ ?_);unfold f214;have hg:∀ u v:Int,bn .geq 3 (.int .i64 u) (.int .i64 v)=some (.bool (decide (u >= v))):=fun _ _=>bin_geq;simp only [fX,yV,m002,hg,wx,wy,reduceAdd,reduceEqDiff,reduceCtorEq]
 cases he:a[i]? with
 | none =>have:=List.getElem?_eq_none_iff.1 he;have hd:decide ((i:Int) >= (a.length:Int))=true:=decide_eq_true (by omega);simp only [hd,lb,he,Option.getD_none,wx,wy,reduceAdd,reduceEqDiff,reduceCtorEq];exact aT rfl
 | some x =>have hlt:=(m012.1 he).1;have hd:decide ((i:Int) >= (a.length:Int))=false:=decide_eq_false (by omega);have hx:=h x (m017 he);rw [BN] at hx;simp only [hd,cM QI false he,aMq,xK,lb,he,Option.getD_some,wx,wy,reduceAdd,reduceEqDiff,reduceCtorEq];rw [show IntKind.u64.wrap (x:Int)=(x:Int) from IntWalk.u64_in _ (by omega)];exact aT rfl
theorem LV (a:Nat):bn .shr 159 (.int .u64 (a:Int)) (.int .u64 32)=some (.int .u64 ((a / 4294967296:Nat):Int)):=by have h:bn .shr 159 (.int .u64 (a:Int)) (.int .u64 32)=some (.int .u64 ((a:Int).fdiv (2 ^ 32))):=aTj (n:=32) (by decide);rw [h];congr 2;rw [Int.fdiv_eq_ediv_of_nonneg _ (by decide)];rfl
theorem TK (a:Nat):IntKind.u32.wrap (a:Int)=((a % 4294967296:Nat):Int):=by
 simp [IntKind.wrap,IntKind.bits,IntKind.signed]
 try omega
theorem bRb (a b:List Nat) (ha:cG a) (hb:cG b) (n:Nat) (hn:n<=2 ^ 31) (hla:a.length < n) (hlb:b.length < n) (Q:aE) (N c:Nat) (e':TypeId)
  (hQ:∀ (out:List Nat) s,cG out->out.length=n->val out=val a+val b->s.h N=some (.cells (out.map kX) e' true true)->yH Q (.ref N 0 n (some c) 211) s) :
  ∀ (m i:Nat) (done:List Nat) (cy:Nat) (s:St),i+m=n->done.length=i->cG done->cy<=1->val done+pw i * cy=val (a.take i)+val (b.take i)->s.h N=some (.cells ((done++List.replicate m 0).map kX) e' true true) ->
   qE Q (m+1) (fX a) (fX b) (.ref N 0 n (some c) 211) (.int .u64 cy) (.int .i64 n) (.int .i64 i) s:=by
 intro m
 induction m with
 | zero =>
  intro i done cy s hi hd hld hcy hv hs;show uE Q (qE Q 0) _ _ _ _ _ _ s;have c1:decide ((i:Int) < (n:Int))=false:=by simp;omega
  rw [m014 (by omega),m014 (by omega)] at hv;simp only [List.replicate_zero,m011] at hs
  have hcy0:cy=0:=by
   have h1:=SB a ha;have h2:=SB b hb;have h3:pw a.length<=pw (n - 1):=XK (by omega);have h4:pw b.length<=pw (n - 1):=XK (by omega);have h5:pw n=4294967296 * pw (n - 1):=by rw [<- kJ];congr 1;omega
   have hin:i=n:=by omega
   subst hin;rcases OW cy with h | h
   ·exact h
   ·exfalso;have:cy=1:=by omega
    subst this;have:=aMl (i - 1);omega
  simp only [uE,c1,wx,wy,reduceAdd,reduceEqDiff,reduceCtorEq];refine hQ done _ hld (by omega) (by rw [<- hv,hcy0];simp) (by rw [adv_h];exact hs)
 | succ m ih =>
  intro i done cy s hi hd hld hcy hv hs;show uE Q (qE Q (m+1)) _ _ _ _ _ _ s;have c1:decide ((i:Int) < (n:Int))=true:=by simp;omega
  have w1:IntKind.i64.wrap ((i:Int)+1)=((i+1:Nat):Int):=iT (n:=n) (by omega) (by omega);have la:=aYo ha i;have lb':=aYo hb i;rw [BN] at la lb';have hadd:∀ x y:Nat,x+y < 2 ^ 64->bn .add 159 (.int .u64 (x:Int)) (.int .u64 (y:Int))=some (.int .u64 ((x+y:Nat):Int)):=fun x y h=>by have h1:bn .add 159 (.int .u64 (x:Int)) (.int .u64 (y:Int))=some (.int .u64 (IntKind.u64.wrap ((x:Int)+(y:Int)))):=bin_add;rw [h1,show IntKind.u64.wrap ((x:Int)+(y:Int))=((x+y:Nat):Int) by rw [IntWalk.u64_in _ (by omega)];rfl]
  have hix:cB 1 (.ref N 0 n (some c) 211) (.int .i64 (i:Int))=some (.ptr N i):=AB (by omega) .i64;simp only [uE,c1,wx,wy,reduceAdd,reduceEqDiff,reduceCtorEq];refine aP (bMp a i ha) (by simp [dB,AV.closed]) ?_;refine aP (bMp b i hb) (by simp [dB,AV.closed]) ?_;rw [hadd _ _ (by omega)];simp only [Bnd_some];rw [hadd _ _ (by omega)];simp only [rU,TK,hix,LV,wx,wy,reduceAdd,reduceEqDiff,reduceCtorEq];obtain ⟨t,ht⟩:∃ t,t=cy+(lb a i+lb b i):=⟨_,rfl⟩;rw [<- ht];rw [dW (v:=.int .u32 ((t % 4294967296:Nat):Int)) (c:=(done++List.replicate (m+1) 0).map kX) (by rw [adv_h];exact hs) (by simp;omega) rfl rfl];simp only [ST,w1,wx,wy,reduceAdd,reduceEqDiff,reduceCtorEq];have hset:((done++List.replicate (m+1) 0).map kX).set i (.int .u32 ((t % 4294967296:Nat):Int))=((done++[t % 4294967296])++List.replicate m 0).map kX:=by subst hd;simp [List.replicate_succ,kX]
  rw [hset];refine ih (i+1) (done++[t % 4294967296]) (t / 4294967296) _ (by omega) (by simp [hd]) (fun x hx=>?_) (by omega) ?_ (by rw [adv_h,aG])
  ·rcases m003.1 hx with hx | hx
   ·exact hld x hx
   ·rw [m008.1 hx,BN];omega
  ·rw [oK,vB,vB,hd,kJ];simp only [val,Nat.mul_zero,Nat.add_zero];have hm:t=4294967296 * (t / 4294967296)+t % 4294967296:=(Nat.div_add_mod t 4294967296).symm
   have e1:pw i * (t % 4294967296)+4294967296 * pw i * (t / 4294967296)=pw i * t:=by
    have e:pw i * t=pw i * (4294967296 * (t / 4294967296)+t % 4294967296):=by rw [<- hm]
    rw [e,FC,<- PJ,Nat.mul_comm (pw i) 4294967296];omega
   have e2:pw i * t=pw i * cy+(pw i * lb a i+pw i * lb b i):=by rw [ht,FC,FC]
   omega
theorem bDs (a b:Nat) (id:Nat) (s:St):bt .max #[3,3] [.int .i64 (a:Int),.int .i64 (b:Int)] id s=some (.int .i64 ((Nat.max a b:Nat):Int),s):=by
 have h:bt .max #[3,3] [.int .i64 (a:Int),.int .i64 (b:Int)] id s=(zK (fun y x=>decide (x < y)) [.int .i64 (a:Int),.int .i64 (b:Int)]).map (·,s):=by kernel_rfl
 rw [h];simp only [zK,if_true,Option.map_some,decide_eq_true_eq];congr 3;by_cases hc:(a:Int) < (b:Int)
 ·rw [if_pos hc];congr 1;exact (Nat.max_eq_right (by omega)).symm
 ·rw [if_neg hc];congr 1;exact (Nat.max_eq_left (by omega)).symm
theorem bPm (a b:List Nat) (ha:cG a) (hb:cG b) (hla:a.length<=2 ^ 29) (hlb:b.length<=2 ^ 29):bA mEv 179 [fX a,fX b] (fX (mK (val a+val b))):=by
 refine cR (aQs _ _ _ ?_);have hz:zero Tryz.ty 211=some (.int .u32 0):=UZ;have hc0:(AV.int .u32 0).cells=[.int .u32 0]:=rfl;have h1:a.length<=Nat.max a.length b.length:=Nat.le_max_left ..;have h2:b.length<=Nat.max a.length b.length:=Nat.le_max_right ..;have h3:Nat.max a.length b.length<=2 ^ 29:=Nat.max_le.2 ⟨hla,hlb⟩;have hw:IntKind.i64.wrap (((Nat.max a.length b.length:Nat):Int)+1)=((Nat.max a.length b.length+1:Nat):Int):=by rw [IntWalk.i64_in _ (by omega)];rfl
 unfold f179;simp only [wX,bDs,hw,JJ ET hz (Nat.max a.length b.length+1) (by omega) (by omega),hc0,uN,wx,wy,reduceAdd,reduceEqDiff,reduceCtorEq];refine ⟨_,bRb a b ha hb (Nat.max a.length b.length+1) (by omega) (by omega) (by omega) _ _ _ 211 (fun out s g1 g2 g3 g4=>?_) (Nat.max a.length b.length+1) 0 [] 0 _ (by omega) rfl (fun x hx=>by cases hx) (by omega) (by simp [val]) (by rw [adv_h,aG];simp [kX])⟩;unfold yH;have hp:=AK (s:=Ai.adv s 3) (c:=some (Nat.max a.length b.length+1)) (k:=11) (l:=out) (f:=kX) ET (by rw [adv_h];exact g4) (fun _ _=>rfl) (fun _ _=>rfl);rw [g2] at hp;refine rE (args2:=[fX out]) (ids:=[St.empty.nx+9]) (by simp only [dH,hp,fX,m011]) (aAd _ (by rw [g2];omega)) ?_;rw [DV g1,g3];exact aT (dB _)
theorem zA {l:List Nat} (h:cG l) {k v:Nat} (hv:v < 2 ^ 32):cG (l.set k v):=fun x hx=>by
 rcases List.mem_or_eq_of_mem_set hx with h1 | rfl
 ·exact h x h1
 ·exact hv
theorem aDp {x y u c:Nat} (hx:x < 4294967296) (hy:y < 4294967296) (hu:u < 4294967296) (hc:c < 4294967296):c+(x * y+u) < 18446744073709551616:=by have h1:x * y<=4294967295 * 4294967295:=Nat.mul_le_mul (by omega) (by omega);omega
theorem bDw {x:Nat} (h:x < 4294967296):IntKind.u64.wrap (x:Int)=(x:Int):=IntWalk.u64_in _ (by omega)
theorem bJd (a b:List Nat) (hb:cG b) (hla:a.length<=2 ^ 28) (hlb:b.length<=2 ^ 28) (Q:aE) (ih1:AV->AV->AV->AV->aE) (N c n:Nat) (e':TypeId) (i x:Nat) (hi:i < a.length) (hn:n=a.length+b.length) (hx:x < 2 ^ 32) (v0:Nat)
  (hQ:∀ (out:List Nat) s,cG out->out.length=n->val out=v0+pw i * (x * val b)->(∀ k,i+b.length < k->k < n->out[k]?=some 0)->s.h N=some (.cells (out.map kX) e' true true)->qR Q ih1 (.int .i64 i) (fX b) (.ref N 0 n (some c) 211) (fX a) (.int .i64 a.length) s) :
  ∀ (m j:Nat) (out:List Nat) (cy:Nat) (s:St),j+m=b.length->cG out->out.length=n->cy < 2 ^ 32->val out+pw (i+j) * cy=v0+pw i * (x * val (b.take j))->(∀ k,i+b.length<=k->k < n->out[k]?=some 0)->s.h N=some (.cells (out.map kX) e' true true) ->
   qC Q ih1 (m+1) (fX b) (.ref N 0 n (some c) 211) (.int .i64 i) (.int .u32 x) (.int .u64 cy) (fX a) (.int .i64 a.length) (.int .i64 i) (.int .i64 b.length) (.int .i64 j) s:=by
 rw [BN] at hx;intro m
 induction m with
 | zero =>
  intro j out cy s hj hlo hlen hcy hv hz hs;rw [BN] at hcy;show uP Q ih1 (qC Q ih1 0) _ _ _ _ _ _ _ _ _ _ s;have c1:decide ((j:Int) < (b.length:Int))=false:=by simp;omega
  rw [m014 (by omega)] at hv;have hjb:j=b.length:=by omega
  subst hjb;have hz0:=hz (i+b.length) (bJ _) (by omega);have hix:cB 1 (.ref N 0 n (some c) 211) (.int .i64 ((i+b.length:Nat):Int))=some (.ptr N (i+b.length)):=AB (by omega) .i64;have wij:IntKind.i64.wrap ((i:Int)+(b.length:Int))=((i+b.length:Nat):Int):=by rw [IntWalk.i64_in _ (by omega)];rfl
  simp only [uP,c1,ES,wX,wij,rU,TK,hix,wx,wy,reduceAdd,reduceEqDiff,reduceCtorEq];rw [dW (v:=.int .u32 ((cy % 4294967296:Nat):Int)) (c:=out.map kX) (by simp only [adv_h];exact hs) (by simp;omega) rfl rfl];simp only [Bnd_some];have hset:(out.map kX).set (i+b.length) (.int .u32 ((cy % 4294967296:Nat):Int))=(out.set (i+b.length) cy).map kX:=by rw [Nat.mod_eq_of_lt hcy,List.map_set];rfl
  rw [hset];have hvs:=WP cy hz0;refine hQ (out.set (i+b.length) cy) _ (zA hlo (by rw [BN];exact hcy)) (by rw [List.length_set];exact hlen) (by simp only [Nat.mul_zero,Nat.add_zero] at hvs;omega) (fun k hk hk2=>?_) (by rw [aG]);rw [List.getElem?_set_ne (by omega)];exact hz k (by omega) hk2
 | succ m ih =>
  intro j out cy s hj hlo hlen hcy hv hz hs;rw [BN] at hcy;show uP Q ih1 (qC Q ih1 (m+1)) _ _ _ _ _ _ _ _ _ _ s;have c1:decide ((j:Int) < (b.length:Int))=true:=by simp;omega
  have w1:IntKind.i64.wrap ((j:Int)+1)=((j+1:Nat):Int):=iT (n:=b.length) (by omega) (by omega);obtain ⟨y,hy⟩:∃ y,b[j]?=some y:=⟨_,m004 (by omega)⟩;have hyl:=hb y (m017 hy);rw [BN] at hyl;obtain ⟨u,hu⟩:∃ u,out[i+j]?=some u:=⟨_,m004 (by omega)⟩;have hul:=hlo u (m017 hu);rw [BN] at hul;have hix:cB 1 (.ref N 0 n (some c) 211) (.int .i64 ((i+j:Nat):Int))=some (.ptr N (i+j)):=AB (by omega) .i64;have hub:(out.map kX)[i+j]?=some (.int .u32 (u:Int)):=by rw [m047,hu];rfl
  have hsm:=aDp hx hyl hul hcy;have h1:x * y < 2 ^ 64:=by rw [p64];omega
  have hiy:cB 1 (fX b) (.int .i64 (j:Int))=some (.pel (kX y).cells 0):=cM QI false hy .i64;have c8:∀ (z:Nat) (s:St),z < 4294967296->cv 211 159 (.int .u32 (z:Int)) s=some (.int .u64 (z:Int)):=fun z s hz=>by rw [xK,bDw hz]
  have wij:IntKind.i64.wrap ((i:Int)+(j:Int))=((i+j:Nat):Int):=by rw [IntWalk.i64_in _ (by omega)];rfl
  have wxy:IntKind.u64.wrap ((x:Int) * (y:Int))=((x * y:Nat):Int):=by rw [IntWalk.u64_in _ (by rw [<- Int.natCast_mul];omega)];exact (Int.natCast_mul ..).symm
  have wu:IntKind.u64.wrap (((x * y:Nat):Int)+(u:Int))=((x * y+u:Nat):Int):=by rw [IntWalk.u64_in _ (by omega)];rfl
  have wc:IntKind.u64.wrap (((cy:Nat):Int)+((x * y+u:Nat):Int))=((cy+(x * y+u):Nat):Int):=by rw [IntWalk.u64_in _ (by omega)];rfl
  simp only [uP,c1,hiy,aMq,c8 x _ hx,c8 y _ hyl,wij,wxy,hix,ld_ptr,adv_h,hs,part_one,hub,c8 u _ hul,wu,wc,wx,wy,reduceAdd,reduceEqDiff,reduceCtorEq];obtain ⟨t,ht⟩:∃ t,t=cy+(x * y+u):=⟨_,rfl⟩;rw [<- ht];simp only [rU,TK,LV,Bnd_some,hix];rw [dW (v:=.int .u32 ((t % 4294967296:Nat):Int)) (c:=out.map kX) (by simp only [adv_h];exact hs) (by simp;omega) rfl rfl];simp only [QH,w1,wx,wy,reduceAdd,reduceEqDiff,reduceCtorEq];have hset:(out.map kX).set (i+j) (.int .u32 ((t % 4294967296:Nat):Int))=(out.set (i+j) (t % 4294967296)).map kX:=by rw [List.map_set];rfl
  rw [hset];have htl:t < 18446744073709551616:=by rw [ht];exact hsm
  refine ih (j+1) (out.set (i+j) (t % 4294967296)) (t / 4294967296) _ (by omega) (zA hlo (by rw [BN];omega)) (by rw [List.length_set];exact hlen) (by rw [BN];omega) ?_ (fun k hk hk2=>by rw [List.getElem?_set_ne (by omega)];exact hz k hk hk2) (by rw [adv_h,aG]);have hvs:=WP (t % 4294967296) hu;have hvt:=vB b j;have hlbj:lb b j=y:=by unfold lb;rw [hy];rfl
  rw [hlbj] at hvt;have hm:t=4294967296 * (t / 4294967296)+t % 4294967296:=(Nat.div_add_mod t 4294967296).symm;have hpij:pw (i+j)=pw i * pw j:=by unfold pw;rw [Nat.pow_add]
  rw [<- m066,kJ,hvt]
  have e1:pw (i+j) * (t % 4294967296)+4294967296 * pw (i+j) * (t / 4294967296)=pw (i+j) * t:=by
   have e:pw (i+j) * t=pw (i+j) * (4294967296 * (t / 4294967296)+t % 4294967296):=by rw [<- hm]
   rw [e,FC,<- PJ,Nat.mul_comm (pw (i+j)) 4294967296];omega
  have e2:pw (i+j) * t=pw (i+j) * cy+(pw (i+j) * (x * y)+pw (i+j) * u):=by rw [ht,FC,FC]
  have e3:pw i * (x * (val (b.take j)+pw j * y))=pw i * (x * val (b.take j))+pw (i+j) * (x * y):=by rw [hpij,FC,FC,Nat.mul_left_comm x (pw j) y,PJ]
  rw [e3];omega
theorem bMw (a b:List Nat) (ha:cG a) (hb:cG b) (hla:a.length<=2 ^ 28) (hlb:b.length<=2 ^ 28) (Q:aE) (N c n:Nat) (e':TypeId) (hn:n=a.length+b.length)
  (hQ:∀ (out:List Nat) s,cG out->out.length=n->val out=val a * val b->s.h N=some (.cells (out.map kX) e' true true)->oP Q (.ref N 0 n (some c) 211) s) :
  ∀ (m i:Nat) (out:List Nat) (s:St),i+m=a.length->cG out->out.length=n->val out=val (a.take i) * val b->(∀ k,i+b.length<=k->k < n->out[k]?=some 0)->s.h N=some (.cells (out.map kX) e' true true) ->
   eM Q (m+1) (fX b) (.ref N 0 n (some c) 211) (fX a) (.int .i64 a.length) (.int .i64 i) s:=by
 intro m
 induction m with
 | zero =>
  intro i out s hi hlo hlen hv hz hs;show vL Q (eM Q 0) _ _ _ _ _ s;have c1:decide ((i:Int) < (a.length:Int))=false:=by simp;omega
  rw [m014 (by omega)] at hv;simp only [vL,c1,wx,wy,reduceAdd,reduceEqDiff,reduceCtorEq];exact hQ out _ hlo hlen hv hs
 | succ m ih =>
  intro i out s hi hlo hlen hv hz hs;show vL Q (eM Q (m+1)) _ _ _ _ _ s;have c1:decide ((i:Int) < (a.length:Int))=true:=by simp;omega
  have w1:IntKind.i64.wrap ((i:Int)+1)=((i+1:Nat):Int):=iT (n:=a.length) (by omega) (by omega);obtain ⟨x,hx⟩:∃ x,a[i]?=some x:=⟨_,m004 (by omega)⟩;have hxl:=ha x (m017 hx);have hix:cB 1 (fX a) (.int .i64 (i:Int))=some (.pel (kX x).cells 0):=cM QI false hx .i64;simp only [vL,c1,hix,aMq,wX,wx,wy,reduceAdd,reduceEqDiff,reduceCtorEq];refine ⟨_,bJd a b hb hla hlb Q (eM Q (m+1)) N c n e' i x (by omega) hn hxl (val out) (fun out2 s2 g1 g2 g3 g4 g5=>?_) b.length 0 out 0 _ (by omega) hlo hlen (by decide) (by simp [val]) (fun k hk hk2=>hz k hk hk2) (by rw [adv_h];exact hs)⟩;simp only [qR,w1,wx,wy,reduceAdd,reduceEqDiff,reduceCtorEq];refine ih (i+1) out2 _ (by omega) g1 g2 ?_ (fun k hk hk2=>g4 k (by omega) hk2) (by rw [adv_h];exact g5);have hvt:=vB a i;have:lb a i=x:=by unfold lb;rw [hx];rfl
  rw [this] at hvt;rw [g3,hv,hvt,oN,PJ]
theorem bPf (a b:List Nat) (ha:cG a) (hb:cG b) (hla:a.length<=2 ^ 28) (hlb:b.length<=2 ^ 28):bA mEv 180 [fX a,fX b] (fX (mK (val a * val b))):=by
 refine cR (aIz _ _ _ ?_);have hz:zero Tryz.ty 211=some (.int .u32 0):=UZ;have hc0:(AV.int .u32 0).cells=[.int .u32 0]:=rfl;unfold f180;simp only [wX,wx,wy,reduceAdd,reduceEqDiff,reduceCtorEq];have hw:IntKind.i64.wrap ((a.length:Int)+(b.length:Int))=((a.length+b.length:Nat):Int):=by rw [IntWalk.i64_in _ (by omega)];rfl
 simp only [hw,JJ ET hz (a.length+b.length) (by omega) (by omega),hc0,uN,wX,wx,wy,reduceAdd,reduceEqDiff,reduceCtorEq];refine ⟨_,bMw a b ha hb hla hlb _ _ _ (a.length+b.length) 211 rfl (fun out s g1 g2 g3 g4=>?_) a.length 0 (List.replicate (a.length+b.length) 0) _ (by omega) (fun x hx=>by rw [List.eq_of_mem_replicate hx];decide) (by simp) (by rw [aTu];simp [val]) (fun k _ hk=>by simp [hk]) (by rw [adv_h,aG];simp [kX])⟩;unfold oP;have hp:=AK (s:=Ai.adv s 3) (c:=some (a.length+b.length)) (k:=11) (l:=out) (f:=kX) ET (by rw [adv_h];exact g4) (fun _ _=>rfl) (fun _ _=>rfl);rw [g2] at hp;refine rE (args2:=[fX out]) (ids:=[St.empty.nx+6]) (by simp only [dH,hp,fX,m011]) (aAd _ (by rw [g2];omega)) ?_;rw [DV g1,g3];exact aT (dB _)
end
noncomputable section
def HE (x:List UInt8):List Nat×Int:=cond (x==[]||(decide (x.length > 2000)||(x.head?==some 48&&x != [48]))) ([],8) (cond (x.all fG) (mK (oT x),0) ([],8))
theorem HB (l:List UInt8) (c:UInt8):oT (l++[c])=10 * oT l+(c.toNat - 48):=by unfold oT;rw [List.foldl_append];rfl
theorem aOw:∀ (n:Nat) (l:List UInt8),l.length=n->(∀ c∈l,fG c=true)->oT l < pw n:=by
 intro n
 induction n with
 | zero=>intro l hl _;cases l with
  | nil=>decide
  | cons c l=>cases hl
 | succ n ih =>
  intro l hl h;rcases m061 l with rfl | ⟨l',c,rfl⟩
  ·cases hl
  simp only [List.concat_eq_append] at hl h ⊢;have h1:=ih l' (by simp at hl;exact hl) fun d hd=>h d (m041 _ hd);have h2:=h c (m049 _ (m008.2 rfl));simp only [fG,cQ,decide_eq_true_eq] at h2;rw [HB,kJ];omega
theorem KO (l:List UInt8) (h:∀ c∈l,fG c=true):oT l < pw l.length:=aOw _ l rfl h
theorem bRx (x:List UInt8) (hx:x.length<=2000) (Q:aE)
  (hbad:x.all fG=false->∀ s,Q (.tup [.nils,.int .i64 8]) s)
  (hgood:x.all fG=true->∀ s,Q (.tup [fX (mK (oT x)),.int .i64 0]) s) :
  ∀ (m i:Nat) (a:AV) (s:St),i+m=x.length->(∀ c∈x.take i,fG c=true)->(∀ s:St,pur mEv.P s 12 a=some (fX (mK (oT (x.take i))),[])) ->
   oU Q (m+1) a (.sl false (x.map EZ)) (.int .i64 x.length) (.int .i64 i) s:=by
 intro m
 induction m with
 | zero =>
  intro i a s hi hd ha;show oH Q (oU Q 0) _ _ _ _ s;have c1:decide ((i:Int) < (x.length:Int))=false:=by simp;omega
  rw [m014 (by omega)] at hd ha;simp only [oH,c1,CY,wx,wy,reduceAdd,reduceEqDiff,reduceCtorEq];have hall:x.all fG=true:=m032.2 hd;have hlt:=KO x hd;refine rE (args2:=[fX (mK (oT x))]) (ids:=[]) (by simp only [dH,ha,m011]) (aAd _ (FM (vH _ _ hlt) (by omega))) ?_;rw [DV (oS _),CN];exact hgood hall _
 | succ m ih =>
  intro i a s hi hd ha;show oH Q (oU Q (m+1)) _ _ _ _ s;have c1:decide ((i:Int) < (x.length:Int))=true:=by simp;omega
  have w1:IntKind.i64.wrap ((i:Int)+1)=((i+1:Nat):Int):=iT (n:=x.length) (by omega) (by omega);obtain ⟨c,hc⟩:∃ c,x[i]?=some c:=⟨_,m004 (by omega)⟩;have hix:cB 1 (.sl false (x.map EZ)) (.int .i64 (i:Int))=some (.pel (EZ c).cells 0):=cM bNm false hc .i64;have hb0:(EZ c).cells[0]?=some (.int .u8 c.toNat):=rfl;have hmem:c∈x:=m017 hc
  have hno:fG c=false->x.all fG=false:=fun h=>by
   cases h2:x.all fG with
   | false=>rfl
   | true=>rw [m032.1 h2 c hmem] at h;cases h
  by_cases h48:c.toNat < 48
  ·have k1:decide ((c.toNat:Int) < 48)=true:=by simp;omega
   simp only [oH,c1,hix,hb0,k1,wx,wy,reduceAdd,reduceEqDiff,reduceCtorEq];exact hbad (hno (by simp [fG];omega)) _
  by_cases h57:57 < c.toNat
  ·have k1:decide ((c.toNat:Int) < 48)=false:=by simp;omega
   have k2:decide ((c.toNat:Int) > 57)=true:=by simp;omega
   simp only [oH,c1,hix,hb0,k1,k2,wx,wy,reduceAdd,reduceEqDiff,reduceCtorEq];exact hbad (hno (by simp [fG];omega)) _
  have k1:decide ((c.toNat:Int) < 48)=false:=by simp;omega
  have k2:decide ((c.toNat:Int) > 57)=false:=by simp;omega
  have hdc:fG c=true:=by simp [fG];omega
  have w2:IntKind.u8.wrap ((c.toNat:Int) - 48)=((c.toNat - 48:Nat):Int):=by rw [IntWalk.u8_in _ (by omega)];omega
  have w3:IntKind.u32.wrap ((c.toNat - 48:Nat):Int)=((c.toNat - 48:Nat):Int):=by rw [IntWalk.u32_in _ (by omega)]
  have b1:∀ n:Nat,lE 22 1 [(0,.int .u32 (n:Int))]=some (.sl true [kX n]):=fun n=>eB ET (by decide) rfl rfl;have hp10:∀ (n:Nat) (s:St),pur mEv.P s 12 (.sl true [kX n])=some (fX [n],[]):=fun n s=>rfl;have e10:lE 22 1 [(0,.int .u32 10)]=some (.sl true [kX 10]):=b1 10;have hlt:=KO _ hd;have hle:(x.take i).length=i:=by rw [m020];omega
  rw [hle] at hlt;have hlen:=vH _ _ hlt;have htk:x.take (i+1)=x.take i++[c]:=by rw [m062,hc];rfl
  have hl1:cG [10]:=by intro y hy;rw [m008.1 hy,BN];decide
  have hl2:cG [c.toNat - 48]:=by intro y hy;rw [m008.1 hy,BN];omega
  simp only [oH,c1,hix,hb0,k1,k2,w2,aUg,w3,b1,e10,wx,wy,reduceAdd,reduceEqDiff,reduceCtorEq];refine rE (args2:=[fX (mK (oT (x.take i))),fX [10]]) (ids:=[]) (by simp only [dH,ha,hp10,m011]) (bPf _ _ (oS _) hl1 (by omega) (by simp)) ?_;rw [CN];have hv10:val [10]=10:=rfl;have hvc:val [c.toNat - 48]=c.toNat - 48:=by simp [val]
  rw [hv10];have hdd:oT (x.take i) * 10 < pw (i+1):=by rw [kJ];omega
  have hlen2:=vH _ _ hdd;refine rE (args2:=[fX (mK (oT (x.take i) * 10)),fX [c.toNat - 48]]) (ids:=[]) (by simp only [dH,dU 12 (dB _),hp10,m011]) (bPm _ _ (oS _) hl2 (by omega) (by simp)) ?_;rw [CN,hvc];have hfin:oT (x.take i) * 10+(c.toNat - 48)=oT (x.take (i+1)):=by rw [htk,HB,Nat.mul_comm]
  rw [hfin];simp only [RW,w1,wx,wy,reduceAdd,reduceEqDiff,reduceCtorEq]
  exact ih (i+1) _ _ (by omega) (fun d hd'=>by
   rw [htk] at hd';rcases m003.1 hd' with h | h
   ·exact hd d h
   ·rw [m008.1 h];exact hdc) (fun s=>dU 12 (dB _))
theorem bPb (x:List UInt8) (hxl:x.length<=2 ^ 30):bA mEv 127 [.str x] (.tup [fX (HE x).1,.int .i64 (HE x).2]):=by
 have hbad:∀ s:St,oX (.tup [fX [],.int .i64 8]) (.tup [.nils,.int .i64 8]) s:=fun s=>⟨[],rfl⟩;by_cases h0:x=[]
 ·subst h0;refine cR (LB _ _ ?_);unfold f127;simp only [wx,wy,reduceAdd,reduceEqDiff,reduceCtorEq];exact hbad _
 have h0':(x==[])=false:=by cases x with
  | nil=>exact absurd rfl h0
  | cons=>rfl
 refine cR (LB _ _ ?_);unfold f127;by_cases h2:2000 < x.length
 ·have k1:decide ((x.length:Int) > 2000)=true:=by simp;omega
  have k2:decide (x.length > 2000)=true:=by simp;omega
  simp only [h0',AQ,sC,k1,wx,wy,reduceAdd,reduceEqDiff,reduceCtorEq];have hp:HE x=([],8):=by unfold HE;rw [k2,m033,m078];rfl
  rw [hp];exact hbad _
 have k1:decide ((x.length:Int) > 2000)=false:=by simp;omega
 have k2:decide (x.length > 2000)=false:=by simp;omega
 have hcv:(x.map fun c=>AV.int .u8 c.toNat)=x.map EZ:=rfl
 have hrest:(x.head?==some 48&&x != [48])=false->∀ (s:St),∃ n,oU (oX (AV.tup [fX (HE x).fst,AV.int IntKind.i64 (HE x).snd])) n AV.nils (.sl false (x.map EZ)) (.int .i64 x.length) (.int .i64 0) s:=fun hh s=>by
  have hp:HE x=cond (x.all fG) (mK (oT x),0) ([],8):=by unfold HE;rw [h0',k2,hh];rfl
  rw [hp];refine ⟨_,bRx x (by omega) _ (fun hd s=>by rw [hd];exact hbad s) (fun hd s=>by rw [hd];exact aT (by simp [AV.closed,dB,aX])) x.length 0 .nils s (by omega) (fun c hc=>by simp at hc) (fun s=>?_)⟩;show _=some (fX (mK 0),[]);rw [iU];rfl
 obtain ⟨c,l,rfl⟩:∃ c l,x=c::l:=by cases x with
  | nil=>exact absurd rfl h0
  | cons c l=>exact ⟨c,l,rfl⟩
 have hix:OJ 9 (.str (c::l)) (.int .i64 0)=some (.int .u8 c.toNat):=rJ (x:=c::l) (i:=0) .i64 rfl;by_cases h48:c=48
 ·have k3:(((c.toNat:Nat):Int)==48)=true:=by rw [h48];rfl
  by_cases hone:c::l=[48]
  ·have k4:(c::l==[48])=true:=by rw [hone];rfl
   have k5:(c::l != [48])=false:=by rw [hone];rfl
   simp only [h0',AQ,sC,k1,hix,k3,k4,hcv,aGi,m002,wx,wy,reduceAdd,reduceEqDiff,reduceCtorEq];exact hrest (by rw [k5,m071]) _
  ·have k4:(c::l==[48])=false:=by rw [beq_eq_false_iff_ne];exact hone
   have k5:(c::l != [48])=true:=by rw [bne_iff_ne];exact hone
   simp only [h0',AQ,sC,k1,hix,k3,k4,wx,wy,reduceAdd,reduceEqDiff,reduceCtorEq];have hp:HE (c::l)=([],8):=by unfold HE;rw [k5,h48];simp
   rw [hp];exact hbad _
 ·have k3:(((c.toNat:Nat):Int)==48)=false:=by
   rw [beq_eq_false_iff_ne];intro h;exact h48 (UInt8.toNat_inj.1 (by rw [show (48:UInt8).toNat=48 from rfl];omega))
  simp only [h0',AQ,sC,k1,hix,k3,hcv,aGi,m002,wx,wy,reduceAdd,reduceEqDiff,reduceCtorEq];exact hrest (by simp [h48]) _
theorem LF:JZ HE:=by
 intro x hx;refine ⟨bPb x hx,?_,?_⟩
 ·unfold HE
  cases (x==[]||(decide (x.length > 2000)||(x.head?==some 48&&x != [48]))) with
  | true=>intro y hy;cases hy
  | false =>
   cases x.all fG with
   | true=>exact oS _
   | false=>intro y hy;cases hy
 ·unfold HE;by_cases h2:2000 < x.length
  ·have k:decide (x.length > 2000)=true:=by simp;omega
   rw [k,m033,m078];exact mM _
  cases (x==[]||(decide (x.length > 2000)||(x.head?==some 48&&x != [48]))) with
  | true=>exact mM _
  | false =>
   cases hd:x.all fG with
   | true=>exact FM (vH _ _ (KO x (m032.1 hd))) (by omega)
   | false=>exact mM _
end
noncomputable section
structure CkR (s:St) (b t6 t3:Nat) (d:Dc) (B:Bk) (F:List Nat) (ns:List (List UInt8)) (ids:List Int) (x y:AV):Prop where
 bank:kK s b B F
 box:s.h t3=some (.cells d.av.cells 67 true true)
 sc:s.h t6=some (.cells [x,y] 254 true true)
 gx:Gw 9 1 0 s x (ns.map lS)
 gy:Gw 3 1 0 s y (ids.map dT)
 n3:t3 ∉ F
 n6:t6 ∉ F
 n36:t3≠t6
 xn:∀ j∈aF x,j≠t3/\j≠t6/\j ∉ F/\j ∉ aF y
 yn:∀ j∈aF y,j≠t3/\j≠t6/\j ∉ F
section
variable {s s':St} {b t6 t3:Nat} {d:Dc} {B:Bk} {F:List Nat} {ns:List (List UInt8)} {ids:List Int} {x y:AV} {L:List Dc}
theorem CkR.keep (c:CkR s b t6 t3 d B F ns ids x y) (hk:∀ j,j∈F\/j=t3\/j=t6\/j∈aF x\/j∈aF y->s'.h j=s.h j):CkR s' b t6 t3 d B F ns ids x y :=
 ⟨c.bank.keep fun j hj=>hk j (.inl hj),by rw [hk t3 (by simp)];exact c.box,by rw [hk t6 (by simp)];exact c.sc,c.gx.keep fun j hj=>hk j (by simp [hj]),c.gy.keep fun j hj=>hk j (by simp [hj]),c.n3,c.n6,c.n36,c.xn,c.yn⟩
theorem CkR.lt (c:CkR s b t6 t3 d B F ns ids x y) (fr:aI s):∀ j,j∈F\/j=t3\/j=t6\/j∈aF x\/j∈aF y->j < s.nx:=fun j hj=>by
 rcases hj with hj | rfl | rfl | hj | hj
 ·exact c.bank.lt fr j hj
 ·exact fr.lt c.box
 ·exact fr.lt c.sc
 ·exact fr.lt (c.gx.has j hj)
 ·exact fr.lt (c.gy.has j hj)
theorem CkR.ext (c:CkR s b t6 t3 d B F ns ids x y) (fr:aI s) (e:EF [] s s'):CkR s' b t6 t3 d B F ns ids x y:=c.keep fun j hj=>e.h j (c.lt fr j hj) (by simp)
theorem ck3 (hL:rB L) (hbf:d.body.fit) (hbw:d.body.wt<=2 ^ 20) (fr:aI s) (c:CkR s b t6 t3 d B F ns ids x y) (hw:Wf B) (hid:∀ i∈ids,hY B i) (hl:ns.length=ids.length) (hln:ns.length<=2 ^ 20) {Q:aE} (hQ:∀ (e:Int) s',Q (.int .i64 e) s'):xZ Q (.ptr b 0) (.sl false (L.map Dc.av)) (.ptr t6 0) (.ptr t3 0) s:=by
 have hlt:=c.lt fr;have lb:=hlt b (.inl c.bank.mem);have l3:=hlt t3 (.inr (.inl rfl));have l6:=hlt t6 (.inr (.inr (.inl rfl)));have p2:Ai.part 2 true 0 [x,y]=some (nH (x,y)):=rfl;have hone:(nH (x,y)).cells.all AV.one=true:=by show ([x,y]:List AV).all AV.one=true;simp only [List.all_cons,c.gx.one.2,c.gy.one.2,List.all_nil,iR]
 have hb122:lE 122 1 [(0,nH (x,y))]=some (.sl true [nH (x,y)]):=eB PC (by decide) rfl hone;have hb124:∀ k,lV 124 [(0,.ptr b 0),(1,.sl false (L.map Dc.av)),(2,.sl true [nH (x,y)]),(3,.map k)]=some (.agg [.ptr b 0,.sl false (L.map Dc.av),.sl true [nH (x,y)],.map k]):=fun k=>by rw [aXq];rfl
 have hcl:∀ k,(AV.agg [.ptr b 0,.sl false (L.map Dc.av),.sl true [nH (x,y)],.map k]).cells=[.ptr b 0,.sl false (L.map Dc.av),.sl true [nH (x,y)],.map k]:=fun k=>rfl;have q3:¬ (t3=s.nx+4):=by omega
 have q4:¬ (t3=s.nx+6):=by omega
 unfold xZ;simp only [c.sc,p2,hb122,hb124,hcl,wx,wy,reduceAdd,reduceEqDiff,reduceCtorEq];refine ⟨rfl,?_⟩;simp only [q3,q4,if_false,c.box,iY,wx,wy,reduceAdd,reduceEqDiff,reduceCtorEq];obtain ⟨S,hS⟩:∃ S,S=Ai.adv ((s.set (s.nx+4) (some (.map []))).set (s.nx+6) (some (.cells [.ptr b 0,.sl false (L.map Dc.av),.sl true [nH (x,y)],.map (s.nx+4)] 124 true true))) 17:=⟨_,rfl⟩;rw [<- hS];have nS:S.nx=s.nx+17:=by rw [hS];rfl
 have kS:∀ j,j < s.nx->S.h j=s.h j:=fun j hj=>by rw [hS,adv_h,aB (by omega),aB (by omega)]
 have fS:aI S:=fun j hj=>by rw [hS,adv_h,aB (by omega),aB (by omega)];exact fr j (by omega)
 have cS:=c.keep (s':=S) fun j hj=>kS j (hlt j hj);have z1:(List.zip ns ids).map (·.1)=ns:=List.map_fst_zip (by omega);have z2:(List.zip ns ids).map (·.2)=ids:=List.map_snd_zip (by omega);have hsc:ScR S (x,y) (List.zip ns ids):=⟨by rw [z1];exact cS.gx,.inr (by rw [z2];exact cS.gy),by simp only [List.length_zip];omega⟩
 have hmk:pB S (s.nx+6) b (L.take L.length) [List.zip ns ids] (B,[]) ((s.nx+6)::(s.nx+4)::(F++bF (.sl true [nH (x,y)]) [(x,y)])):=by
  refine ⟨_,[(x,y)],s.nx+4,F,⟨by rw [m045,hS,adv_h,aG];rfl,cS.bank,by rw [hS,adv_h,aB (by omega),aG];rfl,.inr (.inl rfl),⟨hsc,trivial⟩,by omega,fun h=>by have:=hlt _ (.inl h);omega,fun h=>by have:=hlt _ (.inl h);omega,fun a ha=>?_⟩,rfl⟩;simp only [bF,jG,List.nil_append,m024,m042,m011,m003] at ha;rcases ha with ha | ha
  ·have:=hlt a (.inr (.inr (.inr (.inl ha))));exact ⟨by omega,by omega,(c.xn a ha).2.2.1⟩
  ·have:=hlt a (.inr (.inr (.inr (.inr ha))));exact ⟨by omega,by omega,(c.yn a ha).2.2⟩
 have hok:rA HE L ([List.zip ns ids]:List Ev).flatten (B,[]):=⟨hw,by
  simp only [List.flatten_cons,List.flatten_nil,m011]
  exact mU _ ids hid,DB HE L B⟩
 obtain ⟨n,⟨r,B',M'⟩,hT⟩:=bAu HE true L ([List.zip ns ids]:List Ev).flatten d.body (B,[]);obtain ⟨v,s1,t1,rfl,F1,t2⟩:=XF LF n S (s.nx+6) b L L.length [List.zip ns ids] (B,[]) _ d.body r (B',M') fS hmk hok hL hbf (by simp only [List.length_singleton];omega) (by rw [m045];exact hT);refine bO bCz ⟨_,s1,t1,?_⟩;simp only [AP,AD,wx,wy,reduceAdd,reduceEqDiff,reduceCtorEq];obtain ⟨rv,re⟩:=r;by_cases he:re=0
 case neg =>
  have k0:(re != 0)=true:=by simpa using he
  simp only [k0,wx,wy,reduceAdd,reduceEqDiff,reduceCtorEq];exact hQ _ _
 case pos =>
 subst he;have k0:((0:Int) != 0)=false:=rfl;simp only [k0,wx,wy,reduceAdd,reduceEqDiff,reduceCtorEq];obtain ⟨i1,i2,i3,i4⟩:=aHx (j:=L.length) (by have:=hL.len;omega) hok (by rw [m045];exact hT);have hin:hY B' rv:=i3 rfl;obtain ⟨nd,hnd⟩:∃ nd,qV B' rv=some nd:=wV hin;obtain ⟨⟨xin,vs,jm,FB,cc,hF1⟩,e1,m1,_⟩:=t2
 have h3:s1.h t3=some (.cells d.av.cells 67 true true):=by
  rw [e1.h t3 (by omega) (fun hm=>?_),kS t3 l3,c.box];simp only [m013,bF,jG,List.nil_append,m024,m042,m011,m003] at hm;rcases hm with h | h | h | h | h
  ·omega
  ·omega
  ·exact c.n3 h
  ·exact (c.xn t3 h).1 rfl
  ·exact (c.yn t3 h).1 rfl
 refine (bEh e1.fr.adv cc.bank.adv hin hnd).call bFm fun s2 e2=>?_;have h32:s2.h t3=some (.cells d.av.cells 67 true true):=by rw [e2.h t3 (by have:=e1.nx;simp only [adv_nx];omega) (by simp),adv_h,h3]
 have x0:aW (.tup [nd.av,.bool true]) 0=some nd.av:=rfl;have x1:aW (.tup [nd.av,.bool true]) 1=some (.bool true):=rfl;have hz:(AV.agg [.int .i64 0,.int .i64 0,.nils,.str [],.bool false,.nils,.nils]).cells=[.int .i64 0,.int .i64 0,.nils,.str [],.bool false,.nils,.nils]:=rfl;simp only [x0,x1,IF,hz,Bnd_some];rw [bI (id:=s1.nx+8) (z:=7) (c:=[.int .i64 0,.int .i64 0,.nils,.str [],.bool false,.nils,.nils]) (e:=101) (ex:=true) (v:=nd.av) aG rfl rfl rfl];simp only [Bnd_some];have nd1:nd.av.cells[1]?=some (.int .i64 nd.so):=rfl;have n31:t3≠s1.nx+8:=by have:=e1.nx;omega
 have h3f:((s2.set (s1.nx+8) (some (.cells [.int .i64 0,.int .i64 0,.nils,.str [],.bool false,.nils,.nils] 101 true true))).set (s1.nx+8) (some (.cells nd.av.cells 101 true true))).h t3=some (.cells d.av.cells 67 true true):=by rw [aB n31,aB n31,h32]
 simp only [aG,nd1,h3f,dc1,Bnd_some];have hne:bn .neq 3 (.int .i64 nd.so) (.int .i64 d.so)=some (.bool (nd.so != d.so)):=bin_neq;rw [hne];simp only [Bnd_some];cases nd.so != d.so
 ·simp only [IfP_bool,m015,if_false];exact hQ _ _
 ·simp only [IfP_bool,if_true];exact hQ _ _
theorem aJi (l:List (List UInt8×Int)) (i:Nat) (q:List UInt8×Int) (h:l[i]?=some q):cB 2 (.sl false (l.map iQ)) (.int .i64 (i:Int))=some (.pel (iQ q).cells 0):=by obtain ⟨hi,rfl⟩:=m012.1 h;simp [cB,pE,wR,hi,iQ,AV.cells]
theorem ck1 (hL:rB L) (hbf:d.body.fit) (hbw:d.body.wt<=2 ^ 20) (hps:d.ps.length<=2 ^ 20) {Q:aE} (hQ:∀ (e:Int) s',Q (.int .i64 e) s') :
  ∀ (k i:Nat) (s:St) (B:Bk) (F:List Nat) (ids:List Int) (y:AV),i+k=d.ps.length->aI s->CkR s b t6 t3 d B F (d.ps.map (·.1)) ids x y->Wf B->(∀ i∈ids,hY B i)->ids.length=i ->
   qI Q (k+1) (.sl false (L.map Dc.av)) (.ptr t3 0) (.ptr b 0) (.ptr t6 0) (.sl false (d.ps.map iQ)) (.int .i64 d.ps.length) (.int .i64 i) s:=by
 intro k
 induction k with
 | zero =>
  intro i s B F ids y hi fr c hw hid hil;show vJ Q (qI Q 0) _ _ _ _ _ _ _ s;have c1:decide ((i:Int) < (d.ps.length:Int))=false:=by simp;omega
  simp only [vJ,c1,wx,wy,reduceAdd,reduceEqDiff,reduceCtorEq];exact ck3 hL hbf hbw fr.adv (c.keep fun _ _=>rfl) hw hid (by rw [m002];omega) (by rw [m002];exact hps) hQ
 | succ k ih =>
  intro i s B F ids y hi fr c hw hid hil;show vJ Q (qI Q (k+1)) _ _ _ _ _ _ _ s;obtain ⟨q,hq⟩:∃ q,d.ps[i]?=some q:=⟨_,m004 (by omega)⟩;have c1:decide ((i:Int) < (d.ps.length:Int))=true:=by simp;omega
  have hix:=aJi d.ps i q hq;have pp:Ai.part 2 true 0 (iQ q).cells=some (iQ q):=rfl;have hz:(AV.agg [.str [],.int .i64 0]).cells=[.str [],.int .i64 0]:=rfl;have p0:(iQ q).cells[0]?=some (.str q.1):=rfl;have p1:(iQ q).cells[1]?=some (.int .i64 q.2):=rfl;have hlt:=c.lt fr;simp only [vJ,c1,hix,pp,aHj,hz,wx,wy,reduceAdd,reduceEqDiff,reduceCtorEq];rw [bI (id:=s.nx+3) (z:=2) (c:=[.str [],.int .i64 0]) (e:=151) (ex:=true) (v:=iQ q) (by rw [adv_h,aG]) rfl rfl rfl];simp only [Bnd_some];obtain ⟨S,hS⟩:∃ S,S=(Ai.adv (s.set (s.nx+3) (some (.cells [.str [],.int .i64 0] 151 true true))) 5).set (s.nx+3) (some (.cells (iQ q).cells 151 true true)):=⟨_,rfl⟩;rw [<- hS];have nS:S.nx=s.nx+5:=by rw [hS];rfl
  have kS:∀ j,j≠s.nx+3->S.h j=s.h j:=fun j hj=>by rw [hS,aB hj,adv_h,aB hj]
  have bS:S.h (s.nx+3)=some (.cells (iQ q).cells 151 true true):=by rw [hS,aG]
  have fS:aI S:=fun j hj=>by rw [kS j (by omega)];exact fr j (by omega)
  have cS:=c.keep (s':=S) fun j hj=>kS j (by have:=hlt j hj;omega);simp only [bS,p0,p1,wx,wy,reduceAdd,reduceEqDiff,reduceCtorEq];have hst:=(yA hw q.1 q.2) [] (oR B q.1 q.2).1 (oR B q.1 q.2).2 [] rfl;have cw:=VO (fS.adv (n:=11)) cS.bank.adv q.1 q.2;generalize oR B q.1 q.2=r at hst cw;obtain ⟨⟨id,e⟩,B'⟩:=r;refine cw.call bKi fun s3 q3=>?_;simp only [AP,AD,wx,wy,reduceAdd,reduceEqDiff,reduceCtorEq];by_cases he:e=0
  case neg =>
   have k0:(e != 0)=true:=by simpa using he
   simp only [k0,wx,wy,reduceAdd,reduceEqDiff,reduceCtorEq];exact hQ _ _
  case pos =>
  subst he;have k0:((0:Int) != 0)=false:=rfl;obtain ⟨_,hext,hw',h4,_⟩:=hst;have hin:hY B' id:=(h4 rfl).1;obtain ⟨F',b1,b2,b3⟩:=q3;have n3:=b2.nx;simp only [adv_nx] at n3;have kF:∀ j,j < s.nx->j ∉ F->s3.h j=s.h j:=fun j hj hn=>by rw [b2.h j (by simp only [adv_nx];omega) hn,adv_h,kS j (by omega)]
  have l3:=hlt t3 (.inr (.inl rfl));have l6:=hlt t6 (.inr (.inr (.inl rfl)));have F'lt:=b1.lt b2.fr;have hF':∀ j∈F',j∈F\/s.nx+5<=j:=fun j hj=>(b3 j hj).imp_right fun h=>by simp only [adv_nx] at h;omega
  have sc3:s3.h t6=some (.cells [x,y] 254 true true):=by rw [kF t6 l6 c.n6,c.sc]
  have gy3:Gw 3 1 0 s3 y (ids.map dT):=c.gy.keep fun j hj=>kF j (hlt j (.inr (.inr (.inr (.inr hj))))) (c.yn j hj).2.2;have gx3:Gw 9 1 0 s3 x ((d.ps.map (·.1)).map lS):=c.gx.keep fun j hj=>kF j (hlt j (.inr (.inr (.inr (.inl hj))))) (c.xn j hj).2.2.1;have happ:=gQ sB jP (gy3.adv (n:=9)) (a:=id) (by omega) (by omega) true (s3.nx+6);have hb:lE 72 1 [(0,.int .i64 id)]=some (.sl true [dT id]):=eB sB (by decide) rfl rfl;simp only [k0,sc3,hb,happ,wx,wy,reduceAdd,reduceEqDiff,reduceCtorEq];have nt6:t6 ∉ aF y:=fun h=>(c.yn t6 h).2.1 rfl;have nt3:t3 ∉ aF y:=fun h=>(c.yn t3 h).1 rfl;rw [dW (c:=[x,y]) (e:=254) (ex:=true) (by rw [adv_h,aB (by omega),get_drop',if_neg nt6,sc3]) (by simp) rfl rfl];simp only [Bnd_some,TJ,wx,wy,reduceAdd,reduceEqDiff,reduceCtorEq];rw [bU i d.ps.length (by omega) (by have:maxLen=9223372036854775807:=rfl;omega)];have hset:[x,y].set 1 (.ref (s3.nx+6) 0 (ids.length+1) none 3)=[x,.ref (s3.nx+6) 0 (ids.length+1) none 3]:=rfl;rw [hset];obtain ⟨T,hT⟩:∃ T,T=Ai.adv (((s3.drop (aF y)).set (s3.nx+6) (some (.cells (((ids++[id]).map dT).flatMap AV.cells) 3 false true))).set t6 (some (.cells [x,.ref (s3.nx+6) 0 (ids.length+1) none 3] 254 true true))) 11:=⟨_,rfl⟩;rw [<- hT];have nT:T.nx=s3.nx+11:=by rw [hT];show (s3.drop (aF y)).nx+11=_;rw [qP]
  have kT:∀ j,j≠t6->j≠s3.nx+6->j ∉ aF y->T.h j=s3.h j:=fun j a b c=>by rw [hT,adv_h,aB a,aB b,get_drop',if_neg c]
  have fT:aI T:=fun j hj=>by rw [hT,adv_h,aB (by omega),aB (by omega)];exact wI (b2.fr j (by omega))
  have ydis:∀ j∈F',j ∉ aF y:=fun j hj hy=>by
   rcases hF' j hj with h | h
   ·exact (c.yn j hy).2.2 h
   ·have:=hlt j (.inr (.inr (.inr (.inr hy))));omega
  refine ih (i+1) T B' F' (ids++[id]) (.ref (s3.nx+6) 0 (ids.length+1) none 3) (by omega) fT ⟨b1.keep fun j hj=>kT j (fun e=>?_) (by have:=F'lt j hj;omega) (ydis j hj),?_,by rw [hT,adv_h,aG],gx3.keep fun j hj=>?_,⟨fun v hv=>?_,.inr ⟨s3.nx+6,mM _,by rw [m002,m006];rfl,by rw [hT,adv_h,aB (by omega),aG]⟩⟩,fun hm=>?_,fun hm=>?_,c.n36,fun j hj=>?_,fun j hj=>?_⟩ hw' (fun j hj=>?_) (by rw [m006,List.length_singleton,hil])
  ·subst e;rcases hF' j hj with h | h
   ·exact c.n6 h
   ·omega
  ·rw [kT t3 c.n36 (by omega) nt3,kF t3 l3 c.n3,c.box]
  ·obtain ⟨a1,a2,a3,a4⟩:=c.xn j hj;exact kT j a2 (by have:=hlt j (.inr (.inr (.inr (.inl hj))));omega) a4
  ·obtain ⟨w,_,rfl⟩:=m021.1 hv;exact ⟨rfl,rfl⟩
  ·rcases hF' t3 hm with h | h
   ·exact c.n3 h
   ·omega
  ·rcases hF' t6 hm with h | h
   ·exact c.n6 h
   ·omega
  ·obtain ⟨a1,a2,a3,a4⟩:=c.xn j hj;have:=hlt j (.inr (.inr (.inr (.inl hj))));refine ⟨a1,a2,fun hm=>?_,fun hm=>?_⟩
   ·rcases hF' j hm with h | h
    ·exact a3 h
    ·omega
   ·simp only [aF,m008] at hm;omega
  ·simp only [aF,m008] at hj;subst hj;exact ⟨by omega,by omega,fun hm=>by have:=F'lt _ hm;omega⟩
  ·rcases m003.1 hj with h | h
   ·exact (hid j h).ext hext
   ·rw [m008] at h;subst h;exact hin
def FD (so:Int):Bool:=decide (so < 1)||decide (so > 3)
theorem bKn (so:Int):bA mEv 191 [.int .i64 so] (.bool (FD so)):=by
 refine aZ rfl (aPd _ _ ?_);unfold f191 FD
 cases h1:decide (so < 1) with
 | true=>simp only [h1,m033,wx,wy,reduceAdd,reduceEqDiff,reduceCtorEq]
 | false =>
  cases h2:decide (so > 3) with
  | true=>simp only [h1,h2,m078,wx,wy,reduceAdd,reduceEqDiff,reduceCtorEq]
  | false=>simp only [h1,h2,Bool.or_self,wx,wy,reduceAdd,reduceEqDiff,reduceCtorEq]
theorem bIb:mEv.fz 195=false:=by kernel_rfl
theorem bMb:mEv.fz 194=false:=by kernel_rfl
theorem bFt:mEv.fz 223=false:=by kernel_rfl
theorem bRg (fr:aI s) {q:Nat} (hq:s.h q=some (.cells [.fn 191 [] []] 175 true true)) (z:List UInt8×Int):KP 195 [iQ z,.ptr q 0] s (.bool (FD z.2)):=by
 have hqs:=fr.lt hq;refine aPw _ _ _ (Q:=fun r s'=>r=.bool (FD z.2)/\EF [] s s') ?_;unfold f195;refine ⟨rfl,?_⟩;have q1:¬ (q=s.nx):=by omega
 have p1:(iQ z).cells[1]?=some (.int .i64 z.2):=rfl;simp only [q1,hq,p1,if_false,List.getElem?_cons_zero,wx,wy,reduceAdd,reduceEqDiff,reduceCtorEq];refine CF (by kernel_rfl) ?_;refine aP (bKn z.2) (by simp [AV.closed]) ?_;refine ⟨rfl,by simp only [adv_nx,set_nx];omega,fun j hj _=>by rw [adv_h,aB (by omega)],bW fr _ (by omega)⟩
theorem bOp (fr:aI s) {q:Nat} (hq:s.h q=some (.cells [.fn 191 [] []] 175 true true)) (l:List (List UInt8×Int)) (hl:l.length<=2 ^ 20):∃ r,KP 194 [.sl false (l.map iQ),.fn 195 [] [.ptr q 0]] s (.bool r):=by
 refine ⟨l.any fun z=>FD z.2,?_⟩;refine aKa _ _ _ (Q:=fun r s'=>r=.bool (l.any fun z=>FD z.2)/\EF [] s s') ?_;unfold f194
 have key:∀ (Q:aE) (r:Bool) (s0:St),aI s0->s0.h q=some (.cells [.fn 191 [] []] 175 true true)->(∀ (k:Int) (s':St),EF [] s0 s'->decide (k >= 0)=r->Q (.int .i64 k) s')->∀ (m j:Nat) (s:St),j+m=l.length->EF [] s0 s->r=(l.drop j).any (fun z=>FD z.2)->pS Q (m+1) (.sl false (l.map iQ)) (.fn 195 [] [.ptr q 0]) (.int .i64 l.length) (.int .i64 j) s:=by
  intro Q r s0 fr0 hq0 hQ m
  induction m with
  | zero =>
   intro j s hj e hr;show vK Q (pS Q 0) _ _ _ _ s;have c1:decide ((j:Int) < (l.length:Int))=false:=by simp;omega
   rw [m037 (by omega)] at hr;simp only [vK,c1,BH,wx,wy,reduceAdd,reduceEqDiff,reduceCtorEq];exact hQ _ _ e.adv (by rw [hr];rfl)
  | succ m ih =>
   intro j s hj e hr;show vK Q (pS Q (m+1)) _ _ _ _ s;have c1:decide ((j:Int) < (l.length:Int))=true:=by simp;omega
   obtain ⟨y,hy⟩:∃ y,l[j]?=some y:=⟨_,m004 (by omega)⟩;rw [bZ l j y hy,List.any_cons] at hr;have pp:Ai.part 2 true 0 (iQ y).cells=some (iQ y):=rfl;have hqs:=fr0.lt hq0;simp only [vK,c1,aJi l j y hy,pp,wx,wy,reduceAdd,reduceEqDiff,reduceCtorEq];refine EN (by kernel_rfl) ?_;refine (bRg e.fr.adv (by rw [adv_h,e.h q hqs (by simp)];exact hq0) y).call bIb fun s1 e1=>?_;have e2:=e.adv.nil_trans e1
   cases h:FD y.2 with
   | true =>rw [h,m033] at hr;simp only [wx,wy,reduceAdd,reduceEqDiff,reduceCtorEq];exact hQ _ _ e2.adv (by rw [hr];simp)
   | false =>rw [h,m026] at hr;simp only [SO,wx,wy,reduceAdd,reduceEqDiff,reduceCtorEq];rw [bU j l.length (by omega) (by have:maxLen=9223372036854775807:=rfl;omega)];exact ih (j+1) _ (by omega) e2.adv hr
 have h223:∃ k s',WideC mEv 223 [.sl false (l.map iQ),.fn 195 [] [.ptr q 0]] (Ai.adv s 6) k s'/\∃ n:Int,k=.int .i64 n/\EF [] s s'/\decide (n >= 0)=l.any (fun z=>FD z.2):=by refine aPc _ _ _ ?_;unfold f223;simp only [yX,m002,wx,wy,reduceAdd,reduceEqDiff,reduceCtorEq];exact ⟨_,key _ _ (Ai.adv s 6) fr.adv hq (fun k s' e hk=>⟨k,rfl,(EF.refl [] fr).adv.nil_trans e,hk⟩) l.length 0 _ (by omega) ⟨by simp only [adv_nx];omega,fun _ _ _=>rfl,fr.adv⟩ rfl⟩
 obtain ⟨k,s',h1,n,rfl,h2,h3⟩:=h223;refine bO bFt ⟨_,s',h1,?_⟩;have hg:∀ a b:Int,bn .geq 3 (.int .i64 a) (.int .i64 b)=some (.bool (decide (a >= b))):=fun a b=>bin_geq;simp only [hg,h3,wx,wy,reduceAdd,reduceEqDiff,reduceCtorEq];exact h2
theorem ckj (hL:rB L) (hbf:d.body.fit) (hbw:d.body.wt<=2 ^ 20) (hps:d.ps.length<=2 ^ 20) {Q:aE} (hQ:∀ (e:Int) s',Q (.int .i64 e) s') (fr:aI s) (c:CkR s b t6 t3 d [] F (d.ps.map (·.1)) [] x .nils):xA Q (.ptr t6 0) (.ptr t3 0) (.sl false (L.map Dc.av)) (.ptr b 0) s:=by
 have hlt:=c.lt fr;have hz:zr 175=some .nilf:=by kernel_rfl
 have hcl:(AV.nilf).cells=[.nilf]:=rfl;unfold xA;simp only [hz,hcl,wx,wy,reduceAdd,reduceEqDiff,reduceCtorEq];rw [dW (c:=[.nilf]) (e:=175) (ex:=true) (by rw [adv_h,aG]) (by simp) rfl rfl];simp only [Bnd_some];rw [show ([AV.nilf].set 0 (AV.fn 191 [] []))=[AV.fn 191 [] []] from rfl];obtain ⟨S,hS⟩:∃ S,S=(Ai.adv (s.set s.nx (some (gL.cells [AV.nilf] 175 true true))) 2).set s.nx (some (gL.cells [AV.fn 191 [] []] 175 true true)):=⟨_,rfl⟩;rw [<- hS];have nS:S.nx=s.nx+2:=by rw [hS];rfl
 have kS:∀ j,j < s.nx->S.h j=s.h j:=fun j hj=>by rw [hS,aB (by omega),adv_h,aB (by omega)]
 have qS:S.h s.nx=some (.cells [.fn 191 [] []] 175 true true):=by rw [hS,aG]
 have fS:aI S:=fun j hj=>by rw [hS,aB (by omega),adv_h,aB (by omega)];exact fr j (by omega)
 have cS:=c.keep (s':=S) fun j hj=>kS j (hlt j hj);have hnl:(d.ps.map (·.1)).length<=2 ^ 20:=by rw [m002];exact hps
 obtain ⟨ids,p1,p2⟩:=qK AZ (cS.gx.adv (n:=4)) (fun _ _=>rfl) (fun _ _=>rfl) 11;have hpl:dH (pur mEv.P (Ai.adv S 4) 12) [x]=some ([.sl false ((d.ps.map (·.1)).map lS)],ids):=by simp only [dH,p1,m011]
 simp only [cS.sc,List.getElem?_cons_zero,wx,wy,reduceAdd,reduceEqDiff,reduceCtorEq];refine AR hpl (bNe (d.ps.map (·.1)) (by omega)) rfl ?_
 cases dbl (d.ps.map (·.1)) with
 | true=>simp only [wx,wy,reduceAdd,reduceEqDiff,reduceCtorEq];exact hQ _ _
 | false =>
 simp only [cS.sc,List.getElem?_cons_zero,wx,wy,reduceAdd,reduceEqDiff,reduceCtorEq];refine (bIc fS.adv cS.gx.adv (by omega)).call bAw fun s4 e4=>?_;have e4:=(EF.refl [] fS).adv.nil_trans e4
 cases (d.ps.map (·.1)).any bC with
 | true=>simp only [wx,wy,reduceAdd,reduceEqDiff,reduceCtorEq];exact hQ _ _
 | false =>
 have c4:=cS.ext fS e4;have q4:s4.h s.nx=some (.cells [.fn 191 [] []] 175 true true):=by rw [e4.h s.nx (by omega) (by simp),qS]
 simp only [c4.box,q4,dc1,List.getElem?_cons_zero,wx,wy,reduceAdd,reduceEqDiff,reduceCtorEq];refine CF (by kernel_rfl) ?_;refine aP (bKn d.so) (by simp [AV.closed]) ?_
 cases FD d.so with
 | true=>simp only [xY,wx,wy,reduceAdd,reduceEqDiff,reduceCtorEq];exact hQ _ _
 | false =>
 simp only [c4.box,QC,wx,wy,reduceAdd,reduceEqDiff,reduceCtorEq];obtain ⟨r,hr⟩:=bOp (s:=Ai.adv s4 10) e4.fr.adv (q:=s.nx) (by rw [adv_h,q4]) d.ps hps;refine hr.call bMb fun s6 e6=>?_;have e6:=(EF.refl [] e4.fr).adv.nil_trans e6;have c6:=c4.ext e4.fr e6
 cases r with
 | true=>simp only [xY,wx,wy,reduceAdd,reduceEqDiff,reduceCtorEq];exact hQ _ _
 | false =>
 simp only [xY,DP,c6.box,QC,yX,m002,wx,wy,reduceAdd,reduceEqDiff,reduceCtorEq];exact ⟨d.ps.length+1,ck1 hL hbf hbw hps hQ d.ps.length 0 _ [] F [] .nils (by omega) e6.fr.adv (c6.keep fun _ _=>rfl) SA (fun i hi=>by cases hi) rfl⟩
theorem ck2 (hL:rB L) (hbf:d.body.fit) (hbw:d.body.wt<=2 ^ 20) (hps:d.ps.length<=2 ^ 20) {Q:aE} (hQ:∀ (e:Int) s',Q (.int .i64 e) s') :
  ∀ (k i:Nat) (s:St) (F:List Nat) (x:AV),i+k=d.ps.length->aI s->CkR s b t6 t3 d [] F ((d.ps.take i).map (·.1)) [] x .nils ->
   pM Q (k+1) (.sl false (L.map Dc.av)) (.ptr t3 0) (.ptr b 0) (.ptr t6 0) (.sl false (d.ps.map iQ)) (.int .i64 d.ps.length) (.int .i64 i) s:=by
 intro k
 induction k with
 | zero =>
  intro i s F x hi fr c;show vD Q (pM Q 0) _ _ _ _ _ _ _ s;have c1:decide ((i:Int) < (d.ps.length:Int))=false:=by simp;omega
  rw [m014 (by omega)] at c;simp only [vD,c1,wx,wy,reduceAdd,reduceEqDiff,reduceCtorEq];exact ckj hL hbf hbw hps hQ fr.adv (c.keep fun _ _=>rfl)
 | succ k ih =>
  intro i s F x hi fr c;show vD Q (pM Q (k+1)) _ _ _ _ _ _ _ s;obtain ⟨q,hq⟩:∃ q,d.ps[i]?=some q:=⟨_,m004 (by omega)⟩;have c1:decide ((i:Int) < (d.ps.length:Int))=true:=by simp;omega
  have hix:=aJi d.ps i q hq;have pp:Ai.part 2 true 0 (iQ q).cells=some (iQ q):=rfl;have hz:(AV.agg [.str [],.int .i64 0]).cells=[.str [],.int .i64 0]:=rfl;have p0:(iQ q).cells[0]?=some (.str q.1):=rfl;have hlt:=c.lt fr;simp only [vD,c1,hix,pp,aHj,hz,wx,wy,reduceAdd,reduceEqDiff,reduceCtorEq];rw [bI (id:=s.nx+3) (z:=2) (c:=[.str [],.int .i64 0]) (e:=151) (ex:=true) (v:=iQ q) (by rw [adv_h,aG]) rfl rfl rfl];simp only [Bnd_some];obtain ⟨S,hS⟩:∃ S,S=(Ai.adv (s.set (s.nx+3) (some (.cells [.str [],.int .i64 0] 151 true true))) 5).set (s.nx+3) (some (.cells (iQ q).cells 151 true true)):=⟨_,rfl⟩;rw [<- hS];have nS:S.nx=s.nx+5:=by rw [hS];rfl
  have kS:∀ j,j≠s.nx+3->S.h j=s.h j:=fun j hj=>by rw [hS,aB hj,adv_h,aB hj]
  have bS:S.h (s.nx+3)=some (.cells (iQ q).cells 151 true true):=by rw [hS,aG]
  have fS:aI S:=fun j hj=>by rw [kS j (by omega)];exact fr j (by omega)
  have cS:=c.keep (s':=S) fun j hj=>kS j (by have:=hlt j hj;omega);have l3:=hlt t3 (.inr (.inl rfl));have l6:=hlt t6 (.inr (.inr (.inl rfl)));have htl:((d.ps.take i).map (·.1)).length=i:=by simp;omega
  have happ:=gQ AZ sF (cS.gx.adv (n:=8)) (a:=q.1) (by omega) (by omega) true (S.nx+5);have hb:lE 52 1 [(0,.str q.1)]=some (.sl true [lS q.1]):=eB AZ (by decide) rfl rfl;simp only [bS,p0,cS.sc,List.getElem?_cons_zero,hb,happ,wx,wy,reduceAdd,reduceEqDiff,reduceCtorEq];have nt6:t6 ∉ aF x:=fun h=>(c.xn t6 h).2.1 rfl;have nt3:t3 ∉ aF x:=fun h=>(c.xn t3 h).1 rfl;rw [dW (c:=[x,.nils]) (e:=254) (ex:=true) (by rw [adv_h,aB (by omega),get_drop',if_neg nt6,cS.sc]) (by simp) rfl rfl];simp only [Bnd_some,QM,wx,wy,reduceAdd,reduceEqDiff,reduceCtorEq];rw [bU i d.ps.length (by omega) (by have:maxLen=9223372036854775807:=rfl;omega)];rw [show ([x,AV.nils].set 0 (.ref (S.nx+5) 0 (((d.ps.take i).map (·.1)).length+1) none 9))=[.ref (S.nx+5) 0 (((d.ps.take i).map (·.1)).length+1) none 9,.nils] from rfl];obtain ⟨C,hC⟩:∃ C,C=(some (gL.cells (((((d.ps.take i).map (·.1))++[q.1]).map lS).flatMap AV.cells) 9 false true):Option gL):=⟨_,rfl⟩;rw [<- hC];obtain ⟨T,hT⟩:∃ T,T=Ai.adv (((S.drop (aF x)).set (S.nx+5) C).set t6 (some (.cells [.ref (S.nx+5) 0 (((d.ps.take i).map (·.1)).length+1) none 9,.nils] 254 true true))) 10:=⟨_,rfl⟩;rw [<- hT];have nT:T.nx=S.nx+10:=by rw [hT];show (S.drop (aF x)).nx+10=_;rw [qP]
  have kT:∀ j,j≠t6->j≠S.nx+5->j ∉ aF x->T.h j=S.h j:=fun j a b c=>by rw [hT,adv_h,aB a,aB b,get_drop',if_neg c]
  have fT:aI T:=fun j hj=>by rw [hT,adv_h,aB (by omega),aB (by omega)];exact wI (fS j (by omega))
  have htk:(d.ps.take (i+1)).map (·.1)=(d.ps.take i).map (·.1)++[q.1]:=by rw [m062,hq];simp
  refine ih (i+1) T F (.ref (S.nx+5) 0 (((d.ps.take i).map (·.1)).length+1) none 9) (by omega) fT ⟨cS.bank.keep fun j hj=>kT j (fun e=>c.n6 (e ▸ hj)) (by have:=hlt j (.inl hj);omega) (fun hx=>(c.xn j hx).2.2.1 hj),?_,by rw [hT,adv_h,aG],?_,gK,c.n3,c.n6,c.n36,fun j hj=>?_,fun j hj=>by cases hj⟩
  ·rw [kT t3 c.n36 (by omega) nt3,cS.box]
  ·rw [htk];refine ⟨fun v hv=>?_,.inr ⟨S.nx+5,mM _,by simp only [m002,m006,List.length_singleton],by rw [hT,adv_h,aB (by omega),aG,hC]⟩⟩;obtain ⟨w,_,rfl⟩:=m021.1 hv;exact ⟨rfl,rfl⟩
  ·simp only [aF,m008] at hj;subst hj;exact ⟨by omega,by omega,fun hm=>by have:=hlt _ (.inl hm);omega,by simp [aF]⟩
theorem bQu (hL:rB L) (d:Dc) (hbf:d.body.fit) (hbw:d.body.wt<=2 ^ 20) (hps:d.ps.length<=2 ^ 20):∃ e:Int,bA mEv 149 [.sl false (L.map Dc.av),d.av] (.int .i64 e):=by
 have r:=aGx (.sl false (L.map Dc.av)) d.av St.empty (Q:=fun r _=>∃ e,r=.int .i64 e) (by
  unfold f149;refine ⟨dP d,?_⟩;have hb58:lV 58 []=some (.agg [.nils,.nilm,.nils]):=by rw [bIo];rfl
  have hc0:(AV.agg [AV.nils,AV.nilm,AV.nils]).cells=[.nils,.nilm,.nils]:=rfl;have hc1:(AV.agg [AV.nils,AV.nils]).cells=[.nils,.nils]:=rfl
  cases hm:d.mac with
  | false =>simp only [VL,hm,wx,wy,reduceAdd,reduceEqDiff,reduceCtorEq];exact ⟨1,rfl⟩
  | true =>
   simp only [VL,hm,hb58,hc0,aGp,hc1,QC,yX,m002,wx,wy,reduceAdd,reduceEqDiff,reduceCtorEq];refine ⟨rfl,d.ps.length+1,?_⟩;obtain ⟨S,hS⟩:∃ S,S=Ai.adv (((St.empty.set St.empty.nx (some (gL.cells d.av.cells 67 true true))).set (St.empty.nx+6) (some (gL.cells [AV.nils,AV.nilm,AV.nils] 58 true true))).set (St.empty.nx+8) (some (gL.cells [AV.nils,AV.nils] 254 true true))) 13:=⟨_,rfl⟩;rw [<- hS];have n0:St.empty.nx=0:=rfl;have nS:S.nx=13:=by rw [hS];rfl
   have fS:aI S:=fun j hj=>by rw [hS,adv_h,aB (by omega),aB (by omega),aB (by omega)];rfl
   have h8:S.h (St.empty.nx+8)=some (.cells [.nils,.nils] 254 true true):=by rw [hS,adv_h,aG]
   have h6:S.h (St.empty.nx+6)=some (.cells [.nils,.nilm,.nils] 58 true true):=by rw [hS,adv_h,aB (by omega),aG]
   have h0:S.h St.empty.nx=some (.cells d.av.cells 67 true true):=by rw [hS,adv_h,aB (by omega),aB (by omega),aG]
   exact ck2 hL hbf hbw hps (fun e _=>⟨e,rfl⟩) d.ps.length 0 S [St.empty.nx+6] .nils (by omega) fS ⟨⟨.nils,.nilm,.nils,⟨h6,gK,.inl ⟨rfl,rfl⟩,gK,by simp [aF],fun n h=>(by cases h),by decide⟩,rfl⟩,h0,h8,gK,gK,by simp [n0],by simp [n0],by omega,fun j hj=>(by cases hj),fun j hj=>(by cases hj)⟩)
 obtain ⟨r,s',h1,e,rfl⟩:=r;exact ⟨e,aZ rfl ⟨_,s',h1,rfl⟩⟩
end
end
noncomputable section
structure xV (K:Sk):Prop where
 so:EY K
 d:∀ d∈K.D,d.body.fit/\d.body.wt<=2 ^ 20/\d.ps.length<=2 ^ 20/\d.ok=true
 x:∀ y∈K.X,y.fit/\y.ok=true
theorem xV.dc {K:Sk} (h:xV K):rB K.D:=⟨by have:=h.so.ld;omega,fun d hd=>(h.d d hd).1,fun d hd=>by have:=(h.d d hd).2.1;omega,fun d hd=>(h.d d hd).2.2.1⟩
section
variable {s s':St} {p:Nat} {K:Sk} {F:List Nat}
theorem aYx (fr:aI s) (h:cL s p K F) (hk:xV K) {k:aE} (hK:∀ s',EF [] s s'->k (.sl false (K.D.map Dc.av)) s'):aL mEv 44 [.ptr p 0] s k:=by obtain ⟨xd,xm,xa,xn,m,c,rfl⟩:=h;exact (c44 fr c.cell rfl c.d (by have:=hk.so.ld;omega) (fun d hd=>⟨(hk.d d hd).1,(hk.d d hd).2.2.1⟩)).call aYw bIi hK
theorem aYc (fr:aI s) (h:cL s p K F) (hk:xV K) {k:aE} (hK:∀ s',EF [] s s'->k (.sl false (K.X.map Sx.av)) s'):aL mEv 45 [.ptr p 0] s k:=by obtain ⟨xd,xm,xa,xn,m,c,rfl⟩:=h;exact (c45 fr c.cell rfl c.x (by have:=hk.so.lx;omega) (fun d hd=>(hk.x d hd).1)).call bHk bRh hK
theorem aYs (fr:aI s) (h:cL s p K F) (hk:xV K) {l:List Nat} {f:FuncId} (hl:l=rch s [.fn f [] [],.ptr p 0]) {k:aE} (hK:∀ s',EF [] s s'->k (.sl false (K.D.map Dc.av)) s'):cH mEv 44 [.ptr p 0] l s k:=by
 have hm:∀ j,j∈l↔j∈F:=fun j=>by rw [hl];exact h.rch rfl j
 have h':cL (s.only l) p K F:=h.keep fun j hj=>by rw [jI,if_pos ((hm j).2 hj)]
 obtain ⟨xd,xm,xa,xn,m,c,rfl⟩:=h';exact (c44 (gY fr) c.cell rfl c.d (by have:=hk.so.ld;omega) (fun d hd=>⟨(hk.d d hd).1,(hk.d d hd).2.2.1⟩)).callD aYw bIi hK
theorem bKc:mEv.fz 99=false:=by kernel_rfl
def TB (L:List Dc) (x:Sx):Prop:=x.wt<=2 ^ 20/\∃ n r B M,T HE true n L [] x ([],[])=some (r,(B,M))/\r.2=0/\sU B r.1=1
theorem c99 (fr:aI s) (h:cL s p K F) (hk:xV K) (d:Dc) (hd1:d.body.fit) (hd2:d.body.wt<=2 ^ 20) (hd3:d.ps.length<=2 ^ 20):∃ e K',mO 99 [.ptr p 0,d.av] s p F (.int .i64 e) K'/\(e≠0->K'=K)/\(K'=K\/(jQ K d.nm=0/\K'=(pG K d).2)):=by
 have hF:=h.lt fr;have hp:=hF p h.pin;have ld:=hk.so.ld;obtain ⟨e0,he0⟩:=bQu hk.dc d hd1 hd2 hd3
 have r:=aRu (.ptr p 0) d.av s (Q:=fun r s'=>∃ e K',r=.int .i64 e/\bR s p F K' s'/\(e≠0->K'=K)/\(K'=K\/(jQ K d.nm=0/\K'=(pG K d).2))) (by
  unfold f99;refine ⟨dP d,?_⟩;simp only [lA,dc0,wx,wy,reduceAdd,reduceEqDiff,reduceCtorEq];obtain ⟨S,hS⟩:∃ S,S=Ai.adv (s.set s.nx (some (.cells d.av.cells 67 true true))) 9:=⟨_,rfl⟩;rw [<- hS];have nS:S.nx=s.nx+9:=by rw [hS];rfl
  have kS:∀ j,j < s.nx->S.h j=s.h j:=fun j hj=>by rw [hS,adv_h,aB (by omega)]
  have bS:S.h s.nx=some (.cells d.av.cells 67 true true):=by rw [hS,adv_h,aG]
  have fS:aI S:=fun j hj=>by rw [hS,adv_h,aB (by omega)];exact fr j (by omega)
  have eS:EF [] s S:=⟨by omega,fun j hj _=>kS j hj,fS⟩;refine (bLb fS (h.ext fr eS) d.nm).call aXz fun s1 e1=>?_;have e2:=eS.nil_trans e1;have n1:=e1.nx;have b1:s1.h s.nx=some (.cells d.av.cells 67 true true):=by rw [e1.h _ (by omega) (by simp),bS]
  simp only [wx,wy,reduceAdd,reduceEqDiff,reduceCtorEq]
  cases hq:(jQ K d.nm != 0) with
  | true =>simp only [hq,wx,wy,reduceAdd,reduceEqDiff,reduceCtorEq];exact ⟨jQ K d.nm,K,rfl,bR.same h fr e2.adv,fun _=>rfl,.inl rfl⟩
  | false =>
   simp only [hq,wx,wy,reduceAdd,reduceEqDiff,reduceCtorEq];have h1:=(h.ext fr e2).adv (n:=7);refine aYs e2.fr.adv h1 hk rfl fun s3 e3=>?_;have e4:=e2.adv.nil_trans e3;have n3:=e3.nx;simp only [adv_nx] at n3;have b3:s3.h s.nx=some (.cells d.av.cells 67 true true):=by rw [e3.h _ (by simp only [adv_nx];omega) (by simp),adv_h,b1]
   have hn:s.nx ∉ rch (Ai.adv s1 7) [.fn 44 [] [],.ptr p 0]:=fun hm=>by have:=hF _ ((h1.rch rfl _).1 hm);omega
   have hlt:s.nx < s1.nx+7:=by omega
   refine ⟨by simp [clear,dV.apart,tH,bN,lG,AG hn,vV _ _ hn,hlt],?_⟩;simp only [b3,iX,wx,wy,reduceAdd,reduceEqDiff,reduceCtorEq];refine kB he0 (by simp only [m013,m052,or_false,forall_eq_or_imp,forall_eq];exact ⟨oI K.D,eJ d⟩) ?_;simp only [wx,wy,reduceAdd,reduceEqDiff,reduceCtorEq]
   cases hq2:(e0 != 0) with
   | true =>simp only [hq2,wx,wy,reduceAdd,reduceEqDiff,reduceCtorEq];exact ⟨e0,K,rfl,bR.same h fr e4.adv,fun _=>rfl,.inl rfl⟩
   | false =>
    simp only [hq2,b3,iX,wx,wy,reduceAdd,reduceEqDiff,reduceCtorEq];refine (bGk (dcv d) hd1 hd3 e4.fr.adv (h.ext fr e4).adv (by omega)).call bAt fun s5 q5=>?_;refine ⟨_,_,rfl,q5.from e4.adv,fun hne=>?_,.inr ⟨by simpa using hq,rfl⟩⟩;unfold pG at hne ⊢;cases hc:((K.D.length:Int)==500)
    ·rw [hc] at hne;exact absurd rfl hne
    ·rfl)
 obtain ⟨r,s',h1,e,K',rfl,h2,h3⟩:=r;exact ⟨e,K',⟨_,s',h1,rfl,h2⟩,h3⟩
theorem c92 (fr:aI s) (h:cL s p K F) (hk:xV K) (x:Sx) (hx:x.fit) (hw:x.wt<=2 ^ 20):∃ e K',mO 92 [.ptr p 0,x.av] s p F (.int .i64 e) K'/\(e≠0->K'=K)/\(K'=K\/(K.X.length < 500/\TB K.D x/\K'={ K with X:=K.X++[x] })):=by
 have hF:=h.lt fr;have hp:=hF p h.pin;have ld:=hk.so.ld;have lx:=hk.so.lx
 have r:=aSs (.ptr p 0) x.av s (Q:=fun r s'=>∃ e K',r=.int .i64 e/\bR s p F K' s'/\(e≠0->K'=K)/\(K'=K\/(K.X.length < 500/\TB K.D x/\K'={ K with X:=K.X++[x] }))) (by
  have hb58:lV 58 []=some (.agg [.nils,.nilm,.nils]):=by rw [bIo];rfl
  have hc0:(AV.agg [AV.nils,AV.nilm,AV.nils]).cells=[.nils,.nilm,.nils]:=rfl;unfold f92;refine ⟨cI x,?_⟩;simp only [lA,hb58,hc0,wx,wy,reduceAdd,reduceEqDiff,reduceCtorEq];refine ⟨rfl,?_⟩;obtain ⟨S,hS⟩:∃ S,S=Ai.adv ((s.set s.nx (some (.cells x.av.cells 33 true true))).set (s.nx+5) (some (.cells [.nils,.nilm,.nils] 58 true true))) 17:=⟨_,rfl⟩;have nS:S.nx=s.nx+17:=by rw [hS];rfl
  have kS:∀ j,j < s.nx->S.h j=s.h j:=fun j hj=>by rw [hS,adv_h,aB (by omega),aB (by omega)]
  have b0:S.h s.nx=some (.cells x.av.cells 33 true true):=by rw [hS,adv_h,aB (by omega),aG]
  have b5:S.h (s.nx+5)=some (.cells [.nils,.nilm,.nils] 58 true true):=by rw [hS,adv_h,aG]
  have fS:aI S:=fun j hj=>by rw [hS,adv_h,aB (by omega),aB (by omega)];exact fr j (by omega)
  have eS:EF [] s S:=⟨by omega,fun j hj _=>kS j hj,fS⟩;rw [<- hS];have hR:=h.ext fr eS;refine aYs fS hR hk rfl fun s3 e3=>?_;have e03:=eS.nil_trans e3;have n3:=e3.nx;have a0:s3.h s.nx=some (.cells x.av.cells 33 true true):=by rw [e3.h _ (by omega) (by simp),b0]
  have a5:s3.h (s.nx+5)=some (.cells [.nils,.nilm,.nils] 58 true true):=by rw [e3.h _ (by omega) (by simp),b5]
  have hn:s.nx ∉ rch S [.fn 44 [] [],.ptr p 0]:=fun hm=>by have:=hF _ ((hR.rch rfl _).1 hm);omega
  have hlt:s.nx < S.nx:=by omega
  refine ⟨by simp [clear,dV.apart,tH,bN,lG,AG hn,vV _ _ hn,hlt],?_⟩;simp only [a0,dG,wx,wy,reduceAdd,reduceEqDiff,reduceCtorEq];have hB0:kK s3 (s.nx+5) [] [s.nx+5]:=⟨.nils,.nilm,.nils,⟨a5,gK,.inl ⟨rfl,rfl⟩,gK,by simp [aF],fun n h=>(by cases h),by decide⟩,rfl⟩;obtain ⟨n1,⟨r,B1,M1⟩,h1⟩:=bAu HE true K.D [] x ([],[]);refine SC.callDS bQh e3.fr hB0 rfl (by simp only [dA,eD,aIl,jB (eK Dc.av K.D eJ)];rfl) (fun S'=>bDm S' _ K.D x) (fun S' f' h'=>bCd LF f' h' SA hk.dc x hx (by omega) h1) fun s4 q4=>?_;obtain ⟨F1,m1,m2,m3⟩:=q4;have e34:EF [] s s4:=(e03.trans m2 fun j hj=>.inl (by simp only [m008] at hj;omega));have n4:=m2.nx;simp only [AP,AD,wx,wy,reduceAdd,reduceEqDiff,reduceCtorEq];obtain ⟨rv,re⟩:=r;by_cases he:re=0
  case neg =>
   have k0:(re != 0)=true:=by simpa using he
   simp only [k0,wx,wy,reduceAdd,reduceEqDiff,reduceCtorEq];exact ⟨re,K,rfl,bR.same h fr e34.adv,fun _=>rfl,.inl rfl⟩
  case pos =>
  subst he;have k0:((0:Int) != 0)=false:=rfl;simp only [k0,wx,wy,reduceAdd,reduceEqDiff,reduceCtorEq];obtain ⟨i1,i2,i3,i4⟩:=aHx (ps:=HE) (L0:=K.D) (env:=[]) (j:=K.D.length) (by omega) ⟨SA,fun q hq=>(by cases hq),DB HE K.D []⟩ (by rw [m045];exact h1);have hin:hY B1 rv:=i3 rfl;obtain ⟨nd,hnd⟩:=wV hin;refine (bEh m2.fr.adv m1.adv hin hnd).call bFm fun s5 e5=>?_;have e05:=e34.adv.nil_trans e5;have n5:=e5.nx;simp only [adv_nx] at n5;have x0:aW (.tup [nd.av,.bool true]) 0=some nd.av:=rfl;have x1:aW (.tup [nd.av,.bool true]) 1=some (.bool true):=rfl;have hz:(AV.agg [.int .i64 0,.int .i64 0,.nils,.str [],.bool false,.nils,.nils]).cells=[.int .i64 0,.int .i64 0,.nils,.str [],.bool false,.nils,.nils]:=rfl;simp only [x0,x1,IF,hz,Bnd_some];rw [bI (id:=s4.nx+8) (z:=7) (c:=[.int .i64 0,.int .i64 0,.nils,.str [],.bool false,.nils,.nils]) (e:=101) (ex:=true) (v:=nd.av) aG rfl rfl rfl];simp only [Bnd_some];obtain ⟨T,hT⟩:∃ T,T=(s5.set (s4.nx+8) (some (.cells [.int .i64 0,.int .i64 0,.nils,.str [],.bool false,.nils,.nils] 101 true true))).set (s4.nx+8) (some (.cells nd.av.cells 101 true true)):=⟨_,rfl⟩;rw [<- hT];have nT:T.nx=s5.nx:=by rw [hT];rfl
  have kT:∀ j,j≠s4.nx+8->T.h j=s5.h j:=fun j hj=>by rw [hT,aB hj,aB hj]
  have bT:T.h (s4.nx+8)=some (.cells nd.av.cells 101 true true):=by rw [hT,aG]
  have fT:aI T:=fun j hj=>by rw [kT j (by omega)];exact e5.fr j (by omega)
  have eT:EF [] s T:=⟨by have:=e05.nx;omega,fun j hj _=>by rw [kT j (by omega)];exact e05.h j hj (by simp),fT⟩;have nd1:nd.av.cells[1]?=some (.int .i64 nd.so):=rfl;have hx4:s4.h s.nx=some (.cells x.av.cells 33 true true):=by rw [m2.h _ (by omega) (by simp),a0]
  have hxT:T.h s.nx=some (.cells x.av.cells 33 true true):=by rw [kT _ (by omega),e5.h _ (by simp only [adv_nx];omega) (by simp),adv_h,hx4]
  simp only [bT,nd1,wx,wy,reduceAdd,reduceEqDiff,reduceCtorEq]
  cases hs:(nd.so != 1) with
  | true =>simp only [hs,wx,wy,reduceAdd,reduceEqDiff,reduceCtorEq];exact ⟨90,K,rfl,bR.same h fr eT.adv,fun _=>rfl,.inl rfl⟩
  | false =>
  simp only [hs,wx,wy,reduceAdd,reduceEqDiff,reduceCtorEq];refine ⟨rfl,?_⟩;have hRT:=h.ext fr eT;obtain ⟨xd,xm,xa,xn,m,cT,hFe⟩:=hRT;obtain ⟨r8,s8,w1,w2⟩:=c96 (p:=p) (o:=2) (s:=Ai.adv T 9) (vs:=K.X.map Sx.av) fT.adv cT.cell rfl (cT.x.keep fun _ _=>rfl) (by rw [m002];omega);refine bO bKm ⟨r8,s8,w1,?_⟩;have e8:=eT.adv.nil_trans w2.1;have n8:=w2.1.nx;simp only [adv_nx] at n8;have hx8:s8.h s.nx=some (.cells x.av.cells 33 true true):=by rw [w2.1.h _ (by simp only [adv_nx];omega) (by simp),adv_h,hxT]
  simp only [bRc w2,wx,wy,reduceAdd,reduceEqDiff,reduceCtorEq]
  cases hc:((K.X.length:Int)==500) with
  | true =>simp only [hc,wx,wy,reduceAdd,reduceEqDiff,reduceCtorEq];exact ⟨2,K,rfl,bR.same h fr e8.adv,fun _=>rfl,.inl rfl⟩
  | false =>
  have hcl:K.X.length < 500:=by
   have:(K.X.length:Int)≠500:=by simpa using hc
   omega
  simp only [hc,wx,wy,reduceAdd,reduceEqDiff,reduceCtorEq];refine ⟨rfl,?_⟩;simp only [hx8,dG,wx,wy,reduceAdd,reduceEqDiff,reduceCtorEq];refine kB (c97 x hx) (by simp [aS]) ?_;refine mO.callD (K:=K) (F:=F) bJi e8.fr.adv ((h.ext fr e8).adv) rfl (by simp [dA,eD,aIl]) (fun s' f' h'=>bRk f' h' x (by omega)) fun s10 q10=>?_
  exact ⟨0,_,rfl,(q10.from e8.adv).adv,fun hne=>absurd rfl hne,.inr ⟨hcl,⟨hw,n1,_,B1,M1,h1,rfl,by simp only [sU,hnd];simpa using hs⟩,rfl⟩⟩)
 obtain ⟨r,s',h1,e,K',rfl,h2,h3⟩:=r;exact ⟨e,K',⟨_,s',h1,rfl,h2⟩,h3⟩
end
end
noncomputable section
def DcF (d:Dc):Prop:=d.body.fit/\d.body.wt<=2 ^ 20/\d.ps.length<=2 ^ 20/\d.ok=true
def SxF (y:Sx):Prop:=y.fit/\y.ok=true
structure ClF (c:Cl):Prop where
 d:DcF c.d
 x:SxF c.x
 w:c.x.wt<=2 ^ 20
def aWr (K K':Sk):Prop:=K'=K\/(∃ d,DcF d/\jQ K d.nm=0/\K'=(pG K d).2)\/∃ y,SxF y/\K.X.length < 500/\TB K.D y/\K'={ K with X:=K.X++[y] }
structure DoR (K:Sk) (c:Cl) (e:Int) (K':Sk):Prop where
 er:e≠0->K'=K
 kd:((c.kind=0\/c.kind=1\/c.kind=2)/\aWr K K')\/(c.kind=3/\e=(sPush K c.n).1/\K'=(sPush K c.n).2)\/((c.kind < 0\/3 < c.kind)/\e=(sPop K c.n).1/\K'=(sPop K c.n).2)
theorem XM:∀ (n:Nat) (K:Sk),(pushN n K).D=K.D/\(pushN n K).X=K.X
 | 0,K=>⟨rfl,rfl⟩
 | n+1,K=>XM n (lN K)
theorem JS:∀ (n:Nat) (K:Sk),(∀ d∈(wM n K).D,d∈K.D)/\∀ y∈(wM n K).X,y∈K.X
 | 0,K=>⟨fun _ h=>h,fun _ h=>h⟩
 | n+1,K=>⟨fun d h=>List.mem_of_mem_take ((JS n (sA K)).1 d h),fun d h=>List.mem_of_mem_take ((JS n (sA K)).2 d h)⟩
section
variable {s s':St} {p:Nat} {K K':Sk} {F:List Nat}
theorem xV.sPush (h:xV K) (n:Int):xV (sPush K n).2:=by
 refine ⟨YK h.so n,?_,?_⟩<;>(unfold Proofs.YtdehdahimkcakaaGreatDoor.sPush;cases decide (n < 0)<;>cases decide (n > 100 - (K.dm.length:Int))<;>simp only [cond_true,cond_false,XM])
 all_goals first | exact h.d | exact h.x
theorem xV.sPop (h:xV K) (n:Int):xV (sPop K n).2:=by
 refine ⟨aGf h.so n,?_,?_⟩<;>(unfold Proofs.YtdehdahimkcakaaGreatDoor.sPop;cases decide (n < 0)<;>cases decide (n > (K.dm.length:Int))<;>simp only [cond_true,cond_false])
 all_goals first | exact h.d | exact h.x | exact fun d hd=>h.d d ((JS _ _).1 d hd) | exact fun d hd=>h.x d ((JS _ _).2 d hd)
theorem xV.addR (h:xV K) (a:aWr K K'):xV K':=by
 rcases a with rfl | ⟨d,hd,_,rfl⟩ | ⟨y,hy,hl,_,rfl⟩
 ·exact h
 ·refine ⟨aGn h.so d,?_,?_⟩<;>(unfold pG;cases (K.D.length:Int)==500<;>simp only [cond_true,cond_false])
  ·intro b hb;rcases m003.1 hb with hb | hb
   ·exact h.d b hb
   ·simp only [m008] at hb;subst hb;exact hd
  ·exact h.d
  ·exact h.x
  ·exact h.x
 ·refine ⟨aRn h.so hl y,h.d,fun b hb=>?_⟩;rcases m003.1 hb with hb | hb
  ·exact h.x b hb
  ·simp only [m008] at hb;subst hb;exact hy
theorem DoR.ok {c:Cl} {e:Int} (r:DoR K c e K') (h:xV K):xV K':=by
 rcases r.kd with ⟨_,a⟩ | ⟨_,_,rfl⟩ | ⟨_,_,rfl⟩
 ·exact h.addR a
 ·exact h.sPush _
 ·exact h.sPop _
theorem ZD {nm:List UInt8} {so:Int} (hs:oW so=true) (hn:nm.length<=maxLen):DcF (tU nm so):=by
 refine ⟨⟨⟨by decide,by decide⟩,by simp,by simp,trivial⟩,?_,by simp [tU],?_⟩
 ·show mL.wt<=2 ^ 20;decide
 ·have:mL.ok=true:=by decide
  simp [Dc.ok,tU,hs,hn,this]
theorem aCa (K:Sk) {nm:List UInt8} {so:Int} (hs:oW so=true) (hn:nm.length<=maxLen):aWr K (nK K nm so).2:=by
 unfold nK;cases (decide (so < 1)||(decide (so > 3)||decide ((nm.length:Int) > 16384)))<;>cases hf:jQ K nm != 0<;>simp only [cond_true,cond_false]
 ·exact .inr (.inl ⟨tU nm so,ZD hs hn,show jQ K nm=0 by simpa using hf,rfl⟩)
 all_goals exact .inl rfl
theorem aGl {d:Dc} (h:(pG K d).1≠0):(pG K d).2=K:=by
 unfold pG at h ⊢;cases hc:((K.D.length:Int)==500)
 ·rw [hc] at h;exact absurd rfl h
 ·rfl
theorem YQ {nm:List UInt8} {so:Int} (h:(nK K nm so).1≠0):(nK K nm so).2=K:=by unfold nK at h ⊢;cases h1:(decide (so < 1)||(decide (so > 3)||decide ((nm.length:Int) > 16384)))<;>cases h2:jQ K nm != 0<;>simp only [h1,h2,cond_true,cond_false] at h ⊢;exact aGl h
theorem aAq {n:Int} (h:(sPush K n).1≠0):(sPush K n).2=K:=by unfold sPush at h ⊢;cases h1:decide (n < 0)<;>cases h2:decide (n > 100 - (K.dm.length:Int))<;>simp only [h1,h2,cond_true,cond_false] at h ⊢;exact absurd rfl h
theorem aJu {n:Int} (h:(sPop K n).1≠0):(sPop K n).2=K:=by unfold sPop at h ⊢;cases h1:decide (n < 0)<;>cases h2:decide (n > (K.dm.length:Int))<;>simp only [h1,h2,cond_true,cond_false] at h ⊢;exact absurd rfl h
theorem bGb:mEv.fz 92=false:=by kernel_rfl
theorem aYp:mEv.fz 50=false:=by kernel_rfl
theorem aYr:mEv.fz 51=false:=by kernel_rfl
theorem c47 (fr:aI s) (h:cL s p K F) (hk:xV K) (c:Cl) (hc:ClF c):∃ e K',mO 47 [.ptr p 0,c.av] s p F (.int .i64 e) K'/\DoR K c e K':=by
 have hF:=h.lt fr;have hp:=hF p h.pin;have ld:=hk.so.ld;have lm:=hk.so.lm;have lam:=hk.so.l;obtain ⟨⟨d1,d2,d3,d4⟩,⟨x1,x2⟩,xw⟩:=hc;have d5:=d4;simp only [Dc.ok,cQ,decide_eq_true_eq] at d5;have hnm:=d5.1.1.1;have hso:=d5.1.1.2
 have r:=aUp (.ptr p 0) c.av s (Q:=fun r s'=>∃ e K',r=.int .i64 e/\bR s p F K' s'/\DoR K c e K') (by
  unfold f47;refine ⟨WT c,?_⟩;obtain ⟨S,hS⟩:∃ S,S=(Ai.adv s 2).set s.nx (some (.cells c.av.cells 93 true true)):=⟨_,rfl⟩;dsimp only;rw [<- hS];have nS:S.nx=s.nx+2:=by rw [hS];rfl
  have bS:S.h s.nx=some (.cells c.av.cells 93 true true):=by rw [hS,aG]
  have kS:∀ j,j < s.nx->S.h j=s.h j:=fun j hj=>by rw [hS,aB (by omega),adv_h]
  have fS:aI S:=fun j hj=>by rw [hS,aB (by omega),adv_h];exact fr j (by omega)
  have eS:EF [] s S:=⟨by omega,fun j hj _=>kS j hj,fS⟩;simp only [bS,cl0,wx,wy,reduceAdd,reduceEqDiff,reduceCtorEq]
  cases h0:(c.kind==0) with
  | true =>simp only [h0,cl2,cl3,wx,wy,reduceAdd,reduceEqDiff,reduceCtorEq];refine (c91 (eS.adv.fr) (h.ext fr eS.adv) c.d.nm c.d.so (by omega)).call bKp fun s2 q2=>?_;exact ⟨_,_,rfl,q2.from eS.adv,YQ,.inl ⟨.inl (by simpa using h0),aCa K hso hnm⟩⟩
  | false =>
  cases h1:(c.kind==1) with
  | true =>simp only [h0,h1,bCe,wx,wy,reduceAdd,reduceEqDiff,reduceCtorEq];obtain ⟨e,K',w,w1,w2⟩:=c99 (eS.adv.fr) (h.ext fr eS.adv) hk c.d d1 d2 d3;refine w.call bKc fun s2 q2=>?_;exact ⟨_,_,rfl,q2.from eS.adv,w1,.inl ⟨.inr (.inl (by simpa using h1)),w2.imp_right fun h=>.inl ⟨c.d,⟨d1,d2,d3,d4⟩,h.1,h.2⟩⟩⟩
  | false =>
  cases h2:(c.kind==2) with
  | true =>simp only [h0,h1,h2,zN,wx,wy,reduceAdd,reduceEqDiff,reduceCtorEq];obtain ⟨e,K',w,w1,w2⟩:=c92 (eS.adv.fr) (h.ext fr eS.adv) hk c.x x1 xw;refine w.call bGb fun s2 q2=>?_;exact ⟨_,_,rfl,q2.from eS.adv,w1,.inl ⟨.inr (.inr (by simpa using h2)),w2.imp_right fun h=>.inr ⟨c.x,⟨x1,x2⟩,h⟩⟩⟩
  | false =>
  cases h3:(c.kind==3) with
  | true =>simp only [h0,h1,h2,h3,cl1,wx,wy,reduceAdd,reduceEqDiff,reduceCtorEq];refine (c50 (eS.adv.fr) (h.ext fr eS.adv) c.n lm (by omega)).call aYp fun s2 q2=>?_;exact ⟨_,_,rfl,q2.from eS.adv,aAq,.inr (.inl ⟨by simpa using h3,rfl,rfl⟩)⟩
  | false =>
   simp only [h0,h1,h2,h3,aGg,bS,cl1,wx,wy,reduceAdd,reduceEqDiff,reduceCtorEq];refine (c51 (eS.adv.fr) (h.ext fr eS.adv) hk.so c.n).call aYr fun s2 q2=>?_;refine ⟨_,_,rfl,q2.from eS.adv,aJu,.inr (.inr ⟨?_,rfl,rfl⟩)⟩;simp only [beq_eq_false_iff_ne] at h0 h1 h2 h3
   omega)
 obtain ⟨r,s',h1,e,K',rfl,h2,h3⟩:=r;exact ⟨e,K',⟨_,s',h1,rfl,h2⟩,h3⟩
end
end
noncomputable section
theorem bOc (items:List Sx) (hlen:items.length<=maxLen) (ih0:∀ s∈items,bA mEv 18 [s.av,s.av,.bool true] (.bool true)) (s0:Sx) (hc:∃ l k x p a,s0=.mk l k x p a items) (b1 b2:Nat) (e1 e2:TypeId) (Q:aE) (hQ:∀ s,Q (.bool true) s) :
  ∀ (m i:Nat) (s:St),i+m=items.length->s.h b1=some (.cells s0.av.cells e1 true true)->s.h b2=some (.cells s0.av.cells e2 true true)->zH Q (m+1) (.bool true) (.ptr b1 0) (.ptr b2 0) (.int .i64 i) s:=by
 obtain ⟨l,k,x,p,a,rfl⟩:=hc;intro m
 induction m with
 | zero =>
  intro i s hi hs1 hs2;show CS Q (zH Q 0) _ _ _ _ s;have c1:decide ((i:Int) < (items.length:Int))=false:=by simp;omega
  simp only [CS,NI,hs1,eV,oZ,eN,c1,wx,wy,reduceAdd,reduceEqDiff,reduceCtorEq];exact hQ _
 | succ m ih =>
  intro i s hi hs1 hs2;show CS Q (zH Q (m+1)) _ _ _ _ s;have c1:decide ((i:Int) < (items.length:Int))=true:=by simp;omega
  obtain ⟨y,hy⟩:∃ y,items[i]?=some y:=⟨_,m004 (by omega)⟩;have hix:=JN false items i y hy;have w1:IntKind.i64.wrap ((i:Int)+1)=((i+1:Nat):Int):=by have:maxLen=9223372036854775807:=rfl;rw [IntWalk.i64_in _ (by omega)];rfl
  simp only [CS,hs1,hs2,eV,oZ,eN,c1,hix,dG,wx,wy,reduceAdd,reduceEqDiff,reduceCtorEq];refine kB (ih0 y (m017 hy)) (by simp [aS,AV.closed]) ?_;simp only [aKl,w1,wx,wy,reduceAdd,reduceEqDiff,reduceCtorEq];exact ih (i+1) _ (by omega) (by rw [adv_h];exact hs1) (by rw [adv_h];exact hs2)
theorem bIa:∀ x:Sx,x.ok=true->bA mEv 18 [x.av,x.av,.bool true] (.bool true):=by
 refine BI fun l k t p a items ih ho=>?_;obtain ⟨h1,h2⟩:=BM ho;refine cR (aWx _ _ _ _ ?_);unfold f18;refine ⟨rfl,rfl,?_⟩;have e1:∀ i:Int,(i != i)=false:=fun i=>by simp
 have e2:∀ b:Bool,(b != b)=false:=fun b=>by cases b<;>rfl
 cases l with
 | false =>simp only [eV,bFg,e1,e2,oZ,eN,wx,wy,reduceAdd,reduceEqDiff,reduceCtorEq];exact aT rfl
 | true =>
  simp only [eV,bFg,e1,e2,oZ,eN,wx,wy,reduceAdd,reduceEqDiff,reduceCtorEq];refine ⟨items.length+1,bOc items h1 (fun s hs=>ih s hs (h2 s hs)) (Sx.mk true k t p a items) ⟨true,k,t,p,a,rfl⟩ St.empty.nx (St.empty.nx+1) 33 33 _ (fun s=>aT rfl) items.length 0 _ (by omega) ?_ ?_⟩
  ·rw [adv_h,aB (by omega),aG];rfl
  ·rw [adv_h,aG];rfl
theorem JH (i:Int):(i != i)=false:=by simp
theorem aLe (b:Bool):(b != b)=false:=by cases b<;>rfl
theorem aLi (x:List UInt8):(x != x)=false:=by simp
theorem c49 (l:List Sx) (hl:l.length<=2 ^ 20) (ho:∀ y∈l,y.ok=true):bA mEv 49 [.sl false (l.map Sx.av),.sl false (l.map Sx.av)] (.bool true):=by
 have key:∀ (Q:aE),(∀ s,Q (.bool true) s)->∀ (m i:Nat) (s:St),i+m=l.length->zE Q (m+1) (.sl false (l.map Sx.av)) (.sl false (l.map Sx.av)) (.int .i64 i) s:=by
  intro Q hQ m
  induction m with
  | zero =>
   intro i s hi;show DO Q (zE Q 0) _ _ _ s;have c1:decide ((i:Int) < (l.length:Int))=false:=by simp;omega
   simp only [DO,MB,oZ,m002,c1,wx,wy,reduceAdd,reduceEqDiff,reduceCtorEq];exact hQ _
  | succ m ih =>
   intro i s hi;show DO Q (zE Q (m+1)) _ _ _ s;have c1:decide ((i:Int) < (l.length:Int))=true:=by simp;omega
   obtain ⟨y,hy⟩:∃ y,l[i]?=some y:=⟨_,m004 (by omega)⟩;have hix:=JN false l i y hy;rw [Sx.avs_eq] at hix;simp only [DO,oZ,m002,c1,hix,dG,wx,wy,reduceAdd,reduceEqDiff,reduceCtorEq];refine kB (bIa y (ho y (m017 hy))) (by simp [aS,AV.closed]) ?_;simp only [aIy,wx,wy,reduceAdd,reduceEqDiff,reduceCtorEq];rw [bU i l.length (by omega) (by have:maxLen=9223372036854775807:=rfl;omega)];exact ih (i+1) _ (by omega)
 refine aZ rfl (aUq _ _ _ ?_);unfold f49;simp only [oZ,m002,JH,wx,wy,reduceAdd,reduceEqDiff,reduceCtorEq];exact ⟨l.length+1,key _ (fun _=>rfl) l.length 0 _ (by omega)⟩
theorem aTa (q:List UInt8×Int):Ai.part 2 true 0 (iQ q).cells=some (iQ q):=rfl
theorem bLw (q:List UInt8×Int):bn .neq 151 (iQ q) (iQ q)=some (.bool false):=by
 have hz:zero Tryz.ty 151=some (.agg [.str [],.int .i64 0]):=by kernel_rfl
 have hq:Tryz.eqOk 151=true:=by kernel_rfl
 show lK Tryz.ty Tryz.eqOk .neq 151 (.agg [.str q.1,.int .i64 q.2]) (.agg [.str q.1,.int .i64 q.2])=_;simp [lK,hq,hz,lR,mD,fZ,AV.cells]
theorem c48 (l:List Dc) (hl:l.length<=2 ^ 20) (ho:∀ d∈l,d.ok=true) (hp:∀ d∈l,d.ps.length<=2 ^ 20):bA mEv 48 [.sl false (l.map Dc.av),.sl false (l.map Dc.av)] (.bool true):=by
 have k2:∀ (Q:aE) (ih1:AV->AV->aE) (d:Dc),d.ps.length<=2 ^ 20->∀ (b1 b2 i0:Nat) (S:St),S.h b1=some (.cells d.av.cells 67 true true)->S.h b2=some (.cells d.av.cells 67 true true)->(∀ s,yN Q ih1 (.int .i64 i0) (.sl false (l.map Dc.av)) (.sl false (l.map Dc.av)) s) ->
   ∀ (m i:Nat) (s:St),i+m=d.ps.length->s.h=S.h->yU Q ih1 (m+1) (.sl false (l.map Dc.av)) (.sl false (l.map Dc.av)) (.int .i64 i0) (.ptr b1 0) (.ptr b2 0) (.int .i64 i) s:=by
  intro Q ih1 d hd b1 b2 i0 S h1 h2 hQ m
  induction m with
  | zero =>
   intro i s hi hs;show DE Q ih1 (yU Q ih1 0) _ _ _ _ _ _ s;have c1:decide ((i:Int) < (d.ps.length:Int))=false:=by simp;omega
   have g1:s.h b1=some (.cells d.av.cells 67 true true):=by rw [hs];exact h1
   simp only [DE,g1,QC,yX,m002,c1,wx,wy,reduceAdd,reduceEqDiff,reduceCtorEq];exact hQ _
  | succ m ih =>
   intro i s hi hs;show DE Q ih1 (yU Q ih1 (m+1)) _ _ _ _ _ _ s;have c1:decide ((i:Int) < (d.ps.length:Int))=true:=by simp;omega
   have g1:s.h b1=some (.cells d.av.cells 67 true true):=by rw [hs];exact h1
   have g2:s.h b2=some (.cells d.av.cells 67 true true):=by rw [hs];exact h2
   obtain ⟨y,hy⟩:∃ y,d.ps[i]?=some y:=⟨_,m004 (by omega)⟩;have hix:cB 2 (.sl false (d.ps.map iQ)) (.int .i64 (i:Int))=some (.pel (iQ y).cells 0):=by obtain ⟨hi,rfl⟩:=m012.1 hy;simp [cB,pE,wR,hi,iQ,AV.cells]
   simp only [DE,g1,g2,QC,yX,m002,c1,hix,aTa,bLw,wx,wy,reduceAdd,reduceEqDiff,reduceCtorEq];simp only [aNu,wx,wy,reduceAdd,reduceEqDiff,reduceCtorEq];rw [bU i d.ps.length (by omega) (by have:maxLen=9223372036854775807:=rfl;omega)];exact ih (i+1) _ (by omega) hs
 have key:∀ (Q:aE),(∀ s,Q (.bool true) s)->∀ (m i:Nat) (s:St),i+m=l.length->jC Q (m+1) (.sl false (l.map Dc.av)) (.sl false (l.map Dc.av)) (.int .i64 i) s:=by
  intro Q hQ m
  induction m with
  | zero =>
   intro i s hi;show DD Q (jC Q 0) _ _ _ s;have c1:decide ((i:Int) < (l.length:Int))=false:=by simp;omega
   simp only [DD,BX,GW,m002,c1,wx,wy,reduceAdd,reduceEqDiff,reduceCtorEq];exact hQ _
  | succ m ih =>
   intro i s hi;show DD Q (jC Q (m+1)) _ _ _ s;have c1:decide ((i:Int) < (l.length:Int))=true:=by simp;omega
   obtain ⟨d,hd⟩:∃ d,l[i]?=some d:=⟨_,m004 (by omega)⟩;have hix:=bCa false l i d hd
   have hz:∃ v,zr 67=some v/\v.cells.length=10:=by
    have h:(zr 67).map (fun v=>v.cells.length)=some 10:=by kernel_rfl
    obtain ⟨v,h1,h2⟩:=m022.1 h;exact ⟨v,h1,h2⟩
   obtain ⟨Z,hZ,hZl⟩:=hz;simp only [DD,GW,m002,c1,hix,iX,hZ,wx,wy,reduceAdd,reduceEqDiff,reduceCtorEq];rw [bI (id:=s.nx+8) (z:=10) (c:=Z.cells) (e:=67) (ex:=true) (v:=d.av) (by rw [adv_h];exact aG) hZl (fD d) (dP d)];simp only [Bnd_some];obtain ⟨S2,hS2⟩:∃ S,S=(Ai.adv (s.set (s.nx+8) (some (.cells Z.cells 67 true true))) 10).set (s.nx+8) (some (.cells d.av.cells 67 true true)):=⟨_,rfl⟩;rw [<- hS2];have n2:S2.nx=s.nx+10:=by rw [hS2];rfl
   rw [bI (id:=S2.nx+4) (z:=10) (c:=Z.cells) (e:=67) (ex:=true) (v:=d.av) (by rw [adv_h];exact aG) hZl (fD d) (dP d)];simp only [Bnd_some];obtain ⟨S4,hS4⟩:∃ S,S=(Ai.adv (S2.set (S2.nx+4) (some (.cells Z.cells 67 true true))) 6).set (S2.nx+4) (some (.cells d.av.cells 67 true true)):=⟨_,rfl⟩;rw [<- hS4];have g4:S4.h (S2.nx+4)=some (.cells d.av.cells 67 true true):=by rw [hS4,aG]
   have g8:S4.h (s.nx+8)=some (.cells d.av.cells 67 true true):=by rw [hS4,aB (by omega),adv_h,aB (by omega),hS2,aG]
   have hdo:=ho d (m017 hd);have hbo:d.body.ok=true:=by simp only [Dc.ok,cQ] at hdo;exact hdo.2
   simp only [g8,g4,iY,wx,wy,reduceAdd,reduceEqDiff,reduceCtorEq];refine aP (bIa d.body hbo) (by simp [aS,AV.closed]) ?_;simp only [g8,g4,dc0,dc1,VL,QC,yX,bFg,JH,aLe,aLi,wx,wy,reduceAdd,reduceEqDiff,reduceCtorEq];refine ⟨d.ps.length+1,k2 Q _ d (hp d (m017 hd)) (s.nx+8) (S2.nx+4) i S4 g8 g4 (fun s'=>?_) d.ps.length 0 _ (by omega) rfl⟩;simp only [yN,wx,wy,reduceAdd,reduceEqDiff,reduceCtorEq];rw [bU i l.length (by omega) (by have:maxLen=9223372036854775807:=rfl;omega)];exact ih (i+1) _ (by omega)
 refine aZ rfl (aVt _ _ _ ?_);unfold f48;simp only [GW,m002,JH,wx,wy,reduceAdd,reduceEqDiff,reduceCtorEq];exact ⟨l.length+1,key _ (fun _=>rfl) l.length 0 _ (by omega)⟩
end
noncomputable section
theorem BZ (L:List Sx):(AV.sl false (L.map Sx.av)).closed=true:=by simp only [AV.closed];exact eK _ _ aS
theorem bAo:mEv.fz 47=false:=by kernel_rfl
theorem YD (l:List AV) (id:Nat) (s:St):bt .len #[79] [.sl false l] id s=some (.int .i64 l.length,s):=by kernel_rfl
theorem bBf (a b:Int):bn .eql 34 (.int .i64 a) (.int .i64 b)=some (.bool (a==b)):=bin_eql
section
variable {p:Nat}
def sk0:Sk:=⟨[],[],[],[],none⟩
theorem aUu {s:St} (h:s.h p=some (.cells [.nils,.nils,.nils,.nils,.nilm] 88 true true)):cL s p sk0 [p]:=⟨.nils,.nils,.nils,.nils,.nilm,⟨h,KH,KH,KH,KH,.inl ⟨rfl,rfl⟩,by simp [aF]⟩,rfl⟩
theorem aSf:xV sk0:=⟨⟨⟨fun _ h=>(by cases h),.nil⟩,⟨fun _ h=>(by cases h),.nil⟩,rfl,by decide,by decide,by decide⟩,fun _ h=>(by cases h),fun _ h=>(by cases h)⟩
end
end
noncomputable section
structure KB (K0 K:Sk):Prop where
 d:∃ l,K.D=K0.D++l
 x:∃ l,K.X=K0.X++l
 dm:∃ l,K.dm=K0.dm++[(K0.D.length:Int)]++l
 am:∃ l,K.am=K0.am++[(K0.X.length:Int)]++l
theorem aVu (K:Sk):KB K (lN K):=⟨⟨[],by simp [lN]⟩,⟨[],by simp [lN]⟩,⟨[],by simp [lN]⟩,⟨[],by simp [lN]⟩⟩
theorem KB.pushN {K0:Sk}:∀ (n:Nat) {K:Sk},KB K0 K->KB K0 (pushN n K)
 | 0,_,h=>h
 | n+1,K,⟨h1,h2,⟨l,h3⟩,⟨m,h4⟩⟩=>KB.pushN n (K:=lN K) ⟨h1,h2,⟨l++[(K.D.length:Int)],by simp [lN,h3]⟩,⟨m++[(K.X.length:Int)],by simp [lN,h4]⟩⟩
theorem KB.addR {K0 K K':Sk} (h:KB K0 K) (a:aWr K K'):KB K0 K':=by
 obtain ⟨⟨d,hd⟩,⟨x,hx⟩,h3,h4⟩:=h;rcases a with rfl | ⟨b,_,_,rfl⟩ | ⟨y,_,_,_,rfl⟩
 ·exact ⟨⟨d,hd⟩,⟨x,hx⟩,h3,h4⟩
 ·unfold pG;cases (K.D.length:Int)==500
  ·exact ⟨⟨d++[b],by simp [hd]⟩,⟨x,hx⟩,h3,h4⟩
  ·exact ⟨⟨d,hd⟩,⟨x,hx⟩,h3,h4⟩
 ·exact ⟨⟨d,hd⟩,⟨x++[y],by simp [hx]⟩,h3,h4⟩
theorem KB.sPush {K0 K:Sk} (h:KB K0 K) (n:Int):KB K0 (sPush K n).2:=by
 unfold Proofs.YtdehdahimkcakaaGreatDoor.sPush;cases decide (n < 0)<;>cases decide (n > 100 - (K.dm.length:Int))<;>simp only [cond_true,cond_false]
 ·exact h.pushN _
 all_goals exact h
theorem KB.does {K0 K K':Sk} {c:Cl} {e:Int} (h:KB K0 K) (r:DoR K c e K') (h0:0<=c.kind) (h3:c.kind<=3):KB K0 K':=by
 rcases r.kd with ⟨_,a⟩ | ⟨_,_,rfl⟩ | ⟨hk,_,_⟩
 ·exact h.addR a
 ·exact h.sPush _
 ·omega
theorem ZC:∀ (k:Nat) (K:Sk) (A B l m:List Int) (a b:Int),EY K->l.length=k->m.length=k->K.dm=A++[a]++l->K.am=B++[b]++m ->
  (wM (k+1) K).D=K.D.take a.toNat/\(wM (k+1) K).X=K.X.take b.toNat/\(wM (k+1) K).dm=A/\(wM (k+1) K).am=B:=by
 intro k
 induction k with
 | zero =>intro K A B l m a b hk hl hm hd ha;obtain rfl:=m034 hl;obtain rfl:=m034 hm;rw [m011] at hd ha;show (sA K).D=_/\(sA K).X=_/\(sA K).dm=_/\(sA K).am=_;simp only [sA,hd,ha,eC,List.dropLast_concat,and_self]
 | succ k ih =>
  intro K A B l m a b hk hl hm hd ha
  obtain ⟨l',q,rfl⟩:∃ l' q,l=l'++[q]:=by
   rcases m061 l with h | ⟨a,b,h⟩
   ·rw [h] at hl;simp at hl
   ·exact ⟨a,b,by rw [h,List.concat_eq_append]⟩
  obtain ⟨m',r,rfl⟩:∃ l' q,m=l'++[q]:=by
   rcases m061 m with h | ⟨a,b,h⟩
   ·rw [h] at hm;simp at hm
   ·exact ⟨a,b,by rw [h,List.concat_eq_append]⟩
  obtain ⟨ms,q',ns,r',h1,h2,q1,q2,r1,r2,hk2,hpop⟩:=KU hk (fun e=>by rw [e] at hd;simp at hd);have e1:ms=A++[a]++l'/\q'=q:=by rw [hd,<- m019] at h1;have:=List.append_inj' h1 rfl;exact ⟨this.1.symm,by simpa using this.2.symm⟩
  have e2:ns=B++[b]++m'/\r'=r:=by rw [ha,<- m019] at h2;have:=List.append_inj' h2 rfl;exact ⟨this.1.symm,by simpa using this.2.symm⟩
  obtain ⟨e1,rfl⟩:=e1;obtain ⟨e2,rfl⟩:=e2;have u1:=hk.d.up;have u2:=hk.x.up;rw [hd] at u1;rw [ha] at u2;have aq:a<=q':=by rw [m019] at u1;exact List.rel_of_pairwise_cons (List.pairwise_append.1 u1).2.1 (by simp)
  have br:b<=r':=by rw [m019] at u2;exact List.rel_of_pairwise_cons (List.pairwise_append.1 u2).2.1 (by simp)
  simp only [m006,List.length_singleton] at hl hm;obtain ⟨i1,i2,i3,i4⟩:=ih (sA K) A B l' m' a b hk2 (by omega) (by omega) (by rw [hpop];exact e1) (by rw [hpop];exact e2);refine ⟨?_,?_,i3,i4⟩
  ·show (wM (k+1) (sA K)).D=_;rw [i1,hpop];show (K.D.take q'.toNat).take a.toNat=_;rw [List.take_take,qJ (by omega)]
  ·show (wM (k+1) (sA K)).X=_;rw [i2,hpop];show (K.X.take r'.toNat).take b.toNat=_;rw [List.take_take,qJ (by omega)]
theorem KB.pop {K0 K:Sk} (h:KB K0 K) (hk:EY K) (hk0:EY K0):∃ K',sPop K ((K.dm.length:Int) - (K0.dm.length:Int))=(0,K')/\K'.D=K0.D/\K'.X=K0.X/\K'.dm=K0.dm:=by
 obtain ⟨⟨d,hd⟩,⟨x,hx⟩,⟨l,h3⟩,⟨m,h4⟩⟩:=h;have hl:=hk.l;have hl0:=hk0.l;have l3:=congrArg List.length h3;have l4:=congrArg List.length h4;simp only [m006,List.length_singleton] at l3 l4;obtain ⟨p1,p2,p3,p4⟩:=ZC l.length K K0.dm K0.am l m _ _ hk rfl (by omega) h3 h4;have c1:decide (((K.dm.length:Int) - (K0.dm.length:Int)) < 0)=false:=by simp;omega
 have c2:decide (((K.dm.length:Int) - (K0.dm.length:Int)) > (K.dm.length:Int))=false:=by simp;omega
 have c3:((K.dm.length:Int) - (K0.dm.length:Int)).toNat=l.length+1:=by omega
 refine ⟨wM (l.length+1) K,?_,?_,?_,p3⟩
 ·simp only [Proofs.YtdehdahimkcakaaGreatDoor.sPop,c1,c2,c3,cond_false]
 ·rw [p1,hd];simp
 ·rw [p2,hx];simp
end
noncomputable section
section
variable {p:Nat}
theorem bQe {K0 K:Sk} {s:St} {F:List Nat} (fr:aI s) (h:cL s p K F) (hk:xV K) (hk0:xV K0) (ho:KB K0 K):GV (fun r _=>r=.bool true) (.ptr p 0) (.int .i64 K0.dm.length) (.sl false (K0.D.map Dc.av)) (.sl false (K0.X.map Sx.av)) s:=by
 unfold GV;have ld:=hk0.so.ld;have lx:=hk0.so.lx;have lm:=hk.so.lm;have lm0:=hk0.so.lm;obtain ⟨K',hp,e1,e2,e3⟩:=ho.pop hk.so hk0.so;have hk':xV K':=by have:=hk.sPop ((K.dm.length:Int) - (K0.dm.length:Int));rw [hp] at this;exact this
 refine (c46 fr.adv h.adv).call MX fun s1 q1=>?_;have q1:=(EF.refl [] fr).adv.nil_trans q1;have hw:IntKind.i64.wrap ((K.dm.length:Int) - (K0.dm.length:Int))=(K.dm.length:Int) - (K0.dm.length:Int):=IntWalk.i64_in _ (by omega);simp only [hw,wx,wy,reduceAdd,reduceEqDiff,reduceCtorEq];refine (c51 q1.fr (h.ext fr q1) hk.so ((K.dm.length:Int) - (K0.dm.length:Int))).call aYr fun s2 q2=>?_;rw [hp] at q2 ⊢;obtain ⟨F2,r2,w2,m2⟩:=q2;have e20:=(EF.refl [] w2.fr).adv (n:=5);refine aYx w2.fr.adv r2.adv hk' fun s3 q3=>?_;have q3:=e20.nil_trans q3;rw [e1];refine aP (c48 K0.D (by omega) (fun d hd=>(hk0.d d hd).2.2.2) (fun d hd=>(hk0.d d hd).2.2.1)) (by simp only [m013,m052,or_false,forall_eq_or_imp,forall_eq];exact ⟨oI K0.D,oI K0.D⟩) ?_;refine aYc q3.fr.adv (r2.ext w2.fr q3).adv hk' fun s4 q4=>?_;have q4:=q3.adv.nil_trans q4;rw [e2];refine aP (c49 K0.X (by omega) (fun d hd=>(hk0.x d hd).2)) (by simp only [m013,m052,or_false,forall_eq_or_imp,forall_eq];exact ⟨BZ K0.X,BZ K0.X⟩) ?_;have hz:((0:Int)==0)=true:=rfl;simp only [bBf,hz,wx,wy,reduceAdd,reduceEqDiff,reduceCtorEq];refine (c46 q4.fr.adv (r2.ext w2.fr q4).adv).call MX fun s5 q5=>?_;have hq:((K'.dm.length:Int)==(K0.dm.length:Int))=true:=by rw [e3];simp
 simp only [hq,wx,wy,reduceAdd,reduceEqDiff,reduceCtorEq]
theorem bQc (l:List Cl) (hl:∀ c∈l,ClF c) (hn:l.length<=maxLen) {K0:Sk} (hk0:xV K0):∀ (k i:Nat) (s:St) (F:List Nat) (K:Sk),i+k=l.length->aI s->cL s p K F->xV K->KB K0 K ->
  vI (fun r _=>r=.bool true) (k+1) (.sl false (l.map Cl.av)) (.ptr p 0) (.sl false (K0.D.map Dc.av)) (.sl false (K0.X.map Sx.av)) (.int .i64 K0.dm.length) (.int .i64 i) s:=by
 intro k
 induction k with
 | zero =>
  intro i s F K hi fr h hk ho;show tS (fun r _=>r=.bool true) (vI (fun r _=>r=.bool true) 0) _ _ _ _ _ _ s;have c1:decide ((i:Int) < (l.length:Int))=false:=by simp;omega
  simp only [tS,YD,m002,c1,wx,wy,reduceAdd,reduceEqDiff,reduceCtorEq];exact bQe fr.adv h.adv hk hk0 ho
 | succ k ih =>
  intro i s F K hi fr h hk ho;show tS (fun r _=>r=.bool true) (vI (fun r _=>r=.bool true) (k+1)) _ _ _ _ _ _ s;have c1:decide ((i:Int) < (l.length:Int))=true:=by simp;omega
  obtain ⟨c,hc⟩:∃ c,l[i]?=some c:=⟨_,m004 (by omega)⟩;have hix:=aGu false l i c hc;have nxt:∀ s' F' K',aI s'->cL s' p K' F'->xV K'->KB K0 K'->NX (fun r _=>r=.bool true) (vI (fun r _=>r=.bool true) (k+1)) (.int .i64 i) (.sl false (l.map Cl.av)) (.ptr p 0) (.sl false (K0.D.map Dc.av)) (.sl false (K0.X.map Sx.av)) (.int .i64 K0.dm.length) s':=fun s' F' K' f' h' hk' ho'=>by unfold NX;simp only [wx,wy,reduceAdd,reduceEqDiff,reduceCtorEq];rw [bU i l.length (by omega) hn];exact ih (i+1) _ F' K' (by omega) f'.adv h'.adv hk' ho'
  cases g0:decide (c.kind >= 0) with
  | false =>simp only [tS,YD,m002,c1,hix,cl0,g0,wx,wy,reduceAdd,reduceEqDiff,reduceCtorEq];exact nxt _ _ _ fr.adv h.adv hk ho
  | true =>
  cases g3:decide (c.kind<=3) with
  | false =>simp only [tS,YD,m002,c1,hix,cl0,g0,g3,wx,wy,reduceAdd,reduceEqDiff,reduceCtorEq];exact nxt _ _ _ fr.adv h.adv hk ho
  | true =>simp only [tS,YD,m002,c1,hix,cl0,g0,g3,mJ,wx,wy,reduceAdd,reduceEqDiff,reduceCtorEq];obtain ⟨e,K',w1,w2⟩:=c47 fr.adv h.adv hk c (hl c (m017 hc));refine w1.call bAo fun s4 q4=>?_;obtain ⟨F4,r4,e4,m4⟩:=q4;exact nxt _ _ _ e4.fr r4 (w2.ok hk) (ho.does w2 (of_decide_eq_true g0) (of_decide_eq_true g3))
theorem bOu (l:List Cl) (hl:∀ c∈l,ClF c) (hn:l.length<=maxLen) (n:Nat) (hnl:n<=l.length):∀ (k i:Nat) (s:St) (F:List Nat) (K:Sk),i+k=n->aI s->cL s p K F->xV K ->
  yK (fun r _=>r=.bool true) (k+1) (.sl false (l.map Cl.av)) (.int .i64 n) (.ptr p 0) (.int .i64 i) s:=by
 intro k
 induction k with
 | zero =>
  intro i s F K hi fr h hk;show DJ (fun r _=>r=.bool true) (yK (fun r _=>r=.bool true) 0) _ _ _ _ s;have c1:decide ((i:Int) < (n:Int))=false:=by simp;omega
  have ld:=hk.so.ld;have lm:=hk.so.lm;have lam:=hk.so.l;simp only [DJ,PV,c1,wx,wy,reduceAdd,reduceEqDiff,reduceCtorEq];have e0:EF [] s (Ai.adv s 6):=(EF.refl [] fr).adv;refine aYx e0.fr (h.ext fr e0) hk fun s1 q1=>?_;have q1:=e0.nil_trans q1;refine aYc q1.fr.adv (h.ext fr q1).adv hk fun s2 q2=>?_;have q2:=q1.adv.nil_trans q2;refine (c46 q2.fr.adv (h.ext fr q2).adv).call MX fun s3 q3=>?_;have q3:=q2.adv.nil_trans q3;refine (c50 q3.fr.adv (h.ext fr q3).adv 1 lm (by omega)).call aYp fun s4 q4=>?_;obtain ⟨F4,r4,e4,m4⟩:=q4;have c0:decide ((1:Int) < 0)=false:=rfl
  cases c2:decide ((1:Int) > 100 - (K.dm.length:Int)) with
  | true =>
   have h2:((2:Int) != 0)=true:=rfl;have h3:((2:Int)==2)=true:=rfl;have h4:((K.dm.length:Int)==100)=true:=by have:=of_decide_eq_true c2;simp;omega
   simp only [sPush,c0,c2,cond_true,cond_false,aYj,bBf,h2,h3,h4,wx,wy,reduceAdd,reduceEqDiff,reduceCtorEq]
  | false =>have h2:((0:Int) != 0)=false:=rfl;simp only [sPush,c0,c2,cond_true,cond_false] at r4;simp only [sPush,c0,c2,cond_true,cond_false,aYj,h2,wx,wy,reduceAdd,reduceEqDiff,reduceCtorEq];have hk1:=hk.sPush 1;simp only [sPush,c0,c2,cond_true,cond_false] at hk1;exact ⟨(l.length - n)+1,bQc l hl hn hk (l.length - n) n _ F4 (lN K) (by omega) e4.fr.adv r4.adv hk1 (aVu K)⟩
 | succ k ih =>
  intro i s F K hi fr h hk;show DJ (fun r _=>r=.bool true) (yK (fun r _=>r=.bool true) (k+1)) _ _ _ _ s;have c1:decide ((i:Int) < (n:Int))=true:=by simp;omega
  obtain ⟨c,hc⟩:∃ c,l[i]?=some c:=⟨_,m004 (by omega)⟩;have hix:=aGu false l i c hc;simp only [DJ,aHz,hix,mJ,c1,wx,wy,reduceAdd,reduceEqDiff,reduceCtorEq];obtain ⟨e,K',w1,w2⟩:=c47 fr.adv h.adv hk c (hl c (m017 hc));refine w1.call bAo fun s4 q4=>?_;obtain ⟨F4,r4,e4,m4⟩:=q4;rw [bU i l.length (by omega) hn];exact ih (i+1) _ F4 K' (by omega) e4.fr.adv r4.adv (w2.ok hk)
theorem c12 (l:List Cl) (hl:∀ c∈l,ClF c) (hn:l.length<=maxLen) (ho:∀ c∈l,c.ok=true) (n:Int):∃ s',WideC mEv 12 [.sl false (l.map Cl.av),.int .i64 n] St.empty (.bool true) s':=by
 have h:=aWw (.sl false (l.map Cl.av)) (.int .i64 n) St.empty (Q:=fun r _=>r=.bool true) (by
  have hcl:(AV.sl false (l.map Cl.av)).closed=true:=by simp only [AV.closed];exact eK _ _ ZU
  unfold f12;refine aP aVh (by simp) ?_;simp only [wx,wy,reduceAdd,reduceEqDiff,reduceCtorEq];refine aP (bDg false l ho) (by simp [hcl]) ?_
  cases hf:bDh l with
  | false=>simp only [wx,wy,reduceAdd,reduceEqDiff,reduceCtorEq]
  | true =>
  cases c1:decide (n < 0) with
  | true=>simp only [c1,wx,wy,reduceAdd,reduceEqDiff,reduceCtorEq]
  | false =>
  cases c2:decide (n > (l.length:Int)) with
  | true=>simp only [c1,c2,YD,m002,wx,wy,reduceAdd,reduceEqDiff,reduceCtorEq]
  | false =>
   have hb:lV 88 []=some (.agg [.nils,.nils,.nils,.nils,.nilm]):=by rw [bRd];rfl
   have hc0:(AV.agg [AV.nils,AV.nils,AV.nils,AV.nils,.nilm]).cells=[.nils,.nils,.nils,.nils,.nilm]:=rfl;simp only [c1,c2,YD,m002,hb,hc0,wx,wy,reduceAdd,reduceEqDiff,reduceCtorEq];refine ⟨rfl,?_⟩
   have hnn:((n.toNat:Nat):Int)=n:=by
    have:¬ (n < 0):=by simpa using c1
    omega
   have hnl:n.toNat<=l.length:=by
    have:¬ (n > (l.length:Int)):=by simpa using c2
    omega
   refine ⟨n.toNat+1,?_⟩;rw [<- hnn];refine bOu l hl hn n.toNat hnl n.toNat 0 _ [St.empty.nx+23] sk0 (by omega) (fun j hj=>?_) (aUu aG).adv aSf;have hj:St.empty.nx+26<=j:=hj;rw [adv_h,aB (by omega)]
   exact jF j (by omega))
 obtain ⟨r,s',h1,h2⟩:=h;subst h2;exact ⟨s',h1⟩
end
end
noncomputable section
section
variable {H:Type}
theorem aKc:lH Tryz.ty 67=some [9,3,4,65,33]:=by kernel_rfl
theorem aLk:lH Tryz.ty 93=some [3,3,67,33]:=by kernel_rfl
theorem FP:lH Tryz.ty 151=some [9,3]:=by kernel_rfl
theorem bJb (n:Nat) (d:DataW H) (h:TyD Tryz.ty n 151 d):∃ p:List UInt8×Int,dAV d=iQ p:=by
 obtain ⟨m,l,rfl,rfl,hl,hf⟩:=h.struct FP
 match l,hl with
 | [d0,d1],_ =>
 obtain ⟨x,rfl,_⟩:=(hf 0 9 d0 rfl rfl).str (by kernel_rfl);obtain ⟨a,rfl,_⟩:=(hf 1 3 d1 rfl rfl).int (k:=.i64) (by kernel_rfl);exact ⟨(x,a),rfl⟩
theorem aWt {α:Type} {f:α->AV} {p:DataW H->Prop} (h:∀ d,p d->∃ a,dAV d=f a) (l:List (DataW H)) (hl:∀ d∈l,p d):∃ bs:List α,zS l=bs.map f/\bs.length=l.length:=by
 induction l with
 | nil=>exact ⟨[],rfl,rfl⟩
 | cons d l ih =>obtain ⟨a,ha⟩:=h d (hl d (m007 ..));obtain ⟨bs,h1,h2⟩:=ih fun x hx=>hl x (m005 _ hx);exact ⟨a::bs,by simp only [zS,ha,h1,m039],by simp [h2]⟩
end
end
noncomputable section
mutual
def Sx.bk:Sx->Nat
 | .mk _ _ t _ _ items=>1+t.length+Sx.bks items
def Sx.bks:List Sx->Nat
 | []=>0
 | s::l=>s.bk+Sx.bks l
end
section
variable {H:Type}
theorem aRd {T:Ty} {e t:TypeId} {n:Nat} {d:DataW H} (h:aFn T t=some e) (hd:TyD T n t d):∃ (m:Nat) (l:List (DataW H)),n=m+1/\dAV d=.sl false (zS l)/\l.length<=maxLen/\(∀ x∈l,TyD T m e x)/\Rows.uptoBulkAll l<=Rows.uptoBulk d:=by
 cases n with
 | zero=>exact hd.elim
 | succ m =>
  unfold aFn at h;unfold TyD at hd
  split at h
  ·rename_i hu;rw [hu] at hd;cases h;rcases hd with rfl | ⟨l,r,rfl,h1,h2⟩
   ·exact ⟨m,[],rfl,rfl,by simp,(fun _ h=>by cases h),by simp [Rows.uptoBulkAll]⟩
   ·exact ⟨m,l,rfl,rfl,h1,h2,by simp only [Rows.uptoBulk];omega⟩
  ·cases h
theorem WO:∀ (n:Nat) (d:DataW H),TyD Tryz.ty n 33 d->∃ s:Sx,dAV d=s.av/\s.ok=true/\s.bk<=Rows.uptoBulk d:=by
 intro n
 induction n using Nat.strongRecOn with
 | ind n ih =>
 intro d hd;obtain ⟨m,l,rfl,rfl,hl,hf⟩:=hd.struct aMm
 match l,hl with
 | [d0,d1,d2,d3],_ =>
 obtain ⟨b,rfl⟩:=(hf 0 4 d0 rfl rfl).bool (by kernel_rfl);obtain ⟨m1,l1,rfl,rfl,hl1,hf1⟩:=(hf 1 30 d1 rfl rfl).struct aHm;obtain ⟨a,rfl,ha⟩:=(hf 2 3 d2 rfl rfl).int (k:=.i64) (by kernel_rfl);obtain ⟨m2,its,hm,hv,hlen,hel,hbk⟩:=aRd (e:=33) (by kernel_rfl) (hf 3 31 d3 rfl rfl)
 match l1,hl1 with
 | [e0,e1,e2],_ =>
 obtain ⟨k,rfl,hk⟩:=(hf1 0 3 e0 rfl rfl).int (k:=.i64) (by kernel_rfl);obtain ⟨x,rfl,hx⟩:=(hf1 1 9 e1 rfl rfl).str (by kernel_rfl);obtain ⟨p,rfl,hp⟩:=(hf1 2 3 e2 rfl rfl).int (k:=.i64) (by kernel_rfl)
 have:∀ l:List (DataW H),(∀ x∈l,TyD Tryz.ty m2 33 x)->∃ is:List Sx,zS l=Sx.avs is/\is.length=l.length/\Sx.oks is=true/\Sx.bks is<=Rows.uptoBulkAll l:=by
  intro l
  induction l with
  | nil=>intro _;exact ⟨[],rfl,rfl,rfl,bJ _⟩
  | cons y l ihl =>intro hy;obtain ⟨s,hs,ho,hb⟩:=ih m2 (by omega) y (hy y (m007 ..));obtain ⟨is,h1,h2,h3,h4⟩:=ihl fun x hx=>hy x (m005 _ hx);exact ⟨s::is,by simp only [zS,Sx.avs,hs,h1],by simp [h2],by simp only [Sx.oks,ho,h3,iR],by simp only [Sx.bks,Rows.uptoBulkAll];omega⟩
 obtain ⟨is,h1,h2,h3,h4⟩:=this its hel;refine ⟨.mk b k x p a is,?_,?_,?_⟩
 ·simp only [dAV,CM,AV.cells,hv,List.cons_append,List.nil_append,m011,Sx.av,h1]
 ·simp only [Sx.ok,oW,hk,hx,hp,ha,h2,hlen,h3,decide_true,iR]
 ·simp only [Sx.bk,Rows.uptoBulk,Rows.uptoBulkAll];omega
def Dc.bk (d:Dc):Nat:=d.ps.length+d.nm.length+d.body.bk+1
theorem aUn (n:Nat) (d:DataW H) (h:TyD Tryz.ty n 151 d):1<=Rows.uptoBulk d:=by obtain ⟨m,l,rfl,rfl,hl,hf⟩:=h.struct FP;simp only [Rows.uptoBulk];omega
theorem aSy (n:Nat) (d:DataW H) (h:TyD Tryz.ty n 67 d):∃ c:Dc,dAV d=c.av/\c.ok=true/\c.bk<=Rows.uptoBulk d:=by
 obtain ⟨m,l,rfl,rfl,hl,hf⟩:=h.struct aKc
 match l,hl with
 | [d0,d1,d2,d3,d4],_ =>
 obtain ⟨x,rfl,hx⟩:=(hf 0 9 d0 rfl rfl).str (by kernel_rfl);obtain ⟨a,rfl,ha⟩:=(hf 1 3 d1 rfl rfl).int (k:=.i64) (by kernel_rfl);obtain ⟨b,rfl⟩:=(hf 2 4 d2 rfl rfl).bool (by kernel_rfl);obtain ⟨m2,its,hm,hv,hlen,hel,hbk⟩:=aRd (e:=151) (by kernel_rfl) (hf 3 65 d3 rfl rfl);obtain ⟨s,hs,ho,hb⟩:=WO m d4 (hf 4 33 d4 rfl rfl);obtain ⟨ps,h1,h2⟩:=aWt (f:=iQ) (fun d h=>bJb m2 d h) its hel
 have hlb:∀ l:List (DataW H),(∀ x∈l,TyD Tryz.ty m2 151 x)->l.length<=Rows.uptoBulkAll l:=by
  intro l
  induction l with
  | nil=>intro _;exact bJ _
  | cons y l ihl =>intro hy;have h1:=aUn m2 y (hy y (m007 ..));have h2:=ihl fun x hx=>hy x (m005 _ hx);simp only [List.length_cons,Rows.uptoBulkAll];omega
 have hlb:=hlb its hel;refine ⟨⟨x,a,b,ps,s⟩,?_,?_,?_⟩
 ·simp only [dAV,CM,AV.cells,hv,h1,hs,List.cons_append,List.nil_append,m011];rfl
 ·simp only [Dc.ok,oW,hx,ha,h2,hlen,ho,decide_true,iR]
 ·simp only [Dc.bk,Rows.uptoBulk,Rows.uptoBulkAll];omega
end
mutual
theorem SI:∀ (s:Sx),s.ok=true->s.bk<=2 ^ 20->s.fit/\s.wt<=s.bk
 | .mk b k x p a items,ho,h=>by
  simp only [Sx.bk] at h;simp only [Sx.ok,oW,cQ,decide_eq_true_eq] at ho;obtain ⟨f1,f2,f3⟩:=XJ items ho.2 (by omega);refine ⟨⟨?_,by omega,by omega,f1⟩,?_⟩
  ·have h1:=ho.1.1.1.1.1;simp only [Lit.wf,cQ,decide_eq_true_eq] at h1;exact h1
  ·simp only [Sx.wt,Sx.bk];omega
theorem XJ:∀ (l:List Sx),Sx.oks l=true->Sx.bks l<=2 ^ 20->Sx.fits l/\Sx.wts l<=Sx.bks l/\l.length<=Sx.bks l
 | [],_,_=>⟨trivial,bJ _,bJ _⟩
 | s::l,ho,h=>by
  simp only [Sx.bks] at h;simp only [Sx.oks,cQ] at ho;obtain ⟨f1,f2⟩:=SI s ho.1 (by omega);obtain ⟨g1,g2,g3⟩:=XJ l ho.2 (by omega);have hp:1<=s.bk:=by cases s;simp only [Sx.bk];omega
  exact ⟨⟨f1,g1⟩,by simp only [Sx.wts,Sx.bks];omega,by simp only [List.length_cons,Sx.bks];omega⟩
end
end
noncomputable section
section
variable {H:Type}
theorem aUv (n:Nat) (d:DataW H) (h:TyD Tryz.ty n 93 d) (hb:Rows.uptoBulk d<=2 ^ 20):∃ c:Cl,dAV d=c.av/\c.ok=true/\ClF c:=by
 obtain ⟨m,l,rfl,rfl,hl,hf⟩:=h.struct aLk
 match l,hl with
 | [d0,d1,d2,d3],_ =>
 obtain ⟨k,rfl,hk⟩:=(hf 0 3 d0 rfl rfl).int (k:=.i64) (by kernel_rfl);obtain ⟨a,rfl,ha⟩:=(hf 1 3 d1 rfl rfl).int (k:=.i64) (by kernel_rfl);obtain ⟨c,hc,hco,hcb⟩:=aSy m d2 (hf 2 67 d2 rfl rfl);obtain ⟨s,hs,ho,hsb⟩:=WO m d3 (hf 3 33 d3 rfl rfl);simp only [Rows.uptoBulk,Rows.uptoBulkAll] at hb;have hbk:c.bk=c.ps.length+c.nm.length+c.body.bk+1:=rfl;have hbo:c.body.ok=true:=by have:=hco;simp only [Dc.ok,cQ] at this;exact this.2
 obtain ⟨f1,f2⟩:=SI s ho (by omega);obtain ⟨g1,g2⟩:=SI c.body hbo (by omega);refine ⟨⟨k,a,c,s⟩,?_,?_,⟨⟨g1,?_,?_,hco⟩,⟨f1,ho⟩,?_⟩⟩
 ·simp only [dAV,CM,hc,hs,m011];rfl
 ·simp only [Cl.ok,oW,hk,ha,hco,ho,iR]
 ·show c.body.wt<=2 ^ 20;omega
 ·show c.ps.length<=2 ^ 20;omega
 ·show s.wt<=2 ^ 20;omega
theorem cls_bulk (n:Nat) (d:DataW H) (h:TyD Tryz.ty n 79 d) (hb:Rows.uptoBulk d<=2 ^ 20):∃ L:List Cl,dAV d=.sl false (L.map Cl.av)/\L.length<=maxLen/\(∀ c∈L,c.ok=true)/\∀ c∈L,ClF c:=by
 obtain ⟨m,its,hm,hv,hlen,hel,hbk⟩:=aRd (e:=93) (by kernel_rfl) h
 have:∀ l:List (DataW H),(∀ x∈l,TyD Tryz.ty m 93 x)->Rows.uptoBulkAll l<=2 ^ 20->∃ L:List Cl,zS l=L.map Cl.av/\L.length=l.length/\(∀ c∈L,c.ok=true)/\∀ c∈L,ClF c:=by
  intro l
  induction l with
  | nil=>intro _ _;exact ⟨[],rfl,rfl,(fun _ h=>by cases h),fun _ h=>by cases h⟩
  | cons y l ihl =>
   intro hy hl;simp only [Rows.uptoBulkAll] at hl;obtain ⟨c,hc,ho,hf⟩:=aUv m y (hy y (m007 ..)) (by omega);obtain ⟨L,h1,h2,h3,h4⟩:=ihl (fun x hx=>hy x (m005 _ hx)) (by omega);refine ⟨c::L,by simp only [zS,hc,h1,m039],by simp [h2],?_,?_⟩
   ·intro x hx;rcases m013.1 hx with rfl | hx
    ·exact ho
    ·exact h3 x hx
   ·intro x hx;rcases m013.1 hx with rfl | hx
    ·exact hf
    ·exact h4 x hx
 obtain ⟨L,h1,h2,h3,h4⟩:=this its hel (by omega);exact ⟨L,by rw [hv,h1],by omega,h3,h4⟩
end
end
end Go.Proofs.YtdehdahimkcakaaGreatDoor
