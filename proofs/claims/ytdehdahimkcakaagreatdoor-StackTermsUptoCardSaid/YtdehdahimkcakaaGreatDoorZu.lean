/- Texts joined by wip/tools/pack.py: Kh,Ki,Kj,Ar,Ap,Km,Kn,Ko. -/
import Derived.Test.YtdehdahimkcakaaGreatDoorZt
open Nat renaming reduceAdd→Z0, reduceEqDiff→Z1
set_option linter.unusedSimpArgs false
set_option linter.unusedVariables false
set_option maxHeartbeats 4000000
set_option maxRecDepth 100000
namespace Go.Proofs.YtdehdahimkcakaaGreatDoor
open Go Ai
noncomputable section
def bV (l:List Int):Int:=l.getLast?.getD 0
theorem z67:∃ v,zr 67=some v/\v.cells.length=10/\v.cells.all AV.one=true/\dC v.cells=[]/\v=.agg v.cells:=by
 have h:(zr 67)=some (.agg [.str [],.int .i64 0,.bool false,.nils,.bool false,.int .i64 0,.str [],.int .i64 0,.int .i64 0,.nils]):=by kernel_rfl
 exact ⟨_,h,rfl,rfl,rfl,rfl⟩
theorem z33:∃ v,zr 33=some v/\v.cells.length=6/\v.cells.all AV.one=true/\dC v.cells=[]/\v=.agg v.cells:=by
 have h:(zr 33)=some (.agg [.bool false,.int .i64 0,.str [],.int .i64 0,.int .i64 0,.nils]):=by kernel_rfl
 exact ⟨_,h,rfl,rfl,rfl,rfl⟩
theorem bIe (l:List Int):(l.map dE).flatMap AV.cells=l.map dE:=by
 induction l with
 | nil=>rfl
 | cons a l ih=>simp only [m039,m024,ih];rfl
theorem aPm (l:List Int) (i:Nat) (c:Int) (h:l[i]?=some c):cQ 1 (.sl false (l.map dE)) (.int .i64 (i:Int))=some (.pel [.int .i64 c] 0):=by obtain ⟨hi,rfl⟩:=m012.1 h;simp [cQ,pW,xI,hi,dE,AV.cells]
theorem eP (l:List Int) (q:Int):bV (l++[q])=q:=by simp [bV]
theorem XN {s V:St} {p:Nat} {K':Sk} {xd xm xa xn m xd' xm' xa' xn' m':AV} (cV:gE V p K' xd' xm' xa' xn' m') (hn:s.nx<=V.nx) (hE:∀ y,y < s.nx->y≠p->y ∉ aN xd xm xa xn m->V.h y=s.h y) (hfr:aI V) (hB:∀ j∈aN xd' xm' xa' xn' m',s.nx<=j\/j∈aN xd xm xa xn m):bY s p (p::aN xd xm xa xn m) K' V:=by
 refine ⟨_,⟨_,_,_,_,_,cV,rfl⟩,⟨hn,fun j hj hm=>?_,hfr⟩,fun j hj=>?_⟩
 ·simp only [m013,not_or] at hm;exact hE j hj hm.1 hm.2
 ·rcases m013.1 hj with rfl | hj
  ·exact .inl (m007 ..)
  ·exact (hB j hj).elim .inr fun h=>.inl (m005 _ h)
theorem aKd {t e:TypeId} {z b:Nat} {ag:Bool} {s:St} {x:AV} {vs:List AV} (h:eR t e z ag b) {v:AV} (g:Jw e z s x (vs++[v])) :
  ∃ i,aE x=[i]/\∀ S:St,S.h i=s.h i->mF t x none (some (.int .i64 (vs.length:Int))) none S=some (.ref i 0 vs.length none e)/\Jw e z S (.ref i 0 vs.length none e) vs:=by
 obtain ⟨h1,⟨rfl,h2⟩ | ⟨i,junk,m,rfl,h2,h3,h4⟩⟩:=g
 ·exact absurd h2 (by simp)
 ·have hv:=h1 v (m049 _ (m008.2 rfl));have h1':∀ u∈vs,EvA z u:=fun u hu=>h1 u (m041 _ hu);have hfl:=dP (vs:=vs) (fun u hu=>⟨(h1' u hu).1,(h1' u hu).2.1⟩);have hc:(vs++[v]).flatMap AV.cells++junk=vs.flatMap AV.cells++(v.cells++junk):=by simp
  rw [hc] at h2;have hlen:(vs.flatMap AV.cells++(v.cells++junk)).length=vs.length * z+(z+m * z):=by rw [m006,m006,hfl,hv.1,h3]
  refine ⟨i,rfl,fun S hS=>?_⟩;rw [h2] at hS;refine ⟨DD h hS (by rw [hlen,m006,List.length_singleton,pC,GH];omega) ?_ .i64,h1',.inr ⟨i,v.cells++junk,m+1,rfl,hS,by rw [m006,hv.1,h3,pV];omega,by rw [vI,jR (kX hv.2.2),h4];rfl⟩⟩;rw [Nat.le_div_iff_mul_le h.pos,hlen];omega
theorem YT {s:St} {x:AV} {l:List Int} (g:Jw 3 1 s x (l.map dE)) (k:Nat):pur mEv.P s (k+1) x=some (.sl false (l.map dE),aE x):=by
 obtain ⟨h1,⟨rfl,h⟩ | ⟨i,junk,m,rfl,hs,h3,h4⟩⟩:=g
 ·rw [h];rfl
 ·have hl:eU mEv.P 3=some (1,false):=by kernel_rfl
  have hnc:(AV.ref i 0 (l.map dE).length none 3).closed=false:=rfl;have hfm:=bIe l;unfold pur;rw [hnc,if_neg (by simp)];have hp:=iD (s:=s) k (fA dE l fun _=>rfl);simp only [hs,hl,hfm,m023,pS,m048];rw [if_pos ⟨by simp,by decide⟩,List.take_left,hp];simp only [Option.bind_some,m026];have hn:(l.map dE).all iQ=true:=by simp [List.all_map,Function.comp_def,dE,iQ]
  rw [hn];rfl
theorem xB {f:AV->Option (AV×List Nat)}:∀ (l:List AV) (i:Nat) (x:AV) (a:AV) (ids:List Nat),l[i]?=some x->f x=some (a,ids)->(hO f l).1[i]?=some a:=by
 intro l
 induction l with
 | nil=>intro i x a ids h;cases h
 | cons y l ih =>
  intro i x a ids h hf
  cases i with
  | zero =>simp only [List.getElem?_cons_zero,m000] at h;subst h;simp only [hO,hf,List.getElem?_cons_zero]
  | succ i =>simp only [List.getElem?_cons_succ] at h;have:=ih i x a ids h hf;simp only [hO];cases f y<;>simpa using this
section
variable {s s':St} {p:Nat} {K:Sk} {F:List Nat} {xd xm xa xn m:AV}
theorem bRf (C:List AV) (l:List Int) (h:C[1]?=some (.sl false (l.map dE))) (hl:l.length<=2 ^ 20):bE mEv 224 [.pel C 0] (.int .i64 (bV l)):=by
 refine bA rfl (aGc _ _ ?_);unfold f224;simp only [aXv,wx,wy,Z0,Z1,reduceCtorEq];refine ⟨rfl,?_⟩;simp only [h,QD,m002,wx,wy,Z0,Z1,reduceCtorEq];rcases m061 l with rfl | ⟨l',q,rfl⟩
 ·simp [bV]
 ·rw [List.concat_eq_append] at *;have h1:((((l'++[q]).length:Nat):Int)==0)=false:=by simp;omega
  have h2:IntKind.i64.wrap ((((l'++[q]).length:Nat):Int) - 1)=((l'.length:Nat):Int):=by rw [m006,List.length_singleton] at *;rw [IntWalk.i64_in _ (by omega)];omega
  have h3:=aPm (l'++[q]) l'.length q (by simp);simp only [h1,h2,h3,eP,m015,if_false,wx,wy,Z0,Z1,reduceCtorEq];exact ⟨rfl,rfl⟩
theorem bFi (fr:aI s) (h:cN s p K F) (hf0:0<=bV K.dm) (hf:bV K.dm<=(K.D.length:Int)) (hm:K.dm.length<=2 ^ 20) (hl:K.D.length<=2 ^ 20) :
  ∃ v,v.cells.length=10/\v.cells.all AV.one=true/\v=.agg v.cells/\mW 196 [.ptr p 0] s p F (.tup [v,.bool !((K.D.length:Int)==bV K.dm)]) (bif (K.D.length:Int)==bV K.dm then K else { K with D:=K.D.dropLast }):=by
 have hF:=h.lt fr;have hp:=hF p h.pin;have h0:=h;obtain ⟨xd,xm,xa,xn,m,c,rfl⟩:=h;obtain ⟨Z,hZ,zl,zo,zi,za⟩:=z67
 have r:=aMu (.ptr p 0) s (Q:=fun r s'=>∃ v,v.cells.length=10/\v.cells.all AV.one=true/\v=.agg v.cells/\r=.tup [v,.bool !((K.D.length:Int)==bV K.dm)]/\bY s p (p::aN xd xm xa xn m) (bif (K.D.length:Int)==bV K.dm then K else { K with D:=K.D.dropLast }) s') (by
  unfold f196;obtain ⟨S,hS⟩:∃ S,S=Ai.adv ((s.set s.nx (some (.cells Z.cells 67 true true))).set (s.nx+2) (some (.cells Z.cells 67 true true))) 15:=⟨_,rfl⟩;have nS:S.nx=s.nx+15:=by rw [hS];rfl
  have kS:∀ j,j < s.nx->S.h j=s.h j:=fun j hj=>by rw [hS,adv_h,aB (by omega),aB (by omega)]
  have b0:S.h s.nx=some (.cells Z.cells 67 true true):=by rw [hS,adv_h,aB (by omega),aF]
  have b2:S.h (s.nx+2)=some (.cells Z.cells 67 true true):=by rw [hS,adv_h,aF]
  have fS:aI S:=fun j hj=>by rw [hS,adv_h,aB (by omega),aB (by omega)];exact fr j (by omega)
  have cS:gE S p K xd xm xa xn m:=c.keep fun j hj=>kS j (hF j hj);have q1:¬ (p=s.nx):=by omega
  have q2:¬ (p=s.nx+2):=by omega
  have hlen:=bPd c.d;rw [m002] at hlen;simp only [hZ,AT,wx,wy,Z0,Z1,reduceCtorEq];refine ⟨rfl,?_⟩;simp only [c.cell,q1,q2,if_false,hlen,wx,wy,Z0,Z1,reduceCtorEq];rw [<- hS];have hR:cN S p K (p::aN xd xm xa xn m):=⟨_,_,_,_,_,cS,rfl⟩;have hrc:=hR.rch (vs:=[.fn 224 [] [],.ptr p 0]) rfl;obtain ⟨l,hl0⟩:∃ l,l=rch S [.fn 224 [] [],.ptr p 0]:=⟨_,rfl⟩;rw [<- hl0] at hrc ⊢;have cO:gE (S.only l) p K xd xm xa xn m:=cS.keep fun j hj=>by rw [jZ,if_pos ((hrc j).2 hj)]
  have hpp:pur mEv.P (S.only l) 12 (.ptr p 0)=some (.pel (hO (pur mEv.P (S.only l) 11) [xd,xm,xa,xn,m]).1 0,p::(hO (pur mEv.P (S.only l) 11) [xd,xm,xa,xn,m]).2):=by unfold pur;rw [if_neg (by simp [AV.closed])];simp only [cO.cell]
  have hC:(hO (pur mEv.P (S.only l) 11) [xd,xm,xa,xn,m]).1[1]?=some (.sl false (K.dm.map dE)):=xB _ 1 xm _ _ rfl (YT cO.dm 10);refine .mk [_] _ _ (by simp only [dN,hpp];rfl) (bRf _ K.dm hC hm) (by simp [AV.flat]) ?_;have pz:Ai.part 10 true 0 Z.cells=some Z:=by unfold Ai.part;rw [if_pos rfl,if_pos (by omega),m048,m014 (by omega),<- za]
  cases hq:((K.D.length:Int)==bV K.dm) with
  | true =>
   simp only [hq,b2,pz,wx,wy,Z0,Z1,reduceCtorEq];rw [bJ (id:=s.nx) (z:=10) (c:=Z.cells) (e:=67) (ex:=true) (v:=Z) (by rw [adv_h,b0]) zl zl zo];simp only [Bnd_some,aF,pz,wx,wy,Z0,Z1,reduceCtorEq];refine ⟨Z,zl,zo,za,rfl,bY.same h0 fr ⟨?_,fun j hj _=>?_,fun j hj=>?_⟩⟩
   ·simp only [set_nx,adv_nx];omega
   ·rw [adv_h,aB (by omega),kS j hj]
   ·simp only [set_nx,adv_nx] at hj;rw [adv_h,aB (by omega)];exact fS j (by omega)
  | false =>
   have hne:K.D≠[]:=fun e=>by
    rw [e] at hq hf;have:(bV K.dm)=0:=by simp at hf;omega
    rw [this] at hq;simp at hq
   obtain ⟨D',d,hD⟩:∃ D' d,K.D=D'++[d]:=by
    rcases m061 K.D with h | ⟨D',d,h⟩
    ·exact absurd h hne
    ·exact ⟨D',d,by rw [h,List.concat_eq_append]⟩
   have hDl:K.D.length=D'.length+1:=by rw [hD];simp
   have hsub:IntKind.i64.wrap ((K.D.length:Int) - 1)=((D'.length:Nat):Int):=by rw [IntWalk.i64_in _ (by omega)];omega
   have gS:Jw 67 10 S xd (D'.map Dc.av++[Dc.av d]):=by have:=cS.d;rw [hD,m038] at this;exact this
   obtain ⟨i,hi1,hxd,⟨c',hc1,hc2,hc3⟩,_⟩:=KM US gS (w:=Z) ⟨zl,zo,zi⟩;rw [m002] at hxd hc2 hc3;have hix:cQ 10 xd (.int .i64 (D'.length:Int))=some (.ptr i (D'.length * 10)):=by have:=oZ (e:=67) (z:=10) (id:=i) (off:=0) (c:=none) (show D'.length < D'.length+1 by omega) .i64;rw [m023] at this;rw [hxd];exact this
   have hel:Ai.part 10 true (D'.length * 10) c'=some (Dc.av d):=by unfold Ai.part;rw [if_pos rfl,if_pos hc2,hc3,<- aPu d]
   have his:i < s.nx:=hF i (by simp only [aN,m013,m003,hi1];simp);simp only [hq,cS.cell,wx,wy,Z0,Z1,reduceCtorEq];refine ⟨rfl,?_⟩;simp only [hlen,hsub,cS.cell,wx,wy,Z0,Z1,reduceCtorEq];refine ⟨rfl,?_⟩;simp only [hix,hc1,hel,wx,wy,Z0,Z1,reduceCtorEq];rw [bJ (id:=S.nx+14) (z:=10) (c:=Z.cells) (e:=67) (ex:=true) (v:=Dc.av d) (by rw [adv_h,aF]) zl (gJ d) (eL d)];simp only [Bnd_some,wx,wy,Z0,Z1,reduceCtorEq];obtain ⟨T,hT⟩:∃ T,T=Ai.adv (S.set (S.nx+14) (some (.cells (Dc.av d).cells 67 true true))) 24:=⟨_,rfl⟩;have kT:∀ j,j≠S.nx+14->T.h j=S.h j:=fun j hj=>by rw [hT,adv_h,aB hj]
   have nT:T.nx=S.nx+24:=by rw [hT];rfl
   have gT:Jw 67 10 T xd (D'.map Dc.av++[Dc.av d]):=gS.keep fun j hj=>kT j (by rw [hi1,m008] at hj;omega);obtain ⟨i2,hi2,_,_,T',w1,w2,w3,_,w5⟩:=KM US gT (w:=Z) ⟨zl,zo,zi⟩;rw [hi1] at hi2;obtain rfl:i=i2:=by simpa using hi2
   rw [m002] at w1 w5
   have hip:p≠i:=fun e=>by
    have nd:=c.nd;simp only [m036,m003,not_or] at nd;have:p∈aE xd:=by rw [hi1,e];simp
    grind
   have q3:¬ (p=S.nx+14):=by omega
   have q4:¬ (s.nx=S.nx+12):=by omega
   refine ⟨rfl,?_⟩;simp only [q3,q4,if_false,cS.cell,b2,pz,hix,wx,wy,Z0,Z1,reduceCtorEq];refine ⟨fS _ (by omega),?_⟩;rw [<- hT,w1];simp only [Bnd_some];have hcT:T'.h p=some (.cells [xd,xm,xa,xn,m] 88 true true):=by rw [w3 p hip,kT p q3,cS.cell]
   refine ⟨rfl,?_⟩;simp only [hcT,wx,wy,Z0,Z1,reduceCtorEq];obtain ⟨v1,v2⟩:=w5 (Ai.adv T' 10) (by rw [adv_h]);rw [v1];simp only [Bnd_some];refine ⟨rfl,?_⟩;rw [eB (c:=[xd,xm,xa,xn,m]) (e:=88) (ex:=true) (by rw [adv_h,hcT]) (by simp) rfl rfl];simp only [Bnd_some];rw [show ([xd,xm,xa,xn,m].set 0 (.ref i 0 D'.length none 67))=[.ref i 0 D'.length none 67,xm,xa,xn,m] from rfl];obtain ⟨U,hU⟩:∃ U,U=(Ai.adv T' 10).set p (some (.cells [.ref i 0 D'.length none 67,xm,xa,xn,m] 88 true true)):=⟨_,rfl⟩;rw [<- hU];have nU:U.nx=s.nx+49:=by rw [hU];show T'.nx+10=_;omega
   have kU:∀ j,j≠p->j≠i->U.h j=T.h j:=fun j a b=>by rw [hU,aB a,adv_h,w3 j b]
   have uB:U.h (S.nx+14)=some (.cells (Dc.av d).cells 67 true true):=by rw [kU _ (by omega) (by omega),hT,adv_h,aF]
   have u0:U.h s.nx=some (.cells Z.cells 67 true true):=by rw [kU _ (by omega) (by omega),kT _ (by omega),b0]
   have fU:aI U:=fun j hj=>by rw [kU j (by omega) (by omega),kT j (by omega)];exact fS j (by omega)
   have hEs:∀ y,y < s.nx->y ∉ aE xd->(Ai.adv T' 10).h y=s.h y:=fun y hy hn=>by rw [hi1,m008] at hn;rw [adv_h,w3 y hn,kT y (by omega),kS y hy]
   have hIs:∀ j∈aE (.ref i 0 D'.length none 67),j=s.nx\/j∈aE xd:=fun j hj=>.inr (by rw [hi1];simpa [aE] using hj);have cU:gE U p { K with D:=D' } (.ref i 0 D'.length none 67) xm xa xn m:=by rw [hU];exact bBk c fr (id:=s.nx) (bK _) hEs hIs v2
   simp only [uB,kK,wx,wy,Z0,Z1,reduceCtorEq];rw [bJ (id:=s.nx) (z:=10) (c:=Z.cells) (e:=67) (ex:=true) (v:=Dc.av d) (by rw [adv_h,u0]) zl (gJ d) (eL d)];simp only [Bnd_some,aF,kK,wx,wy,Z0,Z1,reduceCtorEq];have hdl:K.D.dropLast=D':=by rw [hD,List.dropLast_concat]
   rw [hdl];have hI2:∀ j∈aE (.ref i 0 D'.length none 67),j∈aE xd:=fun j hj=>by rw [hi1];simpa [aE] using hj
   have hs2:∀ j∈aN (.ref i 0 D'.length none 67) xm xa xn m,j∈aN xd xm xa xn m:=fun j hj=>by
    simp only [aN,m003] at hj ⊢;have:=hI2 j
    grind
   have hii:i∈aN xd xm xa xn m:=by simp only [aN,m003,hi1];simp
   have hV:∀ n j,j≠s.nx->(Ai.adv (U.set s.nx (some (.cells (Dc.av d).cells 67 true true))) n).h j=U.h j:=fun n j hj=>by rw [adv_h,aB hj]
   refine ⟨Dc.av d,gJ d,eL d,aPu d,rfl,XN (cU.keep fun j hj=>hV _ j ?_) ?_ (fun y a b e=>?_) (fun j hj=>?_) fun j hj=>.inr (hs2 j hj)⟩
   ·rcases m013.1 hj with rfl | hj
    ·omega
    ·have:=hF j (m005 _ (hs2 j hj));omega
   ·simp only [set_nx,adv_nx];omega
   ·have hyi:y≠i:=fun e2=>e (e2 ▸ hii);rw [hV _ y (by omega),kU y b hyi,kT y (by omega),kS y a]
   ·simp only [set_nx,adv_nx] at hj
    rw [hV _ j (by omega)];exact fU j (by omega))
 obtain ⟨r,s',h1,v,h2,h3,h5,rfl,h4⟩:=r;exact ⟨v,h2,h3,h5,_,s',h1,rfl,h4⟩
theorem aLh:mEv.fz 196=false:=by kernel_rfl
theorem bOh:mEv.fz 98=false:=by kernel_rfl
theorem c98 (fr:aI s) (h:cN s p K F):LF 98 [.ptr p 0] s (.int .i64 K.dm.length):=by obtain ⟨xd,xm,xa,xn,m,c,rfl⟩:=h;have hlen:=aOb c.dm;rw [m002] at hlen;refine VS _ _ (Q:=fun r s'=>r=.int .i64 K.dm.length/\EF [] s s') ?_;unfold f98;simp only [AT,wx,wy,Z0,Z1,reduceCtorEq];refine ⟨rfl,?_⟩;simp only [c.cell,hlen,wx,wy,Z0,Z1,reduceCtorEq];exact (EF.refl [] fr).adv
theorem bJj (fr:aI s) (h:cN s p K F) {ms:List Int} {q:Int} (hd:K.dm=ms++[q]) (hm:K.dm.length<=2 ^ 20) {Q:aG} (hQ:∀ s',bY s p F { K with dm:=ms } s'->Q (.bool true) s'):xV Q (.ptr p 0) s:=by
 have hF:=h.lt fr;have hp:=hF p h.pin;obtain ⟨xd,xm,xa,xn,m,c,rfl⟩:=h;have hlen:=aOb c.dm;rw [m002] at hlen;have g:Jw 3 1 s xm (ms.map dE++[dE q]):=by have:=c.dm;rw [hd,m038] at this;exact this
 obtain ⟨i,hi1,hcut⟩:=aKd pQ g;rw [m002] at hcut;have hl:K.dm.length=ms.length+1:=by rw [hd];simp
 have hsub:IntKind.i64.wrap ((K.dm.length:Int) - 1)=((ms.length:Nat):Int):=by rw [IntWalk.i64_in _ (by omega)];omega
 obtain ⟨v1,v2⟩:=hcut (Ai.adv s 15) (by rw [adv_h]);unfold xV;refine ⟨rfl,?_⟩;simp only [c.cell,wx,wy,Z0,Z1,reduceCtorEq];refine ⟨rfl,?_⟩;simp only [c.cell,hlen,hsub,wx,wy,Z0,Z1,reduceCtorEq];rw [v1];simp only [Bnd_some];refine ⟨rfl,?_⟩;refine ⟨fr _ (by omega),?_⟩;rw [eB (c:=[xd,xm,xa,xn,m]) (e:=88) (ex:=true) (by rw [adv_h,c.cell]) (by simp) rfl rfl];simp only [Bnd_some];have hI2:∀ j∈aE (.ref i 0 ms.length none 3),j=s.nx\/j∈aE xm:=fun j hj=>.inr (by rw [hi1];simpa [aE] using hj)
 exact hQ _ (sP (id:=s.nx) (A:=[]) c fr (bK _) (by simp only [adv_nx];omega) (by simp only [adv_nx];omega) (fun j hj=>by cases hj) (fun y hy _=>by rw [adv_h]) fr.adv (fun j hj=>by
  simp only [aN,m003] at hj ⊢;have:=hI2 j
  grind) (aIb c fr (id:=s.nx) (bK _) (fun y hy _=>by rw [adv_h]) hI2 v2)).adv
theorem bPv {ms:List Int} {q:Int} (hd:K.dm=ms++[q]) (hq0:0<=q) (hm:K.dm.length<=2 ^ 20) (Q:aG):∀ (k:Nat) (s:St) (F1:List Nat) (D1:List Dc) (bx:Nat) (v:AV),aI s->cN s p { K with D:=D1 } F1->(D1.length:Int)=q+k->D1.length<=2 ^ 20->v.cells.length=10->v.cells.all AV.one=true->v=.agg v.cells->s.h bx=some (.cells v.cells 67 true true)->bx ∉ F1 ->
  (∀ s',bY s p F1 { K with D:=D1.take q.toNat,dm:=ms } s'->Q (.bool true) s')->lL Q (k+2) (.ptr p 0) (.ptr bx 0) (.bool true) s:=by
 obtain ⟨Z,hZ,zl,zo,zi,za⟩:=z67;intro k
 induction k with
 | zero =>
  intro s F1 D1 bx v fr h hD hl vl vo va hb hbF hQ;show kV Q (lL Q 1) _ _ _ s;have hF:=h.lt fr;have pv:Ai.part 10 true 0 v.cells=some v:=by unfold Ai.part;rw [if_pos rfl,if_pos (by omega),m048,m014 (by omega),<- va]
  simp only [kV,LH,hb,pv,hZ,wx,wy,Z0,Z1,reduceCtorEq];rw [bJ (id:=s.nx+2) (z:=10) (c:=Z.cells) (e:=67) (ex:=true) (v:=v) (by rw [adv_h,aF]) zl vl vo];simp only [Bnd_some];obtain ⟨S,hS⟩:∃ S,S=Ai.adv ((Ai.adv (s.set (s.nx+2) (some (.cells Z.cells 67 true true))) 4).set (s.nx+2) (some (.cells v.cells 67 true true))) 6:=⟨_,rfl⟩;rw [<- hS];have nS:S.nx=s.nx+10:=by rw [hS];rfl
  have kS:∀ j,j≠s.nx+2->S.h j=s.h j:=fun j hj=>by rw [hS,adv_h,aB hj,adv_h,aB hj]
  have bS:S.h (s.nx+2)=some (.cells v.cells 67 true true):=by rw [hS,adv_h,aF]
  have fS:aI S:=fun j hj=>by rw [kS j (by omega)];exact fr j (by omega)
  have eS:EF [] s S:=⟨by omega,fun j hj _=>kS j (by omega),fS⟩;have hfl:bV K.dm=q:=by rw [hd,eP]
  obtain ⟨w,wl,wo,wa,hw⟩:=bFi (K:={ K with D:=D1 }) fS (h.ext fr eS) (by show 0<=bV K.dm;omega) (by show bV K.dm<=(D1.length:Int);omega) hm hl;have x0:∀ b,aS (.tup [w,.bool b]) 0=some w:=fun b=>rfl;have x1:∀ b,aS (.tup [w,.bool b]) 1=some (.bool b):=fun b=>rfl;refine hw.call aLh fun s3 q3=>?_;simp only [hfl] at q3 ⊢;have hbn:s.nx+2 ∉ F1:=fun hm=>by have:=hF _ hm;omega
  have hc:((D1.length:Int)==q)=true:=by simp;omega
  simp only [hc,cond_true] at q3;simp only [hc,x0,x1,Bnd_some];obtain ⟨F3,r3,e3,m3⟩:=q3;show kV Q (lL Q 0) _ _ _ s3;simp only [kV,wx,wy,Z0,Z1,reduceCtorEq];refine bJj e3.fr.adv r3.adv hd hm fun s4 q4=>hQ _ ?_;have ht:D1.take q.toNat=D1:=m014 (by omega);rw [ht];exact bY.step (((eS.sub fun j hj=>by cases hj).trans e3 fun j hj=>.inr hj).adv) (fun j hj=>(m3 j hj).imp_right fun h=>by omega) q4
 | succ k ih =>
  intro s F1 D1 bx v fr h hD hl vl vo va hb hbF hQ;show kV Q (lL Q (k+2)) _ _ _ s;have hF:=h.lt fr;have pv:Ai.part 10 true 0 v.cells=some v:=by unfold Ai.part;rw [if_pos rfl,if_pos (by omega),m048,m014 (by omega),<- va]
  simp only [kV,LH,hb,pv,hZ,wx,wy,Z0,Z1,reduceCtorEq];rw [bJ (id:=s.nx+2) (z:=10) (c:=Z.cells) (e:=67) (ex:=true) (v:=v) (by rw [adv_h,aF]) zl vl vo];simp only [Bnd_some];obtain ⟨S,hS⟩:∃ S,S=Ai.adv ((Ai.adv (s.set (s.nx+2) (some (.cells Z.cells 67 true true))) 4).set (s.nx+2) (some (.cells v.cells 67 true true))) 6:=⟨_,rfl⟩;rw [<- hS];have nS:S.nx=s.nx+10:=by rw [hS];rfl
  have kS:∀ j,j≠s.nx+2->S.h j=s.h j:=fun j hj=>by rw [hS,adv_h,aB hj,adv_h,aB hj]
  have bS:S.h (s.nx+2)=some (.cells v.cells 67 true true):=by rw [hS,adv_h,aF]
  have fS:aI S:=fun j hj=>by rw [kS j (by omega)];exact fr j (by omega)
  have eS:EF [] s S:=⟨by omega,fun j hj _=>kS j (by omega),fS⟩;have hfl:bV K.dm=q:=by rw [hd,eP]
  obtain ⟨w,wl,wo,wa,hw⟩:=bFi (K:={ K with D:=D1 }) fS (h.ext fr eS) (by show 0<=bV K.dm;omega) (by show bV K.dm<=(D1.length:Int);omega) hm hl;have x0:∀ b,aS (.tup [w,.bool b]) 0=some w:=fun b=>rfl;have x1:∀ b,aS (.tup [w,.bool b]) 1=some (.bool b):=fun b=>rfl;refine hw.call aLh fun s3 q3=>?_;simp only [hfl] at q3 ⊢;have hbn:s.nx+2 ∉ F1:=fun hm=>by have:=hF _ hm;omega
  have hc:((D1.length:Int)==q)=false:=by simp;omega
  simp only [hc,cond_false] at q3;simp only [hc,x0,x1,Bnd_some,m027];obtain ⟨F3,r3,e3,m3⟩:=q3
  refine ih s3 F3 D1.dropLast (s.nx+2) v e3.fr r3 (by rw [m064];omega) (by rw [m064];omega) vl vo va (by rw [e3.h _ (by omega) hbn,bS]) (fun hm=>by
   rcases m3 _ hm with h | h
   ·exact hbn h
   ·omega) fun s4 q4=>hQ _ ?_
  have ht:D1.dropLast.take q.toNat=D1.take q.toNat:=by rw [List.dropLast_eq_take,List.take_take,rM (by omega)]
  rw [ht] at q4;exact bY.step ((eS.sub fun j hj=>by cases hj).trans e3 fun j hj=>.inr hj) (fun j hj=>(m3 j hj).imp_right fun h=>by omega) q4
theorem bRl (Q:aG) (a b c:AV) (s:St):lL Q 1 a b c s=kV Q (lL Q 0) a b c s:=rfl
theorem bOc:mEv.fz 150=false:=by kernel_rfl
theorem bNm:mEv.fz 94=false:=by kernel_rfl
theorem bQd (fr:aI s) (h:cN s p K F) {ms:List Int} {q:Int} (hd:K.dm=ms++[q]) (hq0:0<=q) (hq:q<=(K.D.length:Int)) (hm:K.dm.length<=2 ^ 20) (hl:K.D.length<=2 ^ 20):mW 150 [.ptr p 0] s p F (.bool true) { K with D:=K.D.take q.toNat,dm:=ms }:=by
 have hF:=h.lt fr;obtain ⟨Z,hZ,zl,zo,zi,za⟩:=z67
 have r:=aNt (.ptr p 0) s (Q:=fun r s'=>r=.bool true/\bY s p F { K with D:=K.D.take q.toNat,dm:=ms } s') (by
  unfold f150;refine (c98 fr.adv h.adv).call bOh fun s1 e1=>?_;have hne:((K.dm.length:Int)==0)=false:=by rw [hd];simp;omega
  simp only [hne,wx,wy,Z0,Z1,reduceCtorEq];have es1:EF [] s s1:=(EF.refl [] fr).adv.nil_trans e1;have hfl:bV K.dm=q:=by rw [hd,eP]
  obtain ⟨w,wl,wo,wa,hw⟩:=bFi (s:=Ai.adv s1 8) es1.fr.adv (h.ext fr es1.adv) (by omega) (by omega) hm hl;have x0:∀ b,aS (.tup [w,.bool b]) 0=some w:=fun b=>rfl;have x1:∀ b,aS (.tup [w,.bool b]) 1=some (.bool b):=fun b=>rfl;refine hw.call aLh fun s2 q2=>?_;simp only [hfl] at q2 ⊢;simp only [x0,x1,hZ,Bnd_some];rw [bJ (id:=s1.nx+5) (z:=10) (c:=Z.cells) (e:=67) (ex:=true) (v:=w) aF zl wl wo];simp only [Bnd_some];obtain ⟨F2,r2,e2,m2⟩:=q2;have n1:=es1.nx;have n2:=e2.nx;simp only [adv_nx] at n2
  have m2':∀ j∈F2,j≠s1.nx+5:=fun j hj=>by
   rcases m2 j hj with h | h
   ·have:=hF j h;omega
   ·simp only [adv_nx] at h;omega
  have m3:∀ j∈F2,j∈F\/s.nx<=j:=fun j hj=>(m2 j hj).imp_right fun h=>by simp only [adv_nx] at h;omega
  obtain ⟨S,hS⟩:∃ S,S=(s2.set (s1.nx+5) (some (.cells Z.cells 67 true true))).set (s1.nx+5) (some (.cells w.cells 67 true true)):=⟨_,rfl⟩;rw [<- hS];have nS:S.nx=s2.nx:=by rw [hS];rfl
  have kS:∀ j,j≠s1.nx+5->S.h j=s2.h j:=fun j hj=>by rw [hS,aB hj,aB hj]
  have bS:S.h (s1.nx+5)=some (.cells w.cells 67 true true):=by rw [hS,aF]
  have fS:aI S:=fun j hj=>by rw [kS j (by omega)];exact e2.fr j (by omega)
  have rS:=r2.keep (s':=S) fun j hj=>kS j (m2' j hj);have eS:EF F s S:=⟨by omega,fun j hj hn=>by rw [kS j (by omega),e2.h j (by simp only [adv_nx];omega) hn,adv_h,es1.h j hj (by simp)],fS⟩
  cases hc:((K.D.length:Int)==q) with
  | true =>
   simp only [hc,cond_true] at rS ⊢;refine ⟨1,?_⟩;rw [bRl];simp only [kV,m025,wx,wy,Z0,Z1,reduceCtorEq];refine bJj fS.adv rS.adv hd hm fun s4 q4=>⟨rfl,?_⟩;have hce:(K.D.length:Int)=q:=by simpa using hc
   have hle:K.D.length<=q.toNat:=by omega
   have ht:K.D.take q.toNat=K.D:=m014 hle;rw [ht];exact bY.step eS.adv m3 q4
  | false =>
   simp only [hc,cond_false] at rS ⊢
   have hlt:q < (K.D.length:Int):=by
    have:(K.D.length:Int)≠q:=by simpa using hc
    omega
   refine ⟨K.D.dropLast.length - q.toNat+2,?_⟩;refine bPv hd hq0 hm _ _ S F2 K.D.dropLast (s1.nx+5) w fS rS (by rw [m064];omega) (by rw [m064];omega) wl wo wa bS (fun h=>m2' _ h rfl) fun s4 q4=>⟨rfl,?_⟩;have ht:K.D.dropLast.take q.toNat=K.D.take q.toNat:=by rw [List.dropLast_eq_take,List.take_take,rM (by omega)]
   rw [ht] at q4
   exact bY.step eS m3 q4)
 obtain ⟨r,s',h1,rfl,h2⟩:=r;exact ⟨_,s',h1,rfl,h2⟩
theorem bSu (fr:aI s) (h:cN s p K F) {ms:List Int} {q:Int} (hd:K.dm=ms++[q]) (hq0:0<=q) (hq:q<=(K.D.length:Int)) (hm:K.dm.length<=2 ^ 20) (hl:K.D.length<=2 ^ 20) :
  ∃ r s' s1,WideC mEv 102 [.ptr p 0] s r s'/\bY s p F { K with D:=K.D.take q.toNat,dm:=ms } s1/\GK 67 s1 s' r ((K.D.take q.toNat).map Dc.av):=by
 have r:=aJx (.ptr p 0) s (Q:=fun r s'=>∃ s1,bY s p F { K with D:=K.D.take q.toNat,dm:=ms } s1/\GK 67 s1 s' r ((K.D.take q.toNat).map Dc.av)) (by
  unfold f102;refine (bQd fr.adv h.adv hd hq0 hq hm hl).call bOc fun s1 q1=>?_;have q1:=q1.from (s:=s) (EF.refl [] fr).adv;have q1':=q1;obtain ⟨F1,r1,e1,m1⟩:=q1;obtain ⟨xd,xm,xa,xn,m,c,rfl⟩:=r1;obtain ⟨r,s2,w1,w2⟩:=c94 (p:=p) (o:=0) (s:=Ai.adv s1 3) (vs:=(K.D.take q.toNat).map Dc.av) e1.fr.adv c.cell rfl (c.d.keep fun _ _=>rfl) (by rw [m002,m020];omega)
  exact bQ bNm ⟨r,s2,w1,Ai.adv s1 3,q1'.adv,w2⟩)
 obtain ⟨r,s',h1,s1,h2⟩:=r;exact ⟨r,s',s1,h1,h2⟩
theorem bPi (C:List AV) (l:List Int) (h:C[3]?=some (.sl false (l.map dE))) (hl:l.length<=2 ^ 20):bE mEv 225 [.pel C 2] (.int .i64 (bV l)):=by
 refine bA rfl (aLu _ _ ?_);unfold f225;simp only [aXm,wx,wy,Z0,Z1,reduceCtorEq];refine ⟨rfl,?_⟩;simp only [h,QD,m002,wx,wy,Z0,Z1,reduceCtorEq];rcases m061 l with rfl | ⟨l',q,rfl⟩
 ·simp [bV]
 ·rw [List.concat_eq_append] at *;have h1:((((l'++[q]).length:Nat):Int)==0)=false:=by simp;omega
  have h2:IntKind.i64.wrap ((((l'++[q]).length:Nat):Int) - 1)=((l'.length:Nat):Int):=by rw [m006,List.length_singleton] at *;rw [IntWalk.i64_in _ (by omega)];omega
  have h3:=aPm (l'++[q]) l'.length q (by simp);simp only [h1,h2,h3,eP,m015,if_false,wx,wy,Z0,Z1,reduceCtorEq];exact ⟨rfl,rfl⟩
theorem bEk (fr:aI s) (h:cN s p K F) (hf0:0<=bV K.am) (hf:bV K.am<=(K.X.length:Int)) (hm:K.am.length<=2 ^ 20) (hl:K.X.length<=2 ^ 20) :
  ∃ v,v.cells.length=6/\v.cells.all AV.one=true/\v=.agg v.cells/\mW 198 [.ptr p 2] s p F (.tup [v,.bool !((K.X.length:Int)==bV K.am)]) (bif (K.X.length:Int)==bV K.am then K else { K with X:=K.X.dropLast }):=by
 have hF:=h.lt fr;have hp:=hF p h.pin;have h0:=h;obtain ⟨xd,xm,xa,xn,m,c,rfl⟩:=h;obtain ⟨Z,hZ,zl,zo,zi,za⟩:=z33
 have r:=aJc (.ptr p 2) s (Q:=fun r s'=>∃ v,v.cells.length=6/\v.cells.all AV.one=true/\v=.agg v.cells/\r=.tup [v,.bool !((K.X.length:Int)==bV K.am)]/\bY s p (p::aN xd xm xa xn m) (bif (K.X.length:Int)==bV K.am then K else { K with X:=K.X.dropLast }) s') (by
  unfold f198;obtain ⟨S,hS⟩:∃ S,S=Ai.adv ((s.set s.nx (some (.cells Z.cells 33 true true))).set (s.nx+2) (some (.cells Z.cells 33 true true))) 15:=⟨_,rfl⟩;have nS:S.nx=s.nx+15:=by rw [hS];rfl
  have kS:∀ j,j < s.nx->S.h j=s.h j:=fun j hj=>by rw [hS,adv_h,aB (by omega),aB (by omega)]
  have b0:S.h s.nx=some (.cells Z.cells 33 true true):=by rw [hS,adv_h,aB (by omega),aF]
  have b2:S.h (s.nx+2)=some (.cells Z.cells 33 true true):=by rw [hS,adv_h,aF]
  have fS:aI S:=fun j hj=>by rw [hS,adv_h,aB (by omega),aB (by omega)];exact fr j (by omega)
  have cS:gE S p K xd xm xa xn m:=c.keep fun j hj=>kS j (hF j hj);have q1:¬ (p=s.nx):=by omega
  have q2:¬ (p=s.nx+2):=by omega
  have hlen:=bGu c.x;rw [m002] at hlen;simp only [hZ,LX,wx,wy,Z0,Z1,reduceCtorEq];refine ⟨rfl,?_⟩;simp only [c.cell,q1,q2,if_false,hlen,wx,wy,Z0,Z1,reduceCtorEq];rw [<- hS];have hR:cN S p K (p::aN xd xm xa xn m):=⟨_,_,_,_,_,cS,rfl⟩;have hrc:=hR.rch (vs:=[.fn 225 [] [],.ptr p 2]) rfl;obtain ⟨l,hl0⟩:∃ l,l=rch S [.fn 225 [] [],.ptr p 2]:=⟨_,rfl⟩;rw [<- hl0] at hrc ⊢;have cO:gE (S.only l) p K xd xm xa xn m:=cS.keep fun j hj=>by rw [jZ,if_pos ((hrc j).2 hj)]
  have hpp:pur mEv.P (S.only l) 12 (.ptr p 2)=some (.pel (hO (pur mEv.P (S.only l) 11) [xd,xm,xa,xn,m]).1 2,p::(hO (pur mEv.P (S.only l) 11) [xd,xm,xa,xn,m]).2):=by unfold pur;rw [if_neg (by simp [AV.closed])];simp only [cO.cell]
  have hC:(hO (pur mEv.P (S.only l) 11) [xd,xm,xa,xn,m]).1[3]?=some (.sl false (K.am.map dE)):=xB _ 3 xn _ _ rfl (YT cO.am 10);refine .mk [_] _ _ (by simp only [dN,hpp];rfl) (bPi _ K.am hC hm) (by simp [AV.flat]) ?_;have pz:Ai.part 6 true 0 Z.cells=some Z:=by unfold Ai.part;rw [if_pos rfl,if_pos (by omega),m048,m014 (by omega),<- za]
  cases hq:((K.X.length:Int)==bV K.am) with
  | true =>
   simp only [hq,b2,pz,wx,wy,Z0,Z1,reduceCtorEq];rw [bJ (id:=s.nx) (z:=6) (c:=Z.cells) (e:=33) (ex:=true) (v:=Z) (by rw [adv_h,b0]) zl zl zo];simp only [Bnd_some,aF,pz,wx,wy,Z0,Z1,reduceCtorEq];refine ⟨Z,zl,zo,za,rfl,bY.same h0 fr ⟨?_,fun j hj _=>?_,fun j hj=>?_⟩⟩
   ·simp only [set_nx,adv_nx];omega
   ·rw [adv_h,aB (by omega),kS j hj]
   ·simp only [set_nx,adv_nx] at hj;rw [adv_h,aB (by omega)];exact fS j (by omega)
  | false =>
   have hne:K.X≠[]:=fun e=>by
    rw [e] at hq hf;have:(bV K.am)=0:=by simp at hf;omega
    rw [this] at hq;simp at hq
   obtain ⟨D',d,hD⟩:∃ D' d,K.X=D'++[d]:=by
    rcases m061 K.X with h | ⟨D',d,h⟩
    ·exact absurd h hne
    ·exact ⟨D',d,by rw [h,List.concat_eq_append]⟩
   have hDl:K.X.length=D'.length+1:=by rw [hD];simp
   have hsub:IntKind.i64.wrap ((K.X.length:Int) - 1)=((D'.length:Nat):Int):=by rw [IntWalk.i64_in _ (by omega)];omega
   have gS:Jw 33 6 S xa (D'.map Sx.av++[Sx.av d]):=by have:=cS.x;rw [hD,m038] at this;exact this
   obtain ⟨i,hi1,hxd,⟨c',hc1,hc2,hc3⟩,_⟩:=KM zB gS (w:=Z) ⟨zl,zo,zi⟩;rw [m002] at hxd hc2 hc3;have hix:cQ 6 xa (.int .i64 (D'.length:Int))=some (.ptr i (D'.length * 6)):=by have:=oZ (e:=33) (z:=6) (id:=i) (off:=0) (c:=none) (show D'.length < D'.length+1 by omega) .i64;rw [m023] at this;rw [hxd];exact this
   have hel:Ai.part 6 true (D'.length * 6) c'=some (Sx.av d):=by unfold Ai.part;rw [if_pos rfl,if_pos hc2,hc3,<- OI d]
   have his:i < s.nx:=hF i (by simp only [aN,m013,m003,hi1];simp);simp only [hq,cS.cell,wx,wy,Z0,Z1,reduceCtorEq];refine ⟨rfl,?_⟩;simp only [hlen,hsub,cS.cell,wx,wy,Z0,Z1,reduceCtorEq];refine ⟨rfl,?_⟩;simp only [hix,hc1,hel,wx,wy,Z0,Z1,reduceCtorEq];rw [bJ (id:=S.nx+14) (z:=6) (c:=Z.cells) (e:=33) (ex:=true) (v:=Sx.av d) (by rw [adv_h,aF]) zl (iC d) (cH d)];simp only [Bnd_some,wx,wy,Z0,Z1,reduceCtorEq];obtain ⟨T,hT⟩:∃ T,T=Ai.adv (S.set (S.nx+14) (some (.cells (Sx.av d).cells 33 true true))) 24:=⟨_,rfl⟩;have kT:∀ j,j≠S.nx+14->T.h j=S.h j:=fun j hj=>by rw [hT,adv_h,aB hj]
   have nT:T.nx=S.nx+24:=by rw [hT];rfl
   have gT:Jw 33 6 T xa (D'.map Sx.av++[Sx.av d]):=gS.keep fun j hj=>kT j (by rw [hi1,m008] at hj;omega);obtain ⟨i2,hi2,_,_,T',w1,w2,w3,_,w5⟩:=KM zB gT (w:=Z) ⟨zl,zo,zi⟩;rw [hi1] at hi2;obtain rfl:i=i2:=by simpa using hi2
   rw [m002] at w1 w5
   have hip:p≠i:=fun e=>by
    have nd:=c.nd;simp only [m036,m003,not_or] at nd;have:p∈aE xa:=by rw [hi1,e];simp
    grind
   have q3:¬ (p=S.nx+14):=by omega
   have q4:¬ (s.nx=S.nx+12):=by omega
   refine ⟨rfl,?_⟩;simp only [q3,q4,if_false,cS.cell,b2,pz,hix,wx,wy,Z0,Z1,reduceCtorEq];refine ⟨fS _ (by omega),?_⟩;rw [<- hT,w1];simp only [Bnd_some];have hcT:T'.h p=some (.cells [xd,xm,xa,xn,m] 88 true true):=by rw [w3 p hip,kT p q3,cS.cell]
   refine ⟨rfl,?_⟩;simp only [hcT,wx,wy,Z0,Z1,reduceCtorEq];obtain ⟨v1,v2⟩:=w5 (Ai.adv T' 10) (by rw [adv_h]);rw [v1];simp only [Bnd_some];refine ⟨rfl,?_⟩;rw [eB (c:=[xd,xm,xa,xn,m]) (e:=88) (ex:=true) (by rw [adv_h,hcT]) (by simp) rfl rfl];simp only [Bnd_some];rw [show ([xd,xm,xa,xn,m].set 2 (.ref i 0 D'.length none 33))=[xd,xm,.ref i 0 D'.length none 33,xn,m] from rfl];obtain ⟨U,hU⟩:∃ U,U=(Ai.adv T' 10).set p (some (.cells [xd,xm,.ref i 0 D'.length none 33,xn,m] 88 true true)):=⟨_,rfl⟩;rw [<- hU];have nU:U.nx=s.nx+49:=by rw [hU];show T'.nx+10=_;omega
   have kU:∀ j,j≠p->j≠i->U.h j=T.h j:=fun j a b=>by rw [hU,aB a,adv_h,w3 j b]
   have uB:U.h (S.nx+14)=some (.cells (Sx.av d).cells 33 true true):=by rw [kU _ (by omega) (by omega),hT,adv_h,aF]
   have u0:U.h s.nx=some (.cells Z.cells 33 true true):=by rw [kU _ (by omega) (by omega),kT _ (by omega),b0]
   have fU:aI U:=fun j hj=>by rw [kU j (by omega) (by omega),kT j (by omega)];exact fS j (by omega)
   have hEs:∀ y,y < s.nx->y ∉ aE xa->(Ai.adv T' 10).h y=s.h y:=fun y hy hn=>by rw [hi1,m008] at hn;rw [adv_h,w3 y hn,kT y (by omega),kS y hy]
   have hIs:∀ j∈aE (.ref i 0 D'.length none 33),j=s.nx\/j∈aE xa:=fun j hj=>.inr (by rw [hi1];simpa [aE] using hj);have cU:gE U p { K with X:=D' } xd xm (.ref i 0 D'.length none 33) xn m:=by rw [hU];exact aZd c fr (id:=s.nx) (bK _) hEs hIs v2
   simp only [uB,dI,wx,wy,Z0,Z1,reduceCtorEq];rw [bJ (id:=s.nx) (z:=6) (c:=Z.cells) (e:=33) (ex:=true) (v:=Sx.av d) (by rw [adv_h,u0]) zl (iC d) (cH d)];simp only [Bnd_some,aF,dI,wx,wy,Z0,Z1,reduceCtorEq];have hdl:K.X.dropLast=D':=by rw [hD,List.dropLast_concat]
   rw [hdl];have hI2:∀ j∈aE (.ref i 0 D'.length none 33),j∈aE xa:=fun j hj=>by rw [hi1];simpa [aE] using hj
   have hs2:∀ j∈aN xd xm (.ref i 0 D'.length none 33) xn m,j∈aN xd xm xa xn m:=fun j hj=>by
    simp only [aN,m003] at hj ⊢;have:=hI2 j
    grind
   have hii:i∈aN xd xm xa xn m:=by simp only [aN,m003,hi1];simp
   have hV:∀ n j,j≠s.nx->(Ai.adv (U.set s.nx (some (.cells (Sx.av d).cells 33 true true))) n).h j=U.h j:=fun n j hj=>by rw [adv_h,aB hj]
   refine ⟨Sx.av d,iC d,cH d,OI d,rfl,XN (cU.keep fun j hj=>hV _ j ?_) ?_ (fun y a b e=>?_) (fun j hj=>?_) fun j hj=>.inr (hs2 j hj)⟩
   ·rcases m013.1 hj with rfl | hj
    ·omega
    ·have:=hF j (m005 _ (hs2 j hj));omega
   ·simp only [set_nx,adv_nx];omega
   ·have hyi:y≠i:=fun e2=>e (e2 ▸ hii);rw [hV _ y (by omega),kU y b hyi,kT y (by omega),kS y a]
   ·simp only [set_nx,adv_nx] at hj
    rw [hV _ j (by omega)];exact fU j (by omega))
 obtain ⟨r,s',h1,v,h2,h3,h5,rfl,h4⟩:=r;exact ⟨v,h2,h3,h5,_,s',h1,rfl,h4⟩
theorem aIl:mEv.fz 198=false:=by kernel_rfl
theorem bFs:mEv.fz 197=false:=by kernel_rfl
theorem bPq (fr:aI s) (h:cN s p K F):LF 197 [.ptr p 2] s (.int .i64 K.am.length):=by obtain ⟨xd,xm,xa,xn,m,c,rfl⟩:=h;have hlen:=aOb c.am;rw [m002] at hlen;refine aRv _ _ (Q:=fun r s'=>r=.int .i64 K.am.length/\EF [] s s') ?_;unfold f197;simp only [LX,wx,wy,Z0,Z1,reduceCtorEq];refine ⟨rfl,?_⟩;simp only [c.cell,hlen,wx,wy,Z0,Z1,reduceCtorEq];exact (EF.refl [] fr).adv
theorem bIr (fr:aI s) (h:cN s p K F) {ms:List Int} {q:Int} (hd:K.am=ms++[q]) (hm:K.am.length<=2 ^ 20) {Q:aG} (hQ:∀ s',bY s p F { K with am:=ms } s'->Q (.bool true) s'):yJ Q (.ptr p 2) s:=by
 have hF:=h.lt fr;have hp:=hF p h.pin;obtain ⟨xd,xm,xa,xn,m,c,rfl⟩:=h;have hlen:=aOb c.am;rw [m002] at hlen;have g:Jw 3 1 s xn (ms.map dE++[dE q]):=by have:=c.am;rw [hd,m038] at this;exact this
 obtain ⟨i,hi1,hcut⟩:=aKd pQ g;rw [m002] at hcut;have hl:K.am.length=ms.length+1:=by rw [hd];simp
 have hsub:IntKind.i64.wrap ((K.am.length:Int) - 1)=((ms.length:Nat):Int):=by rw [IntWalk.i64_in _ (by omega)];omega
 obtain ⟨v1,v2⟩:=hcut (Ai.adv s 15) (by rw [adv_h]);unfold yJ;refine ⟨rfl,?_⟩;simp only [c.cell,wx,wy,Z0,Z1,reduceCtorEq];refine ⟨rfl,?_⟩;simp only [c.cell,hlen,hsub,wx,wy,Z0,Z1,reduceCtorEq];rw [v1];simp only [Bnd_some];refine ⟨rfl,?_⟩;refine ⟨fr _ (by omega),?_⟩;rw [eB (c:=[xd,xm,xa,xn,m]) (e:=88) (ex:=true) (by rw [adv_h,c.cell]) (by simp) rfl rfl];simp only [Bnd_some];have hI2:∀ j∈aE (.ref i 0 ms.length none 3),j=s.nx\/j∈aE xn:=fun j hj=>.inr (by rw [hi1];simpa [aE] using hj)
 exact hQ _ (sP (id:=s.nx) (A:=[]) c fr (bK _) (by simp only [adv_nx];omega) (by simp only [adv_nx];omega) (fun j hj=>by cases hj) (fun y hy _=>by rw [adv_h]) fr.adv (fun j hj=>by
  simp only [aN,m003] at hj ⊢;have:=hI2 j
  grind) (aSa c fr (id:=s.nx) (bK _) (fun y hy _=>by rw [adv_h]) hI2 v2)).adv
theorem bTb {ms:List Int} {q:Int} (hd:K.am=ms++[q]) (hq0:0<=q) (hm:K.am.length<=2 ^ 20) (Q:aG):∀ (k:Nat) (s:St) (F1:List Nat) (D1:List Sx) (bx:Nat) (v:AV),aI s->cN s p { K with X:=D1 } F1->(D1.length:Int)=q+k->D1.length<=2 ^ 20->v.cells.length=6->v.cells.all AV.one=true->v=.agg v.cells->s.h bx=some (.cells v.cells 33 true true)->bx ∉ F1 ->
  (∀ s',bY s p F1 { K with X:=D1.take q.toNat,am:=ms } s'->Q (.bool true) s')->lU Q (k+2) (.ptr p 2) (.ptr bx 0) (.bool true) s:=by
 obtain ⟨Z,hZ,zl,zo,zi,za⟩:=z33;intro k
 induction k with
 | zero =>
  intro s F1 D1 bx v fr h hD hl vl vo va hb hbF hQ;show kO Q (lU Q 1) _ _ _ s;have hF:=h.lt fr;have pv:Ai.part 6 true 0 v.cells=some v:=by unfold Ai.part;rw [if_pos rfl,if_pos (by omega),m048,m014 (by omega),<- va]
  simp only [kO,LO,hb,pv,hZ,wx,wy,Z0,Z1,reduceCtorEq];rw [bJ (id:=s.nx+2) (z:=6) (c:=Z.cells) (e:=33) (ex:=true) (v:=v) (by rw [adv_h,aF]) zl vl vo];simp only [Bnd_some];obtain ⟨S,hS⟩:∃ S,S=Ai.adv ((Ai.adv (s.set (s.nx+2) (some (.cells Z.cells 33 true true))) 4).set (s.nx+2) (some (.cells v.cells 33 true true))) 6:=⟨_,rfl⟩;rw [<- hS];have nS:S.nx=s.nx+10:=by rw [hS];rfl
  have kS:∀ j,j≠s.nx+2->S.h j=s.h j:=fun j hj=>by rw [hS,adv_h,aB hj,adv_h,aB hj]
  have bS:S.h (s.nx+2)=some (.cells v.cells 33 true true):=by rw [hS,adv_h,aF]
  have fS:aI S:=fun j hj=>by rw [kS j (by omega)];exact fr j (by omega)
  have eS:EF [] s S:=⟨by omega,fun j hj _=>kS j (by omega),fS⟩;have hfl:bV K.am=q:=by rw [hd,eP]
  obtain ⟨w,wl,wo,wa,hw⟩:=bEk (K:={ K with X:=D1 }) fS (h.ext fr eS) (by show 0<=bV K.am;omega) (by show bV K.am<=(D1.length:Int);omega) hm hl;have x0:∀ b,aS (.tup [w,.bool b]) 0=some w:=fun b=>rfl;have x1:∀ b,aS (.tup [w,.bool b]) 1=some (.bool b):=fun b=>rfl;refine hw.call aIl fun s3 q3=>?_;simp only [hfl] at q3 ⊢;have hbn:s.nx+2 ∉ F1:=fun hm=>by have:=hF _ hm;omega
  have hc:((D1.length:Int)==q)=true:=by simp;omega
  simp only [hc,cond_true] at q3;simp only [hc,x0,x1,Bnd_some];obtain ⟨F3,r3,e3,m3⟩:=q3;show kO Q (lU Q 0) _ _ _ s3;simp only [kO,wx,wy,Z0,Z1,reduceCtorEq];refine bIr e3.fr.adv r3.adv hd hm fun s4 q4=>hQ _ ?_;have ht:D1.take q.toNat=D1:=m014 (by omega);rw [ht];exact bY.step (((eS.sub fun j hj=>by cases hj).trans e3 fun j hj=>.inr hj).adv) (fun j hj=>(m3 j hj).imp_right fun h=>by omega) q4
 | succ k ih =>
  intro s F1 D1 bx v fr h hD hl vl vo va hb hbF hQ;show kO Q (lU Q (k+2)) _ _ _ s;have hF:=h.lt fr;have pv:Ai.part 6 true 0 v.cells=some v:=by unfold Ai.part;rw [if_pos rfl,if_pos (by omega),m048,m014 (by omega),<- va]
  simp only [kO,LO,hb,pv,hZ,wx,wy,Z0,Z1,reduceCtorEq];rw [bJ (id:=s.nx+2) (z:=6) (c:=Z.cells) (e:=33) (ex:=true) (v:=v) (by rw [adv_h,aF]) zl vl vo];simp only [Bnd_some];obtain ⟨S,hS⟩:∃ S,S=Ai.adv ((Ai.adv (s.set (s.nx+2) (some (.cells Z.cells 33 true true))) 4).set (s.nx+2) (some (.cells v.cells 33 true true))) 6:=⟨_,rfl⟩;rw [<- hS];have nS:S.nx=s.nx+10:=by rw [hS];rfl
  have kS:∀ j,j≠s.nx+2->S.h j=s.h j:=fun j hj=>by rw [hS,adv_h,aB hj,adv_h,aB hj]
  have bS:S.h (s.nx+2)=some (.cells v.cells 33 true true):=by rw [hS,adv_h,aF]
  have fS:aI S:=fun j hj=>by rw [kS j (by omega)];exact fr j (by omega)
  have eS:EF [] s S:=⟨by omega,fun j hj _=>kS j (by omega),fS⟩;have hfl:bV K.am=q:=by rw [hd,eP]
  obtain ⟨w,wl,wo,wa,hw⟩:=bEk (K:={ K with X:=D1 }) fS (h.ext fr eS) (by show 0<=bV K.am;omega) (by show bV K.am<=(D1.length:Int);omega) hm hl;have x0:∀ b,aS (.tup [w,.bool b]) 0=some w:=fun b=>rfl;have x1:∀ b,aS (.tup [w,.bool b]) 1=some (.bool b):=fun b=>rfl;refine hw.call aIl fun s3 q3=>?_;simp only [hfl] at q3 ⊢;have hbn:s.nx+2 ∉ F1:=fun hm=>by have:=hF _ hm;omega
  have hc:((D1.length:Int)==q)=false:=by simp;omega
  simp only [hc,cond_false] at q3;simp only [hc,x0,x1,Bnd_some,m027];obtain ⟨F3,r3,e3,m3⟩:=q3
  refine ih s3 F3 D1.dropLast (s.nx+2) v e3.fr r3 (by rw [m064];omega) (by rw [m064];omega) vl vo va (by rw [e3.h _ (by omega) hbn,bS]) (fun hm=>by
   rcases m3 _ hm with h | h
   ·exact hbn h
   ·omega) fun s4 q4=>hQ _ ?_
  have ht:D1.dropLast.take q.toNat=D1.take q.toNat:=by rw [List.dropLast_eq_take,List.take_take,rM (by omega)]
  rw [ht] at q4;exact bY.step ((eS.sub fun j hj=>by cases hj).trans e3 fun j hj=>.inr hj) (fun j hj=>(m3 j hj).imp_right fun h=>by omega) q4
theorem bTh (Q:aG) (a b c:AV) (s:St):lU Q 1 a b c s=kO Q (lU Q 0) a b c s:=rfl
theorem bOa:mEv.fz 151=false:=by kernel_rfl
theorem bLg:mEv.fz 96=false:=by kernel_rfl
theorem bQf (fr:aI s) (h:cN s p K F) {ms:List Int} {q:Int} (hd:K.am=ms++[q]) (hq0:0<=q) (hq:q<=(K.X.length:Int)) (hm:K.am.length<=2 ^ 20) (hl:K.X.length<=2 ^ 20):mW 151 [.ptr p 2] s p F (.bool true) { K with X:=K.X.take q.toNat,am:=ms }:=by
 have hF:=h.lt fr;obtain ⟨Z,hZ,zl,zo,zi,za⟩:=z33
 have r:=aGj (.ptr p 2) s (Q:=fun r s'=>r=.bool true/\bY s p F { K with X:=K.X.take q.toNat,am:=ms } s') (by
  unfold f151;refine (bPq fr.adv h.adv).call bFs fun s1 e1=>?_;have hne:((K.am.length:Int)==0)=false:=by rw [hd];simp;omega
  simp only [hne,wx,wy,Z0,Z1,reduceCtorEq];have es1:EF [] s s1:=(EF.refl [] fr).adv.nil_trans e1;have hfl:bV K.am=q:=by rw [hd,eP]
  obtain ⟨w,wl,wo,wa,hw⟩:=bEk (s:=Ai.adv s1 8) es1.fr.adv (h.ext fr es1.adv) (by omega) (by omega) hm hl;have x0:∀ b,aS (.tup [w,.bool b]) 0=some w:=fun b=>rfl;have x1:∀ b,aS (.tup [w,.bool b]) 1=some (.bool b):=fun b=>rfl;refine hw.call aIl fun s2 q2=>?_;simp only [hfl] at q2 ⊢;simp only [x0,x1,hZ,Bnd_some];rw [bJ (id:=s1.nx+5) (z:=6) (c:=Z.cells) (e:=33) (ex:=true) (v:=w) aF zl wl wo];simp only [Bnd_some];obtain ⟨F2,r2,e2,m2⟩:=q2;have n1:=es1.nx;have n2:=e2.nx;simp only [adv_nx] at n2
  have m2':∀ j∈F2,j≠s1.nx+5:=fun j hj=>by
   rcases m2 j hj with h | h
   ·have:=hF j h;omega
   ·simp only [adv_nx] at h;omega
  have m3:∀ j∈F2,j∈F\/s.nx<=j:=fun j hj=>(m2 j hj).imp_right fun h=>by simp only [adv_nx] at h;omega
  obtain ⟨S,hS⟩:∃ S,S=(s2.set (s1.nx+5) (some (.cells Z.cells 33 true true))).set (s1.nx+5) (some (.cells w.cells 33 true true)):=⟨_,rfl⟩;rw [<- hS];have nS:S.nx=s2.nx:=by rw [hS];rfl
  have kS:∀ j,j≠s1.nx+5->S.h j=s2.h j:=fun j hj=>by rw [hS,aB hj,aB hj]
  have bS:S.h (s1.nx+5)=some (.cells w.cells 33 true true):=by rw [hS,aF]
  have fS:aI S:=fun j hj=>by rw [kS j (by omega)];exact e2.fr j (by omega)
  have rS:=r2.keep (s':=S) fun j hj=>kS j (m2' j hj);have eS:EF F s S:=⟨by omega,fun j hj hn=>by rw [kS j (by omega),e2.h j (by simp only [adv_nx];omega) hn,adv_h,es1.h j hj (by simp)],fS⟩
  cases hc:((K.X.length:Int)==q) with
  | true =>
   simp only [hc,cond_true] at rS ⊢;refine ⟨1,?_⟩;rw [bTh];simp only [kO,m025,wx,wy,Z0,Z1,reduceCtorEq];refine bIr fS.adv rS.adv hd hm fun s4 q4=>⟨rfl,?_⟩;have hce:(K.X.length:Int)=q:=by simpa using hc
   have hle:K.X.length<=q.toNat:=by omega
   have ht:K.X.take q.toNat=K.X:=m014 hle;rw [ht];exact bY.step eS.adv m3 q4
  | false =>
   simp only [hc,cond_false] at rS ⊢
   have hlt:q < (K.X.length:Int):=by
    have:(K.X.length:Int)≠q:=by simpa using hc
    omega
   refine ⟨K.X.dropLast.length - q.toNat+2,?_⟩;refine bTb hd hq0 hm _ _ S F2 K.X.dropLast (s1.nx+5) w fS rS (by rw [m064];omega) (by rw [m064];omega) wl wo wa bS (fun h=>m2' _ h rfl) fun s4 q4=>⟨rfl,?_⟩;have ht:K.X.dropLast.take q.toNat=K.X.take q.toNat:=by rw [List.dropLast_eq_take,List.take_take,rM (by omega)]
   rw [ht] at q4
   exact bY.step eS m3 q4)
 obtain ⟨r,s',h1,rfl,h2⟩:=r;exact ⟨_,s',h1,rfl,h2⟩
theorem bSd (fr:aI s) (h:cN s p K F) {ms:List Int} {q:Int} (hd:K.am=ms++[q]) (hq0:0<=q) (hq:q<=(K.X.length:Int)) (hm:K.am.length<=2 ^ 20) (hl:K.X.length<=2 ^ 20) :
  ∃ r s' s1,WideC mEv 103 [.ptr p 2] s r s'/\bY s p F { K with X:=K.X.take q.toNat,am:=ms } s1/\GK 33 s1 s' r ((K.X.take q.toNat).map Sx.av):=by
 have r:=aPw (.ptr p 2) s (Q:=fun r s'=>∃ s1,bY s p F { K with X:=K.X.take q.toNat,am:=ms } s1/\GK 33 s1 s' r ((K.X.take q.toNat).map Sx.av)) (by
  unfold f103;refine (bQf fr.adv h.adv hd hq0 hq hm hl).call bOa fun s1 q1=>?_;have q1:=q1.from (s:=s) (EF.refl [] fr).adv;have q1':=q1;obtain ⟨F1,r1,e1,m1⟩:=q1;obtain ⟨xd,xm,xa,xn,m,c,rfl⟩:=r1;obtain ⟨r,s2,w1,w2⟩:=c96 (p:=p) (o:=2) (s:=Ai.adv s1 3) (vs:=(K.X.take q.toNat).map Sx.av) e1.fr.adv c.cell rfl (c.x.keep fun _ _=>rfl) (by rw [m002,m020];omega)
  exact bQ bLg ⟨r,s2,w1,Ai.adv s1 3,q1'.adv,w2⟩)
 obtain ⟨r,s',h1,s1,h2⟩:=r;exact ⟨r,s',s1,h1,h2⟩
end
end
noncomputable section
def DK (K:Sk):Sk:={ K with dm:=K.dm++[(K.D.length:Int)],am:=K.am++[(K.X.length:Int)] }
def pushN:Nat->Sk->Sk
 | 0,K=>K
 | n+1,K=>pushN n (DK K)
def sPush (K:Sk) (n:Int):Int×Sk:=bif decide (n < 0) then (1,K) else bif decide (n > 100 - (K.dm.length:Int)) then (2,K) else (0,pushN n.toNat K)
theorem bOz:mEv.fz 100=false:=by kernel_rfl
theorem bNf:mEv.fz 101=false:=by kernel_rfl
theorem bAw:mEv.fz 46=false:=by kernel_rfl
section
variable {s s':St} {p:Nat} {K:Sk} {F:List Nat} {xd xm xa xn m:AV}
theorem l50 (Q:aG) (N:Nat) (hN:N<=2 ^ 18):∀ (k i:Nat) (s:St) (F1:List Nat) (K1:Sk),i+k=N->aI s->cN s p K1 F1->K1.dm.length+k<=2 ^ 19->K1.am.length+k<=2 ^ 19 ->
  (∀ s',bY s p F1 (pushN k K1) s'->Q (.int .i64 0) s')->AA Q (k+1) (.ptr p 0) (.int .i64 N) (.int .i64 i) s:=by
 intro k
 induction k with
 | zero =>
  intro i s F1 K1 hi fr h hd ha hQ;show GB Q (AA Q 0) _ _ _ s;have c1:decide ((i:Int) < (N:Int))=false:=by simp;omega
  simp only [GB,QC,c1,wx,wy,Z0,Z1,reduceCtorEq];exact hQ _ (bY.same h fr (EF.refl [] fr).adv)
 | succ k ih =>
  intro i s F1 K1 hi fr h hd ha hQ;show GB Q (AA Q (k+1)) _ _ _ s;have c1:decide ((i:Int) < (N:Int))=true:=by simp;omega
  simp only [GB,c1,wx,wy,Z0,Z1,reduceCtorEq];refine ⟨rfl,?_⟩;refine (bTi fr.adv h.adv (by omega)).call bOz fun s1 q1=>?_;obtain ⟨F2,r2,e2,m2⟩:=q1.from (s:=s) (EF.refl [] fr).adv;refine ⟨rfl,?_⟩;refine (bPe e2.fr.adv r2.adv (by show K1.am.length<=2 ^ 20;omega)).call bNf fun s2 q2=>?_;obtain ⟨F3,r3,e3,m3⟩:=bY.step e2.adv m2 q2;simp only [aRq,wx,wy,Z0,Z1,reduceCtorEq];rw [cC i N (by omega) (by have:maxLen=9223372036854775807:=rfl;omega)];refine ih (i+1) _ F3 _ (by omega) e3.fr.adv r3.adv ?_ ?_ fun s4 q4=>hQ _ (bY.step e3.adv m3 q4)
  ·simp only [m006,List.length_singleton];omega
  ·simp only [m006,List.length_singleton];omega
theorem c50 (fr:aI s) (h:cN s p K F) (n:Int) (hd:K.dm.length<=100) (ha:K.am.length<=100):mW 50 [.ptr p 0,.int .i64 n] s p F (.int .i64 (sPush K n).1) (sPush K n).2:=by
 have r:=aTn (.ptr p 0) (.int .i64 n) s (Q:=fun r s'=>r=.int .i64 (sPush K n).1/\bY s p F (sPush K n).2 s') (by
  unfold f50;simp only [lZ,XQ,wx,wy,Z0,Z1,reduceCtorEq];have e20:∀ k,EF [] s (Ai.adv s k):=fun k=>(EF.refl [] fr).adv
  cases h1:decide (n < 0) with
  | true =>simp only [sPush,h1,cond_true,wx,wy,Z0,Z1,reduceCtorEq];exact bY.same h fr (e20 _)
  | false =>
   simp only [h1,wx,wy,Z0,Z1,reduceCtorEq];refine (c46 fr.adv h.adv).call bAw fun s1 e1=>?_;have e2:=(e20 _).nil_trans e1;have hw:IntKind.i64.wrap (100 - (K.dm.length:Int))=100 - (K.dm.length:Int):=IntWalk.i64_in _ (by omega);simp only [hw,wx,wy,Z0,Z1,reduceCtorEq]
   cases h2:decide (n > 100 - (K.dm.length:Int)) with
   | true =>simp only [sPush,h1,h2,cond_true,cond_false,wx,wy,Z0,Z1,reduceCtorEq];exact bY.same h fr e2.adv
   | false =>
    simp only [sPush,h1,h2,cond_false,NU,wx,wy,Z0,Z1,reduceCtorEq]
    have hn:((n.toNat:Nat):Int)=n:=by
     have:¬ (n < 0):=by simpa using h1
     omega
    have hn2:n.toNat<=100:=by
     have:¬ (n > 100 - (K.dm.length:Int)):=by simpa using h2
     omega
    refine ⟨n.toNat+1,?_⟩;have:=l50 (p:=p) (fun r s'=>r=.int .i64 0/\bY s p F (pushN n.toNat K) s') n.toNat (by omega) n.toNat 0 (Ai.adv s1 2) F K (by omega) e2.fr.adv (h.ext fr e2).adv (by omega) (by omega) (fun s4 q4=>⟨rfl,q4.from e2.adv⟩);rw [hn] at this
    exact this)
 obtain ⟨r,s',h1,rfl,h2⟩:=r;exact ⟨_,s',h1,rfl,h2⟩
def MD (K:Sk):Sk:={ D:=K.D.take (bV K.dm).toNat,dm:=K.dm.dropLast,X:=K.X.take (bV K.am).toNat,am:=K.am.dropLast,N:=some (((K.D.take (bV K.dm).toNat).map Dc.nm).foldl pR []) }
def popN:Nat->Sk->Sk
 | 0,K=>K
 | n+1,K=>popN n (MD K)
def sPop (K:Sk) (n:Int):Int×Sk:=bif decide (n < 0) then (1,K) else bif decide (n > (K.dm.length:Int)) then (5,K) else (0,popN n.toNat K)
structure MOk (ms:List Int) (n:Nat):Prop where
 le:∀ x∈ms,0<=x/\x<=(n:Int)
 up:ms.Pairwise (·<=·)
structure AD (K:Sk):Prop where
 d:MOk K.dm K.D.length
 x:MOk K.am K.X.length
 l:K.am.length=K.dm.length
 ld:K.D.length<=500
 lx:K.X.length<=500
 lm:K.dm.length<=100
theorem YW {ms:List Int} {q:Int} {n:Nat} (h:MOk (ms++[q]) n):0<=q/\q<=(n:Int)/\MOk ms (min q.toNat n):=by have h1:=h.le q (by simp);refine ⟨h1.1,h1.2,⟨fun x hx=>⟨(h.le x (by simp [hx])).1,?_⟩,(List.pairwise_append.1 h.up).1⟩⟩;have h2:=(List.pairwise_append.1 h.up).2.2 x hx q (by simp);omega
theorem BE (h:AD K) (hne:K.dm≠[]):∃ ms q ns r,K.dm=ms++[q]/\K.am=ns++[r]/\0<=q/\q<=(K.D.length:Int)/\0<=r/\r<=(K.X.length:Int)/\AD (MD K)/\MD K={ D:=K.D.take q.toNat,dm:=ms,X:=K.X.take r.toNat,am:=ns,N:=some (((K.D.take q.toNat).map Dc.nm).foldl pR []) }:=by
 obtain ⟨ms,q,hd⟩:∃ ms q,K.dm=ms++[q]:=by
  rcases m061 K.dm with h | ⟨a,b,h⟩
  ·exact absurd h hne
  ·exact ⟨a,b,by rw [h,List.concat_eq_append]⟩
 obtain ⟨ns,r,ha⟩:∃ ms q,K.am=ms++[q]:=by
  rcases m061 K.am with h1 | ⟨a,b,h1⟩
  ·have:=h.l;rw [h1,hd] at this;simp at this
  ·exact ⟨a,b,by rw [h1,List.concat_eq_append]⟩
 have hp:MD K={ D:=K.D.take q.toNat,dm:=ms,X:=K.X.take r.toNat,am:=ns,N:=some (((K.D.take q.toNat).map Dc.nm).foldl pR []) }:=by simp only [MD,hd,ha,eP,List.dropLast_concat]
 obtain ⟨a1,a2,a3⟩:=YW (hd ▸ h.d);obtain ⟨b1,b2,b3⟩:=YW (ha ▸ h.x);have hl:=h.l;rw [hd,ha] at hl;simp only [m006,List.length_singleton] at hl;have lm:=h.lm;rw [hd] at lm;simp only [m006,List.length_singleton] at lm;have ld:=h.ld;have lx:=h.lx;refine ⟨ms,q,ns,r,hd,ha,a1,a2,b1,b2,?_,hp⟩;rw [hp];exact ⟨by simpa [m020] using a3,by simpa [m020] using b3,by show ns.length=ms.length;omega,by show (K.D.take q.toNat).length<=500;rw [m020];omega,by show (K.X.take r.toNat).length<=500;rw [m020];omega,by show ms.length<=100;omega⟩
end
end
noncomputable section
section
variable {s s':St} {p:Nat} {K:Sk} {F:List Nat} {xd xm xa xn m:AV}
theorem bPt (Q:aG) (ih1:AV->AV->aG) (t17 t18:AV) (D:List Dc) (hl:D.length<=2 ^ 20) (jj j:Nat) :
  ∀ (k i:Nat) (s:St) (N:List (List UInt8)),i+k=D.length->aI s->gE s p { K with N:=some N } xd xm xa xn (.map j)->s.h jj=some (.cells ((D.map Dc.av).flatMap AV.cells) 67 false true)->jj ∉ p::aN xd xm xa xn (.map j) ->
   (∀ s',gE s' p { K with N:=some (((D.drop i).map Dc.nm).foldl pR N) } xd xm xa xn (.map j)->EF [j] s s'->zT Q ih1 (.ptr p 0) t18 t17 s') ->
   rA Q ih1 (k+1) (.ptr p 0) t17 t18 (.ref jj 0 D.length none 67) (.int .i64 D.length) (.int .i64 i) s:=by
 obtain ⟨Z,hZ,zl,zo,zi,za⟩:=z67;intro k
 induction k with
 | zero =>
  intro i s N hi fr c hj hjn hQ;show tW Q ih1 (rA Q ih1 0) _ _ _ _ _ _ s;have c1:decide ((i:Int) < (D.length:Int))=false:=by simp;omega
  rw [m044 (by omega)] at hQ;simp only [tW,c1,wx,wy,Z0,Z1,reduceCtorEq];exact hQ _ (c.keep fun _ _=>rfl) (EF.refl _ fr).adv
 | succ k ih =>
  intro i s N hi fr c hj hjn hQ;show tW Q ih1 (rA Q ih1 (k+1)) _ _ _ _ _ _ s;obtain ⟨y,hy⟩:∃ y,D[i]?=some y:=⟨_,m004 (by omega)⟩;have c1:decide ((i:Int) < (D.length:Int))=true:=by simp;omega
  obtain ⟨e1,e2,e3,e4⟩:=JT (z:=10) (i:=jj) (e:=67) (n:=D.length) (vs:=D.map Dc.av) (k:=i) (v:=y.av) (fun v hv=>by obtain ⟨y,_,rfl⟩:=m021.1 hv;exact gJ y) (by rw [m002]) (by rw [m047,hy];rfl) rfl;have hR:cN s p { K with N:=some N } (p::aN xd xm xa xn (.map j)):=⟨_,_,_,_,_,c,rfl⟩;have hF:=hR.lt fr;have hj0:j∈p::aN xd xm xa xn (.map j):=by simp [aN,aE]
  have hjs:=hF j hj0;have hps:=hF p (m007 ..);have hjjs:=fr.lt hj;have hpj:p≠j:=fun e=>by have:=c.nd;simp only [m036,m003,aE,m008,not_or] at this;exact this.1.2.2.2.2 e
  have hm:s.h j=some (.map (pO N)):=by
   rcases c.n with ⟨_,h⟩ | ⟨l,i,h1,h,h2⟩
   ·cases h
   ·cases h;cases h1;exact h2
  simp only [tW,c1,e1,hj,e2,hZ,wx,wy,Z0,Z1,reduceCtorEq];rw [bJ (id:=s.nx+3) (z:=10) (c:=Z.cells) (e:=67) (ex:=true) (v:=y.av) (by rw [adv_h,aF]) zl (gJ y) (eL y)];simp only [Bnd_some];obtain ⟨S,hS⟩:∃ S,S=(Ai.adv (s.set (s.nx+3) (some (.cells Z.cells 67 true true))) 5).set (s.nx+3) (some (.cells y.av.cells 67 true true)):=⟨_,rfl⟩;rw [<- hS];have nS:S.nx=s.nx+5:=by rw [hS];rfl
  have kS:∀ j,j≠s.nx+3->S.h j=s.h j:=fun j hj=>by rw [hS,aB hj,adv_h,aB hj]
  have bS:S.h (s.nx+3)=some (.cells y.av.cells 67 true true):=by rw [hS,aF]
  have fS:aI S:=fun j hj=>by rw [kS j (by omega)];exact fr j (by omega)
  have cS:=c.keep (s':=S) fun j hj=>kS j (by have:=hF j hj;omega);refine ⟨rfl,?_⟩;simp only [cS.cell,bS,dc0,wx,wy,Z0,Z1,reduceCtorEq];refine ⟨fS _ (by omega),?_⟩;rw [bDg (S:=Ai.adv S 7) (by rw [adv_h,kS j (by omega)];exact hm)];simp only [Bnd_some,aNi,wx,wy,Z0,Z1,reduceCtorEq];rw [cC i D.length (by omega) (by have:maxLen=9223372036854775807:=rfl;omega)];obtain ⟨T,hT⟩:∃ T,T=Ai.adv (S.set j (some (.map (pO (pR N y.nm))))) 9:=⟨_,rfl⟩;have kT:∀ i,i≠j->T.h i=S.h i:=fun i hi=>by rw [hT,adv_h,aB hi]
  have nT:T.nx=S.nx+9:=by rw [hT];rfl
  have cT:gE T p { K with N:=some (pR N y.nm) } xd xm xa xn (.map j):=YD cS fS (id:=S.nx) (bK _) (by rw [kT p hpj,cS.cell]) (fun i _ _ hi=>kT i (by simpa [aE] using hi)) (fun i hi=>.inr hi) (.inr ⟨_,j,rfl,rfl,by rw [hT,adv_h,aF]⟩);have fT:aI T:=fun i hi=>by rw [kT i (by omega)];exact fS i (by omega)
  have eT:EF [j] s T:=⟨by omega,fun i hi hn=>by rw [kT i (by simpa using hn),kS i (by omega)],fT⟩;have hjT:T.h jj=some (.cells ((D.map Dc.av).flatMap AV.cells) 67 false true):=by rw [kT jj (fun e=>hjn (e ▸ hj0)),kS jj (by omega),hj]
  refine (show rA Q ih1 (k+1) (.ptr p 0) t17 t18 (.ref jj 0 D.length none 67) (.int .i64 D.length) (.int .i64 ((i+1:Nat):Int)) T from ih (i+1) T _ (by omega) fT cT hjT hjn fun s' c' e'=>hQ s' ?_ (eT.trans e' fun i hi=>.inr hi)) |> fun h=>by rw [hT] at h;exact h
  rw [cE D i y hy];exact c'
theorem bSv (Q:aG) (ih1:AV->AV->aG) (t17 t18 r:AV) (s:St) (hQ:∀ n,zT Q ih1 (.ptr p 0) t18 t17 (Ai.adv s n)):rA Q ih1 1 (.ptr p 0) t17 t18 r (.int .i64 0) (.int .i64 0) s:=by show tW Q ih1 (rA Q ih1 0) _ _ _ _ _ _ s;have c1:decide ((0:Int) < 0)=false:=rfl;simp only [tW,c1,wx,wy,Z0,Z1,reduceCtorEq];exact hQ _
theorem bEd:mEv.fz 102=false:=by kernel_rfl
theorem bFc:mEv.fz 103=false:=by kernel_rfl
theorem l51 (Q:aG) (N:Nat) (hN:N<=2 ^ 18):∀ (k i:Nat) (s:St) (F1:List Nat) (K1:Sk),i+k=N->aI s->cN s p K1 F1->AD K1->k<=K1.dm.length ->
  (∀ s',bY s p F1 (popN k K1) s'->Q (.int .i64 0) s')->gW Q (k+1) (.ptr p 0) (.int .i64 N) (.int .i64 i) s:=by
 intro k
 induction k with
 | zero =>
  intro i s F1 K1 hi fr h hk hd hQ;show CM Q (gW Q 0) _ _ _ s;have c1:decide ((i:Int) < (N:Int))=false:=by simp;omega
  simp only [CM,zP,c1,wx,wy,Z0,Z1,reduceCtorEq];exact hQ _ (bY.same h fr (EF.refl [] fr).adv)
 | succ k ih =>
  intro i s F1 K1 hi fr h hk hd hQ;show CM Q (gW Q (k+1)) _ _ _ s;have c1:decide ((i:Int) < (N:Int))=true:=by simp;omega
  have hF:=h.lt fr;have hp:=hF p h.pin;have lD:=hk.ld;have lX:=hk.lx;have lm:=hk.lm;have lam:=hk.l;obtain ⟨ms,q,ns,r,h1,h2,q1,q2,r1,r2,hk2,hpop⟩:=BE hk (fun e=>by rw [e] at hd;simp at hd);obtain ⟨xd,xm,xa,xn,m,c,rfl⟩:=h;simp only [CM,c1,wx,wy,Z0,Z1,reduceCtorEq];refine ⟨rfl,?_⟩;rw [eB (c:=[xd,xm,xa,xn,m]) (e:=88) (ex:=true) (by rw [adv_h,aB (by omega),c.cell]) (by simp) rfl rfl];simp only [Bnd_some];rw [show ([xd,xm,xa,xn,m].set 4 (.map (s.nx+2)))=[xd,xm,xa,xn,.map (s.nx+2)] from rfl];obtain ⟨S,hS⟩:∃ S,S=(Ai.adv (s.set (s.nx+2) (some (.map []))) 6).set p (some (.cells [xd,xm,xa,xn,.map (s.nx+2)] 88 true true)):=⟨_,rfl⟩;rw [<- hS];have nS:S.nx=s.nx+6:=by rw [hS];rfl
  have kS:∀ j,j≠p->j≠s.nx+2->S.h j=s.h j:=fun j a b=>by rw [hS,aB a,adv_h,aB b]
  have fS:aI S:=fun j hj=>by rw [kS j (by omega) (by omega)];exact fr j (by omega)
  have cS:gE S p { K1 with N:=some [] } xd xm xa xn (.map (s.nx+2)):=YD c fr (id:=s.nx+2) (by omega) (by rw [hS,aF]) (fun j a b _=>kS j b (by omega)) (fun j hj=>.inl (by simpa [aE] using hj)) (.inr ⟨[],_,rfl,rfl,by rw [hS,aB (by omega),adv_h,aF];rfl⟩);have eS:EF (p::aN xd xm xa xn m) s S:=⟨by omega,fun j a b=>kS j (fun e=>b (by simp [e])) (by omega),fS⟩
  have mS:∀ j∈p::aN xd xm xa xn (.map (s.nx+2)),j∈p::aN xd xm xa xn m\/s.nx<=j:=fun j hj=>by
   simp only [m013,aN,m003,aE,m008] at hj ⊢;have:s.nx<=s.nx+2:=by omega
   grind
  refine ⟨rfl,?_⟩;obtain ⟨rr,s3,s1,w1,w2,w4⟩:=bSu (s:=Ai.adv S 6) (K:={ K1 with N:=some [] }) fS.adv (cN.adv ⟨_,_,_,_,_,cS,rfl⟩) h1 q1 q2 (by show K1.dm.length<=2 ^ 20;omega) (by show K1.D.length<=2 ^ 20;omega);refine bQ bEd ⟨rr,s3,w1,?_⟩;obtain ⟨F3,r3,e3,m3⟩:=w2.from (s:=S) (EF.refl [] fS).adv;obtain ⟨yd,ym,ya,yn,m',c3,rfl⟩:=r3;have hR3:cN s1 p _ (p::aN yd ym ya yn m'):=⟨_,_,_,_,_,c3,rfl⟩;have lt3:=hR3.lt e3.fr;have c3:=c3.keep (s':=s3) fun j hj=>w4.1.h j (lt3 j hj) (by simp);have e3:=e3.trans w4.1 (fun j hj=>by cases hj)
  obtain ⟨l0,j,hl0,hmj,hj⟩:∃ l j,some []=some l/\m'=.map j/\s3.h j=some (.map (pO l)):=by
   rcases c3.n with ⟨h,_⟩ | h
   ·cases h
   ·exact h
  subst hmj;have e03:=eS.trans e3 (fun j hj=>(mS j hj).symm)
  have m03:∀ w∈p::aN yd ym ya yn (.map j),w∈p::aN xd xm xa xn m\/s.nx<=w:=fun w hw=>by
   rcases m3 w hw with h | h
   ·exact mS w h
   ·exact .inr (by omega)
  have fin:∀ s4,gE s4 p { D:=K1.D.take q.toNat,dm:=ms,X:=K1.X,am:=K1.am,N:=some (((K1.D.take q.toNat).map Dc.nm).foldl pR []) } yd ym ya yn (.map j)->EF [j] s3 s4->zT Q (gW Q (k+1)) (.ptr p 0) (.int .i64 i) (.int .i64 N) s4:=fun s4 c4 e4=>by unfold zT;refine ⟨rfl,?_⟩;simp only [wx,wy,Z0,Z1,reduceCtorEq];obtain ⟨r5,s5,s51,x1,x2,x3⟩:=bSd (s:=Ai.adv s4 4) e4.fr.adv (cN.adv ⟨_,_,_,_,_,c4,rfl⟩) h2 r1 r2 (by show K1.am.length<=2 ^ 20;omega) (by show K1.X.length<=2 ^ 20;omega);refine bQ bFc ⟨r5,s5,x1,?_⟩;have e34:EF (p::aN yd ym ya yn (.map j)) s3 s4:=e4.sub fun i hi=>.inr (by simp only [m008] at hi;subst hi;simp [aN,aE]);have e04:=e03.trans e34 (fun i hi=>(m03 i hi).symm);obtain ⟨F5,r5',e5,m5⟩:=bY.step e04.adv m03 x2;have r5':=r5'.ext e5.fr x3.1;have e5:=e5.trans x3.1 (fun j hj=>by cases hj);simp only [CE,wx,wy,Z0,Z1,reduceCtorEq];rw [cC i N (by omega) (by have:maxLen=9223372036854775807:=rfl;omega)];refine ih (i+1) _ F5 (MD K1) (by omega) e5.fr.adv (by rw [hpop];exact r5'.adv) hk2 (by rw [hpop];show k<=ms.length;rw [h1] at hd;simp at hd;omega) fun s6 q6=>hQ s6 (bY.step e5.adv m5 q6)
  have w4':=w4;obtain ⟨z1,z2 | ⟨jj,z3,rfl,z4,z5⟩⟩:=w4
  ·have hD0:K1.D.take q.toNat=[]:=by simpa using z2.1
   simp only [bFu w4',hD0,List.length_nil,wx,wy,Z0,Z1,reduceCtorEq];refine ⟨1,bSv Q _ _ _ _ _ fun n=>?_⟩;refine fin _ ?_ (EF.refl _ e3.fr).adv;rw [hD0];rw [hD0] at c3;exact c3.keep fun _ _=>rfl
  ·simp only [bFu w4',wx,wy,Z0,Z1,reduceCtorEq];rw [m002];cases hl0;have hjjn:jj ∉ p::aN yd ym ya yn (.map j):=fun hm=>by have:=lt3 jj hm;omega
   refine ⟨(K1.D.take q.toNat).length+1,bPt (K:={ D:=K1.D.take q.toNat,dm:=ms,X:=K1.X,am:=K1.am,N:=none }) Q _ _ _ (K1.D.take q.toNat) (by rw [m020];omega) jj j (K1.D.take q.toNat).length 0 s3 [] (by omega) e3.fr c3 z5 hjjn fun s4 c4 e4=>fin s4 c4 e4⟩
theorem c51 (fr:aI s) (h:cN s p K F) (hk:AD K) (n:Int):mW 51 [.ptr p 0,.int .i64 n] s p F (.int .i64 (sPop K n).1) (sPop K n).2:=by
 have lm:=hk.lm
 have r:=aXk (.ptr p 0) (.int .i64 n) s (Q:=fun r s'=>r=.int .i64 (sPop K n).1/\bY s p F (sPop K n).2 s') (by
  unfold f51;simp only [lZ,VP,wx,wy,Z0,Z1,reduceCtorEq];have e20:∀ k,EF [] s (Ai.adv s k):=fun k=>(EF.refl [] fr).adv
  cases h1:decide (n < 0) with
  | true =>simp only [sPop,h1,cond_true,wx,wy,Z0,Z1,reduceCtorEq];exact bY.same h fr (e20 _)
  | false =>
   simp only [h1,wx,wy,Z0,Z1,reduceCtorEq];refine (c46 fr.adv h.adv).call bAw fun s1 e1=>?_;have e2:=(e20 _).nil_trans e1;simp only [wx,wy,Z0,Z1,reduceCtorEq]
   cases h2:decide (n > (K.dm.length:Int)) with
   | true =>simp only [sPop,h1,h2,cond_true,cond_false,wx,wy,Z0,Z1,reduceCtorEq];exact bY.same h fr e2.adv
   | false =>
    simp only [sPop,h1,h2,cond_false,MO,wx,wy,Z0,Z1,reduceCtorEq]
    have hn:((n.toNat:Nat):Int)=n:=by
     have:¬ (n < 0):=by simpa using h1
     omega
    have hn2:n.toNat<=K.dm.length:=by
     have:¬ (n > (K.dm.length:Int)):=by simpa using h2
     omega
    refine ⟨n.toNat+1,?_⟩;have:=l51 (p:=p) (fun r s'=>r=.int .i64 0/\bY s p F (popN n.toNat K) s') n.toNat (by omega) n.toNat 0 (Ai.adv s1 2) F K (by omega) e2.fr.adv (h.ext fr e2).adv hk hn2 (fun s4 q4=>⟨rfl,q4.from e2.adv⟩);rw [hn] at this
    exact this)
 obtain ⟨r,s',h1,rfl,h2⟩:=r;exact ⟨_,s',h1,rfl,h2⟩
theorem RE {ms:List Int} {n k:Nat} (h:MOk ms n) (hk:n<=k):MOk ms k:=⟨fun x hx=>⟨(h.le x hx).1,by have:=(h.le x hx).2;omega⟩,h.up⟩
theorem QZ {ms:List Int} {n:Nat} (h:MOk ms n):MOk (ms++[(n:Int)]) n:=by
 refine ⟨fun x hx=>?_,List.pairwise_append.2 ⟨h.up,by simp,fun x hx y hy=>?_⟩⟩
 ·rcases m003.1 hx with hx | hx
  ·exact h.le x hx
  ·simp only [m008] at hx;subst hx;omega
 ·simp only [m008] at hy;subst hy;exact (h.le x hx).2
theorem RB (h:AD K) (hl:K.dm.length+1<=100):AD (DK K) :=
 ⟨QZ h.d,QZ h.x,by simp [DK,h.l],h.ld,h.lx,by simp [DK];omega⟩
theorem ZW:∀ (n:Nat) (K:Sk),AD K->K.dm.length+n<=100->AD (pushN n K):=by
 intro n
 induction n with
 | zero=>intro K h _;exact h
 | succ n ih=>intro K h hl;exact ih _ (RB h (by omega)) (by simp [DK];omega)
theorem aGa (h:AD K) (n:Int):AD (sPush K n).2:=by
 unfold sPush;cases h1:decide (n < 0)
 ·cases h2:decide (n > 100 - (K.dm.length:Int))
  ·simp only [cond_false];have:¬ (n < 0):=by simpa using h1
   have:¬ (n > 100 - (K.dm.length:Int)):=by simpa using h2
   have:=h.lm;exact ZW _ _ h (by omega)
  ·exact h
 ·exact h
theorem aHv:∀ (n:Nat) (K:Sk),AD K->n<=K.dm.length->AD (popN n K):=by
 intro n
 induction n with
 | zero=>intro K h _;exact h
 | succ n ih =>intro K h hl;obtain ⟨ms,q,ns,r,h1,h2,q1,q2,r1,r2,hk2,hpop⟩:=BE h (fun e=>by rw [e] at hl;simp at hl);exact ih _ hk2 (by rw [hpop];show n<=ms.length;rw [h1] at hl;simp at hl;omega)
theorem aPh (h:AD K) (n:Int):AD (sPop K n).2:=by
 unfold sPop;cases h1:decide (n < 0)
 ·cases h2:decide (n > (K.dm.length:Int))
  ·simp only [cond_false];have:¬ (n < 0):=by simpa using h1
   have:¬ (n > (K.dm.length:Int)):=by simpa using h2
   exact aHv _ _ h (by omega)
  ·exact h
 ·exact h
theorem aGh (h:AD K) (d:Dc):AD (oR K d).2:=by
 unfold oR;cases h1:((K.D.length:Int)==500)
 ·have:(K.D.length:Int)≠500:=by simpa using h1
  have:=h.ld;exact ⟨RE h.d (by simp),h.x,h.l,by simp;omega,h.lx,h.lm⟩
 ·exact h
theorem aSb (h:AD K) (hl:K.X.length < 500) (y:Sx):AD { K with X:=K.X++[y] }:=⟨h.d,RE h.x (by simp),h.l,h.ld,by simp;omega,h.lm⟩
end
end
noncomputable section
def nH (v:Nat):List Nat:=if h:v=0 then [] else v % 4294967296::nH (v / 4294967296)
termination_by v
decreasing_by omega
theorem jD:nH 0=[]:=by unfold nH;rfl
theorem vS {v:Nat} (h:v≠0):nH v=v % 4294967296::nH (v / 4294967296):=by rw [nH];simp [h]
theorem EX:∀ v,val (nH v)=v:=by
 intro v
 induction v using Nat.strongRecOn with
 | ind v ih =>
  by_cases h:v=0
  ·subst h;rw [jD];rfl
  ·rw [vS h];simp only [val,ih _ (show v / 4294967296 < v by omega)];omega
theorem oQ:∀ v,cI (nH v):=by
 intro v
 induction v using Nat.strongRecOn with
 | ind v ih =>
  by_cases h:v=0
  ·subst h;rw [jD];intro x hx;cases hx
  ·rw [vS h];intro x hx;rcases m013.1 hx with rfl | hx
   ·rw [BN];omega
   ·exact ih _ (show v / 4294967296 < v by omega) x hx
theorem wV:∀ (k v:Nat),v < pw k->(nH v).length<=k:=by
 intro k
 induction k with
 | zero =>
  intro v h;rw [AW] at h;have:v=0:=by omega
  subst this;rw [jD];simp
 | succ k ih =>
  intro v h;by_cases h0:v=0
  ·subst h0;rw [jD];simp
  ·rw [vS h0];rw [kJ] at h;have:=ih (v / 4294967296) (by omega);simp only [List.length_cons];omega
def noT (l:List Nat):Prop:=l=[]\/∃ x,l[l.length - 1]?=some x/\x≠0
theorem bIa:∀ (l:List Nat),cI l->noT l->l=nH (val l):=by
 intro l
 induction l with
 | nil=>intro _ _;simp only [val];rw [jD]
 | cons x l ih =>
  intro hl hn;have hx:=hl x (m007 ..);rw [BN] at hx;have hl':cI l:=fun y hy=>hl y (m005 _ hy);rcases hn with hn | ⟨y,hy,hy0⟩
  ·cases hn
  ·have hv:val (x::l)≠0:=by
    simp only [val]
    cases l with
    | nil=>simp at hy;omega
    | cons z l =>
     have hn2:noT (z::l):=.inr ⟨y,by simpa using hy,hy0⟩;have:=ih hl' hn2;intro h;have h0:val (z::l)=0:=by omega
     rw [h0,jD] at this;cases this
   rw [vS hv];simp only [val];have h1:(x+4294967296 * val l) % 4294967296=x:=by omega
   have h2:(x+4294967296 * val l) / 4294967296=val l:=by omega
   rw [h1,h2];congr 1;refine ih hl' ?_
   cases l with
   | nil=>exact .inl rfl
   | cons z l=>exact .inr ⟨y,by simpa using hy,hy0⟩
theorem CU {l:List Nat} (h:cI l):bU l=nH (val l):=by
 have h1:=bIa (bU l) (fH h) (by
  obtain ⟨_,h2⟩:=sF l l.length (bK _);have hle:=DW l l.length;unfold bU;rcases h2 with h2 | ⟨x,h2,h3⟩
  ·rw [h2];exact .inl rfl
  ·by_cases h0:iT l l.length=0
   ·rw [h0];exact .inl rfl
   ·right;refine ⟨x,?_,h3⟩;rw [m020,rM hle,List.getElem?_take_of_lt (by omega)]
    exact h2)
 rw [qM] at h1;exact h1
theorem VA {l:List Nat} {k u:Nat} (v:Nat) (h:l[k]?=some u):val (l.set k v)+pw k * u=val l+pw k * v:=by
 induction l generalizing k with
 | nil=>simp at h
 | cons x l ih =>
  cases k with
  | zero=>simp at h;subst h;simp only [List.set_cons_zero,val,AW];omega
  | succ k =>simp only [List.getElem?_cons_succ] at h;have:=ih h;simp only [List.set_cons_succ,val,kJ];have e1:4294967296 * pw k * u=4294967296 * (pw k * u):=NC ..;have e2:4294967296 * pw k * v=4294967296 * (pw k * v):=NC ..;omega
theorem aWo (n:Nat):val (List.replicate n 0)=0:=by
 induction n with
 | zero=>rfl
 | succ n ih=>simp only [List.replicate_succ,val,ih]
def lb (a:List Nat) (i:Nat):Nat:=(a[i]?).getD 0
theorem aZz {a:List Nat} (h:cI a) (i:Nat):lb a i < 2 ^ 32:=by
 unfold lb
 cases he:a[i]? with
 | none=>decide
 | some x=>exact h x (m017 he)
theorem wG (a:List Nat) (i:Nat):val (a.take (i+1))=val (a.take i)+pw i * lb a i:=by
 unfold lb
 cases he:a[i]? with
 | none =>have:=List.getElem?_eq_none_iff.1 he;rw [m014 (by omega),m014 this];simp
 | some x =>have hlt:=(m012.1 he).1;rw [m062,he,oN];simp only [m020,rM (Nat.le_of_lt hlt),Option.toList,val,Option.getD_some,Nat.mul_zero,Nat.add_zero]
theorem VE {i j:Nat} (h:i<=j):pw i<=pw j:=Nat.pow_le_pow_right (by decide) h
theorem bHt (a:List Nat) (i:Nat) (h:cI a):bE mEv 214 [fZ a,.int .i64 i] (.int .u64 (lb a i)):=by
 refine dA (aPb _ _ _ ?_);unfold f214;have hg:∀ u v:Int,bn .geq 3 (.int .i64 u) (.int .i64 v)=some (.bool (decide (u >= v))):=fun _ _=>bin_geq;simp only [fZ,zG,m002,hg,wx,wy,Z0,Z1,reduceCtorEq]
 cases he:a[i]? with
 | none =>have:=List.getElem?_eq_none_iff.1 he;have hd:decide ((i:Int) >= (a.length:Int))=true:=decide_eq_true (by omega);simp only [hd,lb,he,Option.getD_none,wx,wy,Z0,Z1,reduceCtorEq];exact aX rfl
 | some x =>have hlt:=(m012.1 he).1;have hd:decide ((i:Int) >= (a.length:Int))=false:=decide_eq_false (by omega);have hx:=h x (m017 he);rw [BN] at hx;simp only [hd,cJ RT false he,aHh,yI,lb,he,Option.getD_some,wx,wy,Z0,Z1,reduceCtorEq];rw [show IntKind.u64.wrap (x:Int)=(x:Int) from IntWalk.u64_in _ (by omega)];exact aX rfl
theorem PY (a:Nat):bn .shr 159 (.int .u64 (a:Int)) (.int .u64 32)=some (.int .u64 ((a / 4294967296:Nat):Int)):=by have h:bn .shr 159 (.int .u64 (a:Int)) (.int .u64 32)=some (.int .u64 ((a:Int).fdiv (2 ^ 32))):=aVj (n:=32) (by decide);rw [h];congr 2;rw [Int.fdiv_eq_ediv_of_nonneg _ (by decide)];rfl
theorem UV (a:Nat):IntKind.u32.wrap (a:Int)=((a % 4294967296:Nat):Int):=by
 simp [IntKind.wrap,IntKind.bits,IntKind.signed]
 try omega
theorem bRs (a b:List Nat) (ha:cI a) (hb:cI b) (n:Nat) (hn:n<=2 ^ 31) (hla:a.length < n) (hlb:b.length < n) (Q:aG) (N c:Nat) (e':TypeId)
  (hQ:∀ (out:List Nat) s,cI out->out.length=n->val out=val a+val b->s.h N=some (.cells (out.map lP) e' true true)->xQ Q (.ref N 0 n (some c) 211) s) :
  ∀ (m i:Nat) (done:List Nat) (cy:Nat) (s:St),i+m=n->done.length=i->cI done->cy<=1->val done+pw i * cy=val (a.take i)+val (b.take i)->s.h N=some (.cells ((done++List.replicate m 0).map lP) e' true true) ->
   rI Q (m+1) (fZ a) (fZ b) (.ref N 0 n (some c) 211) (.int .u64 cy) (.int .i64 n) (.int .i64 i) s:=by
 intro m
 induction m with
 | zero =>
  intro i done cy s hi hd hld hcy hv hs;show vU Q (rI Q 0) _ _ _ _ _ _ s;have c1:decide ((i:Int) < (n:Int))=false:=by simp;omega
  rw [m014 (by omega),m014 (by omega)] at hv;simp only [List.replicate_zero,m011] at hs
  have hcy0:cy=0:=by
   have h1:=UL a ha;have h2:=UL b hb;have h3:pw a.length<=pw (n - 1):=VE (by omega);have h4:pw b.length<=pw (n - 1):=VE (by omega);have h5:pw n=4294967296 * pw (n - 1):=by rw [<- kJ];congr 1;omega
   have hin:i=n:=by omega
   subst hin;rcases KR cy with h | h
   ·exact h
   ·exfalso;have:cy=1:=by omega
    subst this;have:=aPd (i - 1);omega
  simp only [vU,c1,wx,wy,Z0,Z1,reduceCtorEq];refine hQ done _ hld (by omega) (by rw [<- hv,hcy0];simp) (by rw [adv_h];exact hs)
 | succ m ih =>
  intro i done cy s hi hd hld hcy hv hs;show vU Q (rI Q (m+1)) _ _ _ _ _ _ s;have c1:decide ((i:Int) < (n:Int))=true:=by simp;omega
  have w1:IntKind.i64.wrap ((i:Int)+1)=((i+1:Nat):Int):=jG (n:=n) (by omega) (by omega);have la:=aZz ha i;have lb':=aZz hb i;rw [BN] at la lb';have hadd:∀ x y:Nat,x+y < 2 ^ 64->bn .add 159 (.int .u64 (x:Int)) (.int .u64 (y:Int))=some (.int .u64 ((x+y:Nat):Int)):=fun x y h=>by have h1:bn .add 159 (.int .u64 (x:Int)) (.int .u64 (y:Int))=some (.int .u64 (IntKind.u64.wrap ((x:Int)+(y:Int)))):=bin_add;rw [h1,show IntKind.u64.wrap ((x:Int)+(y:Int))=((x+y:Nat):Int) by rw [IntWalk.u64_in _ (by omega)];rfl]
  have hix:cQ 1 (.ref N 0 n (some c) 211) (.int .i64 (i:Int))=some (.ptr N i):=BF (by omega) .i64;simp only [vU,c1,wx,wy,Z0,Z1,reduceCtorEq];refine aP (bHt a i ha) (by simp [dG,AV.closed]) ?_;refine aP (bHt b i hb) (by simp [dG,AV.closed]) ?_;rw [hadd _ _ (by omega)];simp only [Bnd_some];rw [hadd _ _ (by omega)];simp only [sM,UV,hix,PY,wx,wy,Z0,Z1,reduceCtorEq];obtain ⟨t,ht⟩:∃ t,t=cy+(lb a i+lb b i):=⟨_,rfl⟩;rw [<- ht];rw [eB (v:=.int .u32 ((t % 4294967296:Nat):Int)) (c:=(done++List.replicate (m+1) 0).map lP) (by rw [adv_h];exact hs) (by simp;omega) rfl rfl];simp only [RR,w1,wx,wy,Z0,Z1,reduceCtorEq];have hset:((done++List.replicate (m+1) 0).map lP).set i (.int .u32 ((t % 4294967296:Nat):Int))=((done++[t % 4294967296])++List.replicate m 0).map lP:=by subst hd;simp [List.replicate_succ,lP]
  rw [hset];refine ih (i+1) (done++[t % 4294967296]) (t / 4294967296) _ (by omega) (by simp [hd]) (fun x hx=>?_) (by omega) ?_ (by rw [adv_h,aF])
  ·rcases m003.1 hx with hx | hx
   ·exact hld x hx
   ·rw [m008.1 hx,BN];omega
  ·rw [oN,wG,wG,hd,kJ];simp only [val,Nat.mul_zero,Nat.add_zero];have hm:t=4294967296 * (t / 4294967296)+t % 4294967296:=(Nat.div_add_mod t 4294967296).symm
   have e1:pw i * (t % 4294967296)+4294967296 * pw i * (t / 4294967296)=pw i * t:=by
    have e:pw i * t=pw i * (4294967296 * (t / 4294967296)+t % 4294967296):=by rw [<- hm]
    rw [e,GF,<- NC,Nat.mul_comm (pw i) 4294967296];omega
   have e2:pw i * t=pw i * cy+(pw i * lb a i+pw i * lb b i):=by rw [ht,GF,GF]
   omega
theorem bGo (a b:Nat) (id:Nat) (s:St):bt .max #[3,3] [.int .i64 (a:Int),.int .i64 (b:Int)] id s=some (.int .i64 ((Nat.max a b:Nat):Int),s):=by
 have h:bt .max #[3,3] [.int .i64 (a:Int),.int .i64 (b:Int)] id s=(AJ (fun y x=>decide (x < y)) [.int .i64 (a:Int),.int .i64 (b:Int)]).map (·,s):=by kernel_rfl
 rw [h];simp only [AJ,if_true,Option.map_some,decide_eq_true_eq];congr 3;by_cases hc:(a:Int) < (b:Int)
 ·rw [if_pos hc];congr 1;exact (Nat.max_eq_right (by omega)).symm
 ·rw [if_neg hc];congr 1;exact (Nat.max_eq_left (by omega)).symm
theorem bQt (a b:List Nat) (ha:cI a) (hb:cI b) (hla:a.length<=2 ^ 29) (hlb:b.length<=2 ^ 29):bE mEv 179 [fZ a,fZ b] (fZ (nH (val a+val b))):=by
 refine dA (aKu _ _ _ ?_);have hz:zero Tryz.ty 211=some (.int .u32 0):=WI;have hc0:(AV.int .u32 0).cells=[.int .u32 0]:=rfl;have h1:a.length<=Nat.max a.length b.length:=Nat.le_max_left ..;have h2:b.length<=Nat.max a.length b.length:=Nat.le_max_right ..;have h3:Nat.max a.length b.length<=2 ^ 29:=Nat.max_le.2 ⟨hla,hlb⟩;have hw:IntKind.i64.wrap (((Nat.max a.length b.length:Nat):Int)+1)=((Nat.max a.length b.length+1:Nat):Int):=by rw [IntWalk.i64_in _ (by omega)];rfl
 unfold f179;simp only [yE,bGo,hw,KN EM hz (Nat.max a.length b.length+1) (by omega) (by omega),hc0,uV,wx,wy,Z0,Z1,reduceCtorEq];refine ⟨_,bRs a b ha hb (Nat.max a.length b.length+1) (by omega) (by omega) (by omega) _ _ _ 211 (fun out s g1 g2 g3 g4=>?_) (Nat.max a.length b.length+1) 0 [] 0 _ (by omega) rfl (fun x hx=>by cases hx) (by omega) (by simp [val]) (by rw [adv_h,aF];simp [lP])⟩;unfold xQ;have hp:=BD (s:=Ai.adv s 3) (c:=some (Nat.max a.length b.length+1)) (k:=11) (l:=out) (f:=lP) EM (by rw [adv_h];exact g4) (fun _ _=>rfl) (fun _ _=>rfl);rw [g2] at hp;refine sE (args2:=[fZ out]) (ids:=[St.empty.nx+9]) (by simp only [dN,hp,fZ,m011]) (ZY _ (by rw [g2];omega)) ?_;rw [CU g1,g3];exact aX (dG _)
theorem zR {l:List Nat} (h:cI l) {k v:Nat} (hv:v < 2 ^ 32):cI (l.set k v):=fun x hx=>by
 rcases List.mem_or_eq_of_mem_set hx with h1 | rfl
 ·exact h x h1
 ·exact hv
theorem aCn {x y u c:Nat} (hx:x < 4294967296) (hy:y < 4294967296) (hu:u < 4294967296) (hc:c < 4294967296):c+(x * y+u) < 18446744073709551616:=by have h1:x * y<=4294967295 * 4294967295:=Nat.mul_le_mul (by omega) (by omega);omega
theorem bFf {x:Nat} (h:x < 4294967296):IntKind.u64.wrap (x:Int)=(x:Int):=IntWalk.u64_in _ (by omega)
theorem bGy (a b:List Nat) (hb:cI b) (hla:a.length<=2 ^ 28) (hlb:b.length<=2 ^ 28) (Q:aG) (ih1:AV->AV->AV->AV->aG) (N c n:Nat) (e':TypeId) (i x:Nat) (hi:i < a.length) (hn:n=a.length+b.length) (hx:x < 2 ^ 32) (v0:Nat)
  (hQ:∀ (out:List Nat) s,cI out->out.length=n->val out=v0+pw i * (x * val b)->(∀ k,i+b.length < k->k < n->out[k]?=some 0)->s.h N=some (.cells (out.map lP) e' true true)->qP Q ih1 (.int .i64 i) (fZ b) (.ref N 0 n (some c) 211) (fZ a) (.int .i64 a.length) s) :
  ∀ (m j:Nat) (out:List Nat) (cy:Nat) (s:St),j+m=b.length->cI out->out.length=n->cy < 2 ^ 32->val out+pw (i+j) * cy=v0+pw i * (x * val (b.take j))->(∀ k,i+b.length<=k->k < n->out[k]?=some 0)->s.h N=some (.cells (out.map lP) e' true true) ->
   qX Q ih1 (m+1) (fZ b) (.ref N 0 n (some c) 211) (.int .i64 i) (.int .u32 x) (.int .u64 cy) (fZ a) (.int .i64 a.length) (.int .i64 i) (.int .i64 b.length) (.int .i64 j) s:=by
 rw [BN] at hx;intro m
 induction m with
 | zero =>
  intro j out cy s hj hlo hlen hcy hv hz hs;rw [BN] at hcy;show vP Q ih1 (qX Q ih1 0) _ _ _ _ _ _ _ _ _ _ s;have c1:decide ((j:Int) < (b.length:Int))=false:=by simp;omega
  rw [m014 (by omega)] at hv;have hjb:j=b.length:=by omega
  subst hjb;have hz0:=hz (i+b.length) (bK _) (by omega);have hix:cQ 1 (.ref N 0 n (some c) 211) (.int .i64 ((i+b.length:Nat):Int))=some (.ptr N (i+b.length)):=BF (by omega) .i64;have wij:IntKind.i64.wrap ((i:Int)+(b.length:Int))=((i+b.length:Nat):Int):=by rw [IntWalk.i64_in _ (by omega)];rfl
  simp only [vP,c1,CH,yE,wij,sM,UV,hix,wx,wy,Z0,Z1,reduceCtorEq];rw [eB (v:=.int .u32 ((cy % 4294967296:Nat):Int)) (c:=out.map lP) (by simp only [adv_h];exact hs) (by simp;omega) rfl rfl];simp only [Bnd_some];have hset:(out.map lP).set (i+b.length) (.int .u32 ((cy % 4294967296:Nat):Int))=(out.set (i+b.length) cy).map lP:=by rw [Nat.mod_eq_of_lt hcy,List.map_set];rfl
  rw [hset];have hvs:=VA cy hz0;refine hQ (out.set (i+b.length) cy) _ (zR hlo (by rw [BN];exact hcy)) (by rw [List.length_set];exact hlen) (by simp only [Nat.mul_zero,Nat.add_zero] at hvs;omega) (fun k hk hk2=>?_) (by rw [aF]);rw [List.getElem?_set_ne (by omega)];exact hz k (by omega) hk2
 | succ m ih =>
  intro j out cy s hj hlo hlen hcy hv hz hs;rw [BN] at hcy;show vP Q ih1 (qX Q ih1 (m+1)) _ _ _ _ _ _ _ _ _ _ s;have c1:decide ((j:Int) < (b.length:Int))=true:=by simp;omega
  have w1:IntKind.i64.wrap ((j:Int)+1)=((j+1:Nat):Int):=jG (n:=b.length) (by omega) (by omega);obtain ⟨y,hy⟩:∃ y,b[j]?=some y:=⟨_,m004 (by omega)⟩;have hyl:=hb y (m017 hy);rw [BN] at hyl;obtain ⟨u,hu⟩:∃ u,out[i+j]?=some u:=⟨_,m004 (by omega)⟩;have hul:=hlo u (m017 hu);rw [BN] at hul;have hix:cQ 1 (.ref N 0 n (some c) 211) (.int .i64 ((i+j:Nat):Int))=some (.ptr N (i+j)):=BF (by omega) .i64;have hub:(out.map lP)[i+j]?=some (.int .u32 (u:Int)):=by rw [m047,hu];rfl
  have hsm:=aCn hx hyl hul hcy;have h1:x * y < 2 ^ 64:=by rw [p64];omega
  have hiy:cQ 1 (fZ b) (.int .i64 (j:Int))=some (.pel (lP y).cells 0):=cJ RT false hy .i64;have c8:∀ (z:Nat) (s:St),z < 4294967296->cv 211 159 (.int .u32 (z:Int)) s=some (.int .u64 (z:Int)):=fun z s hz=>by rw [yI,bFf hz]
  have wij:IntKind.i64.wrap ((i:Int)+(j:Int))=((i+j:Nat):Int):=by rw [IntWalk.i64_in _ (by omega)];rfl
  have wxy:IntKind.u64.wrap ((x:Int) * (y:Int))=((x * y:Nat):Int):=by rw [IntWalk.u64_in _ (by rw [<- Int.natCast_mul];omega)];exact (Int.natCast_mul ..).symm
  have wu:IntKind.u64.wrap (((x * y:Nat):Int)+(u:Int))=((x * y+u:Nat):Int):=by rw [IntWalk.u64_in _ (by omega)];rfl
  have wc:IntKind.u64.wrap (((cy:Nat):Int)+((x * y+u:Nat):Int))=((cy+(x * y+u):Nat):Int):=by rw [IntWalk.u64_in _ (by omega)];rfl
  simp only [vP,c1,hiy,aHh,c8 x _ hx,c8 y _ hyl,wij,wxy,hix,ld_ptr,adv_h,hs,part_one,hub,c8 u _ hul,wu,wc,wx,wy,Z0,Z1,reduceCtorEq];obtain ⟨t,ht⟩:∃ t,t=cy+(x * y+u):=⟨_,rfl⟩;rw [<- ht];simp only [sM,UV,PY,Bnd_some,hix];rw [eB (v:=.int .u32 ((t % 4294967296:Nat):Int)) (c:=out.map lP) (by simp only [adv_h];exact hs) (by simp;omega) rfl rfl];simp only [SU,w1,wx,wy,Z0,Z1,reduceCtorEq];have hset:(out.map lP).set (i+j) (.int .u32 ((t % 4294967296:Nat):Int))=(out.set (i+j) (t % 4294967296)).map lP:=by rw [List.map_set];rfl
  rw [hset];have htl:t < 18446744073709551616:=by rw [ht];exact hsm
  refine ih (j+1) (out.set (i+j) (t % 4294967296)) (t / 4294967296) _ (by omega) (zR hlo (by rw [BN];omega)) (by rw [List.length_set];exact hlen) (by rw [BN];omega) ?_ (fun k hk hk2=>by rw [List.getElem?_set_ne (by omega)];exact hz k hk hk2) (by rw [adv_h,aF]);have hvs:=VA (t % 4294967296) hu;have hvt:=wG b j;have hlbj:lb b j=y:=by unfold lb;rw [hy];rfl
  rw [hlbj] at hvt;have hm:t=4294967296 * (t / 4294967296)+t % 4294967296:=(Nat.div_add_mod t 4294967296).symm;have hpij:pw (i+j)=pw i * pw j:=by unfold pw;rw [Nat.pow_add]
  rw [<- m066,kJ,hvt]
  have e1:pw (i+j) * (t % 4294967296)+4294967296 * pw (i+j) * (t / 4294967296)=pw (i+j) * t:=by
   have e:pw (i+j) * t=pw (i+j) * (4294967296 * (t / 4294967296)+t % 4294967296):=by rw [<- hm]
   rw [e,GF,<- NC,Nat.mul_comm (pw (i+j)) 4294967296];omega
  have e2:pw (i+j) * t=pw (i+j) * cy+(pw (i+j) * (x * y)+pw (i+j) * u):=by rw [ht,GF,GF]
  have e3:pw i * (x * (val (b.take j)+pw j * y))=pw i * (x * val (b.take j))+pw (i+j) * (x * y):=by rw [hpij,GF,GF,Nat.mul_left_comm x (pw j) y,NC]
  rw [e3];omega
theorem bJx (a b:List Nat) (ha:cI a) (hb:cI b) (hla:a.length<=2 ^ 28) (hlb:b.length<=2 ^ 28) (Q:aG) (N c n:Nat) (e':TypeId) (hn:n=a.length+b.length)
  (hQ:∀ (out:List Nat) s,cI out->out.length=n->val out=val a * val b->s.h N=some (.cells (out.map lP) e' true true)->oM Q (.ref N 0 n (some c) 211) s) :
  ∀ (m i:Nat) (out:List Nat) (s:St),i+m=a.length->cI out->out.length=n->val out=val (a.take i) * val b->(∀ k,i+b.length<=k->k < n->out[k]?=some 0)->s.h N=some (.cells (out.map lP) e' true true) ->
   eQ Q (m+1) (fZ b) (.ref N 0 n (some c) 211) (fZ a) (.int .i64 a.length) (.int .i64 i) s:=by
 intro m
 induction m with
 | zero =>
  intro i out s hi hlo hlen hv hz hs;show wP Q (eQ Q 0) _ _ _ _ _ s;have c1:decide ((i:Int) < (a.length:Int))=false:=by simp;omega
  rw [m014 (by omega)] at hv;simp only [wP,c1,wx,wy,Z0,Z1,reduceCtorEq];exact hQ out _ hlo hlen hv hs
 | succ m ih =>
  intro i out s hi hlo hlen hv hz hs;show wP Q (eQ Q (m+1)) _ _ _ _ _ s;have c1:decide ((i:Int) < (a.length:Int))=true:=by simp;omega
  have w1:IntKind.i64.wrap ((i:Int)+1)=((i+1:Nat):Int):=jG (n:=a.length) (by omega) (by omega);obtain ⟨x,hx⟩:∃ x,a[i]?=some x:=⟨_,m004 (by omega)⟩;have hxl:=ha x (m017 hx);have hix:cQ 1 (fZ a) (.int .i64 (i:Int))=some (.pel (lP x).cells 0):=cJ RT false hx .i64;simp only [wP,c1,hix,aHh,yE,wx,wy,Z0,Z1,reduceCtorEq];refine ⟨_,bGy a b hb hla hlb Q (eQ Q (m+1)) N c n e' i x (by omega) hn hxl (val out) (fun out2 s2 g1 g2 g3 g4 g5=>?_) b.length 0 out 0 _ (by omega) hlo hlen (by decide) (by simp [val]) (fun k hk hk2=>hz k hk hk2) (by rw [adv_h];exact hs)⟩;simp only [qP,w1,wx,wy,Z0,Z1,reduceCtorEq];refine ih (i+1) out2 _ (by omega) g1 g2 ?_ (fun k hk hk2=>g4 k (by omega) hk2) (by rw [adv_h];exact g5);have hvt:=wG a i;have:lb a i=x:=by unfold lb;rw [hx];rfl
  rw [this] at hvt;rw [g3,hv,hvt,pC,NC]
theorem bTc (a b:List Nat) (ha:cI a) (hb:cI b) (hla:a.length<=2 ^ 28) (hlb:b.length<=2 ^ 28):bE mEv 180 [fZ a,fZ b] (fZ (nH (val a * val b))):=by
 refine dA (aPk _ _ _ ?_);have hz:zero Tryz.ty 211=some (.int .u32 0):=WI;have hc0:(AV.int .u32 0).cells=[.int .u32 0]:=rfl;unfold f180;simp only [yE,wx,wy,Z0,Z1,reduceCtorEq];have hw:IntKind.i64.wrap ((a.length:Int)+(b.length:Int))=((a.length+b.length:Nat):Int):=by rw [IntWalk.i64_in _ (by omega)];rfl
 simp only [hw,KN EM hz (a.length+b.length) (by omega) (by omega),hc0,uV,yE,wx,wy,Z0,Z1,reduceCtorEq];refine ⟨_,bJx a b ha hb hla hlb _ _ _ (a.length+b.length) 211 rfl (fun out s g1 g2 g3 g4=>?_) a.length 0 (List.replicate (a.length+b.length) 0) _ (by omega) (fun x hx=>by rw [List.eq_of_mem_replicate hx];decide) (by simp) (by rw [aWo];simp [val]) (fun k _ hk=>by simp [hk]) (by rw [adv_h,aF];simp [lP])⟩;unfold oM;have hp:=BD (s:=Ai.adv s 3) (c:=some (a.length+b.length)) (k:=11) (l:=out) (f:=lP) EM (by rw [adv_h];exact g4) (fun _ _=>rfl) (fun _ _=>rfl);rw [g2] at hp;refine sE (args2:=[fZ out]) (ids:=[St.empty.nx+6]) (by simp only [dN,hp,fZ,m011]) (ZY _ (by rw [g2];omega)) ?_;rw [CU g1,g3];exact aX (dG _)
end
noncomputable section
def pY (x:List UInt8):List Nat×Int:=cond (x==[]||(decide (x.length > 2000)||(x.head?==some 48&&x != [48]))) ([],8) (cond (x.all eM) (nH (pE x),0) ([],8))
theorem HD (l:List UInt8) (c:UInt8):pE (l++[c])=10 * pE l+(c.toNat - 48):=by unfold pE;rw [List.foldl_append];rfl
theorem aNp:∀ (n:Nat) (l:List UInt8),l.length=n->(∀ c∈l,eM c=true)->pE l < pw n:=by
 intro n
 induction n with
 | zero=>intro l hl _;cases l with
  | nil=>decide
  | cons c l=>cases hl
 | succ n ih =>
  intro l hl h;rcases m061 l with rfl | ⟨l',c,rfl⟩
  ·cases hl
  simp only [List.concat_eq_append] at hl h ⊢;have h1:=ih l' (by simp at hl;exact hl) fun d hd=>h d (m041 _ hd);have h2:=h c (m049 _ (m008.2 rfl));simp only [eM,cR,decide_eq_true_eq] at h2;rw [HD,kJ];omega
theorem JR (l:List UInt8) (h:∀ c∈l,eM c=true):pE l < pw l.length:=aNp _ l rfl h
theorem bPl (x:List UInt8) (hx:x.length<=2000) (Q:aG)
  (hbad:x.all eM=false->∀ s,Q (.tup [.nils,.int .i64 8]) s)
  (hgood:x.all eM=true->∀ s,Q (.tup [fZ (nH (pE x)),.int .i64 0]) s) :
  ∀ (m i:Nat) (a:AV) (s:St),i+m=x.length->(∀ c∈x.take i,eM c=true)->(∀ s:St,pur mEv.P s 12 a=some (fZ (nH (pE (x.take i))),[])) ->
   pB Q (m+1) a (.sl false (x.map GP)) (.int .i64 x.length) (.int .i64 i) s:=by
 intro m
 induction m with
 | zero =>
  intro i a s hi hd ha;show oY Q (pB Q 0) _ _ _ _ s;have c1:decide ((i:Int) < (x.length:Int))=false:=by simp;omega
  rw [m014 (by omega)] at hd ha;simp only [oY,c1,DV,wx,wy,Z0,Z1,reduceCtorEq];have hall:x.all eM=true:=m032.2 hd;have hlt:=JR x hd;refine sE (args2:=[fZ (nH (pE x))]) (ids:=[]) (by simp only [dN,ha,m011]) (ZY _ (GN (wV _ _ hlt) (by omega))) ?_;rw [CU (oQ _),EX];exact hgood hall _
 | succ m ih =>
  intro i a s hi hd ha;show oY Q (pB Q (m+1)) _ _ _ _ s;have c1:decide ((i:Int) < (x.length:Int))=true:=by simp;omega
  have w1:IntKind.i64.wrap ((i:Int)+1)=((i+1:Nat):Int):=jG (n:=x.length) (by omega) (by omega);obtain ⟨c,hc⟩:∃ c,x[i]?=some c:=⟨_,m004 (by omega)⟩;have hix:cQ 1 (.sl false (x.map GP)) (.int .i64 (i:Int))=some (.pel (GP c).cells 0):=cJ bLv false hc .i64;have hb0:(GP c).cells[0]?=some (.int .u8 c.toNat):=rfl;have hmem:c∈x:=m017 hc
  have hno:eM c=false->x.all eM=false:=fun h=>by
   cases h2:x.all eM with
   | false=>rfl
   | true=>rw [m032.1 h2 c hmem] at h;cases h
  by_cases h48:c.toNat < 48
  ·have k1:decide ((c.toNat:Int) < 48)=true:=by simp;omega
   simp only [oY,c1,hix,hb0,k1,wx,wy,Z0,Z1,reduceCtorEq];exact hbad (hno (by simp [eM];omega)) _
  by_cases h57:57 < c.toNat
  ·have k1:decide ((c.toNat:Int) < 48)=false:=by simp;omega
   have k2:decide ((c.toNat:Int) > 57)=true:=by simp;omega
   simp only [oY,c1,hix,hb0,k1,k2,wx,wy,Z0,Z1,reduceCtorEq];exact hbad (hno (by simp [eM];omega)) _
  have k1:decide ((c.toNat:Int) < 48)=false:=by simp;omega
  have k2:decide ((c.toNat:Int) > 57)=false:=by simp;omega
  have hdc:eM c=true:=by simp [eM];omega
  have w2:IntKind.u8.wrap ((c.toNat:Int) - 48)=((c.toNat - 48:Nat):Int):=by rw [IntWalk.u8_in _ (by omega)];omega
  have w3:IntKind.u32.wrap ((c.toNat - 48:Nat):Int)=((c.toNat - 48:Nat):Int):=by rw [IntWalk.u32_in _ (by omega)]
  have b1:∀ n:Nat,kM 22 1 [(0,.int .u32 (n:Int))]=some (.sl true [lP n]):=fun n=>dX EM (by decide) rfl rfl;have hp10:∀ (n:Nat) (s:St),pur mEv.P s 12 (.sl true [lP n])=some (fZ [n],[]):=fun n s=>rfl;have e10:kM 22 1 [(0,.int .u32 10)]=some (.sl true [lP 10]):=b1 10;have hlt:=JR _ hd;have hle:(x.take i).length=i:=by rw [m020];omega
  rw [hle] at hlt;have hlen:=wV _ _ hlt;have htk:x.take (i+1)=x.take i++[c]:=by rw [m062,hc];rfl
  have hl1:cI [10]:=by intro y hy;rw [m008.1 hy,BN];decide
  have hl2:cI [c.toNat - 48]:=by intro y hy;rw [m008.1 hy,BN];omega
  simp only [oY,c1,hix,hb0,k1,k2,w2,aWe,w3,b1,e10,wx,wy,Z0,Z1,reduceCtorEq];refine sE (args2:=[fZ (nH (pE (x.take i))),fZ [10]]) (ids:=[]) (by simp only [dN,ha,hp10,m011]) (bTc _ _ (oQ _) hl1 (by omega) (by simp)) ?_;rw [EX];have hv10:val [10]=10:=rfl;have hvc:val [c.toNat - 48]=c.toNat - 48:=by simp [val]
  rw [hv10];have hdd:pE (x.take i) * 10 < pw (i+1):=by rw [kJ];omega
  have hlen2:=wV _ _ hdd;refine sE (args2:=[fZ (nH (pE (x.take i) * 10)),fZ [c.toNat - 48]]) (ids:=[]) (by simp only [dN,dF 12 (dG _),hp10,m011]) (bQt _ _ (oQ _) hl2 (by omega) (by simp)) ?_;rw [EX,hvc];have hfin:pE (x.take i) * 10+(c.toNat - 48)=pE (x.take (i+1)):=by rw [htk,HD,Nat.mul_comm]
  rw [hfin];simp only [RW,w1,wx,wy,Z0,Z1,reduceCtorEq]
  exact ih (i+1) _ _ (by omega) (fun d hd'=>by
   rw [htk] at hd';rcases m003.1 hd' with h | h
   ·exact hd d h
   ·rw [m008.1 h];exact hdc) (fun s=>dF 12 (dG _))
theorem bQj (x:List UInt8) (hxl:x.length<=2 ^ 30):bE mEv 127 [.str x] (.tup [fZ (pY x).1,.int .i64 (pY x).2]):=by
 have hbad:∀ s:St,pM (.tup [fZ [],.int .i64 8]) (.tup [.nils,.int .i64 8]) s:=fun s=>⟨[],rfl⟩;by_cases h0:x=[]
 ·subst h0;refine dA (OL _ _ ?_);unfold f127;simp only [wx,wy,Z0,Z1,reduceCtorEq];exact hbad _
 have h0':(x==[])=false:=by cases x with
  | nil=>exact absurd rfl h0
  | cons=>rfl
 refine dA (OL _ _ ?_);unfold f127;by_cases h2:2000 < x.length
 ·have k1:decide ((x.length:Int) > 2000)=true:=by simp;omega
  have k2:decide (x.length > 2000)=true:=by simp;omega
  simp only [h0',BB,sV,k1,wx,wy,Z0,Z1,reduceCtorEq];have hp:pY x=([],8):=by unfold pY;rw [k2,m033,m078];rfl
  rw [hp];exact hbad _
 have k1:decide ((x.length:Int) > 2000)=false:=by simp;omega
 have k2:decide (x.length > 2000)=false:=by simp;omega
 have hcv:(x.map fun c=>AV.int .u8 c.toNat)=x.map GP:=rfl
 have hrest:(x.head?==some 48&&x != [48])=false->∀ (s:St),∃ n,pB (pM (AV.tup [fZ (pY x).fst,AV.int IntKind.i64 (pY x).snd])) n AV.nils (.sl false (x.map GP)) (.int .i64 x.length) (.int .i64 0) s:=fun hh s=>by
  have hp:pY x=cond (x.all eM) (nH (pE x),0) ([],8):=by unfold pY;rw [h0',k2,hh];rfl
  rw [hp];refine ⟨_,bPl x (by omega) _ (fun hd s=>by rw [hd];exact hbad s) (fun hd s=>by rw [hd];exact aX (by simp [AV.closed,dG,aW])) x.length 0 .nils s (by omega) (fun c hc=>by simp at hc) (fun s=>?_)⟩;show _=some (fZ (nH 0),[]);rw [jD];rfl
 obtain ⟨c,l,rfl⟩:∃ c l,x=c::l:=by cases x with
  | nil=>exact absurd rfl h0
  | cons c l=>exact ⟨c,l,rfl⟩
 have hix:QG 9 (.str (c::l)) (.int .i64 0)=some (.int .u8 c.toNat):=sK (x:=c::l) (i:=0) .i64 rfl;by_cases h48:c=48
 ·have k3:(((c.toNat:Nat):Int)==48)=true:=by rw [h48];rfl
  by_cases hone:c::l=[48]
  ·have k4:(c::l==[48])=true:=by rw [hone];rfl
   have k5:(c::l != [48])=false:=by rw [hone];rfl
   simp only [h0',BB,sV,k1,hix,k3,k4,hcv,aPq,m002,wx,wy,Z0,Z1,reduceCtorEq];exact hrest (by rw [k5,m071]) _
  ·have k4:(c::l==[48])=false:=by rw [beq_eq_false_iff_ne];exact hone
   have k5:(c::l != [48])=true:=by rw [bne_iff_ne];exact hone
   simp only [h0',BB,sV,k1,hix,k3,k4,wx,wy,Z0,Z1,reduceCtorEq];have hp:pY (c::l)=([],8):=by unfold pY;rw [k5,h48];simp
   rw [hp];exact hbad _
 ·have k3:(((c.toNat:Nat):Int)==48)=false:=by
   rw [beq_eq_false_iff_ne];intro h;exact h48 (UInt8.toNat_inj.1 (by rw [show (48:UInt8).toNat=48 from rfl];omega))
  simp only [h0',BB,sV,k1,hix,k3,hcv,aPq,m002,wx,wy,Z0,Z1,reduceCtorEq];exact hrest (by simp [h48]) _
theorem EC:LB pY:=by
 intro x hx;refine ⟨bQj x hx,?_,?_⟩
 ·unfold pY
  cases (x==[]||(decide (x.length > 2000)||(x.head?==some 48&&x != [48]))) with
  | true=>intro y hy;cases hy
  | false =>
   cases x.all eM with
   | true=>exact oQ _
   | false=>intro y hy;cases hy
 ·unfold pY;by_cases h2:2000 < x.length
  ·have k:decide (x.length > 2000)=true:=by simp;omega
   rw [k,m033,m078];exact nC _
  cases (x==[]||(decide (x.length > 2000)||(x.head?==some 48&&x != [48]))) with
  | true=>exact nC _
  | false =>
   cases hd:x.all eM with
   | true=>exact GN (wV _ _ (JR x (m032.1 hd))) (by omega)
   | false=>exact nC _
end
noncomputable section
structure CkR (s:St) (b t6 t3:Nat) (d:Dc) (B:Bk) (F:List Nat) (ns:List (List UInt8)) (ids:List Int) (x y:AV):Prop where
 bank:jJ s b B F
 box:s.h t3=some (.cells d.av.cells 67 true true)
 sc:s.h t6=some (.cells [x,y] 254 true true)
 gx:Gw 9 1 0 s x (ns.map mD)
 gy:Gw 3 1 0 s y (ids.map dE)
 n3:t3 ∉ F
 n6:t6 ∉ F
 n36:t3≠t6
 xn:∀ j∈aE x,j≠t3/\j≠t6/\j ∉ F/\j ∉ aE y
 yn:∀ j∈aE y,j≠t3/\j≠t6/\j ∉ F
section
variable {s s':St} {b t6 t3:Nat} {d:Dc} {B:Bk} {F:List Nat} {ns:List (List UInt8)} {ids:List Int} {x y:AV} {L:List Dc}
theorem CkR.keep (c:CkR s b t6 t3 d B F ns ids x y) (hk:∀ j,j∈F\/j=t3\/j=t6\/j∈aE x\/j∈aE y->s'.h j=s.h j):CkR s' b t6 t3 d B F ns ids x y :=
 ⟨c.bank.keep fun j hj=>hk j (.inl hj),by rw [hk t3 (by simp)];exact c.box,by rw [hk t6 (by simp)];exact c.sc,c.gx.keep fun j hj=>hk j (by simp [hj]),c.gy.keep fun j hj=>hk j (by simp [hj]),c.n3,c.n6,c.n36,c.xn,c.yn⟩
theorem CkR.lt (c:CkR s b t6 t3 d B F ns ids x y) (fr:aI s):∀ j,j∈F\/j=t3\/j=t6\/j∈aE x\/j∈aE y->j < s.nx:=fun j hj=>by
 rcases hj with hj | rfl | rfl | hj | hj
 ·exact c.bank.lt fr j hj
 ·exact fr.lt c.box
 ·exact fr.lt c.sc
 ·exact fr.lt (c.gx.has j hj)
 ·exact fr.lt (c.gy.has j hj)
theorem CkR.ext (c:CkR s b t6 t3 d B F ns ids x y) (fr:aI s) (e:EF [] s s'):CkR s' b t6 t3 d B F ns ids x y:=c.keep fun j hj=>e.h j (c.lt fr j hj) (by simp)
theorem ck3 (hL:rN L) (hbf:d.body.fit) (hbw:d.body.wt<=2 ^ 20) (fr:aI s) (c:CkR s b t6 t3 d B F ns ids x y) (hw:Wf B) (hid:∀ i∈ids,eZ B i) (hl:ns.length=ids.length) (hln:ns.length<=2 ^ 20) {Q:aG} (hQ:∀ (e:Int) s',Q (.int .i64 e) s'):yC Q (.ptr b 0) (.sl false (L.map Dc.av)) (.ptr t6 0) (.ptr t3 0) s:=by
 have hlt:=c.lt fr;have lb:=hlt b (.inl c.bank.mem);have l3:=hlt t3 (.inr (.inl rfl));have l6:=hlt t6 (.inr (.inr (.inl rfl)));have p2:Ai.part 2 true 0 [x,y]=some (nW (x,y)):=rfl;have hone:(nW (x,y)).cells.all AV.one=true:=by show ([x,y]:List AV).all AV.one=true;simp only [List.all_cons,c.gx.one.2,c.gy.one.2,List.all_nil,jH]
 have hb122:kM 122 1 [(0,nW (x,y))]=some (.sl true [nW (x,y)]):=dX OY (by decide) rfl hone;have hb124:∀ k,lK 124 [(0,.ptr b 0),(1,.sl false (L.map Dc.av)),(2,.sl true [nW (x,y)]),(3,.map k)]=some (.agg [.ptr b 0,.sl false (L.map Dc.av),.sl true [nW (x,y)],.map k]):=fun k=>by rw [bBy];rfl
 have hcl:∀ k,(AV.agg [.ptr b 0,.sl false (L.map Dc.av),.sl true [nW (x,y)],.map k]).cells=[.ptr b 0,.sl false (L.map Dc.av),.sl true [nW (x,y)],.map k]:=fun k=>rfl;have q3:¬ (t3=s.nx+4):=by omega
 have q4:¬ (t3=s.nx+6):=by omega
 unfold yC;simp only [c.sc,p2,hb122,hb124,hcl,wx,wy,Z0,Z1,reduceCtorEq];refine ⟨rfl,?_⟩;simp only [q3,q4,if_false,c.box,kQ,wx,wy,Z0,Z1,reduceCtorEq];obtain ⟨S,hS⟩:∃ S,S=Ai.adv ((s.set (s.nx+4) (some (.map []))).set (s.nx+6) (some (.cells [.ptr b 0,.sl false (L.map Dc.av),.sl true [nW (x,y)],.map (s.nx+4)] 124 true true))) 17:=⟨_,rfl⟩;rw [<- hS];have nS:S.nx=s.nx+17:=by rw [hS];rfl
 have kS:∀ j,j < s.nx->S.h j=s.h j:=fun j hj=>by rw [hS,adv_h,aB (by omega),aB (by omega)]
 have fS:aI S:=fun j hj=>by rw [hS,adv_h,aB (by omega),aB (by omega)];exact fr j (by omega)
 have cS:=c.keep (s':=S) fun j hj=>kS j (hlt j hj);have z1:(List.zip ns ids).map (·.1)=ns:=List.map_fst_zip (by omega);have z2:(List.zip ns ids).map (·.2)=ids:=List.map_snd_zip (by omega);have hsc:ScR S (x,y) (List.zip ns ids):=⟨by rw [z1];exact cS.gx,.inr (by rw [z2];exact cS.gy),by simp only [List.length_zip];omega⟩
 have hmk:pJ S (s.nx+6) b (L.take L.length) [List.zip ns ids] (B,[]) ((s.nx+6)::(s.nx+4)::(F++bG (.sl true [nW (x,y)]) [(x,y)])):=by
  refine ⟨_,[(x,y)],s.nx+4,F,⟨by rw [m045,hS,adv_h,aF];rfl,cS.bank,by rw [hS,adv_h,aB (by omega),aF];rfl,.inr (.inl rfl),⟨hsc,trivial⟩,by omega,fun h=>by have:=hlt _ (.inl h);omega,fun h=>by have:=hlt _ (.inl h);omega,fun a ha=>?_⟩,rfl⟩;simp only [bG,jU,List.nil_append,m024,m042,m011,m003] at ha;rcases ha with ha | ha
  ·have:=hlt a (.inr (.inr (.inr (.inl ha))));exact ⟨by omega,by omega,(c.xn a ha).2.2.1⟩
  ·have:=hlt a (.inr (.inr (.inr (.inr ha))));exact ⟨by omega,by omega,(c.yn a ha).2.2⟩
 have hok:qT pY L ([List.zip ns ids]:List Ev).flatten (B,[]):=⟨hw,by
  simp only [List.flatten_cons,List.flatten_nil,m011]
  exact kB _ ids hid,qA pY L B⟩
 obtain ⟨n,⟨r,B',M'⟩,hT⟩:=aSq pY true L ([List.zip ns ids]:List Ev).flatten d.body (B,[]);obtain ⟨v,s1,t1,rfl,F1,t2⟩:=WA EC n S (s.nx+6) b L L.length [List.zip ns ids] (B,[]) _ d.body r (B',M') fS hmk hok hL hbf (by simp only [List.length_singleton];omega) (by rw [m045];exact hT);refine bQ bDo ⟨_,s1,t1,?_⟩;simp only [zV,zO,wx,wy,Z0,Z1,reduceCtorEq];obtain ⟨rv,re⟩:=r;by_cases he:re=0
 case neg =>
  have k0:(re != 0)=true:=by simpa using he
  simp only [k0,wx,wy,Z0,Z1,reduceCtorEq];exact hQ _ _
 case pos =>
 subst he;have k0:((0:Int) != 0)=false:=rfl;simp only [k0,wx,wy,Z0,Z1,reduceCtorEq];obtain ⟨i1,i2,i3,i4⟩:=ZD (j:=L.length) (by have:=hL.len;omega) hok (by rw [m045];exact hT);have hin:eZ B' rv:=i3 rfl;obtain ⟨nd,hnd⟩:∃ nd,mA B' rv=some nd:=uJ hin;obtain ⟨⟨xin,vs,jm,FB,cc,hF1⟩,e1,m1,_⟩:=t2
 have h3:s1.h t3=some (.cells d.av.cells 67 true true):=by
  rw [e1.h t3 (by omega) (fun hm=>?_),kS t3 l3,c.box];simp only [m013,bG,jU,List.nil_append,m024,m042,m011,m003] at hm;rcases hm with h | h | h | h | h
  ·omega
  ·omega
  ·exact c.n3 h
  ·exact (c.xn t3 h).1 rfl
  ·exact (c.yn t3 h).1 rfl
 refine (aXo e1.fr.adv cc.bank.adv hin hnd).call aXa fun s2 e2=>?_;have h32:s2.h t3=some (.cells d.av.cells 67 true true):=by rw [e2.h t3 (by have:=e1.nx;simp only [adv_nx];omega) (by simp),adv_h,h3]
 have x0:aS (.tup [nd.av,.bool true]) 0=some nd.av:=rfl;have x1:aS (.tup [nd.av,.bool true]) 1=some (.bool true):=rfl;have hz:(AV.agg [.int .i64 0,.int .i64 0,.nils,.str [],.bool false,.nils,.nils]).cells=[.int .i64 0,.int .i64 0,.nils,.str [],.bool false,.nils,.nils]:=rfl;simp only [x0,x1,FV,hz,Bnd_some];rw [bJ (id:=s1.nx+8) (z:=7) (c:=[.int .i64 0,.int .i64 0,.nils,.str [],.bool false,.nils,.nils]) (e:=101) (ex:=true) (v:=nd.av) aF rfl rfl rfl];simp only [Bnd_some];have nd1:nd.av.cells[1]?=some (.int .i64 nd.so):=rfl;have n31:t3≠s1.nx+8:=by have:=e1.nx;omega
 have h3f:((s2.set (s1.nx+8) (some (.cells [.int .i64 0,.int .i64 0,.nils,.str [],.bool false,.nils,.nils] 101 true true))).set (s1.nx+8) (some (.cells nd.av.cells 101 true true))).h t3=some (.cells d.av.cells 67 true true):=by rw [aB n31,aB n31,h32]
 simp only [aF,nd1,h3f,dc1,Bnd_some];have hne:bn .neq 3 (.int .i64 nd.so) (.int .i64 d.so)=some (.bool (nd.so != d.so)):=bin_neq;rw [hne];simp only [Bnd_some];cases nd.so != d.so
 ·simp only [IfP_bool,m015,if_false];exact hQ _ _
 ·simp only [IfP_bool,if_true];exact hQ _ _
theorem aRa (l:List (List UInt8×Int)) (i:Nat) (q:List UInt8×Int) (h:l[i]?=some q):cQ 2 (.sl false (l.map lE)) (.int .i64 (i:Int))=some (.pel (lE q).cells 0):=by obtain ⟨hi,rfl⟩:=m012.1 h;simp [cQ,pW,xI,hi,lE,AV.cells]
theorem ck1 (hL:rN L) (hbf:d.body.fit) (hbw:d.body.wt<=2 ^ 20) (hps:d.ps.length<=2 ^ 20) {Q:aG} (hQ:∀ (e:Int) s',Q (.int .i64 e) s') :
  ∀ (k i:Nat) (s:St) (B:Bk) (F:List Nat) (ids:List Int) (y:AV),i+k=d.ps.length->aI s->CkR s b t6 t3 d B F (d.ps.map (·.1)) ids x y->Wf B->(∀ i∈ids,eZ B i)->ids.length=i ->
   rT Q (k+1) (.sl false (L.map Dc.av)) (.ptr t3 0) (.ptr b 0) (.ptr t6 0) (.sl false (d.ps.map lE)) (.int .i64 d.ps.length) (.int .i64 i) s:=by
 intro k
 induction k with
 | zero =>
  intro i s B F ids y hi fr c hw hid hil;show xE Q (rT Q 0) _ _ _ _ _ _ _ s;have c1:decide ((i:Int) < (d.ps.length:Int))=false:=by simp;omega
  simp only [xE,c1,wx,wy,Z0,Z1,reduceCtorEq];exact ck3 hL hbf hbw fr.adv (c.keep fun _ _=>rfl) hw hid (by rw [m002];omega) (by rw [m002];exact hps) hQ
 | succ k ih =>
  intro i s B F ids y hi fr c hw hid hil;show xE Q (rT Q (k+1)) _ _ _ _ _ _ _ s;obtain ⟨q,hq⟩:∃ q,d.ps[i]?=some q:=⟨_,m004 (by omega)⟩;have c1:decide ((i:Int) < (d.ps.length:Int))=true:=by simp;omega
  have hix:=aRa d.ps i q hq;have pp:Ai.part 2 true 0 (lE q).cells=some (lE q):=rfl;have hz:(AV.agg [.str [],.int .i64 0]).cells=[.str [],.int .i64 0]:=rfl;have p0:(lE q).cells[0]?=some (.str q.1):=rfl;have p1:(lE q).cells[1]?=some (.int .i64 q.2):=rfl;have hlt:=c.lt fr;simp only [xE,c1,hix,pp,aRj,hz,wx,wy,Z0,Z1,reduceCtorEq];rw [bJ (id:=s.nx+3) (z:=2) (c:=[.str [],.int .i64 0]) (e:=151) (ex:=true) (v:=lE q) (by rw [adv_h,aF]) rfl rfl rfl];simp only [Bnd_some];obtain ⟨S,hS⟩:∃ S,S=(Ai.adv (s.set (s.nx+3) (some (.cells [.str [],.int .i64 0] 151 true true))) 5).set (s.nx+3) (some (.cells (lE q).cells 151 true true)):=⟨_,rfl⟩;rw [<- hS];have nS:S.nx=s.nx+5:=by rw [hS];rfl
  have kS:∀ j,j≠s.nx+3->S.h j=s.h j:=fun j hj=>by rw [hS,aB hj,adv_h,aB hj]
  have bS:S.h (s.nx+3)=some (.cells (lE q).cells 151 true true):=by rw [hS,aF]
  have fS:aI S:=fun j hj=>by rw [kS j (by omega)];exact fr j (by omega)
  have cS:=c.keep (s':=S) fun j hj=>kS j (by have:=hlt j hj;omega);simp only [bS,p0,p1,wx,wy,Z0,Z1,reduceCtorEq];have hst:=(xZ hw q.1 q.2) [] (lJ B q.1 q.2).1 (lJ B q.1 q.2).2 [] rfl;have cw:=WU (fS.adv (n:=11)) cS.bank.adv q.1 q.2;generalize lJ B q.1 q.2=r at hst cw;obtain ⟨⟨id,e⟩,B'⟩:=r;refine cw.call bLk fun s3 q3=>?_;simp only [zV,zO,wx,wy,Z0,Z1,reduceCtorEq];by_cases he:e=0
  case neg =>
   have k0:(e != 0)=true:=by simpa using he
   simp only [k0,wx,wy,Z0,Z1,reduceCtorEq];exact hQ _ _
  case pos =>
  subst he;have k0:((0:Int) != 0)=false:=rfl;obtain ⟨_,hext,hw',h4,_⟩:=hst;have hin:eZ B' id:=(h4 rfl).1;obtain ⟨F',b1,b2,b3⟩:=q3;have n3:=b2.nx;simp only [adv_nx] at n3;have kF:∀ j,j < s.nx->j ∉ F->s3.h j=s.h j:=fun j hj hn=>by rw [b2.h j (by simp only [adv_nx];omega) hn,adv_h,kS j (by omega)]
  have l3:=hlt t3 (.inr (.inl rfl));have l6:=hlt t6 (.inr (.inr (.inl rfl)));have F'lt:=b1.lt b2.fr;have hF':∀ j∈F',j∈F\/s.nx+5<=j:=fun j hj=>(b3 j hj).imp_right fun h=>by simp only [adv_nx] at h;omega
  have sc3:s3.h t6=some (.cells [x,y] 254 true true):=by rw [kF t6 l6 c.n6,c.sc]
  have gy3:Gw 3 1 0 s3 y (ids.map dE):=c.gy.keep fun j hj=>kF j (hlt j (.inr (.inr (.inr (.inr hj))))) (c.yn j hj).2.2;have gx3:Gw 9 1 0 s3 x ((d.ps.map (·.1)).map mD):=c.gx.keep fun j hj=>kF j (hlt j (.inr (.inr (.inr (.inl hj))))) (c.xn j hj).2.2.1;have happ:=gM pQ iY (gy3.adv (n:=9)) (a:=id) (by omega) (by omega) true (s3.nx+6);have hb:kM 72 1 [(0,.int .i64 id)]=some (.sl true [dE id]):=dX pQ (by decide) rfl rfl;simp only [k0,sc3,hb,happ,wx,wy,Z0,Z1,reduceCtorEq];have nt6:t6 ∉ aE y:=fun h=>(c.yn t6 h).2.1 rfl;have nt3:t3 ∉ aE y:=fun h=>(c.yn t3 h).1 rfl;rw [eB (c:=[x,y]) (e:=254) (ex:=true) (by rw [adv_h,aB (by omega),get_drop',if_neg nt6,sc3]) (by simp) rfl rfl];simp only [Bnd_some,UD,wx,wy,Z0,Z1,reduceCtorEq];rw [cC i d.ps.length (by omega) (by have:maxLen=9223372036854775807:=rfl;omega)];have hset:[x,y].set 1 (.ref (s3.nx+6) 0 (ids.length+1) none 3)=[x,.ref (s3.nx+6) 0 (ids.length+1) none 3]:=rfl;rw [hset];obtain ⟨T,hT⟩:∃ T,T=Ai.adv (((s3.drop (aE y)).set (s3.nx+6) (some (.cells (((ids++[id]).map dE).flatMap AV.cells) 3 false true))).set t6 (some (.cells [x,.ref (s3.nx+6) 0 (ids.length+1) none 3] 254 true true))) 11:=⟨_,rfl⟩;rw [<- hT];have nT:T.nx=s3.nx+11:=by rw [hT];show (s3.drop (aE y)).nx+11=_;rw [qY]
  have kT:∀ j,j≠t6->j≠s3.nx+6->j ∉ aE y->T.h j=s3.h j:=fun j a b c=>by rw [hT,adv_h,aB a,aB b,get_drop',if_neg c]
  have fT:aI T:=fun j hj=>by rw [hT,adv_h,aB (by omega),aB (by omega)];exact wZ (b2.fr j (by omega))
  have ydis:∀ j∈F',j ∉ aE y:=fun j hj hy=>by
   rcases hF' j hj with h | h
   ·exact (c.yn j hy).2.2 h
   ·have:=hlt j (.inr (.inr (.inr (.inr hy))));omega
  refine ih (i+1) T B' F' (ids++[id]) (.ref (s3.nx+6) 0 (ids.length+1) none 3) (by omega) fT ⟨b1.keep fun j hj=>kT j (fun e=>?_) (by have:=F'lt j hj;omega) (ydis j hj),?_,by rw [hT,adv_h,aF],gx3.keep fun j hj=>?_,⟨fun v hv=>?_,.inr ⟨s3.nx+6,nC _,by rw [m002,m006];rfl,by rw [hT,adv_h,aB (by omega),aF]⟩⟩,fun hm=>?_,fun hm=>?_,c.n36,fun j hj=>?_,fun j hj=>?_⟩ hw' (fun j hj=>?_) (by rw [m006,List.length_singleton,hil])
  ·subst e;rcases hF' j hj with h | h
   ·exact c.n6 h
   ·omega
  ·rw [kT t3 c.n36 (by omega) nt3,kF t3 l3 c.n3,c.box]
  ·obtain ⟨a1,a2,a3,a4⟩:=c.xn j hj;exact kT j a2 (by have:=hlt j (.inr (.inr (.inr (.inl hj))));omega) a4
  ·obtain ⟨w,_,rfl⟩:=m021.1 hv;exact ⟨rfl,rfl⟩
  ·rcases hF' t3 hm with h | h
   ·exact c.n3 h
   ·omega
  ·rcases hF' t6 hm with h | h
   ·exact c.n6 h
   ·omega
  ·obtain ⟨a1,a2,a3,a4⟩:=c.xn j hj;have:=hlt j (.inr (.inr (.inr (.inl hj))));refine ⟨a1,a2,fun hm=>?_,fun hm=>?_⟩
   ·rcases hF' j hm with h | h
    ·exact a3 h
    ·omega
   ·simp only [aE,m008] at hm;omega
  ·simp only [aE,m008] at hj;subst hj;exact ⟨by omega,by omega,fun hm=>by have:=F'lt _ hm;omega⟩
  ·rcases m003.1 hj with h | h
   ·exact (hid j h).ext hext
   ·rw [m008] at h;subst h;exact hin
def GJ (so:Int):Bool:=decide (so < 1)||decide (so > 3)
theorem bKy (so:Int):bE mEv 191 [.int .i64 so] (.bool (GJ so)):=by
 refine bA rfl (aIw _ _ ?_);unfold f191 GJ
 cases h1:decide (so < 1) with
 | true=>simp only [h1,m033,wx,wy,Z0,Z1,reduceCtorEq]
 | false =>
  cases h2:decide (so > 3) with
  | true=>simp only [h1,h2,m078,wx,wy,Z0,Z1,reduceCtorEq]
  | false=>simp only [h1,h2,Bool.or_self,wx,wy,Z0,Z1,reduceCtorEq]
theorem bJt:mEv.fz 195=false:=by kernel_rfl
theorem bNp:mEv.fz 194=false:=by kernel_rfl
theorem bJd:mEv.fz 223=false:=by kernel_rfl
theorem bPs (fr:aI s) {q:Nat} (hq:s.h q=some (.cells [.fn 191 [] []] 175 true true)) (z:List UInt8×Int):LF 195 [lE z,.ptr q 0] s (.bool (GJ z.2)):=by
 have hqs:=fr.lt hq;refine aPs _ _ _ (Q:=fun r s'=>r=.bool (GJ z.2)/\EF [] s s') ?_;unfold f195;refine ⟨rfl,?_⟩;have q1:¬ (q=s.nx):=by omega
 have p1:(lE z).cells[1]?=some (.int .i64 z.2):=rfl;simp only [q1,hq,p1,if_false,List.getElem?_cons_zero,wx,wy,Z0,Z1,reduceCtorEq];refine DG (by kernel_rfl) ?_;refine aP (bKy z.2) (by simp [AV.closed]) ?_;refine ⟨rfl,by simp only [adv_nx,set_nx];omega,fun j hj _=>by rw [adv_h,aB (by omega)],cA fr _ (by omega)⟩
theorem bRu (fr:aI s) {q:Nat} (hq:s.h q=some (.cells [.fn 191 [] []] 175 true true)) (l:List (List UInt8×Int)) (hl:l.length<=2 ^ 20):∃ r,LF 194 [.sl false (l.map lE),.fn 195 [] [.ptr q 0]] s (.bool r):=by
 refine ⟨l.any fun z=>GJ z.2,?_⟩;refine aOf _ _ _ (Q:=fun r s'=>r=.bool (l.any fun z=>GJ z.2)/\EF [] s s') ?_;unfold f194
 have key:∀ (Q:aG) (r:Bool) (s0:St),aI s0->s0.h q=some (.cells [.fn 191 [] []] 175 true true)->(∀ (k:Int) (s':St),EF [] s0 s'->decide (k >= 0)=r->Q (.int .i64 k) s')->∀ (m j:Nat) (s:St),j+m=l.length->EF [] s0 s->r=(l.drop j).any (fun z=>GJ z.2)->qW Q (m+1) (.sl false (l.map lE)) (.fn 195 [] [.ptr q 0]) (.int .i64 l.length) (.int .i64 j) s:=by
  intro Q r s0 fr0 hq0 hQ m
  induction m with
  | zero =>
   intro j s hj e hr;show xF Q (qW Q 0) _ _ _ _ s;have c1:decide ((j:Int) < (l.length:Int))=false:=by simp;omega
   rw [m037 (by omega)] at hr;simp only [xF,c1,DB,wx,wy,Z0,Z1,reduceCtorEq];exact hQ _ _ e.adv (by rw [hr];rfl)
  | succ m ih =>
   intro j s hj e hr;show xF Q (qW Q (m+1)) _ _ _ _ s;have c1:decide ((j:Int) < (l.length:Int))=true:=by simp;omega
   obtain ⟨y,hy⟩:∃ y,l[j]?=some y:=⟨_,m004 (by omega)⟩;rw [cE l j y hy,List.any_cons] at hr;have pp:Ai.part 2 true 0 (lE y).cells=some (lE y):=rfl;have hqs:=fr0.lt hq0;simp only [xF,c1,aRa l j y hy,pp,wx,wy,Z0,Z1,reduceCtorEq];refine BZ (by kernel_rfl) ?_;refine (bPs e.fr.adv (by rw [adv_h,e.h q hqs (by simp)];exact hq0) y).call bJt fun s1 e1=>?_;have e2:=e.adv.nil_trans e1
   cases h:GJ y.2 with
   | true =>rw [h,m033] at hr;simp only [wx,wy,Z0,Z1,reduceCtorEq];exact hQ _ _ e2.adv (by rw [hr];simp)
   | false =>rw [h,m026] at hr;simp only [SW,wx,wy,Z0,Z1,reduceCtorEq];rw [cC j l.length (by omega) (by have:maxLen=9223372036854775807:=rfl;omega)];exact ih (j+1) _ (by omega) e2.adv hr
 have h223:∃ k s',WideC mEv 223 [.sl false (l.map lE),.fn 195 [] [.ptr q 0]] (Ai.adv s 6) k s'/\∃ n:Int,k=.int .i64 n/\EF [] s s'/\decide (n >= 0)=l.any (fun z=>GJ z.2):=by refine aSt _ _ _ ?_;unfold f223;simp only [RF,m002,wx,wy,Z0,Z1,reduceCtorEq];exact ⟨_,key _ _ (Ai.adv s 6) fr.adv hq (fun k s' e hk=>⟨k,rfl,(EF.refl [] fr).adv.nil_trans e,hk⟩) l.length 0 _ (by omega) ⟨by simp only [adv_nx];omega,fun _ _ _=>rfl,fr.adv⟩ rfl⟩
 obtain ⟨k,s',h1,n,rfl,h2,h3⟩:=h223;refine bQ bJd ⟨_,s',h1,?_⟩;have hg:∀ a b:Int,bn .geq 3 (.int .i64 a) (.int .i64 b)=some (.bool (decide (a >= b))):=fun a b=>bin_geq;simp only [hg,h3,wx,wy,Z0,Z1,reduceCtorEq];exact h2
theorem ckj (hL:rN L) (hbf:d.body.fit) (hbw:d.body.wt<=2 ^ 20) (hps:d.ps.length<=2 ^ 20) {Q:aG} (hQ:∀ (e:Int) s',Q (.int .i64 e) s') (fr:aI s) (c:CkR s b t6 t3 d [] F (d.ps.map (·.1)) [] x .nils):yN Q (.ptr t6 0) (.ptr t3 0) (.sl false (L.map Dc.av)) (.ptr b 0) s:=by
 have hlt:=c.lt fr;have hz:zr 175=some .nilf:=by kernel_rfl
 have hcl:(AV.nilf).cells=[.nilf]:=rfl;unfold yN;simp only [hz,hcl,wx,wy,Z0,Z1,reduceCtorEq];rw [eB (c:=[.nilf]) (e:=175) (ex:=true) (by rw [adv_h,aF]) (by simp) rfl rfl];simp only [Bnd_some];rw [show ([AV.nilf].set 0 (AV.fn 191 [] []))=[AV.fn 191 [] []] from rfl];obtain ⟨S,hS⟩:∃ S,S=(Ai.adv (s.set s.nx (some (gU.cells [AV.nilf] 175 true true))) 2).set s.nx (some (gU.cells [AV.fn 191 [] []] 175 true true)):=⟨_,rfl⟩;rw [<- hS];have nS:S.nx=s.nx+2:=by rw [hS];rfl
 have kS:∀ j,j < s.nx->S.h j=s.h j:=fun j hj=>by rw [hS,aB (by omega),adv_h,aB (by omega)]
 have qS:S.h s.nx=some (.cells [.fn 191 [] []] 175 true true):=by rw [hS,aF]
 have fS:aI S:=fun j hj=>by rw [hS,aB (by omega),adv_h,aB (by omega)];exact fr j (by omega)
 have cS:=c.keep (s':=S) fun j hj=>kS j (hlt j hj);have hnl:(d.ps.map (·.1)).length<=2 ^ 20:=by rw [m002];exact hps
 obtain ⟨ids,p1,p2⟩:=rV FN (cS.gx.adv (n:=4)) (fun _ _=>rfl) (fun _ _=>rfl) 11;have hpl:dN (pur mEv.P (Ai.adv S 4) 12) [x]=some ([.sl false ((d.ps.map (·.1)).map mD)],ids):=by simp only [dN,p1,m011]
 simp only [cS.sc,List.getElem?_cons_zero,wx,wy,Z0,Z1,reduceCtorEq];refine BJ hpl (bMs (d.ps.map (·.1)) (by omega)) rfl ?_
 cases dbl (d.ps.map (·.1)) with
 | true=>simp only [wx,wy,Z0,Z1,reduceCtorEq];exact hQ _ _
 | false =>
 simp only [cS.sc,List.getElem?_cons_zero,wx,wy,Z0,Z1,reduceCtorEq];refine (bNv fS.adv cS.gx.adv (by omega)).call aYq fun s4 e4=>?_;have e4:=(EF.refl [] fS).adv.nil_trans e4
 cases (d.ps.map (·.1)).any aU with
 | true=>simp only [wx,wy,Z0,Z1,reduceCtorEq];exact hQ _ _
 | false =>
 have c4:=cS.ext fS e4;have q4:s4.h s.nx=some (.cells [.fn 191 [] []] 175 true true):=by rw [e4.h s.nx (by omega) (by simp),qS]
 simp only [c4.box,q4,dc1,List.getElem?_cons_zero,wx,wy,Z0,Z1,reduceCtorEq];refine DG (by kernel_rfl) ?_;refine aP (bKy d.so) (by simp [AV.closed]) ?_
 cases GJ d.so with
 | true=>simp only [yX,wx,wy,Z0,Z1,reduceCtorEq];exact hQ _ _
 | false =>
 simp only [c4.box,ZE,wx,wy,Z0,Z1,reduceCtorEq];obtain ⟨r,hr⟩:=bRu (s:=Ai.adv s4 10) e4.fr.adv (q:=s.nx) (by rw [adv_h,q4]) d.ps hps;refine hr.call bNp fun s6 e6=>?_;have e6:=(EF.refl [] e4.fr).adv.nil_trans e6;have c6:=c4.ext e4.fr e6
 cases r with
 | true=>simp only [yX,wx,wy,Z0,Z1,reduceCtorEq];exact hQ _ _
 | false =>
 simp only [yX,ET,c6.box,ZE,RF,m002,wx,wy,Z0,Z1,reduceCtorEq];exact ⟨d.ps.length+1,ck1 hL hbf hbw hps hQ d.ps.length 0 _ [] F [] .nils (by omega) e6.fr.adv (c6.keep fun _ _=>rfl) yL (fun i hi=>by cases hi) rfl⟩
theorem ck2 (hL:rN L) (hbf:d.body.fit) (hbw:d.body.wt<=2 ^ 20) (hps:d.ps.length<=2 ^ 20) {Q:aG} (hQ:∀ (e:Int) s',Q (.int .i64 e) s') :
  ∀ (k i:Nat) (s:St) (F:List Nat) (x:AV),i+k=d.ps.length->aI s->CkR s b t6 t3 d [] F ((d.ps.take i).map (·.1)) [] x .nils ->
   qO Q (k+1) (.sl false (L.map Dc.av)) (.ptr t3 0) (.ptr b 0) (.ptr t6 0) (.sl false (d.ps.map lE)) (.int .i64 d.ps.length) (.int .i64 i) s:=by
 intro k
 induction k with
 | zero =>
  intro i s F x hi fr c;show wH Q (qO Q 0) _ _ _ _ _ _ _ s;have c1:decide ((i:Int) < (d.ps.length:Int))=false:=by simp;omega
  rw [m014 (by omega)] at c;simp only [wH,c1,wx,wy,Z0,Z1,reduceCtorEq];exact ckj hL hbf hbw hps hQ fr.adv (c.keep fun _ _=>rfl)
 | succ k ih =>
  intro i s F x hi fr c;show wH Q (qO Q (k+1)) _ _ _ _ _ _ _ s;obtain ⟨q,hq⟩:∃ q,d.ps[i]?=some q:=⟨_,m004 (by omega)⟩;have c1:decide ((i:Int) < (d.ps.length:Int))=true:=by simp;omega
  have hix:=aRa d.ps i q hq;have pp:Ai.part 2 true 0 (lE q).cells=some (lE q):=rfl;have hz:(AV.agg [.str [],.int .i64 0]).cells=[.str [],.int .i64 0]:=rfl;have p0:(lE q).cells[0]?=some (.str q.1):=rfl;have hlt:=c.lt fr;simp only [wH,c1,hix,pp,aRj,hz,wx,wy,Z0,Z1,reduceCtorEq];rw [bJ (id:=s.nx+3) (z:=2) (c:=[.str [],.int .i64 0]) (e:=151) (ex:=true) (v:=lE q) (by rw [adv_h,aF]) rfl rfl rfl];simp only [Bnd_some];obtain ⟨S,hS⟩:∃ S,S=(Ai.adv (s.set (s.nx+3) (some (.cells [.str [],.int .i64 0] 151 true true))) 5).set (s.nx+3) (some (.cells (lE q).cells 151 true true)):=⟨_,rfl⟩;rw [<- hS];have nS:S.nx=s.nx+5:=by rw [hS];rfl
  have kS:∀ j,j≠s.nx+3->S.h j=s.h j:=fun j hj=>by rw [hS,aB hj,adv_h,aB hj]
  have bS:S.h (s.nx+3)=some (.cells (lE q).cells 151 true true):=by rw [hS,aF]
  have fS:aI S:=fun j hj=>by rw [kS j (by omega)];exact fr j (by omega)
  have cS:=c.keep (s':=S) fun j hj=>kS j (by have:=hlt j hj;omega);have l3:=hlt t3 (.inr (.inl rfl));have l6:=hlt t6 (.inr (.inr (.inl rfl)));have htl:((d.ps.take i).map (·.1)).length=i:=by simp;omega
  have happ:=gM FN tC (cS.gx.adv (n:=8)) (a:=q.1) (by omega) (by omega) true (S.nx+5);have hb:kM 52 1 [(0,.str q.1)]=some (.sl true [mD q.1]):=dX FN (by decide) rfl rfl;simp only [bS,p0,cS.sc,List.getElem?_cons_zero,hb,happ,wx,wy,Z0,Z1,reduceCtorEq];have nt6:t6 ∉ aE x:=fun h=>(c.xn t6 h).2.1 rfl;have nt3:t3 ∉ aE x:=fun h=>(c.xn t3 h).1 rfl;rw [eB (c:=[x,.nils]) (e:=254) (ex:=true) (by rw [adv_h,aB (by omega),get_drop',if_neg nt6,cS.sc]) (by simp) rfl rfl];simp only [Bnd_some,TI,wx,wy,Z0,Z1,reduceCtorEq];rw [cC i d.ps.length (by omega) (by have:maxLen=9223372036854775807:=rfl;omega)];rw [show ([x,AV.nils].set 0 (.ref (S.nx+5) 0 (((d.ps.take i).map (·.1)).length+1) none 9))=[.ref (S.nx+5) 0 (((d.ps.take i).map (·.1)).length+1) none 9,.nils] from rfl];obtain ⟨C,hC⟩:∃ C,C=(some (gU.cells (((((d.ps.take i).map (·.1))++[q.1]).map mD).flatMap AV.cells) 9 false true):Option gU):=⟨_,rfl⟩;rw [<- hC];obtain ⟨T,hT⟩:∃ T,T=Ai.adv (((S.drop (aE x)).set (S.nx+5) C).set t6 (some (.cells [.ref (S.nx+5) 0 (((d.ps.take i).map (·.1)).length+1) none 9,.nils] 254 true true))) 10:=⟨_,rfl⟩;rw [<- hT];have nT:T.nx=S.nx+10:=by rw [hT];show (S.drop (aE x)).nx+10=_;rw [qY]
  have kT:∀ j,j≠t6->j≠S.nx+5->j ∉ aE x->T.h j=S.h j:=fun j a b c=>by rw [hT,adv_h,aB a,aB b,get_drop',if_neg c]
  have fT:aI T:=fun j hj=>by rw [hT,adv_h,aB (by omega),aB (by omega)];exact wZ (fS j (by omega))
  have htk:(d.ps.take (i+1)).map (·.1)=(d.ps.take i).map (·.1)++[q.1]:=by rw [m062,hq];simp
  refine ih (i+1) T F (.ref (S.nx+5) 0 (((d.ps.take i).map (·.1)).length+1) none 9) (by omega) fT ⟨cS.bank.keep fun j hj=>kT j (fun e=>c.n6 (e ▸ hj)) (by have:=hlt j (.inl hj);omega) (fun hx=>(c.xn j hx).2.2.1 hj),?_,by rw [hT,adv_h,aF],?_,fG,c.n3,c.n6,c.n36,fun j hj=>?_,fun j hj=>by cases hj⟩
  ·rw [kT t3 c.n36 (by omega) nt3,cS.box]
  ·rw [htk];refine ⟨fun v hv=>?_,.inr ⟨S.nx+5,nC _,by simp only [m002,m006,List.length_singleton],by rw [hT,adv_h,aB (by omega),aF,hC]⟩⟩;obtain ⟨w,_,rfl⟩:=m021.1 hv;exact ⟨rfl,rfl⟩
  ·simp only [aE,m008] at hj;subst hj;exact ⟨by omega,by omega,fun hm=>by have:=hlt _ (.inl hm);omega,by simp [aE]⟩
theorem bSz (hL:rN L) (d:Dc) (hbf:d.body.fit) (hbw:d.body.wt<=2 ^ 20) (hps:d.ps.length<=2 ^ 20):∃ e:Int,bE mEv 149 [.sl false (L.map Dc.av),d.av] (.int .i64 e):=by
 have r:=aIg (.sl false (L.map Dc.av)) d.av St.empty (Q:=fun r _=>∃ e,r=.int .i64 e) (by
  unfold f149;refine ⟨eL d,?_⟩;have hb58:lK 58 []=some (.agg [.nils,.nilm,.nils]):=by rw [bFw];rfl
  have hc0:(AV.agg [AV.nils,AV.nilm,AV.nils]).cells=[.nils,.nilm,.nils]:=rfl;have hc1:(AV.agg [AV.nils,AV.nils]).cells=[.nils,.nils]:=rfl
  cases hm:d.mac with
  | false =>simp only [dc2,hm,wx,wy,Z0,Z1,reduceCtorEq];exact ⟨1,rfl⟩
  | true =>
   simp only [dc2,hm,hb58,hc0,aSu,hc1,ZE,RF,m002,wx,wy,Z0,Z1,reduceCtorEq];refine ⟨rfl,d.ps.length+1,?_⟩;obtain ⟨S,hS⟩:∃ S,S=Ai.adv (((St.empty.set St.empty.nx (some (gU.cells d.av.cells 67 true true))).set (St.empty.nx+6) (some (gU.cells [AV.nils,AV.nilm,AV.nils] 58 true true))).set (St.empty.nx+8) (some (gU.cells [AV.nils,AV.nils] 254 true true))) 13:=⟨_,rfl⟩;rw [<- hS];have n0:St.empty.nx=0:=rfl;have nS:S.nx=13:=by rw [hS];rfl
   have fS:aI S:=fun j hj=>by rw [hS,adv_h,aB (by omega),aB (by omega),aB (by omega)];rfl
   have h8:S.h (St.empty.nx+8)=some (.cells [.nils,.nils] 254 true true):=by rw [hS,adv_h,aF]
   have h6:S.h (St.empty.nx+6)=some (.cells [.nils,.nilm,.nils] 58 true true):=by rw [hS,adv_h,aB (by omega),aF]
   have h0:S.h St.empty.nx=some (.cells d.av.cells 67 true true):=by rw [hS,adv_h,aB (by omega),aB (by omega),aF]
   exact ck2 hL hbf hbw hps (fun e _=>⟨e,rfl⟩) d.ps.length 0 S [St.empty.nx+6] .nils (by omega) fS ⟨⟨.nils,.nilm,.nils,⟨h6,fG,.inl ⟨rfl,rfl⟩,fG,by simp [aE],fun n h=>(by cases h),by decide⟩,rfl⟩,h0,h8,fG,fG,by simp [n0],by simp [n0],by omega,fun j hj=>(by cases hj),fun j hj=>(by cases hj)⟩)
 obtain ⟨r,s',h1,e,rfl⟩:=r;exact ⟨e,bA rfl ⟨_,s',h1,rfl⟩⟩
end
end
noncomputable section
structure BM (K:Sk):Prop where
 so:AD K
 d:∀ d∈K.D,d.body.fit/\d.body.wt<=2 ^ 20/\d.ps.length<=2 ^ 20/\d.ok=true
 x:∀ y∈K.X,y.fit/\y.ok=true
theorem BM.dc {K:Sk} (h:BM K):rN K.D:=⟨by have:=h.so.ld;omega,fun d hd=>(h.d d hd).1,fun d hd=>by have:=(h.d d hd).2.1;omega,fun d hd=>(h.d d hd).2.2.1⟩
section
variable {s s':St} {p:Nat} {K:Sk} {F:List Nat}
theorem bJh (fr:aI s) (h:cN s p K F) (hk:BM K) {k:aG} (hK:∀ s',EF [] s s'->k (.sl false (K.D.map Dc.av)) s'):aL mEv 44 [.ptr p 0] s k:=by obtain ⟨xd,xm,xa,xn,m,c,rfl⟩:=h;exact (c44 fr c.cell rfl c.d (by have:=hk.so.ld;omega) (fun d hd=>⟨(hk.d d hd).1,(hk.d d hd).2.2.1⟩)).call aZi bMy hK
theorem aYt (fr:aI s) (h:cN s p K F) (hk:BM K) {k:aG} (hK:∀ s',EF [] s s'->k (.sl false (K.X.map Sx.av)) s'):aL mEv 45 [.ptr p 0] s k:=by obtain ⟨xd,xm,xa,xn,m,c,rfl⟩:=h;exact (c45 fr c.cell rfl c.x (by have:=hk.so.lx;omega) (fun d hd=>(hk.x d hd).1)).call bHr bPh hK
theorem bDh (fr:aI s) (h:cN s p K F) (hk:BM K) {l:List Nat} {f:FuncId} (hl:l=rch s [.fn f [] [],.ptr p 0]) {k:aG} (hK:∀ s',EF [] s s'->k (.sl false (K.D.map Dc.av)) s'):cL mEv 44 [.ptr p 0] l s k:=by
 have hm:∀ j,j∈l↔j∈F:=fun j=>by rw [hl];exact h.rch rfl j
 have h':cN (s.only l) p K F:=h.keep fun j hj=>by rw [jZ,if_pos ((hm j).2 hj)]
 obtain ⟨xd,xm,xa,xn,m,c,rfl⟩:=h';exact (c44 (iA fr) c.cell rfl c.d (by have:=hk.so.ld;omega) (fun d hd=>⟨(hk.d d hd).1,(hk.d d hd).2.2.1⟩)).callD aZi bMy hK
theorem bJu:mEv.fz 99=false:=by kernel_rfl
def TB (L:List Dc) (x:Sx):Prop:=x.wt<=2 ^ 20/\∃ n r B M,T pY true n L [] x ([],[])=some (r,(B,M))/\r.2=0/\jO B r.1=1
theorem c99 (fr:aI s) (h:cN s p K F) (hk:BM K) (d:Dc) (hd1:d.body.fit) (hd2:d.body.wt<=2 ^ 20) (hd3:d.ps.length<=2 ^ 20):∃ e K',mW 99 [.ptr p 0,d.av] s p F (.int .i64 e) K'/\(e≠0->K'=K)/\(K'=K\/(iH K d.nm=0/\K'=(oR K d).2)):=by
 have hF:=h.lt fr;have hp:=hF p h.pin;have ld:=hk.so.ld;obtain ⟨e0,he0⟩:=bSz hk.dc d hd1 hd2 hd3
 have r:=aUy (.ptr p 0) d.av s (Q:=fun r s'=>∃ e K',r=.int .i64 e/\bY s p F K' s'/\(e≠0->K'=K)/\(K'=K\/(iH K d.nm=0/\K'=(oR K d).2))) (by
  unfold f99;refine ⟨eL d,?_⟩;simp only [lZ,dc0,wx,wy,Z0,Z1,reduceCtorEq];obtain ⟨S,hS⟩:∃ S,S=Ai.adv (s.set s.nx (some (.cells d.av.cells 67 true true))) 9:=⟨_,rfl⟩;rw [<- hS];have nS:S.nx=s.nx+9:=by rw [hS];rfl
  have kS:∀ j,j < s.nx->S.h j=s.h j:=fun j hj=>by rw [hS,adv_h,aB (by omega)]
  have bS:S.h s.nx=some (.cells d.av.cells 67 true true):=by rw [hS,adv_h,aF]
  have fS:aI S:=fun j hj=>by rw [hS,adv_h,aB (by omega)];exact fr j (by omega)
  have eS:EF [] s S:=⟨by omega,fun j hj _=>kS j hj,fS⟩;refine (bNj fS (h.ext fr eS) d.nm).call bCt fun s1 e1=>?_;have e2:=eS.nil_trans e1;have n1:=e1.nx;have b1:s1.h s.nx=some (.cells d.av.cells 67 true true):=by rw [e1.h _ (by omega) (by simp),bS]
  simp only [wx,wy,Z0,Z1,reduceCtorEq]
  cases hq:(iH K d.nm != 0) with
  | true =>simp only [hq,wx,wy,Z0,Z1,reduceCtorEq];exact ⟨iH K d.nm,K,rfl,bY.same h fr e2.adv,fun _=>rfl,.inl rfl⟩
  | false =>
   simp only [hq,wx,wy,Z0,Z1,reduceCtorEq];have h1:=(h.ext fr e2).adv (n:=7);refine bDh e2.fr.adv h1 hk rfl fun s3 e3=>?_;have e4:=e2.adv.nil_trans e3;have n3:=e3.nx;simp only [adv_nx] at n3;have b3:s3.h s.nx=some (.cells d.av.cells 67 true true):=by rw [e3.h _ (by simp only [adv_nx];omega) (by simp),adv_h,b1]
   have hn:s.nx ∉ rch (Ai.adv s1 7) [.fn 44 [] [],.ptr p 0]:=fun hm=>by have:=hF _ ((h1.rch rfl _).1 hm);omega
   have hlt:s.nx < s1.nx+7:=by omega
   refine ⟨by simp [clear,eA.apart,tM,bN,lY,BI hn,vT _ _ hn,hlt],?_⟩;simp only [b3,kK,wx,wy,Z0,Z1,reduceCtorEq];refine oX he0 (by simp only [m013,m052,or_false,forall_eq_or_imp,forall_eq];exact ⟨BS K.D,eO d⟩) ?_;simp only [wx,wy,Z0,Z1,reduceCtorEq]
   cases hq2:(e0 != 0) with
   | true =>simp only [hq2,wx,wy,Z0,Z1,reduceCtorEq];exact ⟨e0,K,rfl,bY.same h fr e4.adv,fun _=>rfl,.inl rfl⟩
   | false =>
    simp only [hq2,b3,kK,wx,wy,Z0,Z1,reduceCtorEq];refine (bKx (dcv d) hd1 hd3 e4.fr.adv (h.ext fr e4).adv (by omega)).call aYv fun s5 q5=>?_;refine ⟨_,_,rfl,q5.from e4.adv,fun hne=>?_,.inr ⟨by simpa using hq,rfl⟩⟩;unfold oR at hne ⊢;cases hc:((K.D.length:Int)==500)
    ·rw [hc] at hne;exact absurd rfl hne
    ·rfl)
 obtain ⟨r,s',h1,e,K',rfl,h2,h3⟩:=r;exact ⟨e,K',⟨_,s',h1,rfl,h2⟩,h3⟩
theorem c92 (fr:aI s) (h:cN s p K F) (hk:BM K) (x:Sx) (hx:x.fit) (hw:x.wt<=2 ^ 20):∃ e K',mW 92 [.ptr p 0,x.av] s p F (.int .i64 e) K'/\(e≠0->K'=K)/\(K'=K\/(K.X.length < 500/\TB K.D x/\K'={ K with X:=K.X++[x] })):=by
 have hF:=h.lt fr;have hp:=hF p h.pin;have ld:=hk.so.ld;have lx:=hk.so.lx
 have r:=aWz (.ptr p 0) x.av s (Q:=fun r s'=>∃ e K',r=.int .i64 e/\bY s p F K' s'/\(e≠0->K'=K)/\(K'=K\/(K.X.length < 500/\TB K.D x/\K'={ K with X:=K.X++[x] }))) (by
  have hb58:lK 58 []=some (.agg [.nils,.nilm,.nils]):=by rw [bFw];rfl
  have hc0:(AV.agg [AV.nils,AV.nilm,AV.nils]).cells=[.nils,.nilm,.nils]:=rfl;unfold f92;refine ⟨cH x,?_⟩;simp only [lZ,hb58,hc0,wx,wy,Z0,Z1,reduceCtorEq];refine ⟨rfl,?_⟩;obtain ⟨S,hS⟩:∃ S,S=Ai.adv ((s.set s.nx (some (.cells x.av.cells 33 true true))).set (s.nx+5) (some (.cells [.nils,.nilm,.nils] 58 true true))) 17:=⟨_,rfl⟩;have nS:S.nx=s.nx+17:=by rw [hS];rfl
  have kS:∀ j,j < s.nx->S.h j=s.h j:=fun j hj=>by rw [hS,adv_h,aB (by omega),aB (by omega)]
  have b0:S.h s.nx=some (.cells x.av.cells 33 true true):=by rw [hS,adv_h,aB (by omega),aF]
  have b5:S.h (s.nx+5)=some (.cells [.nils,.nilm,.nils] 58 true true):=by rw [hS,adv_h,aF]
  have fS:aI S:=fun j hj=>by rw [hS,adv_h,aB (by omega),aB (by omega)];exact fr j (by omega)
  have eS:EF [] s S:=⟨by omega,fun j hj _=>kS j hj,fS⟩;rw [<- hS];have hR:=h.ext fr eS;refine bDh fS hR hk rfl fun s3 e3=>?_;have e03:=eS.nil_trans e3;have n3:=e3.nx;have a0:s3.h s.nx=some (.cells x.av.cells 33 true true):=by rw [e3.h _ (by omega) (by simp),b0]
  have a5:s3.h (s.nx+5)=some (.cells [.nils,.nilm,.nils] 58 true true):=by rw [e3.h _ (by omega) (by simp),b5]
  have hn:s.nx ∉ rch S [.fn 44 [] [],.ptr p 0]:=fun hm=>by have:=hF _ ((hR.rch rfl _).1 hm);omega
  have hlt:s.nx < S.nx:=by omega
  refine ⟨by simp [clear,eA.apart,tM,bN,lY,BI hn,vT _ _ hn,hlt],?_⟩;simp only [a0,dI,wx,wy,Z0,Z1,reduceCtorEq];have hB0:jJ s3 (s.nx+5) [] [s.nx+5]:=⟨.nils,.nilm,.nils,⟨a5,fG,.inl ⟨rfl,rfl⟩,fG,by simp [aE],fun n h=>(by cases h),by decide⟩,rfl⟩;obtain ⟨n1,⟨r,B1,M1⟩,h1⟩:=aSq pY true K.D [] x ([],[]);refine GR.callDS bMj e3.fr hB0 rfl (by simp only [dC,eH,aRk,jR (fA Dc.av K.D eO)];rfl) (fun S'=>aIq S' _ K.D x) (fun S' f' h'=>aOm EC f' h' yL hk.dc x hx (by omega) h1) fun s4 q4=>?_;obtain ⟨F1,m1,m2,m3⟩:=q4;have e34:EF [] s s4:=(e03.trans m2 fun j hj=>.inl (by simp only [m008] at hj;omega));have n4:=m2.nx;simp only [zV,zO,wx,wy,Z0,Z1,reduceCtorEq];obtain ⟨rv,re⟩:=r;by_cases he:re=0
  case neg =>
   have k0:(re != 0)=true:=by simpa using he
   simp only [k0,wx,wy,Z0,Z1,reduceCtorEq];exact ⟨re,K,rfl,bY.same h fr e34.adv,fun _=>rfl,.inl rfl⟩
  case pos =>
  subst he;have k0:((0:Int) != 0)=false:=rfl;simp only [k0,wx,wy,Z0,Z1,reduceCtorEq];obtain ⟨i1,i2,i3,i4⟩:=ZD (ps:=pY) (L0:=K.D) (env:=[]) (j:=K.D.length) (by omega) ⟨yL,fun q hq=>(by cases hq),qA pY K.D []⟩ (by rw [m045];exact h1);have hin:eZ B1 rv:=i3 rfl;obtain ⟨nd,hnd⟩:=uJ hin;refine (aXo m2.fr.adv m1.adv hin hnd).call aXa fun s5 e5=>?_;have e05:=e34.adv.nil_trans e5;have n5:=e5.nx;simp only [adv_nx] at n5;have x0:aS (.tup [nd.av,.bool true]) 0=some nd.av:=rfl;have x1:aS (.tup [nd.av,.bool true]) 1=some (.bool true):=rfl;have hz:(AV.agg [.int .i64 0,.int .i64 0,.nils,.str [],.bool false,.nils,.nils]).cells=[.int .i64 0,.int .i64 0,.nils,.str [],.bool false,.nils,.nils]:=rfl;simp only [x0,x1,FV,hz,Bnd_some];rw [bJ (id:=s4.nx+8) (z:=7) (c:=[.int .i64 0,.int .i64 0,.nils,.str [],.bool false,.nils,.nils]) (e:=101) (ex:=true) (v:=nd.av) aF rfl rfl rfl];simp only [Bnd_some];obtain ⟨T,hT⟩:∃ T,T=(s5.set (s4.nx+8) (some (.cells [.int .i64 0,.int .i64 0,.nils,.str [],.bool false,.nils,.nils] 101 true true))).set (s4.nx+8) (some (.cells nd.av.cells 101 true true)):=⟨_,rfl⟩;rw [<- hT];have nT:T.nx=s5.nx:=by rw [hT];rfl
  have kT:∀ j,j≠s4.nx+8->T.h j=s5.h j:=fun j hj=>by rw [hT,aB hj,aB hj]
  have bT:T.h (s4.nx+8)=some (.cells nd.av.cells 101 true true):=by rw [hT,aF]
  have fT:aI T:=fun j hj=>by rw [kT j (by omega)];exact e5.fr j (by omega)
  have eT:EF [] s T:=⟨by have:=e05.nx;omega,fun j hj _=>by rw [kT j (by omega)];exact e05.h j hj (by simp),fT⟩;have nd1:nd.av.cells[1]?=some (.int .i64 nd.so):=rfl;have hx4:s4.h s.nx=some (.cells x.av.cells 33 true true):=by rw [m2.h _ (by omega) (by simp),a0]
  have hxT:T.h s.nx=some (.cells x.av.cells 33 true true):=by rw [kT _ (by omega),e5.h _ (by simp only [adv_nx];omega) (by simp),adv_h,hx4]
  simp only [bT,nd1,wx,wy,Z0,Z1,reduceCtorEq]
  cases hs:(nd.so != 1) with
  | true =>simp only [hs,wx,wy,Z0,Z1,reduceCtorEq];exact ⟨90,K,rfl,bY.same h fr eT.adv,fun _=>rfl,.inl rfl⟩
  | false =>
  simp only [hs,wx,wy,Z0,Z1,reduceCtorEq];refine ⟨rfl,?_⟩;have hRT:=h.ext fr eT;obtain ⟨xd,xm,xa,xn,m,cT,hFe⟩:=hRT;obtain ⟨r8,s8,w1,w2⟩:=c96 (p:=p) (o:=2) (s:=Ai.adv T 9) (vs:=K.X.map Sx.av) fT.adv cT.cell rfl (cT.x.keep fun _ _=>rfl) (by rw [m002];omega);refine bQ bHm ⟨r8,s8,w1,?_⟩;have e8:=eT.adv.nil_trans w2.1;have n8:=w2.1.nx;simp only [adv_nx] at n8;have hx8:s8.h s.nx=some (.cells x.av.cells 33 true true):=by rw [w2.1.h _ (by simp only [adv_nx];omega) (by simp),adv_h,hxT]
  simp only [bTk w2,wx,wy,Z0,Z1,reduceCtorEq]
  cases hc:((K.X.length:Int)==500) with
  | true =>simp only [hc,wx,wy,Z0,Z1,reduceCtorEq];exact ⟨2,K,rfl,bY.same h fr e8.adv,fun _=>rfl,.inl rfl⟩
  | false =>
  have hcl:K.X.length < 500:=by
   have:(K.X.length:Int)≠500:=by simpa using hc
   omega
  simp only [hc,wx,wy,Z0,Z1,reduceCtorEq];refine ⟨rfl,?_⟩;simp only [hx8,dI,wx,wy,Z0,Z1,reduceCtorEq];refine oX (c97 x hx) (by simp [aV]) ?_;refine mW.callD (K:=K) (F:=F) bMf e8.fr.adv ((h.ext fr e8).adv) rfl (by simp [dC,eH,aRk]) (fun s' f' h'=>bQx f' h' x (by omega)) fun s10 q10=>?_
  exact ⟨0,_,rfl,(q10.from e8.adv).adv,fun hne=>absurd rfl hne,.inr ⟨hcl,⟨hw,n1,_,B1,M1,h1,rfl,by simp only [jO,hnd];simpa using hs⟩,rfl⟩⟩)
 obtain ⟨r,s',h1,e,K',rfl,h2,h3⟩:=r;exact ⟨e,K',⟨_,s',h1,rfl,h2⟩,h3⟩
end
end
noncomputable section
def DcF (d:Dc):Prop:=d.body.fit/\d.body.wt<=2 ^ 20/\d.ps.length<=2 ^ 20/\d.ok=true
def SxF (y:Sx):Prop:=y.fit/\y.ok=true
structure ClF (c:Cl):Prop where
 d:DcF c.d
 x:SxF c.x
 w:c.x.wt<=2 ^ 20
def bEp (K K':Sk):Prop:=K'=K\/(∃ d,DcF d/\iH K d.nm=0/\K'=(oR K d).2)\/∃ y,SxF y/\K.X.length < 500/\TB K.D y/\K'={ K with X:=K.X++[y] }
structure DoR (K:Sk) (c:Cl) (e:Int) (K':Sk):Prop where
 er:e≠0->K'=K
 kd:((c.kind=0\/c.kind=1\/c.kind=2)/\bEp K K')\/(c.kind=3/\e=(sPush K c.n).1/\K'=(sPush K c.n).2)\/((c.kind < 0\/3 < c.kind)/\e=(sPop K c.n).1/\K'=(sPop K c.n).2)
theorem VC:∀ (n:Nat) (K:Sk),(pushN n K).D=K.D/\(pushN n K).X=K.X
 | 0,K=>⟨rfl,rfl⟩
 | n+1,K=>VC n (DK K)
theorem KF:∀ (n:Nat) (K:Sk),(∀ d∈(popN n K).D,d∈K.D)/\∀ y∈(popN n K).X,y∈K.X
 | 0,K=>⟨fun _ h=>h,fun _ h=>h⟩
 | n+1,K=>⟨fun d h=>List.mem_of_mem_take ((KF n (MD K)).1 d h),fun d h=>List.mem_of_mem_take ((KF n (MD K)).2 d h)⟩
section
variable {s s':St} {p:Nat} {K K':Sk} {F:List Nat}
theorem BM.sPush (h:BM K) (n:Int):BM (sPush K n).2:=by
 refine ⟨aGa h.so n,?_,?_⟩<;>(unfold Proofs.YtdehdahimkcakaaGreatDoor.sPush;cases decide (n < 0)<;>cases decide (n > 100 - (K.dm.length:Int))<;>simp only [cond_true,cond_false,VC])
 all_goals first | exact h.d | exact h.x
theorem BM.sPop (h:BM K) (n:Int):BM (sPop K n).2:=by
 refine ⟨aPh h.so n,?_,?_⟩<;>(unfold Proofs.YtdehdahimkcakaaGreatDoor.sPop;cases decide (n < 0)<;>cases decide (n > (K.dm.length:Int))<;>simp only [cond_true,cond_false])
 all_goals first | exact h.d | exact h.x | exact fun d hd=>h.d d ((KF _ _).1 d hd) | exact fun d hd=>h.x d ((KF _ _).2 d hd)
theorem BM.addR (h:BM K) (a:bEp K K'):BM K':=by
 rcases a with rfl | ⟨d,hd,_,rfl⟩ | ⟨y,hy,hl,_,rfl⟩
 ·exact h
 ·refine ⟨aGh h.so d,?_,?_⟩<;>(unfold oR;cases (K.D.length:Int)==500<;>simp only [cond_true,cond_false])
  ·intro b hb;rcases m003.1 hb with hb | hb
   ·exact h.d b hb
   ·simp only [m008] at hb;subst hb;exact hd
  ·exact h.d
  ·exact h.x
  ·exact h.x
 ·refine ⟨aSb h.so hl y,h.d,fun b hb=>?_⟩;rcases m003.1 hb with hb | hb
  ·exact h.x b hb
  ·simp only [m008] at hb;subst hb;exact hy
theorem DoR.ok {c:Cl} {e:Int} (r:DoR K c e K') (h:BM K):BM K':=by
 rcases r.kd with ⟨_,a⟩ | ⟨_,_,rfl⟩ | ⟨_,_,rfl⟩
 ·exact h.addR a
 ·exact h.sPush _
 ·exact h.sPop _
theorem aEr {nm:List UInt8} {so:Int} (hs:pK so=true) (hn:nm.length<=maxLen):DcF (uF nm so):=by
 refine ⟨⟨⟨by decide,by decide⟩,by simp,by simp,trivial⟩,?_,by simp [uF],?_⟩
 ·show nG.wt<=2 ^ 20;decide
 ·have:nG.ok=true:=by decide
  simp [Dc.ok,uF,hs,hn,this]
theorem aBo (K:Sk) {nm:List UInt8} {so:Int} (hs:pK so=true) (hn:nm.length<=maxLen):bEp K (nK K nm so).2:=by
 unfold nK;cases (decide (so < 1)||(decide (so > 3)||decide ((nm.length:Int) > 16384)))<;>cases hf:iH K nm != 0<;>simp only [cond_true,cond_false]
 ·exact .inr (.inl ⟨uF nm so,aEr hs hn,show iH K nm=0 by simpa using hf,rfl⟩)
 all_goals exact .inl rfl
theorem aMp {d:Dc} (h:(oR K d).1≠0):(oR K d).2=K:=by
 unfold oR at h ⊢;cases hc:((K.D.length:Int)==500)
 ·rw [hc] at h;exact absurd rfl h
 ·rfl
theorem aCh {nm:List UInt8} {so:Int} (h:(nK K nm so).1≠0):(nK K nm so).2=K:=by unfold nK at h ⊢;cases h1:(decide (so < 1)||(decide (so > 3)||decide ((nm.length:Int) > 16384)))<;>cases h2:iH K nm != 0<;>simp only [h1,h2,cond_true,cond_false] at h ⊢;exact aMp h
theorem aFt {n:Int} (h:(sPush K n).1≠0):(sPush K n).2=K:=by unfold sPush at h ⊢;cases h1:decide (n < 0)<;>cases h2:decide (n > 100 - (K.dm.length:Int))<;>simp only [h1,h2,cond_true,cond_false] at h ⊢;exact absurd rfl h
theorem aQg {n:Int} (h:(sPop K n).1≠0):(sPop K n).2=K:=by unfold sPop at h ⊢;cases h1:decide (n < 0)<;>cases h2:decide (n > (K.dm.length:Int))<;>simp only [h1,h2,cond_true,cond_false] at h ⊢;exact absurd rfl h
theorem bKu:mEv.fz 92=false:=by kernel_rfl
theorem bIt:mEv.fz 50=false:=by kernel_rfl
theorem bLi:mEv.fz 51=false:=by kernel_rfl
theorem c47 (fr:aI s) (h:cN s p K F) (hk:BM K) (c:Cl) (hc:ClF c):∃ e K',mW 47 [.ptr p 0,c.av] s p F (.int .i64 e) K'/\DoR K c e K':=by
 have hF:=h.lt fr;have hp:=hF p h.pin;have ld:=hk.so.ld;have lm:=hk.so.lm;have lam:=hk.so.l;obtain ⟨⟨d1,d2,d3,d4⟩,⟨x1,x2⟩,xw⟩:=hc;have d5:=d4;simp only [Dc.ok,cR,decide_eq_true_eq] at d5;have hnm:=d5.1.1.1;have hso:=d5.1.1.2
 have r:=aXp (.ptr p 0) c.av s (Q:=fun r s'=>∃ e K',r=.int .i64 e/\bY s p F K' s'/\DoR K c e K') (by
  unfold f47;refine ⟨VY c,?_⟩;obtain ⟨S,hS⟩:∃ S,S=(Ai.adv s 2).set s.nx (some (.cells c.av.cells 93 true true)):=⟨_,rfl⟩;dsimp only;rw [<- hS];have nS:S.nx=s.nx+2:=by rw [hS];rfl
  have bS:S.h s.nx=some (.cells c.av.cells 93 true true):=by rw [hS,aF]
  have kS:∀ j,j < s.nx->S.h j=s.h j:=fun j hj=>by rw [hS,aB (by omega),adv_h]
  have fS:aI S:=fun j hj=>by rw [hS,aB (by omega),adv_h];exact fr j (by omega)
  have eS:EF [] s S:=⟨by omega,fun j hj _=>kS j hj,fS⟩;simp only [bS,cl0,wx,wy,Z0,Z1,reduceCtorEq]
  cases h0:(c.kind==0) with
  | true =>simp only [h0,cl2,cl3,wx,wy,Z0,Z1,reduceCtorEq];refine (c91 (eS.adv.fr) (h.ext fr eS.adv) c.d.nm c.d.so (by omega)).call bOu fun s2 q2=>?_;exact ⟨_,_,rfl,q2.from eS.adv,aCh,.inl ⟨.inl (by simpa using h0),aBo K hso hnm⟩⟩
  | false =>
  cases h1:(c.kind==1) with
  | true =>simp only [h0,h1,bEw,wx,wy,Z0,Z1,reduceCtorEq];obtain ⟨e,K',w,w1,w2⟩:=c99 (eS.adv.fr) (h.ext fr eS.adv) hk c.d d1 d2 d3;refine w.call bJu fun s2 q2=>?_;exact ⟨_,_,rfl,q2.from eS.adv,w1,.inl ⟨.inr (.inl (by simpa using h1)),w2.imp_right fun h=>.inl ⟨c.d,⟨d1,d2,d3,d4⟩,h.1,h.2⟩⟩⟩
  | false =>
  cases h2:(c.kind==2) with
  | true =>simp only [h0,h1,h2,AB,wx,wy,Z0,Z1,reduceCtorEq];obtain ⟨e,K',w,w1,w2⟩:=c92 (eS.adv.fr) (h.ext fr eS.adv) hk c.x x1 xw;refine w.call bKu fun s2 q2=>?_;exact ⟨_,_,rfl,q2.from eS.adv,w1,.inl ⟨.inr (.inr (by simpa using h2)),w2.imp_right fun h=>.inr ⟨c.x,⟨x1,x2⟩,h⟩⟩⟩
  | false =>
  cases h3:(c.kind==3) with
  | true =>simp only [h0,h1,h2,h3,cl1,wx,wy,Z0,Z1,reduceCtorEq];refine (c50 (eS.adv.fr) (h.ext fr eS.adv) c.n lm (by omega)).call bIt fun s2 q2=>?_;exact ⟨_,_,rfl,q2.from eS.adv,aFt,.inr (.inl ⟨by simpa using h3,rfl,rfl⟩)⟩
  | false =>
   simp only [h0,h1,h2,h3,aMx,bS,cl1,wx,wy,Z0,Z1,reduceCtorEq];refine (c51 (eS.adv.fr) (h.ext fr eS.adv) hk.so c.n).call bLi fun s2 q2=>?_;refine ⟨_,_,rfl,q2.from eS.adv,aQg,.inr (.inr ⟨?_,rfl,rfl⟩)⟩;simp only [beq_eq_false_iff_ne] at h0 h1 h2 h3
   omega)
 obtain ⟨r,s',h1,e,K',rfl,h2,h3⟩:=r;exact ⟨e,K',⟨_,s',h1,rfl,h2⟩,h3⟩
end
end
end Go.Proofs.YtdehdahimkcakaaGreatDoor
