/- Texts joined by wip/tools/pack.py: Tk,Tb,Tc,Td,Te,Tg,Wb,Wc,Wd,We,Wf,Wg. -/
import Derived.Test.YtdehdahimkcakaaGreatDoorXr
open Nat renaming reduceAdd→Z0, reduceEqDiff→Z1
set_option linter.unusedSimpArgs false
set_option linter.unusedVariables false
set_option maxHeartbeats 4000000
set_option maxRecDepth 100000
namespace Go.Proofs.YtdehdahimkcakaaGreatDoor
open Go Ai
noncomputable section
def Nd.av (n:Nd):AV:=.agg [.int .i64 n.op,.int .i64 n.so,.sl false (n.a.map dH),.str n.nm,.bool n.neg,iV n.num,.sl false (n.str.map cP)]
def i64 (n:Int):Prop:=-9223372036854775808<=n/\n<=9223372036854775807
structure Nd.ok (n:Nd):Prop where
 op:i64 n.op
 so:i64 n.so
 a:∀ i∈n.a,i64 i
 al:n.a.length<=2 ^ 20
 nm:n.nm.length<=2 ^ 20
 num:dB n.num
 nl:n.num.length<=2 ^ 20
 str:∀ r∈n.str,i64 r.1/\i64 r.2
 sl:n.str.length<=2 ^ 20
theorem UD {a:List Nat} (h:dB a) (hl:a.length<=2 ^ 20):(iJ a).length<=2 ^ 26:=by
 have h1:=NW (val a) (2 * (aV a).length) (aV a) [] (cO h) (jJ h).1 (UM _ (cO h));have h2:=lY a;unfold iJ;have h3:∀ w:List UInt8,(w.dropWhile (·==48)).length<=w.length:=fun w=>(List.dropWhile_sublist _).length_le;have h4:=h3 (jB (val a) (aV a) []);simp only [List.length_nil] at h1;show (if (jB (val a) (aV a) []).dropWhile (·==48)=[] then [48] else (jB (val a) (aV a) []).dropWhile (·==48)).length<=2 ^ 26
 split
 ·simp
 ·omega
theorem BN (l:List Int):(AV.sl false (l.map dH)).closed=true:=cJ _ _ fun _ _=>rfl
theorem tO (l:List (Int×Int)):(AV.sl false (l.map cP)).closed=true:=cJ _ _ fun _ _=>rfl
theorem iI (n:Nd):n.av.closed=true:=by have h1:=BN n.a;have h2:=tO n.str;have h3:=cR n.num;simp only [Nd.av,AV.closed,aW] at h1 h2 h3 ⊢;simp only [h1,h2,h3,gA]
theorem aRq (i:Int):cM i≠[]:=by
 unfold cM
 split
 ·simp
 ·exact aPr _ _
section
variable {s:St} {b p:Nat} {F:List Nat} {bs:List UInt8} {n:Nd} {Q:aC}
def Ky (s:St) (b p:Nat) (bs:List UInt8) (n:Nd) (F:List Nat):Prop:=Bu s b bs true F/\aK s/\s.h p=some (.cells n.av.cells 101 true true)/\p ∉ F
theorem Ky.adv (h:Ky s b p bs n F) (k:Nat):Ky (Ai.adv s k) b p bs n F:=⟨h.1.keep fun _ _=>rfl,h.2.1.adv,h.2.2.1,h.2.2.2⟩
theorem Ky.step {s':St} {bs':List UInt8} {F':List Nat} (h:Ky s b p bs n F) (h1:Bu s' b bs' true F') (h2:EF F s s') (h3:∀ j∈F',j∈F\/s.nx<=j):Ky s' b p bs' n F':=by
 have hp:=h.2.1.lt h.2.2.1;refine ⟨h1,h2.fr,by rw [h2.h p hp h.2.2.2];exact h.2.2.1,fun hm=>?_⟩;rcases h3 p hm with h3 | h3
 ·exact h.2.2.2 h3
 ·omega
theorem lU (n:Nd):n.av.cells=[.int .i64 n.op,.int .i64 n.so,.sl false (n.a.map dH),.str n.nm,.bool n.neg,iV n.num,.sl false (n.str.map cP)]:=rfl
theorem bJv (h:Ky s b p bs n F) (hne:bs≠[]) (ho:n.ok) (hlen:bs.length<=2 ^ 36) (hQ:∀ s,Q (.str (bs++61::n.nm)) s):xZ Q (.ptr b 0) (.ptr p 0) s:=by
 have h0:=h;obtain ⟨h1,h2,h3,h4⟩:=h.adv 6;unfold xZ;refine aHc h1 h2 hne (by omega) rfl fun s' h5 h6=>?_;have hp:=h2.lt h3;have h7:s'.h p=some (.cells n.av.cells 101 true true):=by rw [h6.h p hp h4];exact h3
 rw [eJ (y:=[61]) (by simp only [List.length_cons,List.length_nil];omega)];simp only [wx,wy,Z0,Z1,reduceCtorEq];refine ⟨?_,?_⟩
 ·have hn:p ∉ rch (Ai.adv s 6) [.fn 108 [] [],.ptr b 0]:=fun hm=>h4 ((h1.rch rfl p).1 hm)
  have hmb:dY p (rch (Ai.adv s 6) [.fn 108 [] [],.ptr b 0])=false:=by
   cases hc:dY p (rch (Ai.adv s 6) [.fn 108 [] [],.ptr b 0]) with
   | false=>rfl
   | true=>exact absurd (bL.1 hc) hn
  have hlt:Nat.blt p (Ai.adv s 6).nx=true:=by simpa [Nat.blt_eq] using hp
  have hdj:tH (rch (Ai.adv s 6) [.fn 108 [] [],.ptr b 0]) [p]=true:=by
   have:∀ l:List Nat,(∀ x∈l,x≠p)->tH l [p]=true:=by
    intro l
    induction l with
    | nil=>intro _;rfl
    | cons x l ih =>
     intro hx
     have h1:Nat.beq x p=false:=by
      cases hb:Nat.beq x p with
      | false=>rfl
      | true=>exact absurd (jS hb) (hx x (m007 ..))
     simp only [tH,dY,h1,cond_false,Bool.or_self,m027,m031,ih fun y hy=>hx y (m005 _ hy)]
   exact this _ fun x hx he=>hn (by rw [<- he];exact hx)
  simp [clear,eD.apart,DF,bO,aS,tH,hmb,hlt,hdj];exact hp
 ·simp only [h7,lU,wx,wy,Z0,Z1,reduceCtorEq];rw [eJ (by have:=ho.nm;simp only [m006,List.length_cons,List.length_nil];omega)];simp only [Bnd_some,m019,List.cons_append,List.nil_append];exact hQ _
theorem bGc (ho:n.ok) (r:List UInt8) (hQ:∀ s,Q (.str r) s):∀ (m i:Nat) (bs:List UInt8) (s:St) (F:List Nat),i+m=n.str.length->Ky s b p bs n F->bs≠[]->bs.length+64 * m<=2 ^ 36->r=bs++(n.str.drop i).flatMap (fun r=>32::cM r.1++42::cM r.2)++61::n.nm ->
  qS Q (m+1) (.ptr p 0) (.ptr b 0) (.sl false (n.str.map cP)) (.int .i64 n.str.length) (.int .i64 i) s:=by
 intro m
 induction m with
 | zero =>
  intro i bs s F hi h hne hlen hr;show uG Q (qS Q 0) _ _ _ _ _ s;have c1:decide ((i:Int) < (n.str.length:Int))=false:=by simp;omega
  rw [m037 (by omega)] at hr;simp only [uG,c1,wx,wy,Z0,Z1,reduceCtorEq];refine bJv (h.adv 1) hne ho (by omega) fun s=>?_;rw [show bs++61::n.nm=r by rw [hr];simp];exact hQ s
 | succ m ih =>
  intro i bs s F hi h hne hlen hr;show uG Q (qS Q (m+1)) _ _ _ _ _ s;have c1:decide ((i:Int) < (n.str.length:Int))=true:=by simp;omega
  obtain ⟨q,hq⟩:∃ q,n.str[i]?=some q:=⟨_,m004 (by omega)⟩;rw [cK _ i q hq,m024] at hr;have hq2:=ho.str q (m017 hq);have hix:=bP iW false hq .i64;have w1:IntKind.i64.wrap ((i:Int)+1)=((i+1:Nat):Int):=by have:=ho.sl;rw [IntWalk.i64_in _ (by omega)];rfl
  have hst:∀ (q':St) (k c:Nat),bQ 2 (.ptr k 0) (cP q) (Ai.adv (q'.set k (some (.cells (AV.agg [.int .i64 0,.int .i64 0]).cells 109 true true))) c)=some (Ai.adv (q'.set k (some (.cells (cP q).cells 109 true true))) c):=fun q' k c=>by rw [bJ (z:=2) (by rw [adv_h,aG]) rfl rfl rfl,adv_set,set_set]
  have hb:=h.2.1.lt (h.1.have b h.1.mem).choose_spec;have hp:=h.2.1.lt h.2.2.1;have hF:=h.1.lt h.2.1;simp only [uG,c1,hix,lB,aVn,hst,wx,wy,Z0,Z1,reduceCtorEq]
  have h1:Ky (Ai.adv (s.set (s.nx+3) (some (.cells (cP q).cells 109 true true))) 15) b p bs n F :=
   ⟨h.1.keep fun j hj=>by rw [adv_h,aF (by have:=hF j hj;omega)],dP h.2.1 15 (by omega),by rw [adv_h,aF (by omega)];exact h.2.2.1,h.2.2.2⟩
  have e0:(cP q).cells[0]?=some (.int .i64 q.1):=rfl;have e1:(cP q).cells[1]?=some (.int .i64 q.2):=rfl;simp only [e0,e1,aG,wx,wy,Z0,Z1,reduceCtorEq];refine iL (aNn q.1 hq2.1.1 hq2.1.2) (by simp [AV.closed]) ?_;have l1:=nQ q.1;have l2:=nQ q.2;rw [eJ (x:=[32]) (by simp only [List.length_cons,List.length_nil];omega)];simp only [Bnd_some];rw [eJ (y:=[42]) (by simp only [m006,List.length_cons,List.length_nil];omega)];simp only [e1,wx,wy,Z0,Z1,reduceCtorEq];refine iL (aNn q.2 hq2.2.1 hq2.2.2) (by simp [AV.closed]) ?_;rw [eJ (by simp only [m006,List.length_cons,List.length_nil];omega)];simp only [Bnd_some];refine TJ h1.1 h1.2.1 (by simp) (by simp only [m006,List.length_cons,List.length_nil];omega) rfl fun s' F' g1 g2 g3=>?_;simp only [QT,w1,wx,wy,Z0,Z1,reduceCtorEq];exact ih (i+1) _ _ F' (by omega) ((h1.step g1 g2 g3).adv 2) (by simp) (by simp only [m006,List.length_cons,List.length_nil];omega) (by rw [hr];simp)
theorem bEp (h:Ky s b p bs n F) (hne:bs≠[]) (ho:n.ok) (hlen:bs.length<=2 ^ 30) (hQ:∀ s,Q (.str (bs++35::iJ n.num++n.str.flatMap (fun r=>32::cM r.1++42::cM r.2)++61::n.nm)) s):xY Q (.ptr p 0) (.ptr b 0) s:=by
 have htx:=UD ho.num ho.nl;unfold xY;obtain ⟨h1,h2,h3,h4⟩:=h.adv 6;simp only [h.2.2.1,lU,wx,wy,Z0,Z1,reduceCtorEq];refine aM (c59 n.num ho.num (by have:=ho.nl;omega)) (by simp [cR]) ?_;rw [eJ (x:=[35]) (by simp only [List.length_cons,List.length_nil];omega)];simp only [Bnd_some];refine VA h1 h2 (by simp) (by simp only [m006,List.length_cons,List.length_nil];omega) fun s' F' g1 g2 g3=>?_;have h5:=(h.adv 6).step g1 g2 g3;have hl:∀ id s,bt .len #[25] [.sl false (n.str.map cP)] id s=some (.int .i64 n.str.length,s):=fun id s=>by rw [kI,m002]
 simp only [h5.2.2.1,lU,hl,wx,wy,Z0,Z1,reduceCtorEq];exact ⟨_,bGc ho _ hQ n.str.length 0 _ _ F' (by omega) (h5.adv 4) (by simp) (by have:=ho.sl;simp only [m006,List.length_cons,List.length_nil];omega) (by simp)⟩
theorem bKe (ho:n.ok) (r:List UInt8) (hQ:∀ s,Q (.str r) s):∀ (m i:Nat) (bs:List UInt8) (s:St) (F:List Nat),i+m=n.a.length->Ky s b p bs n F->bs≠[]->bs.length+22 * m<=2 ^ 30->r=bs++(n.a.drop i).flatMap (fun i=>32::cM i)++35::iJ n.num++n.str.flatMap (fun r=>32::cM r.1++42::cM r.2)++61::n.nm ->
  qW Q (m+1) (.ptr p 0) (.ptr b 0) (.sl false (n.a.map dH)) (.int .i64 n.a.length) (.int .i64 i) s:=by
 intro m
 induction m with
 | zero =>
  intro i bs s F hi h hne hlen hr;show vP Q (qW Q 0) _ _ _ _ _ s;have c1:decide ((i:Int) < (n.a.length:Int))=false:=by simp;omega
  rw [m037 (by omega)] at hr;simp only [vP,c1,wx,wy,Z0,Z1,reduceCtorEq];refine bEp (h.adv 1) hne ho (by omega) fun s=>?_;rw [List.flatMap_nil,m011] at hr;rw [<- hr];exact hQ s
 | succ m ih =>
  intro i bs s F hi h hne hlen hr;show vP Q (qW Q (m+1)) _ _ _ _ _ s;have c1:decide ((i:Int) < (n.a.length:Int))=true:=by simp;omega
  obtain ⟨q,hq⟩:∃ q,n.a[i]?=some q:=⟨_,m004 (by omega)⟩;rw [cK _ i q hq,m024] at hr;have hq2:=ho.a q (m017 hq);have hix:=bP jT false hq .i64;have w1:IntKind.i64.wrap ((i:Int)+1)=((i+1:Nat):Int):=by have:=ho.al;rw [IntWalk.i64_in _ (by omega)];rfl
  have e0:(dH q).cells[0]?=some (.int .i64 q):=rfl;simp only [vP,c1,hix,e0,wx,wy,Z0,Z1,reduceCtorEq];refine aM (aNn q hq2.1 hq2.2) (by simp [AV.closed]) ?_;have l1:=nQ q;rw [eJ (x:=[32]) (by simp only [List.length_cons,List.length_nil];omega)];simp only [Bnd_some];obtain ⟨h1,h2,_⟩:=h.adv 8;refine VA h1 h2 (by simp) (by simp only [m006,List.length_cons,List.length_nil];omega) fun s' F' g1 g2 g3=>?_;simp only [SG,w1,wx,wy,Z0,Z1,reduceCtorEq];exact ih (i+1) _ _ F' (by omega) (((h.adv 8).step g1 g2 g3).adv 2) (by simp) (by simp only [m006,List.length_cons,List.length_nil];omega) (by rw [hr];simp)
end
theorem bMi (n:Nd) (ho:n.ok):aU mEv 183 [n.av] (.str (eK n)):=by
 refine bC (aOl _ _ ?_);unfold f183;refine ⟨rfl,?_⟩;have hl:∀ id s,bt .len #[72] [.sl false (n.a.map dH)] id s=some (.int .i64 n.a.length,s):=fun id s=>by rw [dX,m002]
 have l1:=nQ n.op;have l2:=nQ n.so;have hz:(AV.agg [.nilp,.nils]).cells=[.nilp,.nils]:=rfl;simp only [bKw,lU,hz,wx,wy,Z0,Z1,reduceCtorEq];refine iL (aNn n.op ho.op.1 ho.op.2) (by simp [AV.closed]) ?_;rw [eJ (y:=[58]) (by simp only [List.length_cons,List.length_nil];omega)];simp only [lU,wx,wy,Z0,Z1,reduceCtorEq];refine iL (aNn n.so ho.so.1 ho.so.2) (by simp [AV.closed]) ?_;rw [eJ (by simp only [m006,List.length_cons,List.length_nil];omega)];simp only [Bnd_some]
 have h0:Ky (Ai.adv ((Ai.adv ((Ai.adv St.empty 2).set St.empty.nx (some (.cells n.av.cells 101 true true))) 1).set (St.empty.nx+2) (some (.cells [.nilp,.nils] 163 true true))) 9) 2 0 [] n [2] :=
  ⟨⟨.nilp,.nils,.inl rfl,rfl,.inl ⟨rfl,rfl,rfl⟩⟩,(((bU.adv.set (by decide)).adv).set (by show 2 < 3;decide)).adv,rfl,by decide⟩
 refine TJ h0.1 h0.2.1 (by simp [aRq]) (by simp only [m006,List.length_cons,List.length_nil];omega) rfl fun s' F' g1 g2 g3=>?_;have h5:=h0.step g1 g2 g3;have hp:s'.h St.empty.nx=some (.cells n.av.cells 101 true true):=h5.2.2.1;simp only [hp,lU,hl,wx,wy,Z0,Z1,reduceCtorEq];refine ⟨_,bKe ho (eK n) (fun s=>aI rfl) n.a.length 0 _ _ F' (by omega) (h5.adv 4) (by simp) (by have:=ho.al;simp only [m006,List.length_cons,List.length_nil];omega) ?_⟩;simp [eK]
end
noncomputable section
def stA (x:List UInt8):AV:=.str x
theorem aUy:FX stA 1:=⟨fun _=>rfl,fun _=>rfl⟩
theorem yK:FX Nd.av 7:=⟨fun _=>rfl,fun _=>rfl⟩
def gY:Nat->List (List UInt8)->List (AV×AV)
 | _,[]=>[]
 | i,k::l=>(.str k,.int .i64 i)::gY (i+1) l
theorem aLu (l:List (List UInt8)) (k:List UInt8):∀ i,gY i (l++[k])=gY i l++[(.str k,.int .i64 ((i+l.length:Nat):Int))]:=by
 induction l with
 | nil=>intro i;rfl
 | cons a l ih=>intro i;simp only [List.cons_append,gY,ih,List.length_cons,show i+1+l.length=i+(l.length+1) by omega]
def tS (k:List UInt8):List (List UInt8)->Option Nat
 | []=>none
 | a::l=>bif k==a then some 0 else (tS k l).map (·+1)
theorem FV (k:List UInt8) (B:Bk):tS k (B.map eK)=fE k B:=by
 induction B with
 | nil=>rfl
 | cons n B ih=>simp only [m039,tS,fE,ih]
theorem GU (k:List UInt8):∀ (l:List (List UInt8)) (i:Nat),find (.str k) (gY i l)=some ((tS k l).map fun j=>.int .i64 ((i+j:Nat):Int)):=by
 intro l
 induction l with
 | nil=>intro i;rfl
 | cons a l ih =>
  intro i;simp only [gY,find,jZ,tS]
  cases h:(k==a) with
  | true=>simp
  | false =>simp only [ih,cond_false,Option.map_map];congr 2;funext j;simp only [Function.comp,show i+1+j=i+(j+1) by omega]
theorem aJa (k:List UInt8) (v:AV):∀ (l:List (List UInt8)) (i:Nat),tS k l=none->jF (.str k) v (gY i l)=gY i l++[(.str k,v)]:=by
 intro l
 induction l with
 | nil=>intro i _;rfl
 | cons a l ih =>
  intro i h;simp only [tS] at h
  cases hb:(k==a) with
  | true=>rw [hb] at h;cases h
  | false =>rw [hb] at h;simp only [cond_false,Option.map_eq_none_iff] at h;simp only [gY,jF,jZ,hb,ih (i+1) h,List.cons_append];rfl
section
variable {s s':St} {i:Nat} {F:List Nat} {K:aC}
def MpR (s:St) (m:AV) (l:List (List UInt8)):Prop:=(m=.nilm/\l=[])\/∃ j,m=.map j/\s.h j=some (.map (gY 0 l))
def BkC (s:St) (i:Nat) (B:Bk) (xl m xn:AV):Prop :=
 s.h i=some (.cells [xl,m,xn] 58 true true)/\Gw 9 1 0 s xl ((B.map eK).map stA)/\MpR s m (B.map eK)/\Gw 101 7 0 s xn (B.map Nd.av)/\(i::(aS xl++aS m++aS xn)).Nodup/\(∀ n∈B,n.ok)/\B.length<=20000
def lG (s:St) (i:Nat) (B:Bk) (F:List Nat):Prop:=∃ xl m xn,BkC s i B xl m xn/\F=i::(aS xl++aS m++aS xn)
theorem MpR.keep {m:AV} {l:List (List UInt8)} (h:MpR s m l) (hk:∀ j∈aS m,s'.h j=s.h j):MpR s' m l:=by
 rcases h with h | ⟨j,rfl,h⟩
 ·exact .inl h
 ·exact .inr ⟨j,rfl,by rw [hk j (by simp [aS])];exact h⟩
theorem lG.keep {B:Bk} (h:lG s i B F) (hk:∀ j∈F,s'.h j=s.h j):lG s' i B F:=by obtain ⟨xl,m,xn,⟨h1,h2,h3,h4,h5⟩,rfl⟩:=h;exact ⟨xl,m,xn,⟨by rw [hk i (by simp)];exact h1,h2.keep fun j hj=>hk j (by simp [hj]),h3.keep fun j hj=>hk j (by simp [hj]),h4.keep fun j hj=>hk j (by simp [hj]),h5⟩,rfl⟩
theorem Gw.has {e:TypeId} {z:Nat} {x:AV} {vs:List AV} (g:Gw e z 0 s x vs):∀ j∈aS x,s.h j=some (.cells (vs.flatMap AV.cells) e false true):=by
 obtain ⟨_,⟨rfl,rfl⟩ | ⟨id,_,rfl,h⟩⟩:=g
 ·intro j hj;cases hj
 ·intro j hj;simp only [aS,m008] at hj;subst hj;exact h
theorem MpR.has {m:AV} {l:List (List UInt8)} (h:MpR s m l):∀ j∈aS m,s.h j=some (.map (gY 0 l)):=by
 rcases h with ⟨rfl,_⟩ | ⟨k,rfl,h⟩
 ·intro j hj;cases hj
 ·intro j hj;simp only [aS,m008] at hj;subst hj;exact h
theorem lG.have {B:Bk} (h:lG s i B F):∀ j∈F,∃ b,s.h j=some b:=by
 obtain ⟨xl,m,xn,⟨h1,h2,h3,h4,h5⟩,rfl⟩:=h;intro j hj;simp only [m013,m003] at hj;rcases hj with rfl | (hj | hj) | hj
 ·exact ⟨_,h1⟩
 ·exact ⟨_,h2.has j hj⟩
 ·exact ⟨_,h3.has j hj⟩
 ·exact ⟨_,h4.has j hj⟩
theorem lG.lt {B:Bk} (h:lG s i B F) (fr:aK s):∀ j∈F,j < s.nx:=fun j hj=>by obtain ⟨b,hb⟩:=h.have j hj;exact fr.lt hb
theorem lG.mem {B:Bk} (h:lG s i B F):i∈F:=by obtain ⟨xl,m,xn,_,rfl⟩:=h;simp
theorem lG.adv {B:Bk} {n:Nat} (h:lG s i B F):lG (Ai.adv s n) i B F:=h.keep fun _ _=>rfl
theorem OI {l:List AV} (h:aW l=true):iA l=[]:=by
 have key:(∀ v:AV,v.closed=true->gF v=[])/\∀ l:List AV,aW l=true->iA l=[]:=by
  constructor
  ·intro v
   exact AV.rec (motive_1:=fun v=>v.closed=true->gF v=[]) (motive_2:=fun l=>aW l=true->iA l=[])
    (fun _=>rfl) (fun _ _=>rfl) (fun _ _ _=>rfl) (fun _ _=>rfl) (fun _=>rfl) (fun _ _ h=>by cases h) (fun cs _ ih h=>by simp only [AV.closed] at h;simp only [gF,ih h])
    (fun _=>rfl) (fun h=>by cases h) (fun ex l ih h=>by simp only [AV.closed,bN] at h;simp only [gF,ih h.2]) (fun _ _ _ _ _ h=>by cases h) (fun _=>rfl) (fun _ h=>by cases h) (fun _=>rfl) (fun _ h=>by cases h) (fun _=>rfl)
    (fun _ a b iha ihb h=>by simp only [AV.closed,bN] at h;simp only [gF,iha h.1,ihb h.2,m011]) (fun _=>rfl) (fun _ _ _ h=>by cases h) (fun cs ih h=>by simp only [AV.closed] at h;simp only [gF,ih h]) (fun cs ih h=>by simp only [AV.closed] at h;simp only [gF,ih h])
    (fun _=>rfl) (fun v l ih1 ih2 h=>by simp only [aW,bN] at h;simp only [iA,ih1 h.1,ih2 h.2,m011]) v
  ·intro l
   exact AV.rec_1 (motive_1:=fun v=>v.closed=true->gF v=[]) (motive_2:=fun l=>aW l=true->iA l=[])
    (fun _=>rfl) (fun _ _=>rfl) (fun _ _ _=>rfl) (fun _ _=>rfl) (fun _=>rfl) (fun _ _ h=>by cases h) (fun cs _ ih h=>by simp only [AV.closed] at h;simp only [gF,ih h])
    (fun _=>rfl) (fun h=>by cases h) (fun ex l ih h=>by simp only [AV.closed,bN] at h;simp only [gF,ih h.2]) (fun _ _ _ _ _ h=>by cases h) (fun _=>rfl) (fun _ h=>by cases h) (fun _=>rfl) (fun _ h=>by cases h) (fun _=>rfl)
    (fun _ a b iha ihb h=>by simp only [AV.closed,bN] at h;simp only [gF,iha h.1,ihb h.2,m011]) (fun _=>rfl) (fun _ _ _ h=>by cases h) (fun cs ih h=>by simp only [AV.closed] at h;simp only [gF,ih h]) (fun cs ih h=>by simp only [AV.closed] at h;simp only [gF,ih h])
    (fun _=>rfl) (fun v l ih1 ih2 h=>by simp only [aW,bN] at h;simp only [iA,ih1 h.1,ih2 h.2,m011]) l
 exact key.2 l h
theorem aEx (l:List (List UInt8)):∀ i,iA ((gY i l).map (·.2))=[]:=by
 induction l with
 | nil=>intro i;rfl
 | cons a l ih=>intro i;simp only [gY,m039,iA,ih];rfl
theorem OF {vs:List AV} (h:∀ v∈vs,v.closed=true):iA (vs.flatMap AV.cells)=[]:=OI (mP h)
theorem DZ {x:AV} (h:(∃ e z vs,Gw e z 0 s x vs)\/∃ l,MpR s x l):gF x=aS x:=by rcases h with ⟨e,z,vs,_,⟨rfl,rfl⟩ | ⟨id,_,rfl,_⟩⟩ | ⟨l,⟨rfl,_⟩ | ⟨k,rfl,_⟩⟩<;>rfl
theorem lG.rch {B:Bk} (h:lG s i B F) {vs:List AV} (hv:iA vs=[i]):∀ j,j∈rch s vs↔j∈F:=by
 obtain ⟨xl,m,xn,⟨h1,h2,h3,h4,h5⟩,rfl⟩:=h;have hb:fQ (.cells [xl,m,xn] 58 true true)=aS xl++aS m++aS xn:=by simp only [fQ,iA,DZ (s:=s) (.inl ⟨_,_,_,h2⟩),DZ (s:=s) (.inr ⟨_,h3⟩),DZ (s:=s) (.inl ⟨_,_,_,h4⟩),m011,m019]
 intro j;rw [CH hv h1]
 ·rw [hb];simp
 ·rw [hb];have hl:∀ x:AV,(aS x).length<=1:=fun x=>by cases x<;>simp [aS]
  have a:=hl xl;have b:=hl m;have c:=hl xn;simp only [m006];omega
 ·rw [hb];intro j hj b hb2;right;simp only [m003] at hj;rcases hj with (hj | hj) | hj
  ·rw [h2.has j hj] at hb2;cases hb2;exact OF fun v hv=>by obtain ⟨c,_,rfl⟩:=m021.1 hv;rfl
  ·rw [h3.has j hj] at hb2;cases hb2;exact aEx _ _
  ·rw [h4.has j hj] at hb2;cases hb2;exact OF fun v hv=>by obtain ⟨c,_,rfl⟩:=m021.1 hv;exact iI c
theorem aIg {B:Bk} {x:AV} (g:Gw 101 7 0 s x (B.map Nd.av)) (id:Nat):bt .len #[56] [x] id s=some (.int .i64 B.length,s):=by
 have:=bFn g id
 rwa [m002] at this
theorem TC {B:Bk} (h:lG s i B F) (hK:K (.int .i64 B.length) (Ai.adv s 9)):aY mEv 31 [.ptr i 0] s K:=by obtain ⟨xl,m,xn,⟨h1,h2,h3,h4,h5⟩,rfl⟩:=h;refine kM (by kernel_rfl) (aSi _ _ ?_);unfold f31;simp only [aDr,h1,wx,wy,Z0,Z1,reduceCtorEq];refine ⟨rfl,?_⟩;simp only [h1,aIg (h4.adv),wx,wy,Z0,Z1,reduceCtorEq];exact hK
theorem aVc:dZ Tryz.ty 53=some (.map 9 3):=by kernel_rfl
theorem aMo {m:AV} {l:List (List UInt8)} (h:MpR s m l) (k:List UInt8):hJ Tryz.ty 53 m (.str k) true s=some (.tup [.int .i64 (((tS k l).getD 0:Nat):Int),.bool (tS k l).isSome]):=by
 have h9:dZ Tryz.ty 9=some .string:=by kernel_rfl
 have hz:zero Tryz.ty 3=some (.int .i64 0):=by kernel_rfl
 have he:qY m (.str k) s=some ((tS k l).map fun j=>.int .i64 (j:Int)):=by
  rcases h with ⟨rfl,rfl⟩ | ⟨j,rfl,hj⟩
  ·rfl
  ·simp only [qY,hj,GU,m023]
 simp only [hJ,aVc,h9,Option.bind_some,BT,if_true,hz,he,Option.map_some];cases tS k l<;>rfl
theorem aYi {xl m xn:AV} {l:List (List UInt8)} (h1:s.h i=some (.cells [xl,m,xn] 58 true true)) (h:MpR s m l) (k:List UInt8) (hK:K (.tup [.int .i64 (((tS k l).getD 0:Nat):Int),.bool (tS k l).isSome]) (Ai.adv s 19)):aY mEv 184 [.ptr i 0,.str k] s K:=by
 refine kM (by kernel_rfl) (aGz _ _ _ ?_);unfold f184;have e1:bn .eql 277 (.ptr i 0) .nilp=some (.bool false):=by kernel_rfl
 simp only [e1,wx,wy,Z0,Z1,reduceCtorEq];refine ⟨rfl,?_⟩;simp only [h1,aMo (s:=Ai.adv s 15) (h.keep fun _ _=>rfl),wx,wy,Z0,Z1,reduceCtorEq];exact hK
theorem bLd {j:Nat} {l:List (List UInt8)} {S:St} (h:S.h j=some (.map (gY 0 l))) (k:List UInt8) (hk:tS k l=none) (v:AV):iC Tryz.ty 53 (.map j) (.str k) v S=some (S.set j (some (.map (gY 0 l++[(.str k,v)])))):=by
 have h9:dZ Tryz.ty 9=some .string:=by kernel_rfl
 simp only [iC,aVc,h9,Option.bind_some,h,BT,if_true,GU,hk,aJa k v l 0 hk,Option.map_none,Option.map_some]
theorem RN {x:AV} {l:List (List UInt8)} (g:Gw 9 1 0 s x (l.map stA)) (id:Nat):bt .len #[52] [x] id s=some (.int .i64 l.length,s):=by
 have:=bDn g id
 rwa [m002] at this
theorem bDi {xl m xn:AV} {l:List (List UInt8)} (fr:aK s) (h1:s.h i=some (.cells [xl,m,xn] 58 true true)) (h2:Gw 9 1 0 s xl (l.map stA)) (h:MpR s m l) (hd:(i::(aS xl++aS m)).Nodup) (k:List UInt8) (hk:tS k l=none) (hl:l.length<=20000) :
  ∃ r s',WideC mEv 185 [.ptr i 0,.str k] s r s'/\r=.tup [.int .i64 l.length,.bool true]/\∃ j' n',s'.h i=some (.cells [.ref n' 0 (l.length+1) none 9,.map j',xn] 58 true true)/\Gw 9 1 0 s' (.ref n' 0 (l.length+1) none 9) ((l++[k]).map stA) /\
   s'.h j'=some (.map (gY 0 (l++[k])))/\EF (i::(aS xl++aS m)) s s'/\s.nx<=n'/\(j'∈aS m\/s.nx<=j')/\j'≠n':=by
 refine aIh _ _ _ ?_;have e1:bn .eql 277 (.ptr i 0) .nilp=some (.bool false):=by kernel_rfl
 have hi:=fr.lt h1;have wl:IntKind.i64.wrap (((l.length:Nat):Int)+1 - 1)=(l.length:Int):=by rw [IntWalk.i64_in _ (by omega)];omega
 have bs:fZ 52 1 [(0,.str k)]=some (.sl true [stA k]):=eW bHo (by decide) rfl rfl
 have key:∀ (Q:aC) (S:St) (j:Nat),S.h i=some (.cells [xl,.map j,xn] 58 true true)->Gw 9 1 0 S xl (l.map stA)->S.h j=some (.map (gY 0 l))->j ∉ i::aS xl->EF (i::(aS xl++aS m)) s S->(j∈aS m\/s.nx<=j) ->
   (∀ s',(∃ j' n',s'.h i=some (.cells [.ref n' 0 (l.length+1) none 9,.map j',xn] 58 true true)/\Gw 9 1 0 s' (.ref n' 0 (l.length+1) none 9) ((l++[k]).map stA) /\
   s'.h j'=some (.map (gY 0 (l++[k])))/\EF (i::(aS xl++aS m)) s s'/\s.nx<=n'/\(j'∈aS m\/s.nx<=j')/\j'≠n')->Q (.tup [.int .i64 l.length,.bool true]) s')->DK Q (.ptr i 0) (.str k) S:=by
  intro Q S j g1 g2 g3 g4 g5 g6 hQ;have hj:=g5.fr.lt g3;have hi2:=g5.fr.lt g1;have hxl:∀ y∈aS xl,y < S.nx:=fun y hy=>g5.fr.lt (g2.has y hy);have hji:j≠i:=fun hh=>g4 (by simp [hh]);have hjx:j ∉ aS xl:=fun hh=>g4 (by simp [hh]);have hix:i ∉ aS xl:=fun hh=>by simp only [m036,m003] at hd;exact hd.1 (.inl hh)
  have hn:=g5.nx;unfold DK;refine ⟨rfl,?_⟩;simp only [g1,wx,wy,Z0,Z1,reduceCtorEq];refine ⟨rfl,?_⟩;simp only [g1,RN g2.adv,wx,wy,Z0,Z1,reduceCtorEq];refine ⟨g5.fr _ (by omega),?_⟩;rw [bLd (S:=Ai.adv S 11) g3 k hk];simp only [Bnd_some];refine ⟨rfl,?_⟩;have g1':(S.set j (some (.map (gY 0 l++[(.str k,.int .i64 l.length)])))).h i=some (.cells [xl,.map j,xn] 58 true true):=by rw [aF hji.symm];exact g1
  have g2':Gw 9 1 0 (S.set j (some (.map (gY 0 l++[(.str k,.int .i64 l.length)])))) xl (l.map stA):=g2.keep fun y hy=>aF fun hh=>hjx (by rw [<- hh];exact hy);have happ:=hI bHo aUy (g2'.adv (n:=22)) (by omega) (by omega) k true (S.nx+18);simp only [g1',bs,happ,wx,wy,Z0,Z1,reduceCtorEq];refine ⟨rfl,?_⟩;obtain ⟨M,hM⟩:∃ M,M=(some (mK.map (gY 0 l++[(AV.str k,AV.int .i64 l.length)])):Option mK):=⟨_,rfl⟩;obtain ⟨C,hC⟩:∃ C,C=(some (mK.cells (((l++[k]).map stA).flatMap AV.cells) 9 false true):Option mK):=⟨_,rfl⟩;rw [<- hM,<- hC];rw [<- hM] at g1';have z1:(Ai.adv (((S.set j M).drop (aS xl)).set (S.nx+18) C) 22).h i=some (.cells [xl,.map j,xn] 58 true true):=by rw [adv_h,get_set,if_neg (by omega),get_drop',if_neg hix];exact g1'
  rw [nJ (c:=[xl,.map j,xn]) z1 (by simp) rfl rfl];simp only [wx,wy,Z0,Z1,reduceCtorEq];refine ⟨rfl,?_⟩;have z2:(Ai.adv ((((S.set j M).drop (aS xl)).set (S.nx+18) C).set i (some (.cells [.ref (S.nx+18) 0 (l.length+1) none 9,.map j,xn] 58 true true))) 22).h i=some (.cells [.ref (S.nx+18) 0 (l.length+1) none 9,.map j,xn] 58 true true):=by rw [adv_h,aG]
  simp only [List.set_cons_zero,if_true,aXd,wx,wy,Z0,Z1,reduceCtorEq];have wl2:IntKind.i64.wrap (((l.length+1:Nat):Int) - 1)=(l.length:Int):=by rw [IntWalk.i64_in _ (by omega)];omega
  rw [wl2];refine hQ _ ⟨j,S.nx+18,by rw [adv_h,aG],?_,?_,?_,by omega,g6,by omega⟩
  ·have:=mH (l:=l) (a:=k) aUy (e:=9) (id:=S.nx+18) (n:=30) (s0:=S);refine this.keep fun y hy=>?_;simp only [aS,m008] at hy;subst hy;rw [adv_h,aF (by omega),aG,adv_h,aG,hC]
  ·rw [adv_h,aF hji,aF (by omega),get_drop',if_neg hjx,aG,hM,aLu,m023]
  ·refine ⟨by simp only [adv_nx,set_nx,nx_drop];omega,fun y hy hn2=>?_,fun y hy=>?_⟩
   ·simp only [m013,m003,not_or] at hn2;have hyj:y≠j:=fun hh=>g6.elim (fun h=>hn2.2.2 (by rw [hh];exact h)) fun h=>by omega
    rw [adv_h,get_set,if_neg hn2.1,get_set,if_neg (by omega),get_drop',if_neg hn2.2.1,get_set,if_neg hyj];exact g5.h y hy (by simp only [m013,m003,not_or];exact hn2)
   ·have hy:S.nx+22+8<=y:=by simp only [adv_nx,set_nx,nx_drop] at hy;omega
    rw [adv_h,get_set,if_neg (by omega),get_set,if_neg (by omega),get_drop']
    split
    ·rfl
    ·rw [get_set,if_neg (by omega)];exact g5.fr y (by omega)
 unfold f185;simp only [e1,wx,wy,Z0,Z1,reduceCtorEq];refine ⟨rfl,?_⟩;simp only [h1,aMo (s:=Ai.adv s 15) (h.keep fun _ _=>rfl),hk,Option.isSome_none,wx,wy,Z0,Z1,reduceCtorEq];refine ⟨rfl,?_⟩;have hdx:i ∉ aS xl/\i ∉ aS m/\∀ y∈aS m,y ∉ aS xl:=by simp only [m036,m003,not_or,List.nodup_append] at hd;exact ⟨hd.1.1,hd.1.2,fun y hy hx=>hd.2.2.2 y hx y hy rfl⟩
 rcases h with ⟨rfl,rfl⟩ | ⟨j,rfl,hj⟩
 ·have e2:bn .eql 53 .nilm .nilm=some (.bool true):=by kernel_rfl
  simp only [h1,e2,wx,wy,Z0,Z1,reduceCtorEq];refine ⟨rfl,?_⟩;rw [nJ (c:=[xl,.nilm,xn]) (by rw [adv_h,aF (by omega)];exact h1) (by simp) rfl rfl];simp only [wx,wy,Z0,Z1,reduceCtorEq];refine key _ _ (s.nx+22) (by rw [adv_h,aG];rfl) ?_ (by rw [adv_h,aF (by omega),aG];rfl) ?_ ?_ (.inr (by omega)) fun s' hs'=>⟨rfl,hs'⟩
  ·refine h2.keep fun y hy=>?_;have:=fr.lt (h2.has y hy);rw [adv_h,aF (fun hh=>hdx.1 (by rw [<- hh];exact hy)),aF (by omega)]
  ·intro hm;rcases m013.1 hm with hm | hm
   ·omega
   ·have:=fr.lt (h2.has _ hm);omega
  ·refine ⟨by simp only [adv_nx,set_nx];omega,fun y hy hn2=>?_,fun y hy=>?_⟩
   ·simp only [m013,m003,not_or] at hn2;rw [adv_h,get_set,if_neg hn2.1,get_set,if_neg (by omega)]
   ·have hy:s.nx+26<=y:=hy;rw [adv_h,get_set,if_neg (by omega),get_set,if_neg (by omega)];exact fr y (by omega)
 ·have e2:bn .eql 53 (.map j) .nilm=some (.bool false):=by kernel_rfl
  simp only [h1,e2,wx,wy,Z0,Z1,reduceCtorEq];refine key _ _ j h1 (h2.keep fun y _=>rfl) hj ?_ (EF.refl _ fr).adv (.inl (by simp [aS])) fun s' hs'=>⟨rfl,hs'⟩;intro hm;rcases m013.1 hm with hm | hm
  ·exact hdx.2.1 (by simp [aS,hm])
  ·exact hdx.2.2 j (by simp [aS]) hm
end
end
noncomputable section
section
variable {α:Type} {f:α->AV} {t e z b:Nat} {ag:Bool}
theorem GT (h:gI t e z ag b) (he:FX f z) (l:List α) (hne:l≠[]) (hb:l.length * b<=2 ^ 40) (hl:l.length<=2 ^ 40) (s:St) :
  ∃ s',eZ Tryz.ty e [.sl false (l.map f)] s=some (.ref (s.nx+5) 0 l.length none e,s')/\Gw e z 0 s' (.ref (s.nx+5) 0 l.length none e) (l.map f):=by
 obtain ⟨a,l',rfl⟩:∃ a l',l=a::l':=by
  cases l with
  | nil=>exact absurd rfl hne
  | cons a l'=>exact ⟨a,l',rfl⟩
 have hw:=lE (l:=a::l') he.len he.ones;have hlen:=eX hw;rw [m002] at hlen;have hall:((a::l').map f).all (fun v=>v.cells.length==z)=true:=m032.2 fun v hv=>by simp [(hw v hv).1]
 have hone:(((a::l').map f).flatMap AV.cells).all AV.one=true:=m032.2 fun c hc=>by obtain ⟨v,hv,hc⟩:=List.mem_flatMap.1 hc;exact m032.1 (hw v hv).2 c hc
 have hem:(((a::l').map f).flatMap AV.cells).isEmpty=false:=by
  cases hc:((a::l').map f).flatMap AV.cells with
  | nil =>rw [hc] at hlen;have hp:=h.pos;have:=Nat.mul_pos (show 0 < (a::l').length by simp) hp;simp only [List.length_nil] at hlen;omega
  | cons x y=>rfl
 have hdiv:(((a::l').map f).flatMap AV.cells).length / z=(a::l').length:=by rw [hlen];exact CD _ h.pos
 refine ⟨St.set ⟨s.h,s.nx+7⟩ (s.nx+5) (some (.cells (((a::l').map f).flatMap AV.cells) e false true)),?_,?_⟩
 ·unfold eZ;simp only [h.l,h.b];show cond (uI (.sl false (f a::l'.map f))) ((aR z (.sl false ((a::l').map f)) s).bind fun c=>bM e z b (.sl true []) c (s.nx+5) ⟨s.h,s.nx+7⟩) none=_;simp only [uI,cond_true,aR,hall,if_true,Option.bind_some];unfold bM;simp only [hem,hone,m025,m015,if_false,List.all_nil,if_true,List.flatMap_nil,List.nil_append,eC,hdiv,rL hb hl,kD]
 ·exact ⟨hw,.inr ⟨_,hO _,by rw [m002],aG⟩⟩
theorem KQ {k:FuncId} (h:gI t e 1 false b) (he:FX f 1) (hp:mEv.prim k=some (eZ Tryz.ty e)) (l:List α) (hb:l.length * b<=2 ^ 40) (hl:l.length<=2 ^ 40) (h1:∀ a∈l,(f a).closed=true) (h2:∀ a∈l,iK (f a)=true):aU mEv k [.sl false (l.map f)] (.sl false (l.map f)):=by
 by_cases hne:l=[]
 ·subst hne;refine bC ⟨_,_,CZ hp (r:=.sl false []) (s':=⟨St.empty.h,St.empty.nx+7⟩) ?_,aI rfl⟩;unfold eZ;simp only [h.l,h.b];rfl
 ·obtain ⟨s',h3,h4⟩:=GT h he l hne hb hl St.empty;exact bC ⟨_,_,CZ hp h3,nH (nM h h4 h1 h2 11)⟩
theorem aMp {k:FuncId} (h:gI t e z true b) (he:FX f z) (hp:mEv.prim k=some (eZ Tryz.ty e)) (l:List α) (hb:l.length * b<=2 ^ 40) (hl:l.length<=2 ^ 40) (h1:∀ a∈l,(f a).closed=true) (h2:∀ a∈l,f a=.agg (f a).cells):aU mEv k [.sl false (l.map f)] (.sl false (l.map f)):=by
 by_cases hne:l=[]
 ·subst hne;refine bC ⟨_,_,CZ hp (r:=.sl false []) (s':=⟨St.empty.h,St.empty.nx+7⟩) ?_,aI rfl⟩;unfold eZ;simp only [h.l,h.b];rfl
 ·obtain ⟨s',h3,h4⟩:=GT h he l hne hb hl St.empty;exact bC ⟨_,_,CZ hp h3,nH (uB h h4 h1 h2 11)⟩
end
theorem bCh {s s':St} (h:∀ m,s.h m=s'.h m) (hn:s.nx=s'.nx):s=s':=by cases s;cases s';simp only at h hn;subst hn;congr 1;exact funext h
theorem aFe {q:St} {a b:Nat} {x y w:Option mK} (h:a≠b):((q.set a x).set b y).set a w=(q.set a w).set b y:=by
 refine bCh (fun m=>?_) rfl;simp only [get_set];by_cases h1:m=a
 ·subst h1;simp [h]
 ·simp [h1]
theorem bQa (l:List Int) (hl:l.length<=2 ^ 30):aU mEv 152 [.sl false (l.map dH)] (.sl false (l.map dH)):=KQ JB jT (by kernel_rfl) l (by omega) (by omega) (fun _ _=>rfl) (fun _ _=>rfl)
theorem bPp (l:List Nat) (hl:l.length<=2 ^ 30):aU mEv 153 [iV l] (iV l):=KQ (f:=sC) HZ HX (by kernel_rfl) l (by omega) (by omega) (fun _ _=>rfl) (fun _ _=>rfl)
theorem bOw (l:List (Int×Int)) (hl:l.length<=2 ^ 30):aU mEv 154 [.sl false (l.map cP)] (.sl false (l.map cP)):=aMp aRk iW (by kernel_rfl) l (by omega) (by omega) (fun _ _=>rfl) (fun _ _=>rfl)
theorem rG (n:Nd):Ai.part 7 true 0 n.av.cells=some n.av:=rfl
theorem bGq (n:Nd) (ho:n.ok):aU mEv 104 [n.av] n.av:=by
 refine bC (aKb _ _ ?_);unfold f104;refine ⟨rfl,?_⟩;have h1:=ho.al;have h2:=ho.nl;have h3:=ho.sl
 have hset:∀ (C:List AV) (c k off:Nat) (v:AV) (q:St),off < C.length->v.cells=[v]->v.one=true->bQ 1 (.ptr k off) v (Ai.adv ((q.set k (some (.cells C 101 true true))).set (k+1) (some (.cells [.int .i64 0,.int .i64 0,.nils,.str [],.bool false,.nils,.nils] 101 true true))) c) =
   some (Ai.adv ((q.set k (some (.cells (C.set off v) 101 true true))).set (k+1) (some (.cells [.int .i64 0,.int .i64 0,.nils,.str [],.bool false,.nils,.nils] 101 true true))) c):=fun C c k off v q ho hv hone=>by
  rw [nJ (c:=C) (by rw [adv_h,aF (by omega),aG]) ho hv hone,adv_set,aFe (by omega)]
 have hz:(AV.agg [.int .i64 0,.int .i64 0,.nils,.str [],.bool false,.nils,.nils]).cells=[.int .i64 0,.int .i64 0,.nils,.str [],.bool false,.nils,.nils]:=rfl;have e0:St.empty.nx=0:=rfl;simp only [HO,lU,hz,wx,wy,Z0,Z1,reduceCtorEq];refine aM (bQa n.a (by omega)) (by simp [BN]) ?_;rw [hset _ _ _ 2 _ _ (by simp) rfl rfl];simp only [List.set_cons_succ,List.set_cons_zero,wx,wy,Z0,Z1,reduceCtorEq];refine aM (bPp n.num (by omega)) (by simp [cR]) ?_;rw [hset _ _ _ 5 _ _ (by simp) rfl rfl];simp only [List.set_cons_succ,List.set_cons_zero,wx,wy,Z0,Z1,reduceCtorEq];refine aM (bOw n.str (by omega)) (by simp [tO]) ?_;rw [hset _ _ _ 6 _ _ (by simp) rfl rfl];have hp:Ai.part 7 true 0 [AV.int .i64 n.op,.int .i64 n.so,.sl false (n.a.map dH),.str n.nm,.bool n.neg,iV n.num,.sl false (n.str.map cP)]=some n.av:=rfl;simp only [List.set_cons_succ,List.set_cons_zero,hp,wx,wy,Z0,Z1,reduceCtorEq];rw [bJ (z:=7) (by rw [adv_h,aG]) rfl rfl rfl];simp only [rG,wx,wy,Z0,Z1,reduceCtorEq];exact aI (iI n)
structure Raw (v:AV) (n:Nd):Prop where
 ones:v.cells.all AV.one=true
 part:Ai.part 7 true 0 v.cells=some v
 pur:∀ S,Ai.pur mEv.P S 12 v=some (n.av,[])
theorem Raw.purl {v:AV} {n:Nd} (h:Raw v n) (S:St):dJ (Ai.pur mEv.P S 12) [v]=some ([n.av],[]):=by simp only [dJ,h.pur,m011]
theorem UH {B:Bk} {n:Nd} (h:fE (eK n) B=none) (hl:B.length≠20000):dU B n=(((B.length:Int),0),B++[n]):=by
 rcases lH B n with ⟨i,h1,_⟩ | ⟨_,h2,_⟩ | ⟨_,_,h3⟩
 ·rw [h] at h1;cases h1
 ·exact absurd h2 hl
 ·exact h3
theorem bDt {s:St} {i:Nat} {B:Bk} {F:List Nat} {v:AV} {n:Nd} (fr:aK s) (hB:lG s i B F) (ho:n.ok) (hv:Raw v n) :
  ∃ r s',WideC mEv 131 [.ptr i 0,v] s r s'/\r=.tup [.int .i64 (dU B n).1.1,.int .i64 (dU B n).1.2]/\∃ F',lG s' i (dU B n).2 F'/\EF F s s'/\∀ j∈F',j∈F\/s.nx<=j:=by
 have hF:=hB.lt fr;obtain ⟨xl,m,xn,⟨h1,h2,h3,h4,h5,h6,h7⟩,rfl⟩:=hB;have hi:=fr.lt h1;refine aHt _ _ _ ?_;unfold f131;refine ⟨hv.ones,?_⟩;simp only [aDr,hv.part,wx,wy,Z0,Z1,reduceCtorEq];refine aPz (hv.purl _) (bMi n ho) rfl ?_;refine ⟨rfl,?_⟩;have hne:∀ y∈i::(aS xl++aS m++aS xn),y≠s.nx:=fun y hy=>by have:=hF y hy;omega
 have hh:∀ (k y:Nat) (C:Option mK),y∈i::(aS xl++aS m++aS xn)->(Ai.adv (s.set s.nx C) k).h y=s.h y:=fun k y C hy=>by rw [adv_h,aF (hne y hy)]
 have hE:∀ (k:Nat) (C:Option mK),0 < k->EF (i::(aS xl++aS m++aS xn)) s (Ai.adv (s.set s.nx C) k):=fun k C hk=>⟨by simp only [adv_nx,set_nx];omega,fun j hj _=>by rw [adv_h,aF (by omega)],dP fr k (by omega)⟩;simp only [wx,wy,Z0,Z1,reduceCtorEq];refine aYi (xl:=xl) (m:=m) (xn:=xn) (l:=B.map eK) (by rw [hh _ _ _ (by simp)];exact h1) (h3.keep fun j hj=>hh _ _ _ (by simp [hj])) (eK n) ?_;simp only [FV,wx,wy,Z0,Z1,reduceCtorEq]
 cases hf:fE (eK n) B with
 | some k =>rw [rP hf];simp only [Option.isSome_some,Option.getD_some,wx,wy,Z0,Z1,reduceCtorEq];refine ⟨_,⟨xl,m,xn,⟨by rw [hh _ _ _ (by simp)];exact h1,h2.keep fun j hj=>hh _ _ _ (by simp [hj]),h3.keep fun j hj=>hh _ _ _ (by simp [hj]),h4.keep fun j hj=>hh _ _ _ (by simp [hj]),h5,h6,h7⟩,rfl⟩,hE _ _ (by omega),fun j hj=>.inl hj⟩
 | none =>
  simp only [Option.isSome_none,Option.getD_none,wx,wy,Z0,Z1,reduceCtorEq];refine ⟨rfl,?_⟩;have hx:∀ k C id,bt .len #[56] [xn] id (Ai.adv (s.set s.nx C) k)=some (.int .i64 B.length,Ai.adv (s.set s.nx C) k):=fun k C id=>aIg (h4.keep fun j hj=>hh _ _ _ (by simp [hj])) id;have hi0:¬ (i=s.nx):=by omega
  simp only [h1,hi0,hx,if_false,wx,wy,Z0,Z1,reduceCtorEq];by_cases hl:B.length=20000
  ·have:dU B n=((0,2),B):=by
    rcases lH B n with ⟨i,h1,_⟩ | ⟨_,_,h3⟩ | ⟨_,h2,_⟩
    ·rw [hf] at h1;cases h1
    ·exact h3
    ·exact absurd hl h2
   rw [this];simp only [hl,show (((20000:Nat):Int)==20000)=true from rfl,wx,wy,Z0,Z1,reduceCtorEq];refine ⟨_,⟨xl,m,xn,⟨by rw [hh _ _ _ (by simp)];exact h1,h2.keep fun j hj=>hh _ _ _ (by simp [hj]),h3.keep fun j hj=>hh _ _ _ (by simp [hj]),h4.keep fun j hj=>hh _ _ _ (by simp [hj]),h5,h6,h7⟩,rfl⟩,hE _ _ (by omega),fun j hj=>.inl hj⟩
  ·have hb:((B.length:Int)==20000)=false:=by simp;omega
   rw [UH hf hl];simp only [hb,wx,wy,Z0,Z1,reduceCtorEq];refine ⟨rfl,?_⟩;have hnd:=h5;simp only [m036,m003,not_or,List.nodup_append] at hnd;obtain ⟨⟨⟨ni1,ni2⟩,ni3⟩,⟨nd1,QC,nd3⟩,nd4,nd5⟩:=hnd;obtain ⟨S0,hS0⟩:∃ S0,S0=Ai.adv (s.set s.nx (some (.cells v.cells 101 true true))) 54:=⟨_,rfl⟩;rw [<- hS0];have k1:∀ y∈i::(aS xl++aS m++aS xn),S0.h y=s.h y:=fun y hy=>by rw [hS0];exact hh _ _ _ hy
   have k2:S0.nx=s.nx+54:=by rw [hS0];rfl
   have k3:S0.h s.nx=some (.cells v.cells 101 true true):=by rw [hS0,adv_h,aG]
   have k4:aK S0:=by rw [hS0];exact dP fr 54 (by omega)
   obtain ⟨r,s3,g0,rfl,j',n',g1,g2,g3,g4,g5,g6,g7⟩:=bDi (s:=S0) (xl:=xl) (m:=m) (xn:=xn) (l:=B.map eK) k4 (by rw [k1 i (by simp)];exact h1) (h2.keep fun j hj=>k1 j (by simp [hj])) (h3.keep fun j hj=>k1 j (by simp [hj]))
    (by simp only [m036,m003,not_or,List.nodup_append];exact ⟨⟨ni1,ni2⟩,nd1,QC,nd3⟩) (eK n) (by rw [FV];exact hf) (by rw [m002];exact h7)
   rw [m002] at g0 g1 g2;refine kM (by kernel_rfl) ⟨_,s3,g0,?_⟩;have k5:=g4.nx;have hsM:s.nx ∉ i::(aS xl++aS m):=fun hm=>by have:=hF s.nx (by simp only [m013,m003] at hm ⊢;rcases hm with hm | hm;exact .inl hm;exact .inr (.inl hm));omega
   have k6:s3.h s.nx=some (.cells v.cells 101 true true):=by rw [g4.h s.nx (by omega) hsM];exact k3
   have hxn:∀ y∈aS xn,y < s.nx/\y≠i/\y ∉ aS xl/\y ∉ aS m:=fun y hy=>⟨hF y (by simp [hy]),fun e=>ni3 (by rw [<- e];exact hy),fun e=>nd5 y (.inl e) y hy rfl,fun e=>nd5 y (.inr e) y hy rfl⟩;have k7:Gw 101 7 0 s3 xn (B.map Nd.av):=h4.keep fun y hy=>by obtain ⟨a1,a2,a3,a4⟩:=hxn y hy;rw [g4.h y (by omega) (by simp [a2,a3,a4]),k1 y (by simp [hy])]
   have hn':n' < s3.nx:=g4.fr.lt (g2.has n' (by simp [aS]));have hj':j' < s3.nx:=g4.fr.lt g3
   have k8:j' ∉ aS xn/\j'≠i:=by
    rcases g6 with g6 | g6
    ·exact ⟨fun e=>(hxn j' e).2.2.2 g6,fun e=>ni2 (by rw [<- e];exact g6)⟩
    ·exact ⟨fun e=>by have:=(hxn j' e).1;omega,by omega⟩
   have k9:n' ∉ aS xn/\n'≠i:=⟨fun e=>by have:=(hxn n' e).1;omega,by omega⟩;have bs:fZ 56 1 [(0,n.av)]=some (.sl true [n.av]):=eW SJ (by decide) rfl rfl;simp only [g1,k6,hv.part,wx,wy,Z0,Z1,reduceCtorEq];refine ⟨rfl,?_⟩;refine .mk [n.av] [] n.av (hv.purl _) (bGq n ho) rfl ?_;have happ:=hI SJ yK (k7.adv (n:=12)) (a:=n) (by omega) (by omega) true (s3.nx+8);simp only [bs,wx,wy,Z0,Z1,reduceCtorEq];refine ⟨g4.fr _ (by omega),?_⟩;rw [happ];simp only [wx,wy,Z0,Z1,reduceCtorEq];refine ⟨rfl,?_,?_⟩
   ·split
    ·rfl
    ·exact g4.fr _ (by omega)
   obtain ⟨C,hC⟩:∃ C,C=(some (mK.cells (((B++[n]).map Nd.av).flatMap AV.cells) 101 false true):Option mK):=⟨_,rfl⟩;rw [<- hC];have z1:(Ai.adv ((s3.drop (aS xn)).set (s3.nx+8) C) 12).h i=some (.cells [.ref n' 0 (B.length+1) none 9,.map j',xn] 58 true true):=by rw [adv_h,get_set,if_neg (by omega),get_drop',if_neg ni3];exact g1
   rw [nJ (c:=[.ref n' 0 (B.length+1) none 9,.map j',xn]) z1 (by simp) rfl rfl];simp only [List.set_cons_succ,List.set_cons_zero,wx,wy,Z0,Z1,reduceCtorEq];have get:∀ y,y≠i->y≠s3.nx+8->y ∉ aS xn->(Ai.adv (((s3.drop (aS xn)).set (s3.nx+8) C).set i (some (.cells [.ref n' 0 (B.length+1) none 9,.map j',.ref (s3.nx+8) 0 (B.length+1) none 101] 58 true true))) 15).h y=s3.h y:=fun y a b c=>by rw [adv_h,get_set,if_neg a,get_set,if_neg b,get_drop',if_neg c]
   refine ⟨[i,n',j',s3.nx+8],⟨_,_,_,⟨by rw [adv_h,aG],?_,?_,?_,?_,?_,?_⟩,rfl⟩,?_,?_⟩
   ·rw [m038];exact g2.keep fun y hy=>by simp only [aS,m008] at hy;subst hy;exact get _ k9.2 (by omega) k9.1
   ·rw [m038];exact .inr ⟨j',rfl,by rw [get _ k8.2 (by omega) k8.1];exact g3⟩
   ·have:=mH (l:=B) (a:=n) yK (e:=101) (id:=s3.nx+8) (n:=15) (s0:=s3);exact this.keep fun y hy=>by simp only [aS,m008] at hy;subst hy;rw [adv_h,aF (by omega),aG,adv_h,aG,hC]
   ·show [i,n',j',s3.nx+8].Nodup;simp only [m036,m013,m052,or_false,not_or,List.not_mem_nil,not_false_eq_true,List.nodup_nil,and_true];exact ⟨⟨fun e=>k9.2 e.symm,fun e=>k8.2 e.symm,by omega⟩,⟨fun e=>g7 e.symm,by omega⟩,by omega⟩
   ·intro x hx;rcases m003.1 hx with hx | hx
    ·exact h6 x hx
    ·rw [m008.1 hx];exact ho
   ·simp only [m006,List.length_singleton];omega
   ·refine ⟨by simp only [adv_nx,set_nx,nx_drop];omega,fun y hy hn2=>?_,fun y hy=>?_⟩
    ·simp only [m013,m003,not_or] at hn2;obtain ⟨a1,⟨a2,a3⟩,a4⟩:=hn2;rw [get y a1 (by omega) a4,g4.h y (by omega) (by simp [a1,a2,a3]),hS0,adv_h,aF (by omega)]
    ·have hy:s3.nx+15<=y:=by simp only [adv_nx,set_nx,nx_drop] at hy;exact hy
     rw [adv_h,get_set,if_neg (by omega),get_set,if_neg (by omega),get_drop']
     split
     ·rfl
     ·exact g4.fr y (by omega)
   ·intro y hy;simp only [m013,m052,or_false] at hy;rcases hy with rfl | rfl | rfl | rfl
    ·exact .inl (by simp)
    ·exact .inr (by omega)
    ·rcases g6 with g6 | g6
     ·exact .inl (by simp [g6])
     ·exact .inr (by omega)
    ·exact .inr (by omega)
end
noncomputable section
def KU (r:Int×Int):AV:=.tup [.int .i64 r.1,.int .i64 r.2]
def Em (x:AV) (l:List AV):Prop:=x=.sl false l\/(x=.nils/\l=[])
theorem cT:Em .nils []:=.inr ⟨rfl,rfl⟩
theorem EJ {x:AV} {l:List AV} (h:Em x l) (hc:aW l=true) (S:St) (k:Nat):pur mEv.P S (k+1) x=some (.sl false l,[]):=by
 rcases h with rfl | ⟨rfl,rfl⟩
 ·exact bE _ (xW hc)
 ·rfl
theorem QL {x:AV} {l:List AV} (h:Em x l):x.one=true/\x.cells=[x]:=by rcases h with rfl | ⟨rfl,rfl⟩<;>exact ⟨rfl,rfl⟩
def pB (n:Nd) (xa xn xs:AV):AV:=.agg [.int .i64 n.op,.int .i64 n.so,xa,.str n.nm,.bool n.neg,xn,xs]
theorem jX (n:Nd) {xa xn xs:AV} (ha:Em xa (n.a.map dH)) (hn:Em xn (n.num.map sC)) (hs:Em xs (n.str.map cP)):Raw (pB n xa xn xs) n:=by
 refine ⟨?_,rfl,fun S=>?_⟩
 ·simp only [pB,AV.cells,List.all_cons,(QL ha).1,(QL hn).1,(QL hs).1,List.all_nil,m059];rfl
 ·have p1:=fun S=>EJ ha (iG dH n.a fun _=>rfl) S 10;have p2:=fun S=>EJ hn (HA n.num) S 10;have p3:=fun S=>EJ hs (iG cP n.str fun _=>rfl) S 10;by_cases hc:(pB n xa xn xs).closed=true
  ·rw [bE 12 hc];congr 2;simp only [pB,AV.closed,aW,bN] at hc
   have fin:∀ {x:AV} {l:List AV},Em x l->x.closed=true->x=.sl false l:=fun h hx=>by
    rcases h with rfl | ⟨rfl,rfl⟩
    ·rfl
    ·cases hx
   rw [pB,fin ha hc.2.2.1,fin hn hc.2.2.2.2.2.1,fin hs hc.2.2.2.2.2.2.1];rfl
  ·unfold pur;rw [if_neg hc];show (dJ (pur mEv.P S 11) [.int .i64 n.op,.int .i64 n.so,xa,.str n.nm,.bool n.neg,xn,xs]).map (fun r=>(AV.agg r.1,r.2))=_;have q:∀ v:AV,v.closed=true->pur mEv.P S 11 v=some (v,[]):=fun v hv=>bE 11 hv;simp only [dJ,p1,p2,p3,q (.int .i64 n.op) rfl,q (.int .i64 n.so) rfl,q (.str n.nm) rfl,q (.bool n.neg) rfl,m011,Option.map_some];rfl
theorem VV {op so:Int} {a:List Int} {nm:List UInt8} {neg:Bool} {num:List Nat} {str:List (Int×Int)} (h1:i64 op) (h2:i64 so) (h3:∀ i∈a,i64 i) (h4:a.length<=2 ^ 20) (h5:nm.length<=2 ^ 20) (h6:dB num) (h7:num.length<=2 ^ 20) (h8:∀ r∈str,i64 r.1/\i64 r.2) (h9:str.length<=2 ^ 20):Nd.ok ⟨op,so,a,nm,neg,num,str⟩:=⟨h1,h2,h3,h4,h5,h6,h7,h8,h9⟩
theorem aCx {op so:Int} {nm:List UInt8} (h1:i64 op) (h2:i64 so) (h5:nm.length<=2 ^ 20):Nd.ok ⟨op,so,[],nm,false,[],[]⟩:=VV h1 h2 (fun _ h=>by cases h) (by simp) h5 (fun _ h=>by cases h) (by simp) (fun _ h=>by cases h) (by simp)
theorem aIs:∀ (l:List (Int×Int)) (left:Int) (p:Option Int),0<=left->left<=2 ^ 40->nR left p l=true->∀ r∈l,i64 r.1/\i64 r.2:=by
 intro l
 induction l with
 | nil=>intro _ _ _ _ _ r h;cases h
 | cons q l ih =>
  intro left p h0 h1 h;simp only [nR] at h
  cases hc:(decide (q.1 < 0)||(decide (q.1 > 196607)||(decide (q.2 < 1)||(decide (q.2 > left)||p==some q.1)))) with
  | true=>rw [hc] at h;cases h
  | false =>
   rw [hc] at h;simp only [JX,decide_eq_false_iff_not] at hc;obtain ⟨a,b,c,d,_⟩:=hc;intro r hr;rcases m013.1 hr with rfl | hr
   ·exact ⟨⟨by omega,by omega⟩,⟨by omega,by omega⟩⟩
   ·exact ih (left - q.2) (some q.1) (by omega) (by omega) h r hr
theorem aOw {l:List (Int×Int)} (h:xE l=true):(∀ r∈l,i64 r.1/\i64 r.2)/\l.length<=65536:=by simp only [xE,bN,decide_eq_true_eq] at h;exact ⟨aIs l _ none (by decide) (by decide) h.2,h.1⟩
section
variable {s:St} {i:Nat} {B:Bk} {F:List Nat} {K:aC}
def FE (s:St) (i:Nat) (F:List Nat) (B':Bk) (s':St):Prop:=∃ F',lG s' i B' F'/\EF F s s'/\∀ j∈F',j∈F\/s.nx<=j
def BkW (f:FuncId) (args:List AV) (s:St) (i:Nat) (F:List Nat) (r:(Int×Int)×Bk):Prop:=∃ v s',WideC mEv f args s v s'/\v=KU r.1/\FE s i F r.2 s'
theorem FE.adv {B':Bk} {s':St} {n:Nat} (h:FE s i F B' s'):FE s i F B' (Ai.adv s' n):=by obtain ⟨F',h1,h2,h3⟩:=h;exact ⟨F',h1.adv,h2.adv,h3⟩
theorem FE.from {B':Bk} {s1 s':St} (h:FE s1 i F B' s') (e:EF [] s s1):FE s i F B' s':=by obtain ⟨F',h1,h2,h3⟩:=h;have:=e.nx;exact ⟨F',h1,(e.sub (M':=F) fun j hj=>by cases hj).trans h2 fun j hj=>.inr hj,fun j hj=>(h3 j hj).imp_right fun h=>by omega⟩
theorem FE.same {s1:St} (h:lG s i B F) (fr:aK s) (e:EF [] s s1):FE s i F B s1:=by have hF:=h.lt fr;exact ⟨F,h.keep fun j hj=>e.h j (hF j hj) (by simp),(e.sub fun j hj=>by cases hj),fun j hj=>.inl hj⟩
theorem iP {s1:St} (h:lG s i B F) (fr:aK s) (e:EF [] s s1):lG s1 i B F:=by have hF:=h.lt fr;exact h.keep fun j hj=>e.h j (hF j hj) (by simp)
theorem EL {v:AV} {n:Nd} (fr:aK s) (hB:lG s i B F) (ho:n.ok) (hv:Raw v n):BkW 131 [.ptr i 0,v] s i F (dU B n):=by obtain ⟨r,s',h1,h2,F',h3⟩:=bDt fr hB ho hv;exact ⟨r,s',h1,h2,F',h3⟩
theorem BkW.call {f:FuncId} {args:List AV} {r:(Int×Int)×Bk} (h:BkW f args s i F r) (hz:mEv.fz f=false) (hk:∀ s',FE s i F r.2 s'->K (KU r.1) s'):aY mEv f args s K:=by obtain ⟨v,s',h1,rfl,h2⟩:=h;exact kM hz ⟨_,s',h1,hk s' h2⟩
theorem AS:mEv.fz 131=false:=by kernel_rfl
theorem GP (r:Int×Int):aQ (KU r) 0=some (.int .i64 r.1):=rfl
theorem HN (r:Int×Int):aQ (KU r) 1=some (.int .i64 r.2):=rfl
theorem gO {n:Int} (h:0<=n) (h2:n<=1000):i64 n:=⟨by omega,by omega⟩
theorem aQm (fr:aK s) (hB:lG s i B F) (nm:List UInt8) (so:Int):BkW 77 [.ptr i 0,.str nm,.int .i64 so] s i F (mU B nm so):=by
 refine aOy _ _ _ _ ?_;unfold f77;have e0:=(EF.refl [] fr);have hl:∀ (id:Nat) (s:St),bt .len #[9] [.str nm] id s=some (.int .i64 nm.length,s):=ME nm;unfold mU
 cases h1:decide (so < 1) with
 | true =>simp only [h1,m033,wx,wy,Z0,Z1,reduceCtorEq];exact ⟨rfl,FE.same hB fr e0.adv⟩
 | false =>
 cases h2:decide (so > 3) with
 | true =>simp only [h1,h2,m033,m026,wx,wy,Z0,Z1,reduceCtorEq];exact ⟨rfl,FE.same hB fr e0.adv⟩
 | false =>
 cases h3:decide ((nm.length:Int) > 16384) with
 | true =>simp only [h1,h2,h3,hl,m026,wx,wy,Z0,Z1,reduceCtorEq];exact ⟨rfl,FE.same hB fr e0.adv⟩
 | false =>
  have o1:=of_decide_eq_false h1;have o2:=of_decide_eq_false h2;have o3:=of_decide_eq_false h3;have hb:eE 101 [(0,.int .i64 1),(1,.int .i64 so),(3,.str nm)]=some (pB ⟨1,so,[],nm,false,[],[]⟩ .nils .nils .nils):=by rw [sG];rfl
  have ho:Nd.ok ⟨1,so,[],nm,false,[],[]⟩:=aCx (gO (by decide) (by decide)) (gO (by omega) (by omega)) (by omega);simp only [h1,h2,h3,hl,hb,Bool.or_self,wx,wy,Z0,Z1,reduceCtorEq];refine (EL fr.adv hB.adv ho (jX _ cT cT cT)).call AS fun s' hs=>?_;simp only [GP,HN,wx,wy,Z0,Z1,reduceCtorEq];exact ⟨rfl,hs.from e0.adv⟩
theorem aRh (fr:aK s) (hB:lG s i B F) (v:Bool):BkW 78 [.ptr i 0,.bool v] s i F (wR B v):=by
 refine aRd _ _ _ ?_;unfold f78;have e0:=(EF.refl [] fr);have hb:∀ k:Int,eE 101 [(0,.int .i64 k),(1,.int .i64 1)]=some (pB ⟨k,1,[],[],false,[],[]⟩ .nils .nils .nils):=fun k=>by rw [sG];rfl
 have ho:∀ k:Int,0<=k->k<=1000->Nd.ok ⟨k,1,[],[],false,[],[]⟩:=fun k h0 h1=>aCx (gO h0 h1) (gO (by decide) (by decide)) (by simp)
 cases v with
 | true =>simp only [hb,wx,wy,Z0,Z1,reduceCtorEq];refine (EL fr.adv hB.adv (ho 2 (by decide) (by decide)) (jX _ cT cT cT)).call AS fun s' hs=>?_;simp only [GP,HN,wx,wy,Z0,Z1,reduceCtorEq];exact ⟨rfl,hs.from e0.adv⟩
 | false =>simp only [hb,wx,wy,Z0,Z1,reduceCtorEq];refine (EL fr.adv hB.adv (ho 3 (by decide) (by decide)) (jX _ cT cT cT)).call AS fun s' hs=>?_;simp only [GP,HN,wx,wy,Z0,Z1,reduceCtorEq];exact ⟨rfl,hs.from e0.adv⟩
theorem bDz (fr:aK s) (hB:lG s i B F) (l:List (Int×Int)) (hl:l.length<=2 ^ 40):BkW 80 [.ptr i 0,.sl false (l.map cP)] s i F (FH B l):=by
 refine aPx _ _ _ ?_;unfold f80;have e0:=(EF.refl [] fr);refine aM (c60 false l hl) (by simp [tO]) ?_;unfold FH
 cases h:xE l with
 | false =>simp only [h,wx,wy,Z0,Z1,reduceCtorEq];exact ⟨rfl,FE.same hB fr e0.adv⟩
 | true =>
  have hb:eE 101 [(0,.int .i64 5),(1,.int .i64 3),(5,.sl false (l.map cP))]=some (pB ⟨5,3,[],[],false,[],l⟩ .nils .nils (.sl false (l.map cP))):=by rw [sG];rfl
  have hm:(∀ r∈l,i64 r.1/\i64 r.2)/\l.length<=65536:=aOw h;have ho:Nd.ok ⟨5,3,[],[],false,[],l⟩:=VV (gO (by decide) (by decide)) (gO (by decide) (by decide)) (fun _ h=>by cases h) (by simp) (by simp) (fun _ h=>by cases h) (by simp) hm.1 (by omega);simp only [hb,wx,wy,Z0,Z1,reduceCtorEq];refine (EL fr.adv hB.adv ho (jX _ cT cT (.inl rfl))).call AS fun s' hs=>?_;simp only [GP,HN,wx,wy,Z0,Z1,reduceCtorEq];exact ⟨rfl,hs.from e0.adv⟩
theorem bJs (fr:aK s) (hB:lG s i B F) (neg:Bool) (n:List Nat) (hl:dB n) (hn:n.length<=2 ^ 20):BkW 79 [.ptr i 0,oY neg n] s i F (sJ B neg n):=by
 refine aQf _ _ _ ?_;unfold f79;refine ⟨rfl,?_⟩;have e0:∀ (k:Nat) (C:Option mK),0 < k->EF [] s (Ai.adv (s.set s.nx C) k):=fun k C hk=>⟨by simp only [adv_nx,set_nx];omega,fun j hj _=>by rw [adv_h,aF (by omega)],dP fr k (by omega)⟩;simp only [kP,wx,wy,Z0,Z1,reduceCtorEq];refine aM (c20 neg n (by omega)) (by simp [dA]) ?_;unfold sJ
 cases h:decide (pG neg n < 0) with
 | true =>simp only [h,wx,wy,Z0,Z1,reduceCtorEq];exact ⟨rfl,FE.same hB fr (e0 _ _ (by omega))⟩
 | false =>
  simp only [h,kP,wx,wy,Z0,Z1,reduceCtorEq];refine aM (c69 neg n (by omega)) (by simp [dA]) ?_;have hb:eE 101 [(0,.int .i64 4),(1,.int .i64 2),(4,oY (eQ neg n).1 (eQ neg n).2)]=some (pB ⟨4,2,[],[],(eQ neg n).1,(eQ neg n).2,[]⟩ .nils (iV (eQ neg n).2) .nils):=by rw [sG];rfl
  have hl2:dB (eQ neg n).2:=cO hl;have hn2:(eQ neg n).2.length<=2 ^ 20:=FN (lY n) hn;simp only [hb,wx,wy,Z0,Z1,reduceCtorEq];refine (EL (e0 _ _ (by omega)).fr (iP hB fr (e0 _ _ (by omega))) (VV (gO (by decide) (by decide)) (gO (by decide) (by decide)) (fun _ h=>by cases h) (by simp) (by simp) hl2 hn2 (fun _ h=>by cases h) (by simp)) (jX _ cT (.inl rfl) cT)).call AS fun s' hs=>?_;simp only [GP,HN,wx,wy,Z0,Z1,reduceCtorEq];exact ⟨rfl,hs.from (e0 _ _ (by omega))⟩
def RdW (f:FuncId) (args:List AV) (s:St) (v:AV):Prop:=∃ r s',WideC mEv f args s r s'/\r=v/\EF [] s s'
theorem RdW.call {f:FuncId} {args:List AV} {v:AV} (h:RdW f args s v) (hz:mEv.fz f=false) (hk:∀ s',EF [] s s'->K v s'):aY mEv f args s K:=by obtain ⟨r,s',h1,rfl,h2⟩:=h;exact kM hz ⟨_,s',h1,hk s' h2⟩
theorem TH {x:AV} (g:Gw 101 7 0 s x (B.map Nd.av)) {id:Int} {n:Nd} (h:iT B id=some n):∃ j,s.h j=some (.cells ((B.map Nd.av).flatMap AV.cells) 101 false true)/\cA 7 x (.int .i64 id)=some (.ptr j (id.toNat * 7))/\(∀ o,o < 7->((B.map Nd.av).flatMap AV.cells)[id.toNat * 7+o]?=n.av.cells[o]?)/\Ai.part 7 true (id.toNat * 7) ((B.map Nd.av).flatMap AV.cells)=some n.av:=by
 simp only [iT] at h
 cases hc:decide (id < 0) with
 | true=>rw [hc] at h;cases h
 | false =>
  rw [hc] at h;have hc:=of_decide_eq_false hc;have h:B[id.toNat]?=some n:=h;have hv:(B.map Nd.av)[id.toNat]?=some n.av:=by rw [m047,h];rfl
  have hlt:=(m012.1 hv).1;obtain ⟨g1,⟨rfl,g2⟩ | ⟨j,_,rfl,g3⟩⟩:=g
  ·rw [g2] at hlt;simp at hlt
  ·have hlen:∀ v∈B.map Nd.av,v.cells.length=7:=fun v hv=>(g1 v hv).1;have hix:=aGw (e:=101) (z:=7) (id:=j) (off:=0) (c:=none) hlt .i64;rw [show ((id.toNat:Nat):Int)=id by omega,m023] at hix;obtain ⟨d1,d2⟩:=HR hlen hv;refine ⟨j,g3,hix,fun o ho=>vM hlen hv ho,?_⟩;rw [CN,if_pos d2,d1];rfl
theorem pY {id:Int} (h:jN B id):∃ n,iT B id=some n:=by obtain ⟨h1,h2⟩:=h;simp only [iT,show ¬ (id < 0) by omega,decide_false,cond_false];exact ⟨_,m004 (by omega)⟩
theorem eq3 (a b:Int):bn .eql 3 (.int .i64 a) (.int .i64 b)=some (.bool (a==b)):=bin_eql
theorem ZX (fr:aK s) (hB:lG s i B F) (hw:Wf B) {id:Int} (hid:jN B id):RdW 187 [.ptr i 0,.int .i64 id] s (.bool (dF B id)):=by
 obtain ⟨n,hn⟩:=pY hid;have hF:=hB.lt fr;obtain ⟨xl,m,xn,⟨h1,h2,h3,h4,h5,h6,h7⟩,rfl⟩:=hB;obtain ⟨j,j1,j2,j3,j4⟩:=TH h4 hn;have hi:=fr.lt h1;have hj:=fr.lt j1;refine aIu _ _ _ ?_;unfold f187;refine ⟨rfl,?_⟩;have hst:∀ (q:St) (k c:Nat),bQ 7 (.ptr k 0) n.av (Ai.adv (q.set k (some (.cells (AV.agg [.int .i64 0,.int .i64 0,.nils,.str [],.bool false,.nils,.nils]).cells 101 true true))) c)=some (Ai.adv (q.set k (some (.cells n.av.cells 101 true true))) c):=fun q k c=>by rw [bJ (z:=7) (by rw [adv_h,aG]) rfl rfl rfl,adv_set,set_set]
 have e0:EF [] s (Ai.adv (s.set (s.nx+8) (some (.cells n.av.cells 101 true true))) 33):=⟨by simp only [adv_nx,set_nx];omega,fun y hy _=>by rw [adv_h,aF (by omega)],dP fr 33 (by omega)⟩;have o0:n.av.cells[0]?=some (.int .i64 n.op):=rfl;have o2:n.av.cells[2]?=some (.sl false (n.a.map dH)):=rfl;have ne1:¬ (i=s.nx+8):=by omega
 simp only [h1,j1,j2,j4,HO,hst,o0,wx,wy,Z0,Z1,reduceCtorEq];unfold dF;rw [hn]
 cases hop:(n.op==4) with
 | true =>simp only [wx,wy,Z0,Z1,reduceCtorEq];exact ⟨by rw [hop,m033],e0⟩
 | false =>
  simp only [o0,m026,wx,wy,Z0,Z1,reduceCtorEq]
  cases hop2:(n.op==14) with
  | false =>simp only [wx,wy,Z0,Z1,reduceCtorEq];exact ⟨by rw [hop],e0⟩
  | true =>
   have hop2:n.op=14:=by simpa using hop2
   obtain ⟨w1,w2⟩:=hw.2 n (lR hn)
   obtain ⟨q,l,hql⟩:∃ q l,n.a=q::l:=by
    cases hql:n.a with
    | nil=>exact absurd hql (w2 hop2)
    | cons q l=>exact ⟨q,l,rfl⟩
   obtain ⟨n2,hn2⟩:=pY (w1 q (by rw [hql];simp));obtain ⟨j',i1,i2,i3,i4⟩:=TH h4 hn2;have hj':=fr.lt i1;have ne2:¬ (j'=s.nx+8):=by omega
   have hix:cA 1 (.sl false ((q::l).map dH)) (.int .i64 0)=some (.pel (dH q).cells 0):=bP jT false (i:=0) (a:=q) rfl .i64;have hq0:(dH q).cells[0]?=some (.int .i64 q):=rfl;have i30:=i3 0 (by decide);rw [Nat.add_zero] at i30;have i31:n2.av.cells[0]?=some (.int .i64 n2.op):=rfl;simp only [ne1,h1,o2,hql,hix,hq0,i1,i2,i30,i31,ne2,if_false,wx,wy,Z0,Z1,reduceCtorEq];refine ⟨rfl,?_⟩;exact ⟨by rw [hop];simp only [LN,hn2,m026],e0⟩
end
end
noncomputable section
section
variable {s:St} {i:Nat} {B:Bk} {F:List Nat} {K:aC}
theorem bKx:mEv.fz 187=false:=by kernel_rfl
theorem bIw:mEv.fz 135=false:=by kernel_rfl
theorem bJw:mEv.fz 134=false:=by kernel_rfl
theorem bFr:mEv.fz 133=false:=by kernel_rfl
theorem bDr:mEv.fz 186=false:=by kernel_rfl
theorem bJb:mEv.fz 132=false:=by kernel_rfl
theorem EF.nil_trans {a b c:St} (h:EF [] a b) (k:EF [] b c):EF [] a c:=h.trans k fun j hj=>by cases hj
theorem QH {i n:Nat} (h:i < n) (hn:n<=2 ^ 40):IntKind.i64.wrap ((i:Int)+1)=((i+1:Nat):Int):=by rw [IntWalk.i64_in _ (by omega)];rfl
theorem CO (l:List Int) (id:Nat) (s:St):bt .len #[72] [.sl false (l.map dH)] id s=some (.int .i64 l.length,s):=by rw [dX,m002]
theorem RJ (q:Int):(dH q).cells[0]?=some (.int .i64 q):=rfl
theorem YW (a:List Int) (j:Nat) (q:Int) (h:a[j]?=some q):dK B (a.take (j+1))=dK B (a.take j)+(bif dF B q then 0 else 1):=by
 induction a generalizing j with
 | nil=>simp at h
 | cons x a ih =>
  cases j with
  | zero=>simp at h;subst h;simp [dK]
  | succ j =>simp only [List.getElem?_cons_succ] at h;simp only [List.take_succ_cons,dK,ih j h];omega
theorem aRb (a:List Int):dK B a<=a.length:=by
 induction a with
 | nil=>exact bH _
 | cons x a ih=>simp only [dK,List.length_cons];cases dF B x<;>simp<;>omega
theorem bNu (hw:Wf B) (a:List Int) (ha:∀ q∈a,jN B q) (hl:a.length<=2 ^ 30) (s0:St) (fr0:aK s0) (hB:lG s0 i B F) (Q:aC) (hQ:∀ s',EF [] s0 s'->Q (.bool (decide (dK B a<=1))) s') :
  ∀ (m j:Nat) (s:St),j+m=a.length->EF [] s0 s->qI Q (m+1) (.ptr i 0) (.int .i64 (dK B (a.take j))) (.sl false (a.map dH)) (.int .i64 a.length) (.int .i64 j) s:=by
 intro m
 induction m with
 | zero =>
  intro j s hj e;show uX Q (qI Q 0) _ _ _ _ _ s;have c1:decide ((j:Int) < (a.length:Int))=false:=by simp;omega
  rw [m014 (by omega)]
  have c2:decide (((dK B a:Nat):Int)<=1)=decide (dK B a<=1):=by
   by_cases h:dK B a<=1
   ·rw [decide_eq_true h,decide_eq_true (by omega)]
   ·rw [decide_eq_false h,decide_eq_false (by omega)]
  simp only [uX,c1,CW,c2,wx,wy,Z0,Z1,reduceCtorEq];exact hQ _ e.adv
 | succ m ih =>
  intro j s hj e;show uX Q (qI Q (m+1)) _ _ _ _ _ s;have c1:decide ((j:Int) < (a.length:Int))=true:=by simp;omega
  obtain ⟨q,hq⟩:∃ q,a[j]?=some q:=⟨_,m004 (by omega)⟩;have hix:=bP jT false hq .i64;have w1:=QH (i:=j) (n:=a.length) (by omega) (by omega);have hft:=YW (B:=B) a j q hq;have hfl:=aRb (B:=B) (a.take j);have hfl2:=List.length_take_le j a;simp only [uX,c1,hix,RJ,wx,wy,Z0,Z1,reduceCtorEq];refine (ZX e.adv.fr (iP hB fr0 e.adv) hw (ha q (m017 hq))).call bKx fun s1 e1=>?_;have e2:=e.adv.nil_trans e1
  cases hn:dF B q with
  | true =>rw [hn] at hft;simp only [DC,w1,wx,wy,Z0,Z1,reduceCtorEq];have:=ih (j+1) (Ai.adv s1 2) (by omega) e2.adv;rw [hft] at this;exact this
  | false =>
   rw [hn] at hft;have w2:IntKind.i64.wrap (((dK B (a.take j):Nat):Int)+1)=((dK B (a.take j)+1:Nat):Int):=by rw [IntWalk.i64_in _ (by omega)];rfl
   simp only [DC,w1,w2,wx,wy,Z0,Z1,reduceCtorEq];have:=ih (j+1) (Ai.adv s1 5) (by omega) e2.adv;rw [hft] at this;exact this
theorem aHq (fr:aK s) (hB:lG s i B F) (hw:Wf B) (a:List Int) (ha:∀ q∈a,jN B q) (hl:a.length<=2 ^ 30):RdW 135 [.ptr i 0,.sl false (a.map dH)] s (.bool (decide (dK B a<=1))):=by refine aIm _ _ _ ?_;unfold f135;simp only [CO,wx,wy,Z0,Z1,reduceCtorEq];exact ⟨_,bNu hw a ha hl s fr hB _ (fun s' e=>⟨rfl,e⟩) a.length 0 _ (by omega) (EF.refl _ fr).adv⟩
def sB.av (x:sB):AV:=.agg [.int .i64 x.parts,.bool x.more,.int .i64 x.s0,.int .i64 x.s1,.int .i64 x.s2,.int .i64 x.own]
theorem HB (x:sB):x.av.cells=[.int .i64 x.parts,.bool x.more,.int .i64 x.s0,.int .i64 x.s1,.int .i64 x.s2,.int .i64 x.own]:=rfl
theorem aHp (x:sB) (k:Nat) (hk:k<=2):x.av.cells[2+k]?=some (.int .i64 (x.sort k)):=by
 match k,hk with
 | 0,_=>rfl
 | 1,_=>rfl
 | 2,_=>rfl
theorem aEe (x:sB) (j:Nat):x.sort (min j 2)=x.sort j:=by
 match j with
 | 0=>rfl
 | 1=>rfl
 | 2=>rfl
 | j+3=>rw [Nat.min_eq_right (by omega)];rfl
theorem bOt (j:Nat) (id:Nat) (s:St):bt .min #[3,3] [.int .i64 (j:Int),.int .i64 2] id s=some (.int .i64 ((min j 2:Nat):Int),s):=by
 have h:bt .min #[3,3] [.int .i64 (j:Int),.int .i64 2] id s=some (.int .i64 (if decide ((2:Int) < (j:Int)) then 2 else (j:Int)),s):=rfl
 rw [h];by_cases hc:2 < j
 ·rw [decide_eq_true (by omega),if_pos rfl,Nat.min_eq_right (by omega)];rfl
 ·rw [decide_eq_false (by omega),if_neg (by decide),Nat.min_eq_left (by omega)]
theorem ix3 (p o k:Nat) (hk:k<=2):FD 3 1 (.ptr p o) (.int .i64 (k:Int))=some (.ptr p (o+k)):=by
 have:(k:Int) < 3:=by omega
 simp [FD,pF,zK,aD,this]
theorem bMd (hw:Wf B) (x:sB) (a:List Int) (ha:∀ q∈a,jN B q) (hl:a.length<=2 ^ 30) (s0:St) (fr0:aK s0) (hB:lG s0 i B F) (p:Nat) (Q:aC) (r:Int) (hQ:∀ s',EF [] s0 s'->Q (.int .i64 r) s') :
  ∀ (m j:Nat) (last:Int) (s:St),j+m=a.length->EF [] s0 s->s.h p=some (.cells x.av.cells 192 true true)->r=bK B x j last (a.drop j)->kB Q (m+1) (.ptr i 0) (.ptr p 0) (.int .i64 last) (.sl false (a.map dH)) (.int .i64 a.length) (.int .i64 j) s:=by
 intro m
 induction m with
 | zero =>
  intro j last s hj e hp hr;show wF Q (kB Q 0) _ _ _ _ _ _ s;have c1:decide ((j:Int) < (a.length:Int))=false:=by simp;omega
  rw [m037 (by omega)] at hr;simp only [wF,c1,xD,hp,HB,eq3,wx,wy,Z0,Z1,reduceCtorEq];have hr:r=bif x.own==-1 then last else x.own:=hr
  cases ho:(x.own==-1) with
  | true =>rw [ho] at hr;rw [hr] at hQ;simp only [wx,wy,Z0,Z1,reduceCtorEq];exact hQ _ e.adv
  | false =>rw [ho] at hr;rw [hr] at hQ;simp only [hp,HB,wx,wy,Z0,Z1,reduceCtorEq];exact hQ _ e.adv
 | succ m ih =>
  intro j last s hj e hp hr;show wF Q (kB Q (m+1)) _ _ _ _ _ _ s;have c1:decide ((j:Int) < (a.length:Int))=true:=by simp;omega
  obtain ⟨q,hq⟩:∃ q,a[j]?=some q:=⟨_,m004 (by omega)⟩;rw [cK a j q hq] at hr;simp only [bK] at hr;have hix:=bP jT false hq .i64;have w1:=QH (i:=j) (n:=a.length) (by omega) (by omega);obtain ⟨n,hn⟩:=pY (ha q (m017 hq));obtain ⟨xl,mm,xn,⟨h1,h2,h3,h4,h5,h6,h7⟩,_⟩:=iP hB fr0 e;obtain ⟨k,j1,j2,j3,j4⟩:=TH h4 hn;have j31:=j3 1 (by decide);have o1:n.av.cells[1]?=some (.int .i64 n.so):=rfl;have hso:gH B q=n.so:=by simp only [gH,hn]
  rw [hso] at hr;have hs:=aHp x (min j 2) (Nat.min_le_right _ _);rw [aEe] at hs;have hsx:x.av.cells[2+min j 2]?=some (.int .i64 (x.sort j)):=hs;simp only [wF,c1,hix,RJ,bOt,ix3 p 2 (min j 2) (Nat.min_le_right _ _),hp,hsx,wx,wy,Z0,Z1,reduceCtorEq];refine ⟨rfl,?_⟩
  have hgo:∀ (want:Int) (c:Nat),(want=bif x.sort j==-1 then last else x.sort j)->EU Q (kB Q (m+1)) (.int .i64 want) (.int .i64 n.so) (.int .i64 j) (.ptr i 0) (.ptr p 0) (.sl false (a.map dH)) (.int .i64 a.length) (Ai.adv s c):=fun want c hwant=>by
   rw [<- hwant] at hr;unfold EU;have hneq:∀ u v:Int,bn .neq 3 (.int .i64 u) (.int .i64 v)=some (.bool (u != v)):=fun u v=>bin_neq
   cases d1:(want != -2) with
   | false =>rw [d1] at hr;simp only [hneq,d1,wQ,w1,wx,wy,Z0,Z1,reduceCtorEq];exact ih (j+1) n.so _ (by omega) e.adv hp (by simpa using hr)
   | true =>
    rw [d1] at hr
    cases d2:(want != n.so) with
    | true =>rw [d2] at hr;simp only [m031,cond_true] at hr;rw [hr] at hQ;simp only [hneq,d1,d2,wx,wy,Z0,Z1,reduceCtorEq];exact hQ _ e.adv
    | false =>rw [d2] at hr;simp only [hneq,d1,d2,wQ,w1,wx,wy,Z0,Z1,reduceCtorEq];exact ih (j+1) n.so _ (by omega) e.adv hp (by simpa using hr)
  simp only [h1,j1,j2,j31,o1,eq3,wx,wy,Z0,Z1,reduceCtorEq]
  cases ho:(x.sort j==-1) with
  | true =>simp only [wx,wy,Z0,Z1,reduceCtorEq];exact hgo _ _ (by rw [ho,cond_true])
  | false =>simp only [wx,wy,Z0,Z1,reduceCtorEq];exact hgo _ _ (by rw [ho,cond_false])
theorem aDx (fr:aK s) (hB:lG s i B F) (hw:Wf B) (x:sB) (a:List Int) (ha:∀ q∈a,jN B q) (hl:a.length<=2 ^ 30):RdW 134 [.ptr i 0,x.av,.sl false (a.map dH)] s (.int .i64 (bK B x 0 0 a)):=by refine aHj _ _ _ _ ?_;unfold f134;refine ⟨rfl,?_⟩;simp only [CO,wx,wy,Z0,Z1,reduceCtorEq];have e0:∀ k,0 < k->EF [] s (Ai.adv (s.set s.nx (some (.cells x.av.cells 192 true true))) k):=fun k hk=>⟨by simp only [adv_nx,set_nx];omega,fun y hy _=>by rw [adv_h,aF (by omega)],dP fr k (by omega)⟩;exact ⟨_,bMd hw x a ha hl s fr hB s.nx _ _ (fun s' e=>⟨rfl,e⟩) a.length 0 0 _ (by omega) (e0 _ (by omega)) (by rw [adv_h,aG]) rfl⟩
theorem aGy {f h:FuncId} {a cap args:List AV} (hp:mEv.pm f h=false) (hk:aY mEv h (a++args++cap) s K):EH mEv f (.fn h a cap) args s K:=by show NE mEv f h (a++args++cap) s K;unfold NE;rw [hp];exact hk
theorem bOz (fr:aK s) (hB:lG s i B F) {p:Nat} (hp:s.h p=some (.cells [.ptr i 0] 51 true true)) (q:Int):RdW 132 [.int .i64 q,.ptr p 0] s (.bool (kA B q)):=by
 refine aHu _ _ _ ?_;unfold f132;have hl:∀ a b:Int,bn .lss 3 (.int .i64 a) (.int .i64 b)=some (.bool (decide (a < b))):=fun a b=>bin_lss;have hg:∀ a b:Int,bn .geq 3 (.int .i64 a) (.int .i64 b)=some (.bool (decide (a >= b))):=fun a b=>bin_geq;unfold kA
 cases h:decide (q < 0) with
 | true =>simp only [hl,h,wx,wy,Z0,Z1,reduceCtorEq];exact (EF.refl _ fr).adv
 | false =>simp only [hl,h,hp,wx,wy,Z0,Z1,reduceCtorEq];refine TC hB.adv ?_;simp only [hg,wx,wy,Z0,Z1,reduceCtorEq];exact (EF.refl _ fr).adv
theorem bPl (a:List Int) (hl:a.length<=2 ^ 30) (s0:St) (fr0:aK s0) (hB:lG s0 i B F) {p:Nat} (hp:s0.h p=some (.cells [.ptr i 0] 51 true true)) (Q:aC) (r:Bool) (hQ:∀ k s',EF [] s0 s'->decide (k >= 0)=r->Q (.int .i64 k) s') :
  ∀ (m j:Nat) (s:St),j+m=a.length->EF [] s0 s->r=(a.drop j).any (kA B)->qC Q (m+1) (.sl false (a.map dH)) (.fn 132 [] [.ptr p 0]) (.int .i64 a.length) (.int .i64 j) s:=by
 intro m
 induction m with
 | zero =>
  intro j s hj e hr;show uL Q (qC Q 0) _ _ _ _ s;have c1:decide ((j:Int) < (a.length:Int))=false:=by simp;omega
  rw [m037 (by omega)] at hr;simp only [uL,c1,CT,wx,wy,Z0,Z1,reduceCtorEq];exact hQ _ _ e.adv (by rw [hr];rfl)
 | succ m ih =>
  intro j s hj e hr;show uL Q (qC Q (m+1)) _ _ _ _ s;have c1:decide ((j:Int) < (a.length:Int))=true:=by simp;omega
  obtain ⟨q,hq⟩:∃ q,a[j]?=some q:=⟨_,m004 (by omega)⟩;rw [cK a j q hq,List.any_cons] at hr;have hix:=bP jT false hq .i64;have w1:=QH (i:=j) (n:=a.length) (by omega) (by omega);have hpp:=fr0.lt hp;simp only [uL,c1,hix,RJ,wx,wy,Z0,Z1,reduceCtorEq];refine aGy (by kernel_rfl) ?_;refine (bOz (i:=i) (B:=B) e.adv.fr (iP hB fr0 e.adv) (p:=p) (by rw [e.adv.h p hpp (by simp)];exact hp) q).call bJb fun s1 e1=>?_;have e2:=e.adv.nil_trans e1
  cases hb:kA B q with
  | true =>rw [hb,m033] at hr;simp only [wx,wy,Z0,Z1,reduceCtorEq];exact hQ _ _ e2.adv (by rw [hr];simp)
  | false =>rw [hb,m026] at hr;simp only [RW,w1,wx,wy,Z0,Z1,reduceCtorEq];exact ih (j+1) _ (by omega) e2.adv hr
theorem bPq (fr:aK s) (hB:lG s i B F) {p:Nat} (hp:s.h p=some (.cells [.ptr i 0] 51 true true)) (a:List Int) (hl:a.length<=2 ^ 30):RdW 133 [.sl false (a.map dH),.fn 132 [] [.ptr p 0]] s (.bool (a.any (kA B))):=by
 refine aKk _ _ _ ?_;unfold f133;have h186:∃ k s',WideC mEv 186 [.sl false (a.map dH),.fn 132 [] [.ptr p 0]] (Ai.adv s 6) k s'/\∃ n:Int,k=.int .i64 n/\EF [] s s'/\decide (n >= 0)=a.any (kA B):=by refine aLs _ _ _ ?_;unfold f186;simp only [CO,wx,wy,Z0,Z1,reduceCtorEq];exact ⟨_,bPl a hl (Ai.adv s 6) fr.adv hB.adv hp _ _ (fun k s' e hk=>⟨k,rfl,(EF.refl [] fr).adv.nil_trans e,hk⟩) a.length 0 _ (by omega) ⟨by simp only [adv_nx];omega,fun _ _ _=>rfl,fr.adv⟩ rfl⟩
 obtain ⟨k,s',h1,n,rfl,h2,h3⟩:=h186;refine kM bDr ⟨_,s',h1,?_⟩;have hg:∀ a b:Int,bn .geq 3 (.int .i64 a) (.int .i64 b)=some (.bool (decide (a >= b))):=fun a b=>bin_geq;simp only [hg,h3,wx,wy,Z0,Z1,reduceCtorEq];exact h2
def KF:List AV:=(gE.map sB.av).flatMap AV.cells
theorem gl1:gl 1=.pel KF 0:=by kernel_rfl
theorem bCs {op:Int} (h0:0<=op) {x:sB} (hx:gE[op.toNat]?=some x):FD 31 6 (gl 1) (.int .i64 op)=some (.pel KF (op.toNat * 6))/\KF[op.toNat * 6]?=some (.int .i64 x.parts)/\Ai.part 6 true (op.toNat * 6) KF=some x.av:=by
 have hv:(gE.map sB.av)[op.toNat]?=some x.av:=by rw [m047,hx];rfl
 have hlt:=(m012.1 hx).1;have h31:gE.length=31:=rfl;have hlen:∀ v∈gE.map sB.av,v.cells.length=6:=fun v hv=>by obtain ⟨y,_,rfl⟩:=m021.1 hv;rfl
 obtain ⟨d1,d2⟩:=HR hlen hv;refine ⟨?_,?_,?_⟩
 ·rw [gl1];have:op < 31:=by omega
  simp [FD,pF,zK,aD,h0,this]
 ·have:=vM hlen hv (k:=0) (by decide);rw [Nat.add_zero] at this;exact this
 ·unfold KF;rw [CN,if_pos d2];show some (AV.agg ((((gE.map sB.av).flatMap AV.cells).drop (op.toNat * 6)).take 6))=_;rw [d1];rfl
end
end
noncomputable section
section
variable {s:St} {i:Nat} {B:Bk} {F:List Nat} {K:aC}
theorem aEj {op:Int} (h0:0<=op):(op < 31↔∃ x,gE[op.toNat]?=some x):=by
 have h31:gE.length=31:=rfl;constructor
 ·intro h;exact ⟨_,m004 (by omega)⟩
 ·rintro ⟨x,hx⟩;have:=(m012.1 hx).1;omega
theorem bCa (hok:∀ n∈B,n.ok) (q:Int):i64 (gH B q):=by
 unfold gH
 cases h:iT B q with
 | none=>exact ⟨by decide,by decide⟩
 | some n=>exact (hok n (lR h)).so
theorem aFq (hok:∀ n∈B,n.ok) {x:sB} (hx:i64 x.own):∀ (a:List Int) (j:Nat) (last:Int),i64 last->i64 (bK B x j last a):=by
 intro a
 induction a with
 | nil =>
  intro j last h;simp only [bK];cases (x.own==-1)
  ·exact hx
  ·exact h
 | cons q a ih =>
  intro j last h;simp only [bK];generalize (bif x.sort j==-1 then last else x.sort j)=w;cases (w != -2&&w != gH B q)
  ·exact ih _ _ (bCa hok q)
  ·exact (⟨by decide,by decide⟩:i64 0)
theorem aPb (x:sB) (h:x∈gE):i64 x.own:=by
 have:(gE.all fun x=>decide (-9223372036854775808<=x.own)&&decide (x.own<=9223372036854775807))=true:=by decide
 have:=m032.1 this x h;simp only [bN,decide_eq_true_eq] at this;exact this
theorem bHx (fr:aK s) (hB:lG s i B F) (hw:Wf B) (op:Int) (a:List Int) (hop:i64 op) (hl:a.length<=2 ^ 30) (ha:∀ q∈a,i64 q):BkW 81 [.ptr i 0,.int .i64 op,.sl false (a.map dH)] s i F (gU B op a):=by
 refine aUk _ _ _ _ ?_;unfold f81;refine ⟨rfl,?_⟩;have hs:∀ u v:Int,bn .lss 3 (.int .i64 u) (.int .i64 v)=some (.bool (decide (u < v))):=fun _ _=>bin_lss;have hg:∀ u v:Int,bn .geq 3 (.int .i64 u) (.int .i64 v)=some (.bool (decide (u >= v))):=fun _ _=>bin_geq;have hgt:∀ u v:Int,bn .gtr 3 (.int .i64 u) (.int .i64 v)=some (.bool (decide (u > v))):=fun _ _=>bin_gtr;have hcell:(AV.ptr i 0).cells=[.ptr i 0]:=rfl;have hi:=hB.lt fr i hB.mem;have e0:∀ (k:Nat),0 < k->EF [] s (Ai.adv (s.set s.nx (some (.cells [.ptr i 0] 51 true true))) k):=fun k hk=>⟨by simp only [adv_nx,set_nx];omega,fun y hy _=>by rw [adv_h,aF (by omega)],dP fr k (by omega)⟩;have hnil:∀ (k:Nat) (e:Int),0 < k->(AV.tup [.int .i64 0,.int .i64 e]=KU (((0,e),B):(Int×Int)×Bk).1/\FE s i F (((0,e),B):(Int×Int)×Bk).2 (Ai.adv (s.set s.nx (some (.cells [.ptr i 0] 51 true true))) k)):=fun k e hk=>⟨rfl,FE.same hB fr (e0 k hk)⟩;unfold gU
 cases h1:decide (op < 0) with
 | true =>simp only [hcell,hs,h1,wx,wy,Z0,Z1,reduceCtorEq];exact hnil _ _ (by omega)
 | false =>
 have o1:=of_decide_eq_false h1
 cases h2:gE[op.toNat]? with
 | none =>
  have h31:decide (op >= 31)=true:=decide_eq_true (by
   have:=aEj (op:=op) (by omega);by_cases hc:op < 31
   ·obtain ⟨x,hx⟩:=this.1 hc;rw [h2] at hx;cases hx
   ·omega)
  simp only [hcell,hs,hg,h1,h31,wx,wy,Z0,Z1,reduceCtorEq];exact hnil _ _ (by omega)
 | some x =>
 have h31:decide (op >= 31)=false:=decide_eq_false (by have:=(aEj (op:=op) (by omega)).2 ⟨x,h2⟩;omega);obtain ⟨a1,a2,a3⟩:=bCs (op:=op) (by omega) h2
 cases h3:(x.parts==0) with
 | true =>simp only [hcell,hs,hg,h1,h31,a1,a2,eq3,h3,wx,wy,Z0,Z1,reduceCtorEq];exact hnil _ _ (by omega)
 | false =>
 have hst:∀ (q:St) (k c:Nat),bQ 6 (.ptr k 0) x.av (Ai.adv (q.set k (some (.cells (AV.agg [.int .i64 0,.bool false,.int .i64 0,.int .i64 0,.int .i64 0,.int .i64 0]).cells 192 true true))) c)=some (Ai.adv (q.set k (some (.cells x.av.cells 192 true true))) c):=fun q k c=>by rw [bJ (z:=6) (by rw [adv_h,aG]) rfl rfl rfl,adv_set,set_set]
 have hp6:Ai.part 6 true 0 x.av.cells=some x.av:=rfl;have q0:x.av.cells[0]?=some (.int .i64 x.parts):=rfl;have q1:x.av.cells[1]?=some (.bool x.more):=rfl;obtain ⟨p,hp⟩:∃ p,p=s.nx:=⟨_,rfl⟩
 have e1:∀ (k d:Nat),0 < d->d < k->EF [] s (Ai.adv ((s.set s.nx (some (.cells [.ptr i 0] 51 true true))).set (s.nx+d) (some (.cells x.av.cells 192 true true))) k):=fun k d hd hk =>
  ⟨by simp only [adv_nx,set_nx];omega,fun y hy _=>by rw [adv_h,aF (by omega),aF (by omega)],fun y hy=>by
   have hy:s.nx+k<=y:=hy
   rw [adv_h,aF (by omega),aF (by omega)];exact fr y (by omega)⟩
 have hnil1:∀ (k d:Nat) (e:Int),0 < d->d < k->(AV.tup [.int .i64 0,.int .i64 e]=KU (((0,e),B):(Int×Int)×Bk).1/\FE s i F (((0,e),B):(Int×Int)×Bk).2 (Ai.adv ((s.set s.nx (some (.cells [.ptr i 0] 51 true true))).set (s.nx+d) (some (.cells x.av.cells 192 true true))) k)):=fun k d e hd hk=>⟨rfl,FE.same hB fr (e1 k d hd hk)⟩;simp only [hcell,hs,hg,h1,h31,a1,a2,a3,eq3,h3,bHv,hst,CO,q0,wx,wy,Z0,Z1,reduceCtorEq];have hx64:i64 x.own:=aPb x (m017 h2);have hok:∀ n∈B,n.ok:=by obtain ⟨_,_,_,⟨_,_,_,_,_,h,_⟩,_⟩:=hB;exact h
 cases h4:decide ((a.length:Int) < x.parts) with
 | true =>simp only [h4,m033,wx,wy,Z0,Z1,reduceCtorEq];exact hnil1 _ _ _ (by omega) (by omega)
 | false =>
 by_cases h56:(decide ((a.length:Int) > x.parts)&&!x.more)=true
 ·simp only [bN,Bool.not_eq_true'] at h56;obtain ⟨h5,h6⟩:=h56;rw [h6] at q1;simp only [h4,h5,h6,q0,q1,hgt,CO,m027,gA,m033,m026,wx,wy,Z0,Z1,reduceCtorEq];exact hnil1 _ _ _ (by omega) (by omega)
 ·have hc:decide ((a.length:Int) > x.parts)=false\/(decide ((a.length:Int) > x.parts)=true/\x.more=true):=by
   cases h5:decide ((a.length:Int) > x.parts) with
   | false=>exact .inl rfl
   | true =>
    rw [h5] at h56
    cases h6:x.more with
    | false=>rw [h6] at h56;simp at h56
    | true=>exact .inr ⟨rfl,rfl⟩
  have h56:(decide ((a.length:Int) > x.parts)&&!x.more)=false:=by simpa using h56
  rcases hc with h5 | ⟨h5,h6⟩
  all_goals
   first
    | (rw [h6] at q1;simp only [h4,h5,h6,q0,q1,hgt,CO,m025,m071,m026,wx,wy,Z0,Z1,reduceCtorEq])
    | simp only [h4,h5,h56,q0,q1,hgt,CO,m026,wx,wy,Z0,Z1,reduceCtorEq]
   cases h7:decide ((a.length:Int) > 200) with
   | true =>simp only [m033,wx,wy,Z0,Z1,reduceCtorEq];exact hnil1 _ _ _ (by omega) (by omega)
   | false =>
    simp only [m026,wx,wy,Z0,Z1,reduceCtorEq];refine (bPq (i:=i) (B:=B) (e1 _ _ (by omega) (by omega)).fr (iP hB fr (e1 _ _ (by omega) (by omega))) (p:=s.nx) (by rw [adv_h,aF (by omega),aG]) a hl).call bFr fun s1 k1=>?_;have k2:=(e1 _ _ (by omega) (by omega)).nil_trans k1;have b1:s1.h s.nx=some (.cells [.ptr i 0] 51 true true):=by rw [k1.h s.nx (by simp only [adv_nx,set_nx];omega) (by simp),adv_h,aF (by omega),aG]
    have b2:s1.h (s.nx+19)=some (.cells x.av.cells 192 true true):=by rw [k1.h (s.nx+19) (by simp only [adv_nx,set_nx];omega) (by simp),adv_h,aG]
    have n1:s.nx+20<=s1.nx:=by have:=k1.nx;simp only [adv_nx,set_nx] at this;omega
    cases h8:a.any (kA B) with
    | true =>simp only [wx,wy,Z0,Z1,reduceCtorEq];exact ⟨rfl,FE.same hB fr k2.adv⟩
    | false =>
     have hin:=AO.1 h8;simp only [b1,b2,hp6,wx,wy,Z0,Z1,reduceCtorEq];refine (aDx (i:=i) (B:=B) k2.adv.fr (iP hB fr k2.adv) hw x a hin hl).call bJw fun s2 k3=>?_;have k4:=k2.adv.nil_trans k3;have n2:=k3.nx;simp only [adv_nx] at n2;have c1:s2.h s.nx=some (.cells [.ptr i 0] 51 true true):=by rw [k3.h s.nx (by simp only [adv_nx];omega) (by simp)];exact b1
     cases h9:(bK B x 0 0 a==0) with
     | true =>simp only [eq3,h9,wx,wy,Z0,Z1,reduceCtorEq];exact ⟨rfl,FE.same hB fr k4.adv⟩
     | false =>
      have ho:Nd.ok ⟨op,bK B x 0 0 a,a,[],false,[],[]⟩:=VV hop (aFq hok hx64 a 0 0 (gO (by decide) (by decide))) ha (by have:=of_decide_eq_false h7;omega) (by simp) (fun _ h=>by cases h) (by simp) (fun _ h=>by cases h) (by simp);have hb:eE 101 [(0,.int .i64 op),(1,.int .i64 (bK B x 0 0 a)),(2,.sl false (a.map dH))]=some (pB ⟨op,bK B x 0 0 a,a,[],false,[],[]⟩ (.sl false (a.map dH)) .nils .nils):=by rw [sG];rfl
      cases h10:(op==17) with
      | false =>simp only [eq3,h9,h10,m035,UN,c1,hb,wx,wy,Z0,Z1,reduceCtorEq];refine (EL k4.adv.fr (iP hB fr k4.adv) ho (jX _ (.inl rfl) cT cT)).call AS fun s' hs'=>?_;simp only [GP,HN,wx,wy,Z0,Z1,reduceCtorEq];exact ⟨rfl,hs'.from k4.adv⟩
      | true =>
       simp only [eq3,h9,h10,c1,m031,wx,wy,Z0,Z1,reduceCtorEq];refine (aHq (i:=i) (B:=B) k4.adv.fr (iP hB fr k4.adv) hw a hin hl).call bIw fun s3 k5=>?_;have k6:=k4.adv.nil_trans k5;have d1:s3.h s.nx=some (.cells [.ptr i 0] 51 true true):=by rw [k5.h s.nx (by simp only [adv_nx];omega) (by simp)];exact c1
       cases h11:decide (dK B a<=1) with
       | false =>simp only [h10,m027,wx,wy,Z0,Z1,reduceCtorEq];exact ⟨rfl,FE.same hB fr k6.adv⟩
       | true =>simp only [h10,m025,UN,d1,hb,wx,wy,Z0,Z1,reduceCtorEq];refine (EL k6.adv.fr (iP hB fr k6.adv) ho (jX _ (.inl rfl) cT cT)).call AS fun s' hs'=>?_;simp only [GP,HN,wx,wy,Z0,Z1,reduceCtorEq];exact ⟨rfl,hs'.from k6.adv⟩
end
end
noncomputable section
theorem bOe (a b:List Int) (hl:a.length=b.length) (hn:a.length<=2 ^ 40) (Q:aC) (hQ:∀ s,Q (.bool (decide (a=b))) s):∀ (m i:Nat) (s:St),i+m=a.length->a.take i=b.take i ->
  qK Q (m+1) (.sl false (a.map dH)) (.sl false (b.map dH)) (.int .i64 i) s:=by
 intro m
 induction m with
 | zero =>
  intro i s hi he;show vC Q (qK Q 0) _ _ _ s;have c1:decide ((i:Int) < (a.length:Int))=false:=by simp;omega
  rw [m014 (by omega),m014 (by omega)] at he;simp only [vC,BE,dX,m002,c1,wx,wy,Z0,Z1,reduceCtorEq];have:=hQ (adv (adv s 4) 1);rw [decide_eq_true he,adv_two] at this;exact this
 | succ m ih =>
  intro i s hi he;show vC Q (qK Q (m+1)) _ _ _ s;have c1:decide ((i:Int) < (a.length:Int))=true:=by simp;omega
  obtain ⟨x,hx⟩:∃ x,a[i]?=some x:=⟨_,m004 (by omega)⟩;obtain ⟨y,hy⟩:∃ y,b[i]?=some y:=⟨_,m004 (by omega)⟩;have ix0:=bP jT false (l:=a) hx .i64;have ix1:=bP jT false (l:=b) hy .i64;simp only [vC,QB,dX,m002,c1,ix0,ix1,RJ,wx,wy,Z0,Z1,reduceCtorEq]
  cases hc:(x != y) with
  | true =>
   simp only [hc,wx,wy,Z0,Z1,reduceCtorEq];have hne:a≠b:=fun e=>by subst e;rw [hx] at hy;cases hy;simp at hc
   have:=hQ (adv (adv s 4) 10);rw [decide_eq_false hne,adv_two] at this;exact this
  | false =>
   have e:x=y:=by simpa using hc
   simp only [hc,wx,wy,Z0,Z1,reduceCtorEq];rw [cF i a.length (by omega) (by have:maxLen=9223372036854775807:=rfl;omega)];exact ih (i+1) _ (by omega) (by rw [m062,m062,he,hx,hy,e])
theorem bMz (a b:List Int) (hn:a.length<=2 ^ 40):aU mEv 218 [.sl false (a.map dH),.sl false (b.map dH)] (.bool (decide (a=b))):=by
 refine bI rfl (aEm _ _ _ ?_);unfold f218
 cases hc:((a.length:Int) != (b.length:Int)) with
 | true =>
  have hne:a≠b:=fun e=>by subst e;simp at hc
  simp only [dX,m002,hc,wx,wy,Z0,Z1,reduceCtorEq];rw [decide_eq_false hne]
 | false =>
  have hl:a.length=b.length:=by simp at hc;omega
  simp only [dX,m002,hc,wx,wy,Z0,Z1,reduceCtorEq];exact ⟨a.length+1,bOe a b hl hn _ (fun s=>rfl) a.length 0 _ (by omega) rfl⟩
theorem bEz (x y:Int×Int):bn .neq 109 (cP x) (cP y)=some (.bool !(x==y)):=by
 have hz:zero Tryz.ty 109=some (.agg [.int .i64 0,.int .i64 0]):=by kernel_rfl
 have hq:Tryz.eqOk 109=true:=by kernel_rfl
 have hb:(x==y)=(x.1==y.1&&x.2==y.2):=rfl;show lA Tryz.ty Tryz.eqOk .neq 109 (.agg [.int .i64 x.1,.int .i64 x.2]) (.agg [.int .i64 y.1,.int .i64 y.2])=_;rw [hb];simp [lA,dC,hz,hq,kC,mD,jZ,AV.cells]
theorem bNv (a b:List (Int×Int)) (hl:a.length=b.length) (hn:a.length<=2 ^ 40) (Q:aC) (hQ:∀ s,Q (.bool (decide (a=b))) s):∀ (m i:Nat) (s:St),i+m=a.length->a.take i=b.take i ->
  pI Q (m+1) (.sl false (a.map cP)) (.sl false (b.map cP)) (.int .i64 i) s:=by
 intro m
 induction m with
 | zero =>
  intro i s hi he;show vB Q (pI Q 0) _ _ _ s;have c1:decide ((i:Int) < (a.length:Int))=false:=by simp;omega
  rw [m014 (by omega),m014 (by omega)] at he;simp only [vB,DX,kI,m002,c1,wx,wy,Z0,Z1,reduceCtorEq];have:=hQ (adv (adv s 4) 1);rw [decide_eq_true he,adv_two] at this;exact this
 | succ m ih =>
  intro i s hi he;show vB Q (pI Q (m+1)) _ _ _ s;have c1:decide ((i:Int) < (a.length:Int))=true:=by simp;omega
  obtain ⟨x,hx⟩:∃ x,a[i]?=some x:=⟨_,m004 (by omega)⟩;obtain ⟨y,hy⟩:∃ y,b[i]?=some y:=⟨_,m004 (by omega)⟩;have ix0:=bP iW false (l:=a) hx .i64;have ix1:=bP iW false (l:=b) hy .i64;simp only [vB,QR,kI,m002,c1,ix0,ix1,lB,bEz,wx,wy,Z0,Z1,reduceCtorEq]
  cases hc:(!(x==y)) with
  | true =>
   simp only [hc,wx,wy,Z0,Z1,reduceCtorEq];have hne:a≠b:=fun e=>by subst e;rw [hx] at hy;cases hy;simp at hc
   have:=hQ (adv (adv s 4) 10);rw [decide_eq_false hne,adv_two] at this;exact this
  | false =>
   have e:x=y:=by simpa using hc
   simp only [hc,wx,wy,Z0,Z1,reduceCtorEq];rw [cF i a.length (by omega) (by have:maxLen=9223372036854775807:=rfl;omega)];exact ih (i+1) _ (by omega) (by rw [m062,m062,he,hx,hy,e])
theorem bOg (a b:List (Int×Int)) (hn:a.length<=2 ^ 40):aU mEv 220 [.sl false (a.map cP),.sl false (b.map cP)] (.bool (decide (a=b))):=by
 refine bI rfl (aFf _ _ _ ?_);unfold f220
 cases hc:((a.length:Int) != (b.length:Int)) with
 | true =>
  have hne:a≠b:=fun e=>by subst e;simp at hc
  simp only [kI,m002,hc,wx,wy,Z0,Z1,reduceCtorEq];rw [decide_eq_false hne]
 | false =>
  have hl:a.length=b.length:=by simp at hc;omega
  simp only [kI,m002,hc,wx,wy,Z0,Z1,reduceCtorEq];exact ⟨a.length+1,bNv a b hl hn _ (fun s=>rfl) a.length 0 _ (by omega) rfl⟩
theorem bOj (a b:List Nat) (hl:a.length=b.length) (hn:a.length<=2 ^ 40) (Q:aC) (hQ:∀ s,Q (.bool (decide (a=b))) s):∀ (m i:Nat) (s:St),i+m=a.length->a.take i=b.take i ->
  qG Q (m+1) (.sl false (a.map sC)) (.sl false (b.map sC)) (.int .i64 i) s:=by
 intro m
 induction m with
 | zero =>
  intro i s hi he;show uR Q (qG Q 0) _ _ _ s;have c1:decide ((i:Int) < (a.length:Int))=false:=by simp;omega
  rw [m014 (by omega),m014 (by omega)] at he;simp only [uR,DD,kJ,m002,c1,wx,wy,Z0,Z1,reduceCtorEq];have:=hQ (adv (adv s 4) 1);rw [decide_eq_true he,adv_two] at this;exact this
 | succ m ih =>
  intro i s hi he;show uR Q (qG Q (m+1)) _ _ _ s;have c1:decide ((i:Int) < (a.length:Int))=true:=by simp;omega
  obtain ⟨x,hx⟩:∃ x,a[i]?=some x:=⟨_,m004 (by omega)⟩;obtain ⟨y,hy⟩:∃ y,b[i]?=some y:=⟨_,m004 (by omega)⟩;have ix0:=bP HX false (l:=a) hx .i64;have ix1:=bP HX false (l:=b) hy .i64;simp only [uR,QG,kJ,m002,c1,ix0,ix1,aRs,wx,wy,Z0,Z1,reduceCtorEq]
  cases hc:((x:Int) != (y:Int)) with
  | true =>
   simp only [hc,wx,wy,Z0,Z1,reduceCtorEq];have hne:a≠b:=fun e=>by subst e;rw [hx] at hy;cases hy;simp at hc
   have:=hQ (adv (adv s 4) 10);rw [decide_eq_false hne,adv_two] at this;exact this
  | false =>
   have e:x=y:=by simp at hc;omega
   simp only [hc,wx,wy,Z0,Z1,reduceCtorEq];rw [cF i a.length (by omega) (by have:maxLen=9223372036854775807:=rfl;omega)];exact ih (i+1) _ (by omega) (by rw [m062,m062,he,hx,hy,e])
theorem bOd (a b:List Nat) (hn:a.length<=2 ^ 40):aU mEv 247 [.sl false (a.map sC),.sl false (b.map sC)] (.bool (decide (a=b))):=by
 refine bI rfl (aMf _ _ _ ?_);unfold f247
 cases hc:((a.length:Int) != (b.length:Int)) with
 | true =>
  have hne:a≠b:=fun e=>by subst e;simp at hc
  simp only [kJ,m002,hc,wx,wy,Z0,Z1,reduceCtorEq];rw [decide_eq_false hne]
 | false =>
  have hl:a.length=b.length:=by simp at hc;omega
  simp only [kJ,m002,hc,wx,wy,Z0,Z1,reduceCtorEq];exact ⟨a.length+1,bOj a b hl hn _ (fun s=>rfl) a.length 0 _ (by omega) rfl⟩
end
noncomputable section
theorem bPn (x y:Bool) (a b:List Nat) (ha:a.length<=2 ^ 40):aU mEv 219 [oY x a,oY y b] (.bool (decide (a=b)&&x==y)):=by
 refine bI rfl (aLz _ _ _ ?_);unfold f219;refine ⟨rfl,rfl,?_⟩;simp only [wz1,wx,wy,Z0,Z1,reduceCtorEq];refine aM (bOd a b ha) (by simp [cR]) ?_
 cases h:decide (a=b) with
 | false=>simp only [wx,wy,Z0,Z1,reduceCtorEq,m035]
 | true=>simp only [wz0,bPd,wx,wy,Z0,Z1,reduceCtorEq,m031]
theorem nd0 (n:Nd):n.av.cells[0]?=some (.int .i64 n.op):=rfl
theorem nd1 (n:Nd):n.av.cells[1]?=some (.int .i64 n.so):=rfl
theorem QC (n:Nd):n.av.cells[2]?=some (.sl false (n.a.map dH)):=rfl
theorem nd3 (n:Nd):n.av.cells[3]?=some (.str n.nm):=rfl
theorem nd5 (n:Nd):n.av.cells[5]?=some (iV n.num):=rfl
theorem nd6 (n:Nd):n.av.cells[6]?=some (.sl false (n.str.map cP)):=rfl
theorem VE (n:Nd):Ai.part 2 true 4 n.av.cells=some (oY n.neg n.num):=rfl
theorem sR (a:List Int):(AV.sl false (a.map dH)).closed=true:=cJ _ _ fun _ _=>rfl
theorem fH (a:List (Int×Int)):(AV.sl false (a.map cP)).closed=true:=cJ _ _ fun _ _=>rfl
theorem bNx (m n:Nd) (hm:KC m) (hn:KC n):aU mEv 188 [m.av,n.av] (.bool (TX m n)):=by
 have e:∀ {n:Nd},KC n->(eQ n.neg n.num).1=false/\(eQ n.neg n.num).2=n.num:=fun h=>⟨by rw [h.neg];rfl,h.nn⟩;have c1:=bCd m.neg m.num hm.num hm.nl;have c2:=bCd n.neg n.num hn.num hn.nl;rw [(e hm).1,(e hm).2] at c1;rw [(e hn).1,(e hn).2] at c2;have hb:∀ x:Bool,(x==x)=true:=fun x=>by cases x<;>rfl
 refine bI rfl (aHa _ _ _ ?_);unfold f188;refine ⟨rfl,rfl,?_⟩;simp only [QC,VE,wx,wy,Z0,Z1,reduceCtorEq];refine aM (bMz m.a n.a (by have:=hm.al;omega)) (by simp [sR]) ?_;simp only [VE,wx,wy,Z0,Z1,reduceCtorEq];refine iL c1 (by simp [dA]) ?_;simp only [VE,wx,wy,Z0,Z1,reduceCtorEq];refine iL c2 (by simp [dA]) ?_;refine iL (bPn false false m.num n.num (by have:=hm.nl;omega)) (by simp [dA]) ?_;simp only [nd6,wx,wy,Z0,Z1,reduceCtorEq];refine aM (bOg m.str n.str (by have:=hm.sl;omega)) (by simp [fH]) ?_;unfold TX
 cases h1:decide (m.a=n.a) with
 | false=>simp only [wx,wy,Z0,Z1,reduceCtorEq,m035]
 | true =>
 cases h2:decide (m.num=n.num) with
 | false=>simp only [hb,wx,wy,Z0,Z1,reduceCtorEq,m035,m031,m059]
 | true =>
 cases h3:decide (m.str=n.str) with
 | false=>simp only [hb,wx,wy,Z0,Z1,reduceCtorEq,m035,m031,m059,gA]
 | true =>
 have q0:(m.op==n.op)=decide (m.op=n.op):=by rw [Bool.eq_iff_iff];simp
 have q1:(m.so==n.so)=decide (m.so=n.so):=by rw [Bool.eq_iff_iff];simp
 have q3:(m.nm==n.nm)=decide (m.nm=n.nm):=by rw [Bool.eq_iff_iff];simp
 cases h4:decide (m.op=n.op) with
 | false=>simp only [hb,nd0,q0,h4,wx,wy,Z0,Z1,reduceCtorEq,m035,m031,m059,gA]
 | true =>
 cases h5:decide (m.so=n.so) with
 | false=>simp only [hb,nd0,nd1,q0,q1,h4,h5,wx,wy,Z0,Z1,reduceCtorEq,m035,m031,m059,gA]
 | true=>simp only [hb,nd0,nd1,nd3,q0,q1,q3,h4,h5,wx,wy,Z0,Z1,reduceCtorEq,m035,m031,m059,gA]
def bZ (B:Bk):AV:=.sl false (B.map Nd.av)
theorem eO (B:Bk):(bZ B).closed=true:=cJ _ _ fun _ _=>iI _
def iU (r:(Int×Int)×Bk):AV:=.tup [bZ r.2,.int .i64 r.1.1,.int .i64 r.1.2]
theorem cB (r:(Int×Int)×Bk):(iU r).closed=true:=by show aW [bZ r.2,.int .i64 r.1.1,.int .i64 r.1.2]=true;simp only [aW,eO,AV.closed,gA]
theorem EB (r:(Int×Int)×Bk):aQ (iU r) 0=some (bZ r.2):=rfl
theorem ED (r:(Int×Int)×Bk):aQ (iU r) 1=some (.int .i64 r.1.1):=rfl
theorem DW (r:(Int×Int)×Bk):aQ (iU r) 2=some (.int .i64 r.1.2):=rfl
theorem aMd {s:St} {x y z v:AV} {ids:List Nat} {k:Nat} (hx:x.closed=false) (h:pur mEv.P s k x=some (v,ids)) (hy:y.closed=true) (hz:z.closed=true):pur mEv.P s (k+1) (.tup [x,y,z])=some (.tup [v,y,z],ids):=by
 have hc:(AV.tup [x,y,z]).closed=false:=by simp only [AV.closed,aW,hx,m035]
 unfold pur;rw [hc,if_neg (by simp)];simp only [dJ,h,bE k hy,bE k hz,m011,Option.map_some]
theorem aJn {k:List UInt8}:∀ {B:Bk} {i:Nat} {m:Nd},B[i]?=some m->(∀ (j:Nat) (y:Nd),j < i->B[j]?=some y->(k==eK y)=false)->(k==eK m)=true->fE k B=some i:=by
 intro B
 induction B with
 | nil=>intro i m h;simp at h
 | cons b B ih =>
  intro i m h hn hk
  cases i with
  | zero=>simp only [List.getElem?_cons_zero,m000] at h;subst h;simp only [fE,hk,cond_true]
  | succ i =>have h0:=hn 0 b (by omega) rfl;simp only [fE,h0,cond_false];rw [ih (by simpa using h) (fun j y hj hy=>hn (j+1) y (by omega) (by simpa using hy)) hk];rfl
theorem aEu {k:List UInt8}:∀ {B:Bk},(∀ (j:Nat) (y:Nd),B[j]?=some y->(k==eK y)=false)->fE k B=none:=by
 intro B
 induction B with
 | nil=>intro _;rfl
 | cons b B ih =>intro h;simp only [fE,h 0 b rfl,cond_false,ih fun j y hy=>h (j+1) y (by simpa using hy),Option.map_none]
theorem bPb {B:Bk} {n:Nd} (hl:B.length<=20000) (hf:fE (eK n) B=none) {id:Nat} {s:St} (fr:aK s) (hs:s.h id=some (.cells n.av.cells 101 true true)):xH (cU (iU (dU B n))) (bZ B) (.ptr id 0) s:=by
 unfold xH;have hid:=fr.lt hs
 cases hc:decide ((B.length:Int) >= 20000) with
 | true =>
  have h2:=of_decide_eq_true hc;have e:dU B n=((0,2),B):=by rcases lH B n with ⟨i,h1,_⟩ | ⟨_,_,h3⟩ | ⟨_,h3,_⟩;rw [hf] at h1;cases h1;exact h3;omega
  simp only [bZ,uQ,m002,hc,wx,wy,Z0,Z1,reduceCtorEq];rw [e];exact aI (cB _)
 | false =>
  have h2:=of_decide_eq_false hc;have e:=UH hf (by omega);simp only [bZ,uQ,m002,hc,wx,wy,Z0,Z1,reduceCtorEq]
  obtain ⟨x,S,hap,g,h⟩:∃ x S,bt .append #[56,56] [.nils,.sl false (B.map Nd.av)] (s.nx+4) (Ai.adv s 6)=some (x,S)/\Gw 101 7 0 S x (B.map Nd.av)/\S.h id=some (.cells n.av.cells 101 true true):=by
   by_cases h0:B=[]
   ·subst h0;exact ⟨.nils,Ai.adv s 6,iF SJ fA false _,fA,hs⟩
   ·have h1:=DJ (s:=Ai.adv s 6) (l:=[]) SJ yK fA h0 (by simp;omega) (by simp;omega) false (s.nx+4);rw [List.nil_append,List.length_nil,m023] at h1;exact ⟨_,_,h1,tV (n:=0) yK rfl,by rw [aF (by omega)];exact hs⟩
  have hb:fZ 56 1 [(0,n.av)]=some (.sl true [n.av]):=eW SJ (by decide) rfl rfl;have happ:=hI SJ yK (g.adv (n:=9)) (a:=n) (by omega) (by omega) true (S.nx+3);simp only [hap,h,rG,hb,happ,wx,wy,Z0,Z1,reduceCtorEq];rw [e];have gw:Gw 101 7 0 (Ai.adv ((S.drop (aS x)).set (S.nx+3) (some (.cells (((B++[n]).map Nd.av).flatMap AV.cells) 101 false true))) 9) (.ref (S.nx+3) 0 (B.length+1) none 101) ((B++[n]).map Nd.av):=mH yK;obtain ⟨ids,p1,p2⟩:=uB SJ gw (fun a _=>iI a) (fun a _=>rfl) 10;exact ⟨ids,aMd rfl p1 rfl rfl⟩
theorem bOs {B:Bk} {n:Nd} (hB:BG B) (hn:KC n) (hl:B.length<=20000) {id:Nat}:∀ (m i:Nat) (s:St),i+m=B.length->aK s->s.h id=some (.cells n.av.cells 101 true true)->(∀ (j:Nat) (y:Nd),j < i->B[j]?=some y->(eK n==eK y)=false)->pZ (cU (iU (dU B n))) (m+1) (bZ B) (.ptr id 0) (.int .i64 i) s:=by
 intro m
 induction m with
 | zero =>
  intro i s hi fr hs hno;show uZ (cU (iU (dU B n))) (pZ (cU (iU (dU B n))) 0) _ _ _ s;have c1:decide ((i:Int) < (B.length:Int))=false:=by simp;omega
  have hf:=aEu fun j y hy=>hno j y (by have:=(m012.1 hy).1;omega) hy;simp only [uZ,bZ,uQ,m002,c1,wx,wy,Z0,Z1,reduceCtorEq];exact bPb hl hf fr.adv hs
 | succ m ih =>
  intro i s hi fr hs hno;show uZ (cU (iU (dU B n))) (pZ (cU (iU (dU B n))) (m+1)) _ _ _ s;have c1:decide ((i:Int) < (B.length:Int))=true:=by simp;omega
  obtain ⟨y,hy⟩:∃ y,B[i]?=some y:=⟨_,m004 (by omega)⟩;have hym:=hB y (m017 hy);have hix:=bP yK false (l:=B) hy .i64;simp only [uZ,bZ,uQ,m002,c1,hix,hs,rG,wx,wy,Z0,Z1,reduceCtorEq];refine iL (bNx y n hym hn) (by simp [iI]) ?_;rw [XS hym hn]
  cases hk:eK n==eK y with
  | true =>have e:dU B n=(((i:Int),0),B):=rP (aJn hy hno hk);simp only [hk,wx,wy,Z0,Z1,reduceCtorEq];rw [e];exact aI (cB _)
  | false =>
   simp only [hk,SA,wx,wy,Z0,Z1,reduceCtorEq];rw [cF i B.length (by omega) (by have:maxLen=9223372036854775807:=rfl;omega)];refine ih (i+1) _ (by omega) fr.adv hs fun j z hj hz=>?_;rcases zP j i with h | h
   ·exact hno j z h hz
   ·have:j=i:=by omega
    subst this;rw [hy] at hz;cases hz;exact hk
theorem bIi {B:Bk} {n:Nd} (hB:BG B) (hn:KC n) (hl:B.length<=20000):aU mEv 136 [bZ B,n.av] (iU (dU B n)):=by refine bC (aDl _ _ _ ?_);unfold f136;refine ⟨rfl,B.length+1,bOs hB hn hl B.length 0 _ (by omega) (fun j hj=>?_) (by rw [adv_h,aG]) fun j y hj=>(by omega)⟩;have hj:St.empty.nx+5<=j:=hj;rw [adv_h,aF (by omega)];exact bU j (by omega)
theorem wA {B:Bk} {n:Nd} {v:AV} {s:St} {K:aC} (hB:BG B) (hn:KC n) (hl:B.length<=20000) (hv:Raw v n) (hk:K (iU (dU B n)) s):aE mEv 136 [bZ B,v] s K :=
 eR (ids:=[]) (by simp only [dJ,bE 12 (eO B),hv.pur,m011]) (bIi hB hn hl) hk
theorem aIw {k so:Int} {nm:List UInt8} (h0:0<=k) (h1:k<=100) (hs:so=1\/so=2\/so=3):KC ⟨k,so,[],nm,false,[],[]⟩:=⟨⟨h0,show k < 2 ^ 60 by omega⟩,hs,fun i h=>(by cases h),hO _,rfl,fun x h=>(by cases h),hO _,rfl,fun r h=>(by cases h),hO _⟩
theorem c82 {B:Bk} (hB:BG B) (hl:B.length<=20000) (nm:List UInt8) (so:Int):aU mEv 82 [bZ B,.str nm,.int .i64 so] (iU (mU B nm so)):=by
 refine bC (aUe _ _ _ _ ?_);unfold f82;have hl9:∀ (id:Nat) (s:St),bt .len #[9] [.str nm] id s=some (.int .i64 nm.length,s):=ME nm;unfold mU;have er:∀ s:St,cU (iU ((0,1),B)) (.tup [bZ B,.int .i64 0,.int .i64 1]) s:=fun s=>aI (cB ((0,1),B))
 cases h1:decide (so < 1) with
 | true=>simp only [h1,m033,wx,wy,Z0,Z1,reduceCtorEq];exact er _
 | false =>
 cases h2:decide (so > 3) with
 | true=>simp only [h1,h2,m033,m026,wx,wy,Z0,Z1,reduceCtorEq];exact er _
 | false =>
 cases h3:decide ((nm.length:Int) > 16384) with
 | true=>simp only [h1,h2,h3,hl9,m026,wx,wy,Z0,Z1,reduceCtorEq];exact er _
 | false =>
  have o1:=of_decide_eq_false h1;have o2:=of_decide_eq_false h2;have hb:eE 101 [(0,.int .i64 1),(1,.int .i64 so),(3,.str nm)]=some (pB ⟨1,so,[],nm,false,[],[]⟩ .nils .nils .nils):=by rw [sG];rfl
  simp only [h1,h2,h3,hl9,hb,Bool.or_self,wx,wy,Z0,Z1,reduceCtorEq];refine wA hB (aIw (by decide) (by decide) (by omega)) hl (jX _ cT cT cT) ?_;simp only [EB,ED,DW,wx,wy,Z0,Z1,reduceCtorEq];exact aI (cB _)
theorem c83 {B:Bk} (hB:BG B) (hl:B.length<=20000) (v:Bool):aU mEv 83 [bZ B,.bool v] (iU (wR B v)):=by
 refine bC (aTy _ _ _ ?_);unfold f83;have hb:∀ k:Int,eE 101 [(0,.int .i64 k),(1,.int .i64 1)]=some (pB ⟨k,1,[],[],false,[],[]⟩ .nils .nils .nils):=fun k=>by rw [sG];rfl
 cases v with
 | true =>simp only [hb,wx,wy,Z0,Z1,reduceCtorEq];refine wA hB (aIw (by decide) (by decide) (by decide)) hl (jX _ cT cT cT) ?_;simp only [EB,ED,DW,wx,wy,Z0,Z1,reduceCtorEq];exact aI (cB _)
 | false =>simp only [hb,wx,wy,Z0,Z1,reduceCtorEq];refine wA hB (aIw (by decide) (by decide) (by decide)) hl (jX _ cT cT cT) ?_;simp only [EB,ED,DW,wx,wy,Z0,Z1,reduceCtorEq];exact aI (cB _)
end
noncomputable section
theorem LQ {neg:Bool} {n:List Nat} (h:decide (pG neg n < 0)=false):(eQ neg n).1=false:=by
 have h1:=of_decide_eq_false h;unfold pG at h1;unfold eQ
 cases hz:(aV n==[]) with
 | true=>cases neg<;>rfl
 | false =>
  rw [hz] at h1
  cases neg with
  | true=>exact absurd (show (-1:Int) < 0 by decide) h1
  | false=>rfl
theorem c84 {B:Bk} (hB:BG B) (hl:B.length<=20000) (neg:Bool) (n:List Nat) (hn:dB n) (hnl:n.length<=2 ^ 20):aU mEv 84 [bZ B,oY neg n] (iU (sJ B neg n)):=by
 refine bC (aQq _ _ _ ?_);unfold f84;refine ⟨rfl,?_⟩;simp only [kP,wx,wy,Z0,Z1,reduceCtorEq];refine aM (c64 neg n hn hnl) (by simp [dA]) ?_;unfold sJ
 cases h:decide (pG neg n < 0) with
 | true=>simp only [h,wx,wy,Z0,Z1,reduceCtorEq];exact aI (cB ((0,1),B))
 | false =>
  simp only [h,wz1,wx,wy,Z0,Z1,reduceCtorEq];refine aM (bEi n hn hnl) (by simp [cR]) ?_;have hm:(eQ neg n).1=false:=LQ h;have hm2:(eQ neg n).2=aV n:=rfl;have hb1:eE 24 [(1,iV (aV n))]=some (oY false (aV n)):=by rw [bAo];rfl
  have hb:eE 101 [(0,.int .i64 4),(1,.int .i64 2),(4,oY false (aV n))]=some (pB ⟨4,2,[],[],false,aV n,[]⟩ .nils (iV (aV n)) .nils):=by rw [sG];rfl
  simp only [hb1,hb,wx,wy,Z0,Z1,reduceCtorEq];rw [hm,hm2];have hnn:=GZ n;refine wA hB ⟨⟨(by decide:(0:Int)<=4),(by decide:(4:Int) < 2 ^ 60)⟩,.inr (.inl rfl),fun i h=>(by cases h),hO _,rfl,cO hn,FN (lY n) hnl,hnn,fun r h=>(by cases h),hO _⟩ hl (jX _ cT (.inl rfl) cT) ?_;simp only [EB,ED,DW,wx,wy,Z0,Z1,reduceCtorEq];exact aI (cB _)
theorem c85 {B:Bk} (hB:BG B) (hl:B.length<=20000) (t:List (Int×Int)) (ht:t.length<=2 ^ 40):aU mEv 85 [bZ B,.sl false (t.map cP)] (iU (FH B t)):=by
 refine bC (aQr _ _ _ ?_);unfold f85;refine aM (c66 t ht) (by simp [fH]) ?_;unfold FH
 cases h:xE t with
 | false=>simp only [h,wx,wy,Z0,Z1,reduceCtorEq];exact aI (cB ((0,1),B))
 | true =>
  obtain ⟨m1,m2,m3⟩:=VS h;have hb:eE 101 [(0,.int .i64 5),(1,.int .i64 3),(5,.sl false (t.map cP))]=some (pB ⟨5,3,[],[],false,[],t⟩ .nils .nils (.sl false (t.map cP))):=by rw [sG];rfl
  simp only [h,hb,wx,wy,Z0,Z1,reduceCtorEq];refine wA hB ⟨⟨(by decide:(0:Int)<=5),(by decide:(5:Int) < 2 ^ 60)⟩,.inr (.inr rfl),fun i h=>(by cases h),hO _,rfl,fun x h=>(by cases h),hO _,rfl,m1,m3⟩ hl (jX _ cT cT (.inl rfl)) ?_;simp only [EB,ED,DW,wx,wy,Z0,Z1,reduceCtorEq];exact aI (cB _)
def bLr:List (List UInt8×List UInt8):=[([],[]),([],[]),([],[]),([],[]),([],[]),([],[]),([66],[66]),([66,66,43],[66]),([66,66,43],[66]),([66,66,43],[66]),([66,66,43],[66]),([97,61,43],[66]),([97,61,43],[66]),([66,97,61],[61]),([73],[73]),([73,73,43],[73]),([73,73,43],[73]),([73,73,43],[73]),([73,73,43],[66]),([73,73,43],[66]),([73,73,43],[66]),([73,73,43],[66]),([83,83,43],[83]),([83],[73]),([83,73],[83]),([83,73,73],[83]),([83,83],[66]),([83,83],[66]),([83,83],[66]),([83,83,73],[73]),([83,83,83],[83])]
def zR (k:Nat):List UInt8×List UInt8:=bLr.getD k ([],[])
def eI (op:Int):List UInt8×List UInt8:=bif decide (0<=op)&&decide (op < 31) then zR op.toNat else ([],[])
theorem t138:(List.range 31).map (fun c:Nat=>iZ 138 [.int .i64 (c:Int)])=(List.range 31).map fun c:Nat=>some (.tup [.str (zR c).1,.str (zR c).2]):=by kernel_rfl
theorem bMc (op:Int):aU mEv 138 [.int .i64 op] (.tup [.str (eI op).1,.str (eI op).2]):=by
 by_cases h:0<=op/\op < 31
 ·obtain ⟨k,rfl⟩:∃ k:Nat,op=(k:Int):=⟨op.toNat,by omega⟩;have:=lW (a:=fun c:Nat=>.int .i64 (c:Int)) t138 (c:=k) (by omega);have e:eI (k:Int)=zR k:=by simp only [eI,decide_eq_true h.1,decide_eq_true h.2,gA,cond_true,Int.toNat_natCast]
  rw [e];exact this
 ·have e:eI op=([],[]):=by
   simp only [eI];by_cases h0:0<=op
   ·have h1:¬ op < 31:=fun h1=>h ⟨h0,h1⟩;simp [h1]
   ·simp [h0]
  rw [e];have hk:∀ k:Int,0<=k->k<=30->(op==k)=false:=fun k h0 h1=>by simp;omega
  refine bI rfl (aHf _ _ ?_);unfold f138;simp only [jD,xQ,JV,EX,xL,BW,hk 6 (by decide) (by decide),hk 7 (by decide) (by decide),hk 8 (by decide) (by decide),hk 9 (by decide) (by decide),hk 10 (by decide) (by decide),hk 11 (by decide) (by decide),hk 12 (by decide) (by decide),hk 13 (by decide) (by decide),hk 14 (by decide) (by decide),hk 15 (by decide) (by decide),hk 16 (by decide) (by decide),hk 17 (by decide) (by decide),hk 18 (by decide) (by decide),hk 19 (by decide) (by decide),hk 20 (by decide) (by decide),hk 21 (by decide) (by decide),hk 22 (by decide) (by decide),hk 23 (by decide) (by decide),hk 24 (by decide) (by decide),hk 25 (by decide) (by decide),hk 26 (by decide) (by decide),hk 27 (by decide) (by decide),hk 28 (by decide) (by decide),hk 29 (by decide) (by decide),hk 30 (by decide) (by decide),wx,wy,Z0,Z1,reduceCtorEq]
def VI (k:Nat):UInt8:=([63,66,73,83]:List UInt8).getD k 0
theorem t139:(List.range 4).map (fun c:Nat=>iZ 139 [.int .i64 (c:Int)])=(List.range 4).map fun c:Nat=>some (.int .u8 (VI c).toNat):=by kernel_rfl
def cG (so:Int):UInt8:=VI so.toNat
theorem bPf {so:Int} (h:so=1\/so=2\/so=3):aU mEv 139 [.int .i64 so] (.int .u8 (cG so).toNat):=by obtain ⟨k,rfl⟩:∃ k:Nat,so=(k:Int):=⟨so.toNat,by omega⟩;exact lW (a:=fun c:Nat=>.int .i64 (c:Int)) t139 (c:=k) (by omega)
theorem t141:(List.range 4).map (fun c:Nat=>iZ 141 [.int .u8 (VI (c+1)).toNat])=(List.range 4).map fun c:Nat=>some (.int .i64 (if c < 3 then (c:Int)+1 else 3)):=by kernel_rfl
theorem bOl {so:Int} (h:so=1\/so=2\/so=3):aU mEv 141 [.int .u8 (cG so).toNat] (.int .i64 so):=by
 obtain ⟨k,rfl⟩:∃ k:Nat,so=(k:Int):=⟨so.toNat,by omega⟩;have:=lW (a:=fun c:Nat=>.int .u8 (VI (c+1)).toNat) t141 (c:=k - 1) (by omega);have e1:k - 1+1=k:=by omega
 have e2:(if k - 1 < 3 then ((k - 1:Nat):Int)+1 else 3)=(k:Int):=by rw [if_pos (by omega)];omega
 rw [e1,e2] at this;exact this
theorem wZ {B:Bk} {i:Int} {n:Nd} (h:iT B i=some n):cA 7 (bZ B) (.int .i64 i)=some (.pel n.av.cells 0):=by
 simp only [iT] at h
 cases hc:decide (i < 0) with
 | true=>rw [hc] at h;cases h
 | false =>rw [hc] at h;have hc:=of_decide_eq_false hc;have:=bP yK false (l:=B) (i:=i.toNat) (show B[i.toNat]?=some n from h) .i64;rw [show ((i.toNat:Nat):Int)=i by omega] at this;exact this
theorem bLy {B:Bk} (hw:Wf B) {i:Int} (hi:jN B i):aU mEv 140 [bZ B,.int .i64 i] (.bool (dF B i)):=by
 obtain ⟨n,hn⟩:=pY hi;have hz:(AV.agg [.int .i64 0,.int .i64 0,.nils,.str [],.bool false,.nils,.nils]).cells=[.int .i64 0,.int .i64 0,.nils,.str [],.bool false,.nils,.nils]:=rfl;refine bI rfl (aDc _ _ _ ?_);unfold f140;simp only [wZ hn,rG,HO,hz,wx,wy,Z0,Z1,reduceCtorEq];rw [bJ (z:=7) (c:=[.int .i64 0,.int .i64 0,.nils,.str [],.bool false,.nils,.nils]) (e:=101) (ex:=true) (v:=n.av) (by rw [adv_h,aG]) rfl rfl rfl]
 have e:dF B i=(n.op==4||(n.op==14&&match n.a with
  | i::_=>LN B i==4
  | []=>false)):=by simp only [dF,hn];rfl
 rw [e];simp only [Bnd_some,aG,nd0,wx,wy,Z0,Z1,reduceCtorEq]
 cases h4:(n.op==4) with
 | true=>simp only [h4,m033,wx,wy,Z0,Z1,reduceCtorEq]
 | false =>
 cases h14:(n.op==14) with
 | false=>simp only [h4,h14,nd0,m035,Bool.or_self,wx,wy,Z0,Z1,reduceCtorEq]
 | true =>
  have h1:n.op=14:=by simpa using h14
  obtain ⟨w1,w2⟩:=hw.2 n (lR hn)
  cases ha:n.a with
  | nil=>exact absurd ha (w2 h1)
  | cons j a =>
   obtain ⟨m,hm⟩:=pY (w1 j (by rw [ha];exact m007 ..));have hix:cA 1 (.sl false (n.a.map dH)) (.int .i64 0)=some (.pel (dH j).cells 0):=bP jT false (l:=n.a) (i:=0) (a:=j) (by rw [ha];rfl) .i64;have hop:LN B j=m.op:=by simp only [LN,hm]
   simp only [h4,h14,nd0,QC,RJ,hix,wZ hm,hop,m031,m026,wx,wy,Z0,Z1,reduceCtorEq]
end
noncomputable section
def eP (w:List UInt8) (i:Nat):UInt8:=w.getD (min i (w.length - 1)) 0
def PN (B:Bk) (w:List UInt8):Nat->UInt8->Nat->List Int->Option (UInt8×Nat)
 | _,last,free,[]=>some (last,free)
 | i,last,free,id::a =>
  bif ((eP w i != 97&&eP w i != 61)&&cG (gH B id) != eP w i)||(eP w i==61&&cG (gH B id) != last) then none
  else PN B w (i+1) (cG (gH B id)) (bif dF B id then free else free+1) a
def okW (x:sB) (w:List UInt8) (i:Nat):Bool :=
 (x.sort i==-2&&eP w i==97)||(x.sort i==-1&&eP w i==61)||((x.sort i==1||(x.sort i==2||x.sort i==3))&&eP w i==cG (x.sort i))
def aNk (x:sB) (q:List UInt8×List UInt8):Bool :=
 let more:=q.1.getD (q.1.length - 1) 0==43
 let w:=bif more then q.1.take (q.1.length - 1) else q.1
 q.1 != []&&x.more==more&&x.parts==(w.length:Int)&&decide (1<=w.length)&&decide (w.length<=3)&&okW x w 0&&okW x w 1&&okW x w 2 &&
  ((x.own==-1&&q.2==[61])||((x.own==1||(x.own==2||x.own==3))&&q.2==[cG x.own]))
theorem UC:((List.range 25).all fun k=>match gE[k+6]? with
  | some x=>aNk x (zR (k+6))
  | none=>false)=true:=by decide
theorem UA:((List.range 6).all fun k=>(match gE[k]? with
  | some x=>x.parts==0
  | none=>false)&&(zR k).1==[])=true:=by decide
theorem aLo (w:List UInt8) (i:Nat) (h:w.length<=3):eP w i=eP w (min i 2):=by unfold eP;congr 1;omega
theorem aRj (x:sB) (i:Nat):x.sort i=x.sort (min i 2):=by
 match i with
 | 0=>rfl
 | 1=>rfl
 | n+2=>rw [show min (n+2) 2=2 by omega];rfl
theorem aSc {x:sB} {w:List UInt8} (hl:w.length<=3) (h0:okW x w 0=true) (h1:okW x w 1=true) (h2:okW x w 2=true) (i:Nat):okW x w i=true:=by
 have h:okW x w (min i 2)=true:=by
  have:min i 2=0\/min i 2=1\/min i 2=2:=by omega
  rcases this with h | h | h<;>rw [h]<;>assumption
 unfold okW at h ⊢;rw [aLo w i hl,aRj x i];exact h
def in4 (n:Int):Prop:=n=0\/n=1\/n=2\/n=3
theorem LH {a b:Int} (ha:in4 a) (hb:in4 b):(cG a != cG b)=(a != b):=by rcases ha with rfl | rfl | rfl | rfl<;>rcases hb with rfl | rfl | rfl | rfl<;>rfl
theorem ST {a:Int} (ha:in4 a):cG a≠97/\cG a≠61:=by rcases ha with rfl | rfl | rfl | rfl<;>decide
theorem aFk {B:Bk} (hB:BG B) {x:sB} {w:List UInt8} (hok:∀ i,okW x w i=true):∀ (a:List Int) (i:Nat) (last:Int) (free:Nat),(∀ j∈a,jN B j)->in4 last ->
  (PN B w i (cG last) free a=none/\bK B x i last a=0)\/(∃ l',in4 l'/\(a≠[]->l'≠0)/\PN B w i (cG last) free a=some (cG l',free+dK B a)/\(a=[]->l'=last)/\bK B x i last a=bif x.own==-1 then l' else x.own):=by
 intro a
 induction a with
 | nil =>intro i last free _ hl;exact .inr ⟨last,hl,fun h=>absurd rfl h,rfl,fun _=>rfl,rfl⟩
 | cons id a ih =>
  intro i last free ha hl;have h3:=EZ hB (ha id (m007 ..));have h4:in4 (gH B id):=.inr h3;have ih2:=ih (i+1) (gH B id) (bif dF B id then free else free+1) (fun j hj=>ha j (m005 _ hj)) h4;have hf:(bif dF B id then free else free+1)+dK B a=free+dK B (id::a):=by simp only [dK];cases dF B id<;>simp only [cond_true,cond_false]<;>omega
  rw [hf] at ih2
  have key:∀ c:Bool,(((eP w i != 97&&eP w i != 61)&&cG (gH B id) != eP w i)||(eP w i==61&&cG (gH B id) != cG last))=c->(((bif x.sort i==-1 then last else x.sort i) != -2&&(bif x.sort i==-1 then last else x.sort i) != gH B id))=c->(PN B w i (cG last) free (id::a)=none/\bK B x i last (id::a)=0)\/(∃ l',in4 l'/\(id::a≠[]->l'≠0)/\PN B w i (cG last) free (id::a)=some (cG l',free+dK B (id::a))/\(id::a=[]->l'=last)/\bK B x i last (id::a)=bif x.own==-1 then l' else x.own):=by
   intro c e1 e2;simp only [PN,bK,e1,e2]
   cases c with
   | true=>exact .inl ⟨rfl,rfl⟩
   | false =>
    simp only [cond_false];rcases ih2 with ⟨r1,r2⟩ | ⟨l',r1,r2,r3,r4,r5⟩
    ·exact .inl ⟨r1,r2⟩
    ·refine .inr ⟨l',r1,fun _=>?_,r3,fun h=>(by cases h),r5⟩;by_cases hn:a=[]
     ·rw [r4 hn];rcases h3 with h | h | h<;>rw [h]<;>decide
     ·exact r2 hn
  have h:=hok i;simp only [okW,uN,bN,beq_iff_eq] at h;have hlast:last != (-2:Int):=by rcases hl with rfl | rfl | rfl | rfl<;>rfl
  rcases h with (⟨s1,s2⟩ | ⟨s1,s2⟩) | ⟨s1,s2⟩
  ·refine key false ?_ ?_
   ·rw [s2];simp
   ·rw [s1];rfl
  ·refine key (gH B id != last) ?_ ?_
   ·rw [s2,LH h4 hl];simp
   ·rw [s1];simp only [beq_self_eq_true,cond_true,hlast,m031];exact bne_comm
  ·have hs:in4 (x.sort i):=.inr s1;have s3:(x.sort i==-1)=false/\(x.sort i != -2)=true:=by rcases s1 with h | h | h<;>rw [h]<;>exact ⟨rfl,rfl⟩
   obtain ⟨n1,n2⟩:=ST hs;refine key (gH B id != x.sort i) ?_ ?_
   ·rw [s2,LH h4 hs];have e1:(cG (x.sort i) != 97)=true:=by simpa using n1
    have e2:(cG (x.sort i) != 61)=true:=by simpa using n2
    have e3:(cG (x.sort i)==61)=false:=by simpa using n2
    rw [e1,e2,e3];simp
   ·rw [s3.1,cond_false,s3.2,m031];exact bne_comm
end
noncomputable section
structure aSl (op:Int) (x:sB) (w:List UInt8):Prop where
 h0:decide (op < 0)=false
 h1:gE[op.toNat]?=some x
 rng:6<=op/\op < 31
 ne:((eI op).1==[])=false
 last:∃ c,(eI op).1[(eI op).1.length - 1]?=some c/\(c==43)=x.more
 ww:w=bif x.more then (eI op).1.take ((eI op).1.length - 1) else (eI op).1
 parts:x.parts=(w.length:Int)
 l1:1<=w.length
 l3:w.length<=3
 ok:∀ i,okW x w i=true
 own:(x.own=-1/\(eI op).2=[61])\/((x.own=1\/x.own=2\/x.own=3)/\(eI op).2=[cG x.own])
theorem aWq {op:Int} (h:((eI op).1==[])=false):∃ x w,aSl op x w:=by
 have hr:0<=op/\op < 31:=by
  unfold eI at h;by_cases h0:0<=op
  ·by_cases h1:op < 31
   ·exact ⟨h0,h1⟩
   ·simp [h1] at h
  ·simp [h0] at h
 have e:eI op=zR op.toNat:=by simp only [eI,decide_eq_true hr.1,decide_eq_true hr.2,gA,cond_true]
 have h6:6<=op:=by apply Decidable.byContradiction;intro hn;have:=m032.1 UA op.toNat (by simp;omega);simp only [bN] at this;rw [e,this.2] at h;cases h
 have:=m032.1 UC (op.toNat - 6) (by simp;omega);rw [show op.toNat - 6+6=op.toNat by omega] at this
 cases hx:gE[op.toNat]? with
 | none=>rw [hx] at this;cases this
 | some x =>
  rw [hx] at this;simp only [aNk,bN,decide_eq_true_eq,beq_iff_eq,uN] at this;obtain ⟨⟨⟨⟨⟨⟨⟨⟨a1,a2⟩,a3⟩,a4⟩,a5⟩,a6⟩,a7⟩,a8⟩,a9⟩:=this;have hne:(zR op.toNat).1≠[]:=by simpa using a1
  have hlen:=List.length_pos_iff.2 hne;refine ⟨x,_,⟨by simp;omega,hx,⟨h6,hr.2⟩,h,?_,rfl,?_,?_,?_,?_,?_⟩⟩
  ·rw [e];refine ⟨(zR op.toNat).1[(zR op.toNat).1.length - 1],m004 (by omega),?_⟩;rw [a2,List.getD_eq_getElem?_getD,m004 (by omega)];rfl
  ·rw [e,a2];exact a3
  ·rw [e,a2];exact a4
  ·rw [e,a2];exact a5
  ·rw [e,a2];exact aSc a5 a6 a7 a8
  ·rw [e];exact a9
theorem aKf {B:Bk} {op:Int} (a:List Int) (h:((eI op).1==[])=true):gU B op a=((0,101),B):=by
 unfold gU
 cases h0:decide (op < 0) with
 | true=>rfl
 | false =>
  have h0:=of_decide_eq_false h0
  cases hx:gE[op.toNat]? with
  | none=>rfl
  | some x =>
   have hlt:=(m012.1 hx).1;have h31:gE.length=31:=rfl;have e:eI op=zR op.toNat:=by simp only [eI,decide_eq_true (show 0<=op by omega),decide_eq_true (show op < 31 by omega),gA,cond_true]
   by_cases h6:op < 6
   ·have:=m032.1 UA op.toNat (by simp;omega);rw [hx] at this;simp only [bN] at this;simp only [this.1,cond_true,cond_false]
   ·have:=m032.1 UC (op.toNat - 6) (by simp;omega);rw [show op.toNat - 6+6=op.toNat by omega,hx] at this;simp only [aNk,bN] at this;have h1:=this.1.1.1.1.1.1.1.1;rw [e] at h;have h2:(zR op.toNat).1=[]:=by simpa using h
    rw [h2] at h1;cases h1
theorem aMu (x y:UInt8):((x.toNat:Int) != (y.toNat:Int))=(x != y):=by rw [Bool.eq_iff_iff];simp only [bne_iff_ne,ne_eq];refine not_congr ⟨fun h=>UInt8.toNat_inj.1 (by omega),fun h=>by rw [h]⟩
theorem aWy (x y:UInt8):((x.toNat:Int)==(y.toNat:Int))=(x==y):=by rw [Bool.eq_iff_iff];simp only [beq_iff_eq];exact ⟨fun h=>UInt8.toNat_inj.1 (by omega),fun h=>by rw [h]⟩
theorem bJl (x:UInt8):((x.toNat:Int) != 97)=(x != 97):=aMu x 97
theorem bAs (x:UInt8):((x.toNat:Int) != 61)=(x != 61):=aMu x 61
theorem bFv (x:UInt8):((x.toNat:Int)==61)=!(x != 61):=by rw [show ((x.toNat:Int)==61)=(x==61) from aWy x 61];simp [bne]
theorem bHd (x:UInt8):((x.toNat:Int)==43)=(x==43):=aWy x 43
section
variable {B:Bk} {op:Int} {a:List Int} {x:sB} {w:List UInt8}
theorem aWn (r:aSl op x w):gU B op a=(bif decide ((a.length:Int) < x.parts)||((decide ((a.length:Int) > x.parts)&&!x.more)||(decide ((a.length:Int) > 200)||a.any (kA B))) then ((0,1),B) else
  bif bK B x 0 0 a==0 then ((0,90),B) else
  bif op==17&&!decide (dK B a<=1) then ((0,101),B) else dU B ⟨op,bK B x 0 0 a,a,[],false,[],[]⟩):=by
 have hp:(x.parts==0)=false:=by rw [r.parts,beq_eq_false_iff_ne];have:=r.l1;omega
 unfold gU;rw [r.h0,r.h1];simp only [hp,cond_false]
theorem aOs {s:St} {n:Nd} {xa:AV} {ids:List Nat} (h1:n.num=[]) (h2:n.str=[]) (hx:xa.closed=false) (h:pur mEv.P s 11 xa=some (.sl false (n.a.map dH),ids)):pur mEv.P s 12 (pB n xa .nils .nils)=some (n.av,ids):=by
 have hc:(pB n xa .nils .nils).closed=false:=by simp [pB,AV.closed,aW]
 unfold pur;rw [hc,if_neg (by simp)];show (dJ (pur mEv.P s 11) [.int .i64 n.op,.int .i64 n.so,xa,.str n.nm,.bool n.neg,.nils,.nils]).map (fun r=>(AV.agg r.1,r.2))=_;have q:∀ v:AV,v.closed=true->pur mEv.P s 11 v=some (v,[]):=fun v hv=>bE 11 hv;have qn:pur mEv.P s 11 .nils=some (.sl false [],[]):=rfl;simp only [dJ,q (.int .i64 n.op) rfl,q (.int .i64 n.so) rfl,q (.str n.nm) rfl,q (.bool n.neg) rfl,qn,h,m011,List.nil_append,Option.map_some];simp only [Nd.av,h1,h2,iV,List.map_nil]
theorem t86 (hB:BG B) (hl:B.length<=20000) (ha:∀ i∈a,0<=i/\i < 2 ^ 60) (hal:a.length<=200) (hne:a≠[]) (hop:0<=op/\op < 31) {so:Int} (hso:so=1\/so=2\/so=3) (hap:gU B op a=dU B ⟨op,so,a,[],false,[],[]⟩) (S:St) (fr:aK S) (i0:Nat) :
  aE mEv 141 [.int .u8 (cG so).toNat] S fun t157 s3=>aA (bt .append #[72,72] [.nils,.sl false (a.map dH)] i0 s3) fun r159=>aA (eE 101 [(0,.int .i64 op),(1,t157),(2,r159.1)]) fun t160=>aE mEv 136 [bZ B,t160] r159.2 fun t161 s4=>aA (aQ t161 0) fun t162=>aA (aQ t161 1) fun t163=>aA (aQ t161 2) fun t164=>cU (iU (gU B op a)) (.tup [t162,t163,t164]) s4:=by
 refine aM (bOl hso) (by simp [AV.closed]) ?_;have h1:=DJ (s:=S) (l:=[]) (k:=a) JB jT fA hne (by simp;omega) (by simp;omega) false i0;rw [List.nil_append,List.length_nil,m023] at h1;have gw:Gw 3 1 0 ((S.drop (aS .nils)).set i0 (some (.cells ((a.map dH).flatMap AV.cells) 3 false true))) (.ref i0 0 a.length none 3) (a.map dH):=tV (n:=0) jT rfl;obtain ⟨ids,p1,p2⟩:=nM JB gw (fun _ _=>rfl) (fun _ _=>rfl) 10;have hb:eE 101 [(0,.int .i64 op),(1,.int .i64 so),(2,.ref i0 0 a.length none 3)]=some (pB ⟨op,so,a,[],false,[],[]⟩ (.ref i0 0 a.length none 3) .nils .nils):=by rw [sG];rfl
 have hn:KC ⟨op,so,a,[],false,[],[]⟩:=⟨⟨hop.1,show op < 2 ^ 60 by omega⟩,hso,ha,hal,rfl,fun x h=>(by cases h),hO _,rfl,fun r h=>(by cases h),hO _⟩;have hp:=aOs (n:=⟨op,so,a,[],false,[],[]⟩) (xa:=.ref i0 0 a.length none 3) rfl rfl rfl p1;simp only [h1,hb,Bnd_some];rw [hap];refine eR (ids:=ids) (by simp only [dJ,bE 12 (eO B),hp,List.nil_append,m011]) (bIi hB hn hl) ?_;simp only [EB,ED,DW,Bnd_some];exact aI (cB _)
theorem bQb (hB:BG B) (hw:Wf B) (r:aSl op x w) (ha:∀ i∈a,jN B i) (hal:a.length<=200) (hne:a≠[]) {l':Int} (hl4:in4 l') (hln:l'≠0) (hs:bK B x 0 0 a=bif x.own==-1 then l' else x.own)
  (hap:gU B op a=bif bK B x 0 0 a==0 then ((0,90),B) else bif op==17&&!decide (dK B a<=1) then ((0,101),B) else dU B ⟨op,bK B x 0 0 a,a,[],false,[],[]⟩) (s:St) (fr:aK s) :
  yI (cU (iU (gU B op a))) (.int .i64 op) (.int .i64 (dK B a)) (bZ B) (.str (eI op).2) (.int .u8 (cG l').toNat) (.sl false (a.map dH)) s:=by
 have hl3:l'=1\/l'=2\/l'=3:=hl4.resolve_left hln
 have hso:bK B x 0 0 a=1\/bK B x 0 0 a=2\/bK B x 0 0 a=3:=by
  rw [hs];rcases r.own with ⟨h,_⟩ | ⟨h,_⟩
  ·rw [h];exact hl3
  ·rcases h with h | h | h<;>rw [h]<;>simp
 have hs0:(bK B x 0 0 a==0)=false:=by rcases hso with h | h | h<;>rw [h]<;>rfl
 rw [hs0,cond_false] at hap;have hfg:decide ((dK B a:Int) > 1)=!decide (dK B a<=1):=by rw [Bool.eq_iff_iff];simp;omega
 unfold yI;have er:(op==17&&!decide (dK B a<=1))=true->∀ s,cU (iU (gU B op a)) (.tup [bZ B,.int .i64 0,.int .i64 101]) s:=fun h s=>by rw [hap,h];exact aI (cB ((0,101),B))
 have hop:0<=op/\op < 31:=⟨by have:=r.rng;omega,r.rng.2⟩;have has:=MN hw ha
 have go:(op==17&&!decide (dK B a<=1))=false->∀ (S1 S2:St) (i1 i2:Nat),aK S1->aK S2->if ((eI op).2==[61])=true then
   aE mEv 141 [.int .u8 (cG l').toNat] S1 fun t157 s3=>aA (bt .append #[72,72] [.nils,.sl false (a.map dH)] i1 s3) fun r159=>aA (eE 101 [(0,.int .i64 op),(1,t157),(2,r159.1)]) fun t160=>aE mEv 136 [bZ B,t160] r159.2 fun t161 s4=>aA (aQ t161 0) fun t162=>aA (aQ t161 1) fun t163=>aA (aQ t161 2) fun t164=>cU (iU (gU B op a)) (.tup [t162,t163,t164]) s4
   else aA (uK 9 (.str (eI op).2) (.int .i64 0)) fun t168=>aE mEv 141 [t168] S2 fun t157 s3=>aA (bt .append #[72,72] [.nils,.sl false (a.map dH)] i2 s3) fun r159=>aA (eE 101 [(0,.int .i64 op),(1,t157),(2,r159.1)]) fun t160=>aE mEv 136 [bZ B,t160] r159.2 fun t161 s4=>aA (aQ t161 0) fun t162=>aA (aQ t161 1) fun t163=>aA (aQ t161 2) fun t164=>cU (iU (gU B op a)) (.tup [t162,t163,t164]) s4:=by
  intro h S1 S2 i1 i2 f1 f2;rw [h,cond_false] at hap;rw [hs] at hap;rcases r.own with ⟨h1,h2⟩ | ⟨h1,h2⟩
  ·have e61:(([61]:List UInt8)==[61])=true:=rfl;rw [h2,e61,if_pos rfl];rw [h1] at hap;exact t86 hB (by have:=hw.1;omega) has hal hne hop hl3 hap S1 f1 i1
  ·have hn:((eI op).2==[61])=false:=by
    rw [h2];have:=(ST (.inr h1)).2;simp [this]
   have h3:(x.own==-1)=false:=by rcases h1 with h | h | h<;>rw [h]<;>rfl
   rw [h3,cond_false] at hap;rw [hn,if_neg (by simp),h2];have hix:uK 9 (.str [cG x.own]) (.int .i64 0)=some (.int .u8 (cG x.own).toNat):=rW (i:=0) .i64 rfl;rw [hix,Bnd_some];exact t86 hB (by have:=hw.1;omega) has hal hne hop h1 hap S2 f2 i2
 cases h17:(op==17) with
 | true =>
  cases hf:!decide (dK B a<=1) with
  | true =>simp only [h17,hfg,hf,wx,wy,Z0,Z1,reduceCtorEq];exact er (by rw [h17,hf];rfl) _
  | false =>simp only [h17,hfg,hf,wx,wy,Z0,Z1,reduceCtorEq];exact go (by rw [h17,hf];rfl) _ _ _ _ fr.adv fr.adv
 | false =>simp only [h17,wx,wy,Z0,Z1,reduceCtorEq];exact go (by rw [h17];rfl) _ _ _ _ fr.adv fr.adv
theorem l86 (hB:BG B) (hw:Wf B) (r:aSl op x w) (ha:∀ i∈a,jN B i) (hal:a.length<=200) {Q:aC} (q2:List UInt8)
  (h90:PN B w 0 (cG 0) 0 a=none->∀ s,Q (.tup [bZ B,.int .i64 0,.int .i64 90]) s)
  (hgo:∀ c f,PN B w 0 (cG 0) 0 a=some (c,f)->∀ s,aK s->yI Q (.int .i64 op) (.int .i64 f) (bZ B) (.str q2) (.int .u8 c.toNat) (.sl false (a.map dH)) s) :
  ∀ (m i:Nat) (last:Int) (free:Nat) (s:St),i+m=a.length->free<=i->in4 last->aK s->PN B w 0 (cG 0) 0 a=PN B w i (cG last) free (a.drop i) ->
   lL Q (m+1) (bZ B) (.int .i64 op) (.sl false (a.map dH)) (.str w) (.str q2) (.int .u8 (cG last).toNat) (.int .i64 free) (.int .i64 i) s:=by
 intro m
 induction m with
 | zero =>
  intro i last free s hi hf hl fr he;show BD Q (lL Q 0) _ _ _ _ _ _ _ _ s;have c1:decide ((i:Int) < (a.length:Int))=false:=by simp;omega
  rw [m037 (by omega)] at he;simp only [BD,dX,m002,c1,wx,wy,Z0,Z1,reduceCtorEq];exact hgo _ _ he _ fr.adv
 | succ m ih =>
  intro i last free s hi hf hl fr he;show BD Q (lL Q (m+1)) _ _ _ _ _ _ _ _ s;have c1:decide ((i:Int) < (a.length:Int))=true:=by simp;omega
  obtain ⟨id,hid⟩:∃ id,a[i]?=some id:=⟨_,m004 (by omega)⟩;have hin:=ha id (m017 hid);obtain ⟨nd,hnd⟩:=pY hin;have hix:=bP jT false (l:=a) hid .i64;have h3:=EZ hB hin;have hsn:gH B id=nd.so:=by simp only [gH,hnd]
  have h4:in4 (gH B id):=.inr h3;have wl:=r.l1;have wl3:=r.l3;rw [cK a i id hid] at he;simp only [PN] at he;have hlw:∀ (id:Nat) (s:St),bt .len #[9] [.str w] id s=some (.int .i64 w.length,s):=ME w;have hwk:w[min i (w.length - 1)]?=some (eP w i):=by unfold eP;rw [List.getD_eq_getElem?_getD,m004 (by omega)];rfl
  have hixw:=rW .i64 hwk;have nxt:∀ (f':Nat) (s':St),f'<=i+1->aK s'->PN B w 0 (cG 0) 0 a=PN B w (i+1) (cG (gH B id)) f' (a.drop (i+1))->vJ Q (lL Q (m+1)) (.int .i64 i) (bZ B) (.int .i64 op) (.sl false (a.map dH)) (.str w) (.str q2) (.int .u8 (cG (gH B id)).toNat) (.int .i64 f') s':=fun f' s' h1 h2 h3=>by unfold vJ;simp only [wx,wy,Z0,Z1,reduceCtorEq];rw [cF i a.length (by omega) (by have:maxLen=9223372036854775807:=rfl;omega)];exact ih (i+1) _ f' _ (by omega) h1 h4 h2.adv h3
  have j5:∀ s':St,aK s'->OQ Q (lL Q (m+1)) (bZ B) (.sl false (a.map dH)) (.int .i64 i) (.str w) (.int .i64 ((min i (w.length - 1):Nat):Int)) (.int .u8 (cG last).toNat) (.int .i64 free) (.int .i64 op) (.str q2) s':=by
   intro s' fr';unfold OQ;simp only [hix,RJ,wZ hnd,nd1,wx,wy,Z0,Z1,reduceCtorEq];refine aM (bPf (hsn ▸ h3)) (by simp [AV.closed]) ?_;rw [<- hsn]
   have fin:∀ s',aK s'->PN B w 0 (cG 0) 0 a=PN B w (i+1) (cG (gH B id)) (bif dF B id then free else free+1) (a.drop (i+1))->aE mEv 140 [bZ B,.int .i64 id] s' fun t140 s20=>aA (un .not t140) fun t142=>aP t142 (vJ Q (lL Q (m+1)) (.int .i64 i) (bZ B) (.int .i64 op) (.sl false (a.map dH)) (.str w) (.str q2) (.int .u8 (cG (gH B id)).toNat) (.int .i64 (IntKind.i64.wrap ((free:Int)+1))) (Ai.adv s20 5)) (vJ Q (lL Q (m+1)) (.int .i64 i) (bZ B) (.int .i64 op) (.sl false (a.map dH)) (.str w) (.str q2) (.int .u8 (cG (gH B id)).toNat) (.int .i64 free) (Ai.adv s20 2)):=by
    intro s' fr' he';refine aM (bLy hw hin) (by simp [AV.closed,eO]) ?_
    cases hn:dF B id with
    | true =>rw [hn,cond_true] at he';simp only [wx,wy,Z0,Z1,reduceCtorEq];exact nxt free _ (by omega) fr'.adv he'
    | false =>rw [hn,cond_false] at he';simp only [wx,wy,Z0,Z1,reduceCtorEq];rw [cF free a.length (by omega) (by have:maxLen=9223372036854775807:=rfl;omega)];exact nxt (free+1) _ (by omega) fr'.adv he'
   cases k1:(eP w i != 97)<;>cases k2:(eP w i != 61)<;>cases k3:(cG (gH B id) != eP w i)<;>cases k4:(cG (gH B id) != cG last) <;>
    simp only [k1,k2,k3,k4,show (eP w i==61)=!(eP w i != 61) by simp [bne],m025,m027,m059,m031,m071,m035,Bool.or_false,m026,m078,m033,gA,Bool.or_self,cond_true,cond_false] at he <;> simp only [hixw,hix,RJ,bJl,bAs,bFv,aMu,k1,k2,k3,k4,wx,wy,Z0,Z1,reduceCtorEq] <;>
    first | exact h90 he _ | exact fin _ fr'.adv he
  simp only [BD,dX,m002,c1,hlw,wx,wy,Z0,Z1,reduceCtorEq]
  cases c2:decide ((i:Int) >= (w.length:Int)) with
  | true =>
   have:=of_decide_eq_true c2;have e:IntKind.i64.wrap ((w.length:Int) - 1)=((min i (w.length - 1):Nat):Int):=by rw [IntWalk.i64_in _ (by omega)];omega
   simp only [c2,wx,wy,Z0,Z1,reduceCtorEq,e];exact j5 _ fr.adv
  | false =>
   have:=of_decide_eq_false c2;have e:((min i (w.length - 1):Nat):Int)=(i:Int):=by omega
   simp only [c2,wx,wy,Z0,Z1,reduceCtorEq];rw [e] at j5;exact j5 _ fr.adv
theorem bMu {Q:aC} (q2:List UInt8) (hal:a.length<=2 ^ 30) (hbad:a.any (kA B)=true->∀ s,Q (.tup [bZ B,.int .i64 0,.int .i64 1]) s) (hgo:a.any (kA B)=false->∀ s,aK s->HK Q (bZ B) (.int .i64 op) (.sl false (a.map dH)) (.str w) (.str q2) s) :
  ∀ (m i:Nat) (s:St),i+m=a.length->aK s->(a.any (kA B)=(a.drop i).any (kA B))->sO Q (m+1) (bZ B) (.int .i64 op) (.sl false (a.map dH)) (.str w) (.str q2) (.int .i64 i) s:=by
 intro m
 induction m with
 | zero =>
  intro i s hi fr he;show sS Q (sO Q 0) _ _ _ _ _ _ s;have c1:decide ((i:Int) < (a.length:Int))=false:=by simp;omega
  rw [m037 (by omega)] at he;simp only [sS,dX,m002,c1,wx,wy,Z0,Z1,reduceCtorEq];exact hgo he _ fr.adv
 | succ m ih =>
  intro i s hi fr he;show sS Q (sO Q (m+1)) _ _ _ _ _ _ s;have c1:decide ((i:Int) < (a.length:Int))=true:=by simp;omega
  obtain ⟨id,hid⟩:∃ id,a[i]?=some id:=⟨_,m004 (by omega)⟩;have hix:=bP jT false (l:=a) hid .i64;rw [cK a i id hid,List.any_cons] at he;have nxt:kA B id=false->∀ s',aK s'->SY Q (sO Q (m+1)) (.int .i64 i) (bZ B) (.int .i64 op) (.sl false (a.map dH)) (.str w) (.str q2) s':=fun h s' fr'=>by rw [h,m026] at he;unfold SY;simp only [wx,wy,Z0,Z1,reduceCtorEq];rw [cF i a.length (by omega) (by have:maxLen=9223372036854775807:=rfl;omega)];exact ih (i+1) _ (by omega) fr'.adv he
  cases k1:decide (id < 0) with
  | true =>
   have hb:kA B id=true:=by simp only [kA,k1,m033]
   rw [hb,m033] at he;simp only [sS,dX,m002,c1,hix,RJ,k1,wx,wy,Z0,Z1,reduceCtorEq];exact hbad he _
  | false =>
  cases k2:decide (id >= (B.length:Int)) with
  | true =>
   have hb:kA B id=true:=by simp only [kA,k2,m078]
   rw [hb,m033] at he;simp only [sS,dX,bZ,uQ,m002,c1,hix,RJ,k1,k2,wx,wy,Z0,Z1,reduceCtorEq];exact hbad he _
  | false =>
   have hb:kA B id=false:=by simp only [kA,k1,k2,Bool.or_self]
   simp only [sS,dX,bZ,uQ,m002,c1,hix,RJ,k1,k2,wx,wy,Z0,Z1,reduceCtorEq];exact nxt hb _ fr.adv
theorem c86 (hB:BG B) (hw:Wf B) (hal:a.length<=2 ^ 30):aU mEv 86 [bZ B,.int .i64 op,.sl false (a.map dH)] (iU (gU B op a)):=by
 refine bC (aPd _ _ _ _ ?_);unfold f86;refine aM (bMc op) (by simp [AV.closed]) ?_;have x0:aQ (.tup [.str (eI op).1,.str (eI op).2]) 0=some (.str (eI op).1):=rfl;have x1:aQ (.tup [.str (eI op).1,.str (eI op).2]) 1=some (.str (eI op).2):=rfl;simp only [x0,x1,wx,wy,Z0,Z1,reduceCtorEq]
 cases hne:(eI op).1==[] with
 | true =>simp only [hne,wx,wy,Z0,Z1,reduceCtorEq];rw [aKf a hne];exact aI (cB ((0,101),B))
 | false =>
 obtain ⟨x,w,r⟩:=aWq hne;obtain ⟨c,hc,hmore⟩:=r.last;have hap:=aWn (B:=B) (a:=a) r;have hq:∀ (id:Nat) (s:St),bt .len #[9] [.str (eI op).1] id s=some (.int .i64 (eI op).1.length,s):=ME _;have hlw:∀ (id:Nat) (s:St),bt .len #[9] [.str w] id s=some (.int .i64 w.length,s):=ME w;have l1:=r.l1;have l3:=r.l3;have hp:=r.parts;have hl1:1<=(eI op).1.length:=by apply Nat.one_le_iff_ne_zero.2;intro h;rw [m034 h] at hne;cases hne
 have hlq:(eI op).1.length<=4:=by
  have:=congrArg List.length r.ww
  cases hm:x.more with
  | true=>rw [hm] at this;simp only [cond_true,m020] at this;omega
  | false=>rw [hm] at this;simp only [cond_false] at this;omega
 have hwr:IntKind.i64.wrap (((eI op).1.length:Int) - 1)=(((eI op).1.length - 1:Nat):Int):=by rw [IntWalk.i64_in _ (by omega)];omega
 have hix:=rW .i64 hc;have er:∀ s,(iU (gU B op a)=iU ((0,1),B))->cU (iU (gU B op a)) (.tup [bZ B,.int .i64 0,.int .i64 1]) s:=fun s h=>by rw [h];exact aI (cB ((0,1),B))
 have j1:∀ s:St,aK s->KV (cU (iU (gU B op a))) (.sl false (a.map dH)) (.str w) (.bool x.more) (bZ B) (.int .i64 op) (.str (eI op).2) s:=by
  intro s fr;unfold KV;rw [hp] at hap
  have go:decide ((a.length:Int) < (w.length:Int))=false->(decide ((a.length:Int) > (w.length:Int))&&!x.more)=false->decide ((a.length:Int) > 200)=false->∀ s:St,aK s->sO (cU (iU (gU B op a))) (a.length+1) (bZ B) (.int .i64 op) (.sl false (a.map dH)) (.str w) (.str (eI op).2) (.int .i64 0) s:=fun g1 g2 g3 s fr=>by
   rw [g1,g2,g3] at hap;simp only [m026] at hap;have b1:=of_decide_eq_false g1;have b3:=of_decide_eq_false g3;refine bMu (i:=0) (eI op).2 hal (fun h s=>er s (by rw [hap,h];rfl)) (fun h s fr=>?_) a.length s (by omega) fr rfl;rw [h,cond_false] at hap;have ha:=AO.1 h
   have hne:a≠[]:=fun e=>by
    have h0:a.length=0:=by rw [e];rfl
    omega
   have key:=aFk (w:=w) hB r.ok a 0 0 0 ha (.inl rfl);unfold HK;refine ⟨a.length+1,l86 hB hw r ha (by omega) (eI op).2 (fun h s=>?_) (fun c f h s fr=>?_) a.length 0 0 0 _ (by omega) (bH 0) (.inl rfl) fr.adv rfl⟩
   ·rcases key with ⟨_,k2⟩ | ⟨l',_,_,k3,_⟩
    ·rw [k2] at hap;rw [hap];exact aI (cB ((0,90),B))
    ·rw [h] at k3;cases k3
   ·rcases key with ⟨k1,_⟩ | ⟨l',k1,k2,k3,_,k5⟩
    ·rw [h] at k1;cases k1
    ·rw [h] at k3;simp only [m000,m001,m023] at k3;obtain ⟨rfl,rfl⟩:=k3;exact bQb hB hw r ha (by omega) hne k1 (k2 hne) k5 hap s fr
  cases g1:decide ((a.length:Int) < (w.length:Int)) with
  | true =>simp only [dX,m002,hlw,g1,wx,wy,Z0,Z1,reduceCtorEq];exact er _ (by rw [hap,g1];rfl)
  | false =>
  cases g0:decide ((a.length:Int) > (w.length:Int)) with
  | true =>
   cases gm:x.more with
   | false =>simp only [dX,m002,hlw,g1,g0,gm,wx,wy,Z0,Z1,reduceCtorEq];exact er _ (by rw [hap,g1,g0,gm];rfl)
   | true =>
    cases g3:decide ((a.length:Int) > 200) with
    | true =>simp only [dX,m002,hlw,g1,g0,gm,g3,wx,wy,Z0,Z1,reduceCtorEq];exact er _ (by rw [hap,g1,g0,gm,g3];rfl)
    | false =>simp only [dX,m002,hlw,g1,g0,gm,g3,wx,wy,Z0,Z1,reduceCtorEq];exact ⟨_,go g1 (by rw [g0,gm];rfl) g3 _ fr.adv⟩
  | false =>
   cases g3:decide ((a.length:Int) > 200) with
   | true =>simp only [dX,m002,hlw,g1,g0,g3,wx,wy,Z0,Z1,reduceCtorEq];exact er _ (by rw [hap,g1,g0,g3];rfl)
   | false =>simp only [dX,m002,hlw,g1,g0,g3,wx,wy,Z0,Z1,reduceCtorEq];exact ⟨_,go g1 (by rw [g0];rfl) g3 _ fr.adv⟩
 simp only [hne,hq,hwr,hix,bHd,hmore,wx,wy,Z0,Z1,reduceCtorEq];have ww:=r.ww
 cases hm:x.more with
 | true =>rw [hm] at ww j1;simp only [cond_true] at ww;have hs:=fun s:St=>aZj (x:=(eI op).1) (n:=(eI op).1.length - 1) (s:=s) .i64 (by omega);simp only [hq,hwr,hs,wx,wy,Z0,Z1,reduceCtorEq];rw [<- ww];exact j1 _ bU.adv
 | false =>rw [hm] at ww j1;simp only [cond_false] at ww;simp only [wx,wy,Z0,Z1,reduceCtorEq];rw [<- ww];exact j1 _ bU.adv
end
end
noncomputable section
structure C9:Type where
 kind:Int
 op:Int
 so:Int
 a:List Int
 nm:List UInt8
 b:Bool
 neg:Bool
 num:List Nat
 t:List (Int×Int)
def C9.av (c:C9):AV:=.agg [.int .i64 c.kind,.int .i64 c.op,.int .i64 c.so,.sl false (c.a.map dH),.str c.nm,.bool c.b,.bool c.neg,iV c.num,.sl false (c.t.map cP)]
theorem aDg:FX C9.av 9:=⟨fun _=>rfl,fun _=>rfl⟩
theorem TP (c:C9):Ai.part 9 true 0 c.av.cells=some c.av:=rfl
theorem aWw (c:C9):Ai.part 2 true 6 c.av.cells=some (oY c.neg c.num):=rfl
theorem bJu (c:C9):c.av.cells[0]?=some (.int .i64 c.kind):=rfl
theorem bGr (c:C9):c.av.cells[1]?=some (.int .i64 c.op):=rfl
theorem bIe (c:C9):c.av.cells[2]?=some (.int .i64 c.so):=rfl
theorem bBv (c:C9):c.av.cells[3]?=some (.sl false (c.a.map dH)):=rfl
theorem aKn (c:C9):c.av.cells[4]?=some (.str c.nm):=rfl
theorem bJe (c:C9):c.av.cells[5]?=some (.bool c.b):=rfl
theorem aLy (c:C9):c.av.cells[7]?=some (iV c.num):=rfl
theorem WR (c:C9):c.av.cells[8]?=some (.sl false (c.t.map cP)):=rfl
theorem aBc (c:C9):c.av.closed=true:=by simp only [C9.av,AV.closed,aW,cR,m059];have h1:=sR c.a;have h2:=fH c.t;simp only [AV.closed] at h1 h2;simp only [h1,h2,gA]
def lM (l:List C9):AV:=.sl false (l.map C9.av)
theorem sW (l:List C9):(lM l).closed=true:=cJ _ _ fun _ _=>aBc _
def SL (c:C9):Bool:=decide ((c.a.length:Int) > 300)||(decide ((c.num.length:Int) > 20)||(decide ((c.t.length:Int) > 200)||decide ((c.nm.length:Int) > 200)))
def QQ (l:List C9) (most:Int):Bool:=!decide ((l.length:Int) > most)&&!l.any SL
theorem l76 (l:List C9) (hl:l.length<=maxLen) (Q:aC) (r:Bool) (hQ:∀ s,Q (.bool r) s):∀ (m i:Nat) (s:St),i+m=l.length->r=!(l.drop i).any SL->vZ Q (m+1) (lM l) (.int .i64 i) s:=by
 intro m
 induction m with
 | zero =>
  intro i s hi he;show AW Q (vZ Q 0) _ _ s;have c1:decide ((i:Int) < (l.length:Int))=false:=by simp;omega
  rw [m037 (by omega)] at he;have he:r=true:=he;subst he;simp only [AW,KP,lM,zH,m002,c1,wx,wy,Z0,Z1,reduceCtorEq];exact hQ _
 | succ m ih =>
  intro i s hi he;show AW Q (vZ Q (m+1)) _ _ s;have c1:decide ((i:Int) < (l.length:Int))=true:=by simp;omega
  obtain ⟨c,hc⟩:∃ c,l[i]?=some c:=⟨_,m004 (by omega)⟩;have hix:=bP aDg false (l:=l) hc .i64;have h9:∀ (id:Nat) (s:St),bt .len #[9] [.str c.nm] id s=some (.int .i64 c.nm.length,s):=ME c.nm;rw [cK l i c hc,List.any_cons] at he;have wH:SL c=true->∀ s,Q (.bool false) s:=fun h s=>by rw [h,m033] at he;have:=hQ s;rw [he] at this;exact this
  have nxt:SL c=false->∀ s,SQ Q (vZ Q (m+1)) (.int .i64 i) (lM l) s:=fun h s=>by rw [h,m026] at he;unfold SQ;simp only [wx,wy,Z0,Z1,reduceCtorEq];rw [cF i l.length (by omega) hl];exact ih (i+1) _ (by omega) he
  unfold SL at wH nxt;simp only [AW,lM,zH,m002,c1,hix,bBv,aKn,aLy,WR,dX,kJ,kI,h9,iV,wx,wy,Z0,Z1,reduceCtorEq];simp only [lM] at nxt
  cases k1:decide ((c.a.length:Int) > 300) with
  | true=>simp only [k1,wx,wy,Z0,Z1,reduceCtorEq];exact wH (by rw [k1];rfl) _
  | false =>
  cases k2:decide ((c.num.length:Int) > 20) with
  | true=>simp only [k1,k2,hix,aLy,kJ,iV,m002,wx,wy,Z0,Z1,reduceCtorEq];exact wH (by rw [k1,k2];rfl) _
  | false =>
  cases k3:decide ((c.t.length:Int) > 200) with
  | true=>simp only [k1,k2,k3,hix,aLy,WR,kJ,kI,iV,m002,wx,wy,Z0,Z1,reduceCtorEq];exact wH (by rw [k1,k2,k3];rfl) _
  | false =>
  cases k4:decide ((c.nm.length:Int) > 200) with
  | true=>simp only [k1,k2,k3,k4,hix,aKn,aLy,WR,kJ,kI,h9,iV,m002,wx,wy,Z0,Z1,reduceCtorEq];exact wH (by rw [k1,k2,k3,k4];rfl) _
  | false=>simp only [k1,k2,k3,k4,hix,aKn,aLy,WR,kJ,kI,h9,iV,m002,wx,wy,Z0,Z1,reduceCtorEq];exact nxt (by rw [k1,k2,k3,k4];rfl) _
theorem c76 (l:List C9) (hl:l.length<=maxLen) (most:Int):aU mEv 76 [lM l,.int .i64 most] (.bool (QQ l most)):=by
 refine bI rfl (aSz _ _ _ ?_);unfold f76 QQ
 cases k:decide ((l.length:Int) > most) with
 | true=>simp only [lM,zH,m002,k,wx,wy,Z0,Z1,reduceCtorEq]
 | false =>simp only [lM,zH,m002,k,wx,wy,Z0,Z1,reduceCtorEq];exact ⟨l.length+1,l76 l hl _ (!l.any SL) (fun s=>rfl) l.length 0 _ (by omega) rfl⟩
theorem c36 (l:List C9) (hl:l.length<=maxLen) (most:Int):aU mEv 36 [lM l,.int .i64 most] (.int .i64 (bif QQ l most then 0 else 1)):=by refine bI rfl (aPu _ _ _ ?_);unfold f36;refine aM (c76 l hl most) (by simp [sW,AV.closed]) ?_;cases QQ l most<;>simp only [wx,wy,Z0,Z1,reduceCtorEq]
def qO (B:Bk) (c:C9):(Int×Int)×Bk :=
 bif c.kind==0 then mU B c.nm c.so else bif c.kind==1 then wR B c.b else bif c.kind==2 then sJ B c.neg c.num else bif c.kind==3 then FH B c.t else gU B c.op c.a
structure C9F (c:C9):Prop where
 op:i64 c.op
 a:∀ q∈c.a,i64 q
 al:c.a.length<=300
 num:dB c.num
 nl:c.num.length<=20
 tl:c.t.length<=200
structure NdS (n:Nd):Prop where
 k:(1<=n.op/\n.op<=5/\n.a=[])\/(6<=n.op/\n.op < 31/\n.a≠[])
 nm:n.nm.length<=16384
theorem aMj {B:Bk} (hB:BG B) (hw:Wf B) {c:C9} (hc:C9F c):(qO B c).2=B\/∃ n,(qO B c).2=B++[n]/\KC n/\NdS n/\∀ i∈n.a,jN B i:=by
 have none:∀ i∈([]:List Int),jN B i:=fun i h=>(by cases h)
 have add:∀ (n:Nd),KC n->NdS n->(∀ i∈n.a,jN B i)->(dU B n).2=B\/∃ m,(dU B n).2=B++[m]/\KC m/\NdS m/\∀ i∈m.a,jN B i:=fun n hn hs ha=>by
  rcases lH B n with ⟨i,h1,h2⟩ | ⟨h1,h2,h3⟩ | ⟨h1,h2,h3⟩
  ·exact .inl (by rw [h2])
  ·exact .inl (by rw [h3])
  ·exact .inr ⟨n,by rw [h3],hn,hs,ha⟩
 unfold qO
 cases c.kind==0 with
 | true =>
  simp only [cond_true,mU]
  cases h:(decide (c.so < 1)||(decide (c.so > 3)||decide ((c.nm.length:Int) > 16384))) with
  | true=>exact .inl rfl
  | false =>simp only [JX,decide_eq_false_iff_not] at h;exact add ⟨1,c.so,[],c.nm,false,[],[]⟩ (aIw (by decide) (by decide) (by omega)) ⟨.inl ⟨(by decide:(1:Int)<=1),(by decide:(1:Int)<=5),rfl⟩,show c.nm.length<=16384 by omega⟩ none
 | false =>
 cases c.kind==1 with
 | true=>exact add ⟨bif c.b then 2 else 3,1,[],[],false,[],[]⟩ (by cases c.b<;>exact aIw (by decide) (by decide) (.inl rfl)) ⟨.inl (by cases c.b<;>exact ⟨(by decide),(by decide),rfl⟩),hO _⟩ none
 | false =>
 cases c.kind==2 with
 | true =>
  simp only [cond_true,cond_false,sJ]
  cases h:decide (pG c.neg c.num < 0) with
  | true=>exact .inl rfl
  | false =>have hl:(aV c.num).length<=2 ^ 20:=FN (lY c.num) (by have:=hc.nl;omega);exact add ⟨4,2,[],[],(eQ c.neg c.num).1,(eQ c.neg c.num).2,[]⟩ ⟨⟨(by decide:(0:Int)<=4),(by decide:(4:Int) < 2 ^ 60)⟩,.inr (.inl rfl),fun i h=>(by cases h),hO _,LQ h,cO hc.num,hl,GZ _,fun r h=>(by cases h),hO _⟩ ⟨.inl ⟨(by decide:(1:Int)<=4),(by decide:(4:Int)<=5),rfl⟩,hO _⟩ none
 | false =>
 cases c.kind==3 with
 | true =>
  simp only [cond_true,cond_false,FH]
  cases h:xE c.t with
  | false=>exact .inl rfl
  | true =>obtain ⟨m1,m2,m3⟩:=VS h;exact add ⟨5,3,[],[],false,[],c.t⟩ ⟨⟨(by decide:(0:Int)<=5),(by decide:(5:Int) < 2 ^ 60)⟩,.inr (.inr rfl),fun i h=>(by cases h),hO _,rfl,fun x h=>(by cases h),hO _,rfl,m1,m3⟩ ⟨.inl ⟨(by decide:(1:Int)<=5),(by decide:(5:Int)<=5),rfl⟩,hO _⟩ none
 | false =>
  simp only [cond_false]
  cases hne:(eI c.op).1==[] with
  | true=>rw [aKf c.a hne];exact .inl rfl
  | false =>
   obtain ⟨x,w,r⟩:=aWq hne;rw [aWn r]
   cases h1:(decide ((c.a.length:Int) < x.parts)||((decide ((c.a.length:Int) > x.parts)&&!x.more)||(decide ((c.a.length:Int) > 200)||c.a.any (kA B)))) with
   | true=>exact .inl rfl
   | false =>
    simp only [JX] at h1;have ha:=AO.1 h1.2.2.2;have h200:=of_decide_eq_false h1.2.2.1;have hlo:=of_decide_eq_false h1.1;simp only [cond_false]
    cases h2:(bK B x 0 0 c.a==0) with
    | true=>exact .inl rfl
    | false =>
     cases h3:(c.op==17&&!decide (dK B c.a<=1)) with
     | true=>exact .inl rfl
     | false =>
      have hs:=PL hB (m017 r.h1) c.a 0 0 ha (.inl rfl);have hs0:bK B x 0 0 c.a≠0:=by simpa using h2
      have hr:=r.rng
      have hne:c.a≠[]:=fun e=>by
       have h0:c.a.length=0:=by rw [e];rfl
       have:=r.parts;have:=r.l1;omega
      exact add ⟨c.op,bK B x 0 0 c.a,c.a,[],false,[],[]⟩ ⟨⟨show 0<=c.op by omega,show c.op < 2 ^ 60 by omega⟩,hs.resolve_left hs0,MN hw ha,show c.a.length<=200 by omega,rfl,fun x h=>(by cases h),hO _,rfl,fun r h=>(by cases h),hO _⟩ ⟨.inr ⟨hr.1,hr.2,hne⟩,hO _⟩ ha
structure BX (B:Bk):Prop where
 g:BG B
 w:Wf B
 s:∀ n∈B,NdS n
 lt:∀ (k:Nat) (n:Nd),B[k]?=some n->∀ i∈n.a,0<=i/\i < (k:Int)
theorem aHl:BX []:=⟨fun n h=>(by cases h),bBm,fun n h=>(by cases h),fun k n h=>(by simp at h)⟩
theorem UZ {B:Bk} (h:BX B) {c:C9} (hc:C9F c):BX (qO B c).2:=by
 have st:∀ {g:Bk->(Int×Int)×Bk},StE (fun σ=>KG (g σ.1) σ.2) B->Wf (g B).2:=fun {g} h=>(h [] (g B).1 (g B).2 [] rfl).2.2.1
 have hw:Wf (qO B c).2:=by
  have hw:=h.w;unfold qO
  cases c.kind==0 with
  | true=>exact st (g:=fun B=>mU B c.nm c.so) (aBu hw _ _)
  | false =>
  cases c.kind==1 with
  | true=>exact st (g:=fun B=>wR B c.b) (XJ hw _)
  | false =>
  cases c.kind==2 with
  | true=>exact st (g:=fun B=>sJ B c.neg c.num) (aIv hw _ _)
  | false =>
  cases c.kind==3 with
  | true=>exact st (g:=fun B=>FH B c.t) (aQt hw _)
  | false=>exact st (g:=fun B=>gU B c.op c.a) (aTs hw _ _)
 rcases aMj h.g h.w hc with e | ⟨n,e,h1,h2,h3⟩
 ·rw [e];exact h
 ·rw [e] at hw ⊢;refine ⟨fun m hm=>?_,hw,fun m hm=>?_,fun k m hk i hi=>?_⟩
  ·rcases m003.1 hm with hm | hm
   ·exact h.g m hm
   ·simp only [m008] at hm;subst hm;exact h1
  ·rcases m003.1 hm with hm | hm
   ·exact h.s m hm
   ·simp only [m008] at hm;subst hm;exact h2
  ·rcases zP k B.length with hlt | hge
   ·rw [m051 hlt] at hk;exact h.lt k m hk i hi
   ·rw [List.getElem?_append_right hge] at hk;have hk0:k - B.length=0:=by have:=(m012.1 hk).1;simp only [List.length_singleton] at this;omega
    rw [hk0] at hk;simp only [List.getElem?_cons_zero,m000] at hk;subst hk;have:=h3 i hi;exact ⟨this.1,by have:=this.2;omega⟩
section
variable {s:St} {i:Nat} {B:Bk} {F:List Nat}
theorem bKh:mEv.fz 77=false:=by kernel_rfl
theorem bIz:mEv.fz 78=false:=by kernel_rfl
theorem bKd:mEv.fz 79=false:=by kernel_rfl
theorem bHi:mEv.fz 80=false:=by kernel_rfl
theorem bKr:mEv.fz 81=false:=by kernel_rfl
theorem c37 (fr:aK s) (hB:lG s i B F) (hw:Wf B) {c:C9} (hc:C9F c):BkW 37 [.ptr i 0,c.av] s i F (qO B c):=by
 refine aTv _ _ _ ?_;unfold f37;refine ⟨rfl,?_⟩;obtain ⟨S,hS⟩:∃ S,S=(Ai.adv s 3).set s.nx (some (.cells c.av.cells 74 true true)):=⟨_,rfl⟩
 have e0:∀ k,EF [] s (Ai.adv S k):=fun k=>by
  rw [hS]
  exact ⟨by simp only [adv_nx,set_nx];omega,fun j hj _=>by rw [adv_h,aF (by omega),adv_h],fun j hj=>by
   have hj:s.nx+3+k<=j:=hj
   rw [adv_h,aF (by omega),adv_h];exact fr j (by omega)⟩
 have bS:S.h s.nx=some (.cells c.av.cells 74 true true):=by rw [hS,aG]
 have hBS:∀ k,lG (Ai.adv S k) i B F:=fun k=>iP hB fr (e0 k);rw [<- hS];unfold qO;simp only [bS,bJu,wx,wy,Z0,Z1,reduceCtorEq]
 cases h0:(c.kind==0) with
 | true =>simp only [h0,bS,bIe,aKn,wx,wy,Z0,Z1,reduceCtorEq];refine (aQm (e0 _).fr (hBS _) c.nm c.so).call bKh fun s1 q1=>?_;simp only [GP,HN,wx,wy,Z0,Z1,reduceCtorEq];exact ⟨rfl,q1.from (e0 _)⟩
 | false =>
 cases h1:(c.kind==1) with
 | true =>simp only [h0,h1,bS,bJe,wx,wy,Z0,Z1,reduceCtorEq];refine (aRh (e0 _).fr (hBS _) c.b).call bIz fun s1 q1=>?_;simp only [GP,HN,wx,wy,Z0,Z1,reduceCtorEq];exact ⟨rfl,q1.from (e0 _)⟩
 | false =>
 cases h2:(c.kind==2) with
 | true =>simp only [h0,h1,h2,bS,aWw,wx,wy,Z0,Z1,reduceCtorEq];refine (bJs (e0 _).fr (hBS _) c.neg c.num hc.num (by have:=hc.nl;omega)).call bKd fun s1 q1=>?_;simp only [GP,HN,wx,wy,Z0,Z1,reduceCtorEq];exact ⟨rfl,q1.from (e0 _)⟩
 | false =>
 cases h3:(c.kind==3) with
 | true =>simp only [h0,h1,h2,h3,bS,WR,wx,wy,Z0,Z1,reduceCtorEq];refine (bDz (e0 _).fr (hBS _) c.t (by have:=hc.tl;omega)).call bHi fun s1 q1=>?_;simp only [GP,HN,wx,wy,Z0,Z1,reduceCtorEq];exact ⟨rfl,q1.from (e0 _)⟩
 | false =>simp only [h0,h1,h2,h3,aFd,bS,bGr,bBv,wx,wy,Z0,Z1,reduceCtorEq];refine (bHx (e0 _).fr (hBS _) hw c.op c.a hc.op (by have:=hc.al;omega) hc.a).call bKr fun s1 q1=>?_;simp only [GP,HN,wx,wy,Z0,Z1,reduceCtorEq];exact ⟨rfl,q1.from (e0 _)⟩
end
def kW (l:List C9) (B:Bk):Bk:=l.foldl (fun B c=>(qO B c).2) B
theorem l38 (l:List C9) (hl:l.length<=maxLen) (hc:∀ c∈l,C9F c):∀ (m i:Nat) (B:Bk) (x:AV) (s:St),i+m=l.length->Em x (B.map Nd.av)->BX B->kW (l.drop i) B=kW l []->uS (cU (bZ (kW l []))) (m+1) (lM l) x (.int .i64 i) s:=by
 intro m
 induction m with
 | zero =>
  intro i B x s hi hx hX he;show BV (cU (bZ (kW l []))) (uS (cU (bZ (kW l []))) 0) _ _ _ s;have c1:decide ((i:Int) < (l.length:Int))=false:=by simp;omega
  rw [m037 (by omega)] at he;have he:B=kW l []:=he;simp only [BV,LV,lM,zH,m002,c1,wx,wy,Z0,Z1,reduceCtorEq];rw [<- he];exact ⟨[],EJ hx (iG Nd.av B iI) _ 11⟩
 | succ m ih =>
  intro i B x s hi hx hX he;show BV (cU (bZ (kW l []))) (uS (cU (bZ (kW l []))) (m+1)) _ _ _ s;have c1:decide ((i:Int) < (l.length:Int))=true:=by simp;omega
  obtain ⟨c,hcc⟩:∃ c,l[i]?=some c:=⟨_,m004 (by omega)⟩;have hix:=bP aDg false (l:=l) hcc .i64;have hf:=hc c (m017 hcc);rw [cK l i c hcc] at he;have k1:=UZ hX hf;have hB:=hX.g;have hw:=hX.w;have hwl:=hw.1;have hz:(AV.agg [.int .i64 0,.int .i64 0,.int .i64 0,.nils,.str [],.bool false,.bool false,.nils,.nils]).cells=[.int .i64 0,.int .i64 0,.int .i64 0,.nils,.str [],.bool false,.bool false,.nils,.nils]:=rfl;have nxt:∀ s,yT (cU (bZ (kW l []))) (uS (cU (bZ (kW l []))) (m+1)) (.int .i64 i) (lM l) (bZ (qO B c).2) s:=fun s=>by unfold yT;simp only [wx,wy,Z0,Z1,reduceCtorEq];rw [cF i l.length (by omega) hl];exact ih (i+1) _ _ _ (by omega) (.inl rfl) k1 he
  have px:∀ s,pur mEv.P s 12 x=some (bZ B,[]):=fun s=>EJ hx (iG Nd.av B iI) s 11;simp only [BV,lM,zH,m002,c1,hix,TP,bNg,hz,wx,wy,Z0,Z1,reduceCtorEq];rw [bJ (z:=9) (c:=[.int .i64 0,.int .i64 0,.int .i64 0,.nils,.str [],.bool false,.bool false,.nils,.nils]) (e:=74) (ex:=true) (v:=c.av) (by rw [adv_h,aG]) rfl rfl rfl];simp only [lM] at nxt;unfold qO at nxt;simp only [Bnd_some,aG,bJu,wx,wy,Z0,Z1,reduceCtorEq]
  cases h0:(c.kind==0) with
  | true =>simp only [h0,cond_true] at nxt;simp only [h0,aG,bIe,aKn,wx,wy,Z0,Z1,reduceCtorEq];refine eR (ids:=[]) (args2:=[bZ B,.str c.nm,.int .i64 c.so]) (by simp only [dJ,px,bE 12 (show (AV.str c.nm).closed=true from rfl),bE 12 (show (AV.int .i64 c.so).closed=true from rfl),m011]) (c82 hB hwl c.nm c.so) ?_;simp only [EB,ED,DW,wx,wy,Z0,Z1,reduceCtorEq];exact nxt _
  | false =>
  cases h1:(c.kind==1) with
  | true =>simp only [h0,h1,cond_true,cond_false] at nxt;simp only [h0,h1,aG,bJe,wx,wy,Z0,Z1,reduceCtorEq];refine eR (ids:=[]) (args2:=[bZ B,.bool c.b]) (by simp only [dJ,px,bE 12 (show (AV.bool c.b).closed=true from rfl),m011]) (c83 hB hwl c.b) ?_;simp only [EB,ED,DW,wx,wy,Z0,Z1,reduceCtorEq];exact nxt _
  | false =>
  cases h2:(c.kind==2) with
  | true =>simp only [h0,h1,h2,cond_true,cond_false] at nxt;simp only [h0,h1,h2,aG,aWw,wx,wy,Z0,Z1,reduceCtorEq];refine eR (ids:=[]) (args2:=[bZ B,oY c.neg c.num]) (by simp only [dJ,px,bE 12 (dA c.neg c.num),m011]) (c84 hB hwl c.neg c.num hf.num (by have:=hf.nl;omega)) ?_;simp only [EB,ED,DW,wx,wy,Z0,Z1,reduceCtorEq];exact nxt _
  | false =>
  cases h3:(c.kind==3) with
  | true =>simp only [h0,h1,h2,h3,cond_true,cond_false] at nxt;simp only [h0,h1,h2,h3,aG,WR,wx,wy,Z0,Z1,reduceCtorEq];refine eR (ids:=[]) (args2:=[bZ B,.sl false (c.t.map cP)]) (by simp only [dJ,px,bE 12 (fH c.t),m011]) (c85 hB hwl c.t (by have:=hf.tl;omega)) ?_;simp only [EB,ED,DW,wx,wy,Z0,Z1,reduceCtorEq];exact nxt _
  | false =>simp only [h0,h1,h2,h3,cond_true,cond_false] at nxt;simp only [h0,h1,h2,h3,aG,bGr,bBv,wx,wy,Z0,Z1,reduceCtorEq];refine eR (ids:=[]) (args2:=[bZ B,.int .i64 c.op,.sl false (c.a.map dH)]) (by simp only [dJ,px,bE 12 (show (AV.int .i64 c.op).closed=true from rfl),bE 12 (sR c.a),m011]) (c86 hB hw (by have:=hf.al;omega)) ?_;simp only [EB,ED,DW,wx,wy,Z0,Z1,reduceCtorEq];exact nxt _
theorem c38 (l:List C9) (hl:l.length<=maxLen) (hc:∀ c∈l,C9F c):aU mEv 38 [lM l] (bZ (kW l [])):=by refine bC (aRv _ _ ?_);unfold f38;exact ⟨l.length+1,l38 l hl hc l.length 0 [] .nils _ (by omega) (.inr ⟨rfl,rfl⟩) aHl rfl⟩
end
end Go.Proofs.YtdehdahimkcakaaGreatDoor
