/- Texts joined by wip/tools/pack.py: Mt,Mu,Kc,Kd,Ke,Cl,Kf,Kg. -/
import Derived.Test.YtdehdahimkcakaaGreatDoorZs
open Nat renaming reduceAdd→Z0, reduceEqDiff→Z1
set_option linter.unusedSimpArgs false
set_option linter.unusedVariables false
set_option maxHeartbeats 4000000
set_option maxRecDepth 100000
namespace Go.Proofs.YtdehdahimkcakaaGreatDoor
open Go Ai
noncomputable section
theorem aAm:∀ {l:List Sx} {ns:List (List UInt8)} {ts:List Sx},cD l=some (ns,ts)->ns.length=l.length/\ts.length=l.length:=by
 intro l
 induction l with
 | nil=>intro ns ts h;simp only [cD,m000,m001] at h;obtain ⟨rfl,rfl⟩:=h;exact ⟨rfl,rfl⟩
 | cons p l ih =>
  intro ns ts h;unfold cD at h
  split at h
  ·rename_i x y h1 h2
   cases hx:x.isN with
   | false=>rw [hx] at h;cases h
   | true =>rw [hx] at h;simp only [cond_true,m022] at h;obtain ⟨⟨ns',ts'⟩,h3,h4⟩:=h;simp only [m001] at h4;obtain ⟨rfl,rfl⟩:=h4;obtain ⟨a,b⟩:=ih h3;exact ⟨by simp only [List.length_cons,a],by simp only [List.length_cons,b]⟩
  ·cases h
section
variable {s s':St} {p ib:Nat} {L:List Dc} {scs:List Ev} {σ:Sg} {F:List Nat} {K:aG} {ps:List UInt8->List Nat×Int} {L0:List Dc} {n j:Nat} {σ':Sg}
theorem bIn (hT:rW ps n) (hL:rN L0) (fr:aI s) (hR:pJ s p ib (L0.take j) scs σ F) (hok:qT ps L0 scs.flatten σ) (rest:List Sx) (hrl:rest.length<=2 ^ 20) (hfit:∀ y∈rest,y.fit) (hw:scs.length+1+Sx.wts rest<=2 ^ 30) {r:Int×Int} (hc:lT (T ps true n) (L0.take j) scs.flatten rest σ=some (r,σ')) :
  ∃ v s',WideC mEv 176 [.ptr p 0,.sl false (rest.map Sx.av)] s v s'/\v=mE r/\∃ F',kW s p ib (L0.take j) scs F σ' s' F':=by
 have hF:=hR.lt fr;refine aHy _ _ _ ?_;unfold f176;have hne3:∀ u v:Int,bn .neq 3 (.int .i64 u) (.int .i64 v)=some (.bool (u != v)):=fun _ _=>bin_neq;have same:∀ (S:St) (r0:Int×Int),EF [] s S->(some (r0,σ):Rt)=some (r,σ')->(mE r0=mE r/\∃ F',kW s p ib (L0.take j) scs F σ' S F'):=fun S r0 e h=>by simp only [m000,m001] at h;obtain ⟨rfl,rfl⟩:=h;exact ⟨rfl,_,kW.same hR fr e⟩
 by_cases h2:rest.length=2
 ·obtain ⟨h,z,rfl⟩:∃ h z,rest=[h,z]:=by
   match rest,h2 with
   | [h,z],_=>exact ⟨h,z,rfl⟩
  have ix0:cQ 6 (.sl false ([h,z].map Sx.av)) (.int .i64 0)=some (.pel h.av.cells 0):=cJ rL false (l:=[h,z]) (i:=0) (a:=h) rfl .i64;have hl2:∀ id S,bt .len #[31] [.sl false ([h,z].map Sx.av)] id S=some (.int .i64 2,S):=fun id S=>IQ [h,z] id S;simp only [hl2,hne3,ix0,aPx,show ((2:Int) != 2)=false from rfl,wx,wy,Z0,Z1,reduceCtorEq]
  cases hh:h.lst with
  | false =>
   have:lT (T ps true n) (L0.take j) scs.flatten [h,z] σ=some ((0,1),σ):=by unfold lT;simp only [hh,cond_false]
   rw [this] at hc;simp only [m027,wx,wy,Z0,Z1,reduceCtorEq];exact same _ (0,1) (ef0 fr _) hc
  | true =>
   have hhf:=hfit h (by simp);have hzf:=hfit z (by simp);obtain ⟨hil,_⟩:=wW hhf;simp only [m025,ix0,NW,aSu,IQ,wx,wy,Z0,Z1,reduceCtorEq];have hz254:(AV.agg [.nils,.nils]).cells=[.nils,.nils]:=rfl;simp only [hz254]
   have e0:∀ (v k:Nat),s.nx<=v->v < s.nx+k->EF [] s (Ai.adv (s.set v (some (.cells [.nils,.nils] 254 true true))) k):=fun v k hv hk=>⟨by simp only [adv_nx,set_nx];omega,fun b hb _=>by rw [adv_h,aB (by omega)],fun b hb=>by
    have hb:s.nx+k<=b:=hb
    rw [adv_h,aB (by omega)];exact fr b (by omega)⟩
   simp only [Sx.wts] at hw
   refine ⟨_,bRd s h.its hil hF _ (.sl false ([h,z].map Sx.av)) _ (fun s' hp e hm=>?_) (fun s' y ty ns ts hp hl=>?_) h.its.length 0 _ .nils .nils [] [] (by omega) (by simp) (by simp) (by simp only [m048,List.nil_append];cases cD h.its<;>rfl)
    ⟨hR.ext fr (e0 _ _ (by omega) (by omega)),e0 _ _ (by omega) (by omega),by rw [adv_h,aF],fG,fG,⟨by omega,(fun h=>by cases h),(fun h=>by cases h)⟩,(fun x hx=>by cases hx),(fun x hx=>by cases hx)⟩⟩
   ·have:lT (T ps true n) (L0.take j) scs.flatten [h,z] σ=some ((0,1),σ):=by unfold lT;simp only [hh,cond_true,hp]
    rw [this] at hc;exact same s' (0,1) e hc
   ·obtain ⟨q1,q2⟩:=aAm hp;exact bQe hT hL s fr hR hok h z hh hzf (by omega) hhf _ y ty ns ts hp (by omega) (by omega) s' hl hc _ fun s'' F' hq=>⟨rfl,F',hq⟩
 ·have:lT (T ps true n) (L0.take j) scs.flatten rest σ=some ((0,1),σ):=by
   match rest,h2 with
   | [],_=>rfl
   | [_],_=>rfl
   | _::_::_::_,_=>rfl
  rw [this] at hc;have hb:(((rest.length:Nat):Int) != 2)=true:=by simp;omega
  simp only [IQ,hne3,hb,wx,wy,Z0,Z1,reduceCtorEq];exact same _ (0,1) (ef0 fr _) hc
def bRp:List (List UInt8×Int):=opL.filter fun q=>!(q.1==[45])
theorem TD (x:List UInt8) (hx:(x==[45])=false):∀ l:List (List UInt8×Int),uT (l.filter fun q=>!(q.1==[45])) x=uT l x:=by
 intro l
 induction l with
 | nil=>rfl
 | cons q l ih =>
  obtain ⟨a,v⟩:=q
  cases ha:(a==[45]) with
  | false =>rw [List.filter_cons_of_pos (by simp only [ha,m027])];simp only [uT,ih]
  | true =>
   rw [List.filter_cons_of_neg (by simp only [ha,m025];decide)];have:a=[45]:=by simpa using ha
   subst this;simp only [uT,hx,ih,m015,if_false]
theorem bSt (x:List UInt8) (k:Int):bE mEv 71 [.str x,.int .i64 k] (.int .i64 (bW x k)):=by
 refine bA rfl (WL _ _ _ ?_);unfold f71
 cases hk:(k==1) with
 | false =>
  have ho:bW x k=GD x:=by simp only [bW,hk,m071,cond_false]
  simp only [Bnd_some,bin_seql,bin_eql,hk,IfP_bool];refine aMz (l:=opL) (c:=fun v=>AV.int .i64 v=.int .i64 (bW x k)) (d:=MP (fun r s'=>r=.int .i64 (bW x k)) (.str x) _) (fun v h=>by rw [ho];simp only [GD,h];rfl) (fun h=>?_);exact aP (bEr x) (by simp [AV.closed]) (by rw [ho];simp only [GD,h];rfl)
 | true =>
  cases hx:(x==[45]) with
  | true =>
   have:x=[45]:=by simpa using hx
   subst this;have ho:bW [45] k=14:=by simp only [bW,hk,beq_self_eq_true,jH,cond_true]
   have e:∀ y:List UInt8,([45]==y)=decide (([45]:List UInt8)=y):=fun y=>by cases h:([45]==y)<;>simp_all
   simp only [Bnd_some,bin_seql,bin_eql,hk,IfP_bool,ho,show (([45]:List UInt8)==[110,111,116])=false from rfl,show (([45]:List UInt8)==[97,110,100])=false from rfl,show (([45]:List UInt8)==[111,114])=false from rfl,show (([45]:List UInt8)==[61,62])=false from rfl,show (([45]:List UInt8)==[120,111,114])=false from rfl,show (([45]:List UInt8)==[61])=false from rfl,show (([45]:List UInt8)==[100,105,115,116,105,110,99,116])=false from rfl,show (([45]:List UInt8)==[105,116,101])=false from rfl,show (([45]:List UInt8)==[43])=false from rfl,beq_self_eq_true,if_true,m015,if_false]
  | false =>
   have ho:bW x k=GD x:=by simp only [bW,hx,m035,cond_false]
   have hh:=TD x hx opL;simp only [Bnd_some,bin_seql,bin_eql,hk,hx,IfP_bool,m015,if_false];refine aMz (l:=bRp) (c:=fun v=>AV.int .i64 v=.int .i64 (bW x k)) (d:=MP (fun r s'=>r=.int .i64 (bW x k)) (.str x) _) (fun v h=>by rw [ho];simp only [GD,show uT opL x=some v from hh ▸ h];rfl) (fun h=>?_);have h:uT opL x=none:=by rw [<- hh];exact h
   exact aP (bEr x) (by simp [AV.closed]) (by rw [ho];simp only [GD,h];rfl)
theorem aIy {l:List (List UInt8×Int)} (hl:(l.all fun q=>decide (0<=q.2)&&decide (q.2<=1000))=true) {x:List UInt8} {v:Int} (h:uT l x=some v):0<=v/\v<=1000:=by
 induction l with
 | nil=>cases h
 | cons q l ih =>
  obtain ⟨a,w⟩:=q;simp only [List.all_cons,cR,decide_eq_true_eq] at hl;simp only [uT] at h
  split at h
  ·cases h;exact hl.1
  ·exact ih (by simpa only [cR,decide_eq_true_eq] using hl.2) h
theorem aSm (x:List UInt8) (k:Int):i64 (bW x k):=by
 have h0:i64 0:=⟨by decide,by decide⟩
 have ht:i64 ((uT txL x).getD 0):=by
  cases h:uT txL x with
  | none=>exact h0
  | some v=>obtain ⟨a,b⟩:=aIy (by decide) h;exact eW a b
 unfold bW
 cases (x==[45]&&k==1) with
 | true=>exact (⟨by decide,by decide⟩:i64 14)
 | false =>
  show i64 (GD x);unfold GD
  cases h:uT opL x with
  | none=>exact ht
  | some v=>obtain ⟨a,b⟩:=aIy (by decide) h;exact eW a b
theorem bFb (hT:rW ps n) (hL:rN L0) (fr:aI s) (hR:pJ s p ib (L0.take j) scs σ F) (hok:qT ps L0 scs.flatten σ) (x:Sx) (hfit:x.fit) (hw:scs.length+x.wt<=2 ^ 30) {r:Int×Int} (hc:qN true (T ps true n) (L0.take j) scs.flatten x.its σ=some (r,σ')) :
  ∃ v s',WideC mEv 126 [.ptr p 0,x.av] s v s'/\v=mE r/\∃ F',kW s p ib (L0.take j) scs F σ' s' F':=by
 have hF:=hR.lt fr;have hp:=hF p hR.pin;obtain ⟨hil,hif⟩:=wW hfit;have hLl:(L0.take j).length<=2 ^ 30:=by have:=hL.len;simp only [m020];omega
 refine aHs _ _ _ ?_;unfold f126;refine ⟨cH x,?_⟩;have heq3:∀ u v:Int,bn .eql 3 (.int .i64 u) (.int .i64 v)=some (.bool (u==v)):=fun _ _=>bin_eql;have hne3:∀ u v:Int,bn .neq 3 (.int .i64 u) (.int .i64 v)=some (.bool (u != v)):=fun _ _=>bin_neq;have hls:∀ u v:Int,bn .lss 3 (.int .i64 u) (.int .i64 v)=some (.bool (decide (u < v))):=fun _ _=>bin_lss;have same:∀ (S:St) (r0:Int×Int),EF [] s S->(some (r0,σ):Rt)=some (r,σ')->(mE r0=mE r/\∃ F',kW s p ib (L0.take j) scs F σ' S F'):=fun S r0 e h=>by simp only [m000,m001] at h;obtain ⟨rfl,rfl⟩:=h;exact ⟨rfl,_,kW.same hR fr e⟩
 have e0:∀ (k:Nat),0 < k->EF [] s (Ai.adv (s.set s.nx (some (.cells x.av.cells 33 true true))) k):=fun k hk=>⟨by simp only [adv_nx,set_nx];omega,fun b hb _=>by rw [adv_h,aB (by omega)],cA fr k (by omega)⟩;simp only [NW,IQ,heq3,wx,wy,Z0,Z1,reduceCtorEq]
 cases hits:x.its with
 | nil =>rw [hits] at hc;simp only [List.length_nil,show (((0:Nat):Int)==0)=true from rfl,wx,wy,Z0,Z1,reduceCtorEq];exact same _ (0,1) (e0 _ (by omega)) hc
 | cons h rest =>
 rw [hits] at hc hif hil;have hlen0:((((h::rest).length:Nat):Int)==0)=false:=by simp;omega
 have ix0:cQ 6 (.sl false ((h::rest).map Sx.av)) (.int .i64 0)=some (.pel h.av.cells 0):=cJ rL false (l:=h::rest) (i:=0) (a:=h) rfl .i64;have c5:x.av.cells[5]?=some (.sl false ((h::rest).map Sx.av)):=by rw [NW,hits]
 unfold qN at hc;dsimp only at hc
 have hx1:h.wt+Sx.wts rest+1<=x.wt:=by
  cases x with
  | mk l k t p a items =>have:items=h::rest:=hits;subst this;simp only [Sx.wt,Sx.wts];omega
 simp only [hlen0,c5,ix0,aPx,wx,wy,Z0,Z1,reduceCtorEq]
 cases hl:h.lst with
 | true =>
  have hn:h.isN=false:=by simp only [Sx.isN,hl,m025,m035]
  rw [hn] at hc;simp only [m027,cond_true] at hc;simp only [wx,wy,Z0,Z1,reduceCtorEq];exact same _ (0,101) (e0 _ (by omega)) hc
 | false =>
 simp only [c5,ix0,bEh,hne3,wx,wy,Z0,Z1,reduceCtorEq]
 cases hk:(h.kind==3) with
 | false =>
  have hn:h.isN=false:=by simp only [Sx.isN,hl,hk,m071]
  rw [hn] at hc;simp only [m027,cond_true] at hc;have:(h.kind != 3)=true:=by simp only [bne,hk];rfl
  simp only [this,wx,wy,Z0,Z1,reduceCtorEq];exact same _ (0,101) (e0 _ (by omega)) hc
 | true =>
 have hn:h.isN=true:=by simp only [Sx.isN,hl,hk,m027,jH]
 have hk2:(h.kind != 3)=false:=by simp only [bne,hk];rfl
 rw [hn] at hc;simp only [m025,cond_false] at hc;have hsl:∀ S,mF 31 (.sl false ((h::rest).map Sx.av)) (some (.int .i64 1)) none none S=some (.sl false (rest.map Sx.av)):=fun S=>aRy zB rL.len false (h::rest) (k:=1) (by simp) .i64;simp only [hk2,c5,ix0,aRo,hsl,IQ,wx,wy,Z0,Z1,reduceCtorEq];refine aP (bSt h.txt rest.length) (by simp [AV.closed]) ?_;obtain ⟨xin,vs,jm,FB,c,rfl⟩:=hR;have hR:pJ s p ib (L0.take j) scs σ (p::jm::(FB++bG xin vs)):=⟨xin,vs,jm,FB,c,rfl⟩;refine (aIf (e0 37 (by omega)).adv.fr h.txt (L0.take j) (by omega) ⟨_,_,_,_,_,_,(c.ext fr ((e0 37 (by omega)).adv (n:=4))).cell⟩).call bAo fun s1 e1=>?_;have f1:=((e0 37 (by omega)).adv (n:=4)).nil_trans e1;have c1:=c.ext fr f1.adv (s':=Ai.adv s1 8);refine (WF f1.adv.fr h.txt (aPn c (by omega)) ⟨_,_,_,_,_,_,c1.cell⟩ c1.inx c1.sco).call bCd fun s2 e2=>?_;have f2:=f1.adv.nil_trans e2
 have key:∀ (kk:Int) (S:St),EF [] s S->(kk=match bP scs.flatten h.txt with
   | some _=>-1
   | none=>aLc (bR (L0.take j) h.txt)) ->
   FE (fun v s'=>v=mE r/\∃ F',kW s p ib (L0.take j) scs (p::jm::(FB++bG xin vs)) σ' s' F') (.str h.txt) (.ptr p 0) (.sl false (rest.map Sx.av)) (.int .i64 (bW h.txt rest.length)) (.int .i64 kk) S:=by
  intro kk S f hkk;have hrl:rest.length<=2 ^ 20:=by simp only [List.length_cons] at hil;omega
  have hrf:∀ y∈rest,y.fit:=fun y hy=>hif y (by simp [hy])
  have fin2:∀ (kk:Int) (S:St),EF [] s S->(∀ q σ1,dS (T ps true n) (L0.take j) scs.flatten rest σ=some (q,σ1)->q.2=0->(if bW h.txt rest.length=0 then (∃ k:Nat,kk=(k:Int)/\fP true (T ps true n) (L0.take j) k q.1 σ1=some (r,σ')) else pU (jN σ1.1 (bW h.txt rest.length) q.1) σ1.2=some (r,σ'))) ->
    (∀ q σ1,dS (T ps true n) (L0.take j) scs.flatten rest σ=some (q,σ1)->q.2≠0->r=(0,q.2)/\σ'=σ1)->(∃ q σ1,dS (T ps true n) (L0.take j) scs.flatten rest σ=some (q,σ1)) ->
    FI (fun v s'=>v=mE r/\∃ F',kW s p ib (L0.take j) scs (p::jm::(FB++bG xin vs)) σ' s' F') (.sl false (rest.map Sx.av)) (.ptr p 0) (.int .i64 (bW h.txt rest.length)) (.int .i64 kk) S:=by
   intro kk S f g1 g2 g3;obtain ⟨q,σ1,hev⟩:=g3;unfold FI;obtain ⟨hok1,hext,hin,hne⟩:=FH (by have:=hL.len;omega) hok hev;refine aNh hT hL hrl hrf (fun y hy=>by have:=VH hy;omega) f.adv.fr (hR.ext fr f.adv) hok (.inl rfl) (fun a ha=>by cases ha) hev fun s3 F3 k3=>?_;have k3':=k3.from f.adv hp;have x0:aS (.tup [.sl false (q.1.map dE),.int .i64 q.2]) 0=some (.sl false (q.1.map dE)):=rfl;have x1:aS (.tup [.sl false (q.1.map dE),.int .i64 q.2]) 1=some (.int .i64 q.2):=rfl;have hne34:∀ u v:Int,bn .neq 34 (.int .i64 u) (.int .i64 v)=some (.bool (u != v)):=fun _ _=>bin_neq;by_cases hq:q.2=0
   ·have b1:(q.2 != 0)=false:=by simp [hq]
    obtain ⟨hql,hqin⟩:=hin hq;have:=g1 q σ1 hev hq;have hp3:p < s3.nx:=k3'.1.lt k3'.2.1.fr p k3'.1.pin;by_cases hop:bW h.txt rest.length=0
    ·rw [if_pos hop] at this;obtain ⟨k,rfl,hcall⟩:=this;have b2:(bW h.txt rest.length != 0)=false:=by simp [hop]
     simp only [x0,x1,hne34,hne3,b1,b2,wx,wy,Z0,Z1,reduceCtorEq];obtain ⟨v,s4,t1,rfl,F4,t2⟩:=aJt hT hL k3'.adv.2.1.fr k3'.adv.1 hok1 q.1 (.sl false (q.1.map dE)) (.inl rfl) hqin k hcall;refine bQ bBn ⟨_,s4,t1,?_⟩;simp only [zV,zO,wx,wy,Z0,Z1,reduceCtorEq];exact ⟨rfl,F4,k3'.adv.trans t2⟩
    ·rw [if_neg hop] at this;have b2:(bW h.txt rest.length != 0)=true:=by simp [hop]
     obtain ⟨⟨xin3,vs3,jm3,FB3,c3,hF3⟩,e3,m3,ns3⟩:=k3';simp only [x0,x1,hne34,hne3,b1,b2,wx,wy,Z0,Z1,reduceCtorEq];refine ⟨rfl,?_⟩;simp only [c3.cell,wx,wy,Z0,Z1,reduceCtorEq];have hi64:∀ a∈q.1,i64 a:=fun a ha=>by obtain ⟨u1,u2⟩:=hqin a ha;have:=hok1.wf.1;exact ⟨by omega,by omega⟩
     refine (bGz (ef0 e3.fr 15).fr (c3.bank.adv) hok1.wf (bW h.txt rest.length) q.1 (aSm _ _) (by omega) hi64).call bSr fun s4 hs=>?_;simp only [pU,m000,m001] at this;obtain ⟨hr,hσ⟩:=this;obtain ⟨F4,t2⟩:=KB c3 e3.fr (ef0 e3.fr 15) hs;simp only [zV,zO,wx,wy,Z0,Z1,reduceCtorEq];rw [hr] at *;rw [hσ] at t2;rw [<- hF3] at t2;exact ⟨rfl,F4,kW.trans (σ1:=σ1) ⟨⟨xin3,vs3,jm3,FB3,c3,hF3⟩,e3,m3,ns3⟩ t2⟩
   ·have b1:(q.2 != 0)=true:=by simp [hq]
    obtain ⟨rfl,rfl⟩:=g2 q σ1 hev hq;simp only [x0,x1,hne34,b1,wx,wy,Z0,Z1,reduceCtorEq];exact ⟨rfl,F3,k3'.adv⟩
  unfold FE
  cases hlet:(h.txt==KT) with
  | true =>rw [hlet,cond_true] at hc;have hl2:(h.txt==[108,101,116])=true:=hlet;simp only [eq9,hl2,wx,wy,Z0,Z1,reduceCtorEq];obtain ⟨v,s3,t1,rfl,F3,t2⟩:=bIn hT hL f.adv.fr (hR.ext fr f.adv) hok rest hrl hrf (by omega) hc;refine bQ bLb ⟨_,s3,t1,?_⟩;simp only [zV,zO,wx,wy,Z0,Z1,reduceCtorEq];exact ⟨rfl,F3,t2.from f.adv hp⟩
  | false =>
  rw [hlet,cond_false] at hc;have hl2:(h.txt==[108,101,116])=false:=hlet
  have tail:∀ (kk:Int) (S:St),EF [] s S->((dS (T ps true n) (L0.take j) scs.flatten rest σ).bind fun q=>bif q.1.2==0 then (if bW h.txt rest.length=0 then (if 0<=kk then fP true (T ps true n) (L0.take j) kk.toNat q.1.1 q.2 else none) else pU (jN q.2.1 (bW h.txt rest.length) q.1.1) q.2.2) else some ((0,q.1.2),q.2))=some (r,σ') ->
    FI (fun v s'=>v=mE r/\∃ F',kW s p ib (L0.take j) scs (p::jm::(FB++bG xin vs)) σ' s' F') (.sl false (rest.map Sx.av)) (.ptr p 0) (.int .i64 (bW h.txt rest.length)) (.int .i64 kk) S:=by
   intro kk S f hb;simp only [m028] at hb;obtain ⟨⟨q,σ1⟩,hev,hb⟩:=hb;refine fin2 kk S f (fun q2 σ2 h1 h2=>?_) (fun q2 σ2 h1 h2=>?_) ⟨q,σ1,hev⟩
   ·rw [hev] at h1;simp only [m000,m001] at h1;obtain ⟨rfl,rfl⟩:=h1;simp only [h2,beq_self_eq_true,cond_true] at hb;by_cases hop:bW h.txt rest.length=0
    ·rw [if_pos hop] at hb ⊢;by_cases h0:0<=kk
     ·rw [if_pos h0] at hb;exact ⟨kk.toNat,by omega,hb⟩
     ·rw [if_neg h0] at hb;cases hb
    ·rw [if_neg hop] at hb ⊢;exact hb
   ·rw [hev] at h1;simp only [m000,m001] at h1;obtain ⟨rfl,rfl⟩:=h1;have:(q.2==0)=false:=by simp [h2]
    simp only [this,cond_false,m000,m001] at hb;exact ⟨hb.1.symm,hb.2.symm⟩
  cases hop:(bW h.txt rest.length==0) with
  | false =>
   have hop2:¬ (bW h.txt rest.length=0):=by simpa using hop
   rw [hop] at hc;simp only [m035,cond_false] at hc;simp only [eq9,hl2,heq3,hop,wx,wy,Z0,Z1,reduceCtorEq];exact tail _ _ f.adv (by simpa only [if_neg hop2] using hc)
  | true =>
   have hop2:bW h.txt rest.length=0:=by simpa using hop
   rw [hop] at hc;simp only [m031,cond_true] at hc;simp only [eq9,hl2,heq3,hop,wx,wy,Z0,Z1,reduceCtorEq];refine aP (c24 h.txt) (by simp [AV.closed]) ?_;have hrs:aU h.txt=((uT RM h.txt).isSome||(GD h.txt != 0)||dM [115,116,114,46] h.txt||dM [114,101,46] h.txt):=rfl;rw [<- hrs]
   cases hres:aU h.txt with
   | true =>rw [hres,cond_true] at hc;simp only [hop,wx,wy,Z0,Z1,reduceCtorEq];exact same _ (0,101) f.adv hc
   | false =>
    rw [hres,cond_false] at hc
    cases hb:bP scs.flatten h.txt with
    | some i =>rw [hb] at hc hkk;subst hkk;simp only [hop,hls,show decide ((-1:Int) < 0)=true from rfl,wx,wy,Z0,Z1,reduceCtorEq];cases hd:bR (L0.take j) h.txt<;>(rw [hd] at hc;exact same _ (0,100) f.adv hc)
    | none =>
     rw [hb] at hc hkk
     cases hd:bR (L0.take j) h.txt with
     | none =>rw [hd] at hc hkk;have hkk:kk=-1:=hkk;subst hkk;simp only [hop,hls,show decide ((-1:Int) < 0)=true from rfl,wx,wy,Z0,Z1,reduceCtorEq];exact same _ (0,100) f.adv hc
     | some k =>
      rw [hd] at hc hkk;have hkk:kk=(k:Int):=hkk;subst hkk;have hk0:decide (((k:Nat):Int) < 0)=false:=by simp
      simp only at hc
      cases hdk:(L0.take j)[k]? with
      | none=>simp only [hdk] at hc;cases hc
      | some d =>
       simp only [hdk] at hc;have hix:=cJ PG false hdk .i64;have c3:=c.ext fr (f.adv (n:=10));have c3h:S.h p=_:=c3.cell;simp only [hop,hls,hk0,wx,wy,Z0,Z1,reduceCtorEq];refine ⟨rfl,?_⟩;simp only [c3h,hix,dc2,wx,wy,Z0,Z1,reduceCtorEq]
       cases hm:d.mac with
       | false =>rw [hm,cond_false] at hc;simp only [hop,m027,wx,wy,Z0,Z1,reduceCtorEq];exact same _ (0,100) f.adv hc
       | true =>rw [hm,cond_true] at hc;simp only [hop,m025,wx,wy,Z0,Z1,reduceCtorEq];refine tail _ _ f.adv ?_;simp only [if_pos hop2,show (0:Int)<=(k:Int) by omega,if_true,Int.toNat_natCast];exact hc
 have f2':=f2
 cases hb:bP scs.flatten h.txt with
 | some i =>simp only [bE0,bE1,Option.isSome_some,wx,wy,Z0,Z1,reduceCtorEq];exact key (-1) _ f2.adv (by rw [hb])
 | none =>simp only [bE0,bE1,Option.isSome_none,wx,wy,Z0,Z1,reduceCtorEq];exact key _ _ f2.adv (by rw [hb])
end
end
noncomputable section
def LB (ps:List UInt8->List Nat×Int):Prop:=∀ x:List UInt8,x.length<=2 ^ 30->bE mEv 127 [.str x] (.tup [fZ (ps x).1,.int .i64 (ps x).2])/\cI (ps x).1/\(ps x).1.length<=2 ^ 20
theorem aCl:∀ (n:Nat) (x:List UInt8),(vV n x).length<=n:=by
 intro n
 induction n with
 | zero=>intro x;exact bK _
 | succ n ih =>
  intro x;unfold vV
  cases x with
  | nil=>simp
  | cons c r =>
   simp only;cases decide ((mX (c::r)).1 < 0)
   ·simp only [cond_false,List.length_cons];have:=ih ((c::r).drop (mX (c::r)).2.toNat);omega
   ·simp only [cond_true,List.length_cons];have:=ih r;omega
theorem aAg:∀ (l:List Int) (out:List (Int×Int)),(lG l out).1.length<=out.length+l.length:=by
 intro l
 induction l with
 | nil =>
  intro out;unfold lG;cases decide ((out.length:Int) > 65536)
  ·exact bK _
  ·exact nC _
 | cons c l ih =>
  intro out;unfold lG;cases NY c
  ·exact nC _
  ·simp only [cond_true];have h1:=ih (kL out c);have h2:=NO out c;simp only [List.length_cons];omega
section
variable {s s':St} {p ib:Nat} {L:List Dc} {scs:List Ev} {σ:Sg} {F:List Nat} {K:aG} {ps:List UInt8->List Nat×Int} {L0:List Dc} {n j:Nat} {σ':Sg}
theorem bAj (r:List (Int×Int)×Int):aS (rtA r) 0=some (.sl false (r.1.map kZ))/\aS (rtA r) 1=some (.int .i64 r.2):=⟨rfl,rfl⟩
theorem bGi (hps:LB ps) (hT:rW ps n):rW ps (n+1):=by
 intro s p ib L0 j scs σ F x r σ' fr hR hok hL hfit hw hc;have hc:iG ps true (T ps true n) (L0.take j) scs.flatten x σ=some (r,σ'):=hc;have hF:=hR.lt fr;have hp:=hF p hR.pin;obtain ⟨xin,vs,jm,FB,c,rfl⟩:=hR;have hR:pJ s p ib (L0.take j) scs σ (p::jm::(FB++bG xin vs)):=⟨xin,vs,jm,FB,c,rfl⟩;refine aUw _ _ _ ?_;unfold f75;refine ⟨cH x,?_⟩;have heq3:∀ u v:Int,bn .eql 3 (.int .i64 u) (.int .i64 v)=some (.bool (u==v)):=fun _ _=>bin_eql;have hne34:∀ u v:Int,bn .neq 34 (.int .i64 u) (.int .i64 v)=some (.bool (u != v)):=fun _ _=>bin_neq;have same:∀ (S:St) (r0:Int×Int),EF [] s S->(some (r0,σ):Rt)=some (r,σ')->(mE r0=mE r/\∃ F',kW s p ib (L0.take j) scs (p::jm::(FB++bG xin vs)) σ' S F'):=fun S r0 e h=>by simp only [m000,m001] at h;obtain ⟨rfl,rfl⟩:=h;exact ⟨rfl,_,kW.same hR fr e⟩
 have bank:∀ (S s':St) (q:(Int×Int)×Bk),EF [] s S->pU q σ.2=some (r,σ')->yZ S ib FB q.2 s'->(mE q.1=mE r/\∃ F',kW s p ib (L0.take j) scs (p::jm::(FB++bG xin vs)) σ' s' F'):=fun S s' q e h hb=>by simp only [pU,m000,m001] at h;obtain ⟨rfl,rfl⟩:=h;exact ⟨rfl,KB c fr e hb⟩
 have e0:∀ (k:Nat),0 < k->EF [] s (Ai.adv (s.set s.nx (some (.cells x.av.cells 33 true true))) k):=fun k hk=>⟨by simp only [adv_nx,set_nx];omega,fun b hb _=>by rw [adv_h,aB (by omega)],cA fr k (by omega)⟩;have hpn:¬ (p=s.nx):=by omega
 have hx30:=aXx hfit;unfold iG at hc;simp only [aPx,wx,wy,Z0,Z1,reduceCtorEq]
 cases hl:x.lst with
 | true =>rw [hl,cond_true] at hc;simp only [dI,wx,wy,Z0,Z1,reduceCtorEq];obtain ⟨v,s1,t1,rfl,F1,t2⟩:=bFb hT hL (e0 12 (by omega)).fr (hR.ext fr (e0 12 (by omega))) hok x hfit hw hc;refine bQ bMw ⟨_,s1,t1,?_⟩;simp only [zV,zO,wx,wy,Z0,Z1,reduceCtorEq];exact ⟨rfl,F1,t2.from (e0 12 (by omega)) hp⟩
 | false =>
 rw [hl,cond_false] at hc;simp only [bEh,heq3,wx,wy,Z0,Z1,reduceCtorEq]
 cases h4:(x.kind==4) with
 | true =>
  rw [h4,cond_true] at hc;obtain ⟨p1,p2,p3⟩:=hps x.txt hx30;simp only [aRo,wx,wy,Z0,Z1,reduceCtorEq];refine aP p1 (by simp [AV.closed]) ?_;have x0:aS (.tup [fZ (ps x.txt).1,.int .i64 (ps x.txt).2]) 0=some (fZ (ps x.txt).1):=rfl;have x1:aS (.tup [fZ (ps x.txt).1,.int .i64 (ps x.txt).2]) 1=some (.int .i64 (ps x.txt).2):=rfl
  cases he:((ps x.txt).2 != 0) with
  | true =>rw [he,cond_true] at hc;simp only [x0,x1,hne34,he,wx,wy,Z0,Z1,reduceCtorEq];exact same _ (0,101) (e0 _ (by omega)) hc
  | false =>
   rw [he,cond_false] at hc;have hb24:lK 24 [(1,fZ (ps x.txt).1)]=some (GQ false (ps x.txt).1):=by rw [bKd];rfl
   simp only [x0,x1,hne34,he,wx,wy,Z0,Z1,reduceCtorEq];refine ⟨rfl,?_⟩;simp only [hpn,c.cell,hb24,if_false,wx,wy,Z0,Z1,reduceCtorEq];refine (bMb (e0 _ (by omega)).fr (c.ext fr (e0 _ (by omega))).bank false _ p2 p3).call bRt fun s1 hs=>?_;simp only [zV,zO,wx,wy,Z0,Z1,reduceCtorEq];exact bank _ _ _ (e0 _ (by omega)) hc hs
 | false =>
 rw [h4,cond_false] at hc
 cases h6:(x.kind==6) with
 | true =>rw [h6,cond_true] at hc;have hpl:=aCl x.txt.length x.txt;have hpl:(FG x.txt).length<=2 ^ 30:=GN hpl hx30;have hrl:=aAg (FG x.txt) [];simp only [List.length_nil] at hrl;simp only [heq3,h6,aRo,wx,wy,Z0,Z1,reduceCtorEq];refine aP (bQa x.txt hx30) (by simp [AV.closed]) ?_;refine aP (bQn (FG x.txt) hpl) (by simp [tU]) ?_;simp only [(bAj (lG (FG x.txt) [])).1,(bAj (lG (FG x.txt) [])).2,wx,wy,Z0,Z1,reduceCtorEq];refine ⟨rfl,?_⟩;simp only [hpn,c.cell,if_false,wx,wy,Z0,Z1,reduceCtorEq];refine (bMp (e0 _ (by omega)).fr (c.ext fr (e0 _ (by omega))).bank _ (by omega)).call bRj fun s1 hs=>?_;simp only [zV,zO,wx,wy,Z0,Z1,reduceCtorEq];exact bank _ _ _ (e0 _ (by omega)) hc hs
 | false =>
 rw [h6,cond_false] at hc
 cases h3:(x.kind==3) with
 | true =>rw [h3,cond_true] at hc;simp only [heq3,h6,h3,aRo,wx,wy,Z0,Z1,reduceCtorEq];obtain ⟨v,s1,t1,rfl,F1,t2⟩:=bEb hT hL (e0 23 (by omega)).fr (hR.ext fr (e0 23 (by omega))) hok (by omega) x.txt hc;refine bQ bKk ⟨_,s1,t1,?_⟩;simp only [zV,zO,wx,wy,Z0,Z1,reduceCtorEq];exact ⟨rfl,F1,t2.from (e0 23 (by omega)) hp⟩
 | false =>rw [h3,cond_false] at hc;simp only [heq3,h6,h3,aOz,wx,wy,Z0,Z1,reduceCtorEq];exact same _ (0,101) (e0 _ (by omega)) hc
theorem WA (hps:LB ps):∀ n,rW ps n:=by
 intro n
 induction n with
 | zero=>intro s p ib L0 j scs σ F x r σ' _ _ _ _ _ _ hc;cases hc
 | succ n ih=>exact bGi hps ih
theorem bMj:mEv.fz 30=true:=by kernel_rfl
theorem bRb:mEv.se 30=[false,true,true]:=by kernel_rfl
theorem UB {v:AV} (h:v.closed=true) (s:St):pur mEv.P s 12 v=some (v,[]):=dF 12 h
theorem aUs {s:St} {ib:Nat} {x y x' y':AV} {i j:List Nat} (hx:pur mEv.P s 12 x=some (x',i)) (hy:pur mEv.P s 12 y=some (y',j)):iK mEv.P s (mEv.se 30) [.ptr ib 0,x,y]=some ([.ptr ib 0,x',y'],i++(j++[])):=by rw [bRb];simp only [iK,hx,hy,Option.bind_some,Option.map_some,cond_true,cond_false]
theorem BS (L:List Dc):(AV.sl false (L.map Dc.av)).closed=true:=by simp only [AV.closed,m027,m031];exact fA _ _ eO
theorem aIq (s:St) (ib:Nat) (L:List Dc) (x:Sx):iK mEv.P s (mEv.se 30) [.ptr ib 0,.sl false (L.map Dc.av),x.av]=some ([.ptr ib 0,.sl false (L.map Dc.av),x.av],[]):=aUs (UB (BS L) s) (UB (aV x) s)
theorem aOm (hps:LB ps) {B B':Bk} {M':Mm} (fr:aI s) (hB:jJ s ib B F) (hw:Wf B) (hL:rN L0) (x:Sx) (hfit:x.fit) (hwt:x.wt<=2 ^ 29) {r:Int×Int} {n:Nat} (hc:T ps true n L0 [] x (B,[])=some (r,(B',M'))):GR 30 [.ptr ib 0,.sl false (L0.map Dc.av),x.av] s ib F (r,B'):=by
 have hF:=hB.lt fr;have hib:=hF ib hB.mem;refine aUr _ _ _ _ ?_;unfold f30;refine ⟨cH x,?_⟩;have hb:∀ k,lK 124 [(0,.ptr ib 0),(1,.sl false (L0.map Dc.av)),(3,.map k)]=some (.agg [.ptr ib 0,.sl false (L0.map Dc.av),.nils,.map k]):=fun k=>by rw [bBy];rfl
 have hcl:∀ k,(AV.agg [.ptr ib 0,.sl false (L0.map Dc.av),.nils,.map k]).cells=[.ptr ib 0,.sl false (L0.map Dc.av),.nils,.map k]:=fun k=>rfl;have hone:∀ k,([.ptr ib 0,.sl false (L0.map Dc.av),.nils,.map k]:List AV).all AV.one=true:=fun k=>rfl;simp only [hb,hcl,hone,dI,wx,wy,Z0,Z1,reduceCtorEq];obtain ⟨S,hS⟩:∃ S,S=Ai.adv (((s.set s.nx (some (.cells x.av.cells 33 true true))).set (s.nx+5) (some (.map []))).set (s.nx+7) (some (.cells [.ptr ib 0,.sl false (L0.map Dc.av),.nils,.map (s.nx+5)] 124 true true))) 16:=⟨_,rfl⟩;rw [<- hS];have nS:S.nx=s.nx+16:=by rw [hS];rfl
 have gS:∀ x,x < s.nx->S.h x=s.h x:=fun a ha=>by rw [hS,adv_h,aB (by omega),aB (by omega),aB (by omega)]
 have eS:EF [] s S:=by refine ⟨by omega,fun a ha _=>gS a ha,fun a ha=>?_⟩;rw [nS] at ha;rw [hS,adv_h,aB (by omega),aB (by omega),aB (by omega)];exact fr a (by omega)
 have hmk:pJ S (s.nx+7) ib (L0.take L0.length) [] (B,[]) ((s.nx+7)::(s.nx+5)::(F++bG .nils [])):=by refine ⟨.nils,[],s.nx+5,F,⟨by rw [m045,hS,adv_h,aF],hB.keep fun a ha=>gS a (hF a ha),by rw [hS,adv_h,aB (by omega),aF];rfl,.inl ⟨rfl,rfl⟩,trivial,by omega,fun h=>by have:=hF _ h;omega,fun h=>by have:=hF _ h;omega,fun a ha=>by cases ha⟩,rfl⟩
 have hok:qT ps L0 ([]:List Ev).flatten (B,[]):=⟨hw,(fun q hq=>by cases hq),qA ps L0 B⟩;obtain ⟨v,s1,t1,rfl,F1,t2⟩:=WA hps n S (s.nx+7) ib L0 L0.length [] (B,[]) _ x r (B',M') eS.fr hmk hok hL hfit (by simp only [List.length_nil];omega) (by rw [m045];exact hc);refine bQ bDo ⟨_,s1,t1,?_⟩;simp only [zV,zO,wx,wy,Z0,Z1,reduceCtorEq];refine ⟨rfl,?_⟩;obtain ⟨⟨xin,vs,jm,FB,c,hF1⟩,e1,m1,_⟩:=t2
 have hsub:∀ a∈(s.nx+7)::(s.nx+5)::(F++bG .nils []),a∈F\/s.nx<=a:=fun a ha=>by
  simp only [m013,m003,bG,aE,m042,m011,m073,or_false] at ha;rcases ha with rfl | rfl | ha
  ·exact .inr (by omega)
  ·exact .inr (by omega)
  ·exact .inl ha
 refine ⟨FB,c.bank,(eS.sub (M':=F) fun a ha=>by cases ha).trans e1 fun a ha=>(hsub a ha).symm,fun a ha=>?_⟩;rcases m1 a (by rw [hF1];simp [ha]) with h | h
 ·exact hsub a h
 ·exact .inr (by omega)
end
end
noncomputable section
theorem pX {z id off:Nat} {v:AV} {c:List AV} {e:TypeId} {ex:Bool} {s:St} (h:s.h id=some (.cells c e ex true)) (hv:(c.drop off).take z=v.cells) (hl:off+z<=c.length) (ho:v.cells.all AV.one=true):dU z (.ptr id off) v s=some s:=by
 have hz:v.cells.length=z:=by rw [<- hv,m020,m058];omega
 show Ai.store z _ _ _=_;unfold Ai.store;simp only [h];rw [if_pos ⟨hz,hl,ho⟩];have:=AY v.cells (c.take off) (c.drop off) (by rw [m058,hz];omega);rw [List.take_append_drop,m020,rM (by omega)] at this;rw [this,<- hv,m020,m058,rM (by omega),m019,List.take_append_drop,List.take_append_drop];congr 1;refine aOu (fun m=>?_) rfl;by_cases hm:m=id
 ·subst hm;rw [aF,h]
 ·rw [aB hm]
section
variable {t e:TypeId} {z b:Nat} {ag:Bool} {s s':St} {x:AV} {vs:List AV}
theorem NL {k:FuncId} (h:eR t e z ag b) (hp:mEv.prim k=some (cK Tryz.ty e)) (hrun:cK Tryz.ty e [x] s=bM e z b (.sl true []) (vs.flatMap AV.cells) (s.nx+5) ⟨s.h,s.nx+7⟩) (hw:∀ v∈vs,v.cells.length=z/\v.cells.all AV.one=true) (hne:vs≠[]) (hb:vs.length * b<=2 ^ 40) (hl:vs.length<=2 ^ 40) (fr:aI s) :
  ∃ s',WideC mEv k [x] s (.ref (s.nx+5) 0 vs.length none e) s'/\EF [] s s'/\s'.h (s.nx+5)=some (.cells (vs.flatMap AV.cells) e false true)/\s'.nx=s.nx+7:=by
 have hfl:=dP hw;have hone:(vs.flatMap AV.cells).all AV.one=true:=m032.2 fun c hc=>by obtain ⟨v,hv,hc⟩:=List.mem_flatMap.1 hc;exact m032.1 (hw v hv).2 c hc
 have hem:(vs.flatMap AV.cells).isEmpty=false:=by
  cases hc:vs.flatMap AV.cells with
  | nil =>rw [hc] at hfl;have:=Nat.mul_pos (List.length_pos_iff.2 hne) h.pos;simp only [List.length_nil] at hfl;omega
  | cons x y=>rfl
 have hdiv:(vs.flatMap AV.cells).length / z=vs.length:=by rw [hfl];exact CW _ h.pos
 refine ⟨St.set ⟨s.h,s.nx+7⟩ (s.nx+5) (some (.cells (vs.flatMap AV.cells) e false true)),nB hp ?_,⟨by show s.nx<=s.nx+7;omega,fun j hj _=>aB (by omega),?_⟩,aF,rfl⟩
 ·rw [hrun];unfold bM;simp only [hem,hone,m025,m015,if_false,List.all_nil,if_true,m042,List.nil_append,dR,hdiv,sH hb hl,kG]
 ·intro j hj;have hj:s.nx+7<=j:=hj;rw [aB (by omega)];exact fr j (by omega)
theorem MZ {k:FuncId} (h:eR t e z ag b) (hp:mEv.prim k=some (cK Tryz.ty e)) (g:Jw e z s x vs) (hb:vs.length * b<=2 ^ 40) (hl:vs.length<=2 ^ 40) (fr:aI s) :
  ∃ r s',WideC mEv k [x] s r s'/\EF [] s s'/\((vs=[]/\(r=.nils\/r=.sl true []))\/(vs≠[]/\r=.ref (s.nx+5) 0 vs.length none e/\s'.h (s.nx+5)=some (.cells (vs.flatMap AV.cells) e false true))):=by
 obtain ⟨h1,⟨rfl,rfl⟩ | ⟨i,junk,m,rfl,h2,h3,h4⟩⟩:=g
 ·refine ⟨.nils,⟨s.h,s.nx+4⟩,nB hp ?_,⟨by show s.nx<=s.nx+4;omega,fun _ _ _=>rfl,fr.adv (n:=4)⟩,.inl ⟨rfl,.inl rfl⟩⟩;unfold cK;simp only [h.l,h.b]
 ·have hw:∀ v∈vs,v.cells.length=z/\v.cells.all AV.one=true:=fun v hv=>⟨(h1 v hv).1,(h1 v hv).2.1⟩;have hfl:=dP hw;have hsrc:aR z (.ref i 0 vs.length none e) s=some (vs.flatMap AV.cells):=by simp only [aR,h2,m023,m048];rw [if_pos (by rw [m006,hfl];omega),<- hfl,List.take_left]
  have run:cK Tryz.ty e [.ref i 0 vs.length none e] s=bM e z b (.sl true []) (vs.flatMap AV.cells) (s.nx+5) ⟨s.h,s.nx+7⟩:=by unfold cK;simp only [h.l,h.b,mP,cond_true,hsrc,Option.bind_some]
  by_cases hne:vs=[]
  ·subst hne;refine ⟨.sl true [],⟨s.h,s.nx+7⟩,nB hp (by rw [run];rfl),⟨by show s.nx<=s.nx+7;omega,fun _ _ _=>rfl,fr.adv (n:=7)⟩,.inl ⟨rfl,.inr rfl⟩⟩
  ·obtain ⟨s',e1,e2,e3,_⟩:=NL h hp run hw hne hb hl fr;exact ⟨_,s',e1,e2,.inr ⟨hne,rfl,e3⟩⟩
theorem aLy {k:FuncId} (h:eR t e z ag b) (hp:mEv.prim k=some (cK Tryz.ty e)) (hw:∀ v∈vs,v.cells.length=z/\v.cells.all AV.one=true) (hne:vs≠[]) (hb:vs.length * b<=2 ^ 40) (hl:vs.length<=2 ^ 40) (fr:aI s) :
  ∃ s',WideC mEv k [.sl false vs] s (.ref (s.nx+5) 0 vs.length none e) s'/\EF [] s s'/\s'.h (s.nx+5)=some (.cells (vs.flatMap AV.cells) e false true)/\s'.nx=s.nx+7:=by
 refine NL h hp ?_ hw hne hb hl fr;have hall:vs.all (fun v=>v.cells.length==z)=true:=m032.2 fun v hv=>by simp [(hw v hv).1]
 cases vs with
 | nil=>exact absurd rfl hne
 | cons a l =>unfold cK;simp only [h.l,h.b];show cond (mP (.sl false (a::l))) ((aR z (.sl false (a::l)) s).bind fun c=>bM e z b (.sl true []) c (s.nx+5) ⟨s.h,s.nx+7⟩) none=_;simp only [mP,cond_true,aR,hall,if_true,Option.bind_some]
end
theorem bIl:mEv.prim 146=some (cK Tryz.ty 67):=by kernel_rfl
theorem bOx:mEv.prim 147=some (cK Tryz.ty 151):=by kernel_rfl
theorem aQs:mEv.prim 148=some (cK Tryz.ty 33):=by kernel_rfl
theorem bHq:mEv.fz 146=false:=by kernel_rfl
theorem aNx:mEv.fz 148=false:=by kernel_rfl
theorem JT {z i n k:Nat} {e:TypeId} {vs:List AV} {v:AV} (h1:∀ v∈vs,v.cells.length=z) (hn:n=vs.length) (hk:vs[k]?=some v) (ha:v=.agg v.cells):cQ z (.ref i 0 n none e) (.int .i64 (k:Int))=some (.ptr i (k * z))/\Ai.part z true (k * z) (vs.flatMap AV.cells)=some v/\((vs.flatMap AV.cells).drop (k * z)).take z=v.cells/\k * z+z<=(vs.flatMap AV.cells).length:=by
 obtain ⟨d1,d2⟩:=sS h1 hk;have hlt:k < n:=by rw [hn];exact (m012.1 hk).1
 refine ⟨by simp [cQ,pW,xI,hlt],?_,d1,d2⟩;unfold Ai.part;rw [if_pos rfl,if_pos d2,d1,<- ha]
theorem OI (y:Sx):y.av=.agg y.av.cells:=by cases y;rfl
theorem aUp {s:St} {l:Bool} {k p a:Int} {x:List UInt8} {its:List Sx} {xl:AV} (g:Gw 33 6 0 s xl (its.map Sx.av)):pM (Sx.mk l k x p a its).av (.agg [.bool l,.int .i64 k,.str x,.int .i64 p,.int .i64 a,xl]) s:=by
 obtain ⟨ids,hp,_⟩:=KG zB g (fun y _=>aV y) (fun y _=>by cases y;rfl) 10;have hca:(AV.agg [.bool l,.int .i64 k,.str x,.int .i64 p,.int .i64 a,xl]).closed=false:=by simp [AV.closed,aW,g.not_closed]
 have q:∀ v:AV,v.closed=true->pur mEv.P s 11 v=some (v,[]):=fun v h=>dF 11 h;refine ⟨ids++[],?_⟩;unfold pur;rw [if_neg (by rw [hca];simp)];have e3:(Sx.mk l k x p a its).av=.agg [.bool l,.int .i64 k,.str x,.int .i64 p,.int .i64 a,.sl false (its.map Sx.av)]:=by rw [<- Sx.avs_eq];rfl
 rw [e3];simp only [dN,q _ (show (AV.bool l).closed=true from rfl),q _ (show (AV.int .i64 k).closed=true from rfl),q _ (show (AV.str x).closed=true from rfl),q _ (show (AV.int .i64 p).closed=true from rfl),q _ (show (AV.int .i64 a).closed=true from rfl),hp,Option.map_some,List.nil_append]
theorem aWy {s:St} {l:Bool} {k p a:Int} {x:List UInt8}:pM (Sx.mk l k x p a []).av (.agg [.bool l,.int .i64 k,.str x,.int .i64 p,.int .i64 a,.sl false []]) s:=⟨[],dF 12 rfl⟩
theorem l97 (l:Bool) (k p a:Int) (x:List UInt8) (items:List Sx) (hlen:items.length<=2 ^ 20) (ih:∀ y∈items,bE mEv 97 [y.av] y.av) (Q:aG) (b0 b1 i0:Nat) (hd:b0≠b1) (h01:i0≠b0) (h02:i0≠b1) (C:List AV) (hC:C.length=6)
  (hQ:∀ s,Gw 33 6 0 s (.ref i0 0 items.length none 33) (items.map Sx.av)->Q (.agg [.bool l,.int .i64 k,.str x,.int .i64 p,.int .i64 a,.ref i0 0 items.length none 33]) s) :
  ∀ (m i:Nat) (s:St),i+m=items.length->aI s->s.h b0=some (.cells [.bool l,.int .i64 k,.str x,.int .i64 p,.int .i64 a,.ref i0 0 items.length none 33] 33 true true)->s.h b1=some (.cells C 33 true true)->s.h i0=some (.cells ((items.map Sx.av).flatMap AV.cells) 33 false true) ->
   xH Q (m+1) (.ptr b0 0) (.ptr b1 0) (.int .i64 items.length) (.int .i64 i) s:=by
 intro m
 induction m with
 | zero =>
  intro i s hi fr h0 h1 h2;show tX Q (xH Q 0) _ _ _ _ s;have c1:decide ((i:Int) < (items.length:Int))=false:=by simp;omega
  have hp:Ai.part 6 true 0 [.bool l,.int .i64 k,.str x,.int .i64 p,.int .i64 a,.ref i0 0 items.length none 33]=some (.agg [.bool l,.int .i64 k,.str x,.int .i64 p,.int .i64 a,.ref i0 0 items.length none 33]):=rfl;have g:Gw 33 6 0 s (.ref i0 0 items.length none 33) (items.map Sx.av):=⟨fun v hv=>by obtain ⟨y,_,rfl⟩:=m021.1 hv;exact ⟨iC y,cH y⟩,.inr ⟨i0,nC _,by rw [m002],h2⟩⟩;simp only [tX,HY,c1,h0,hp,wx,wy,Z0,Z1,reduceCtorEq];rw [bJ (id:=b1) (z:=6) (c:=C) (e:=33) (ex:=true) (v:=.agg [.bool l,.int .i64 k,.str x,.int .i64 p,.int .i64 a,.ref i0 0 items.length none 33]) (by rw [adv_h];exact h1) hC rfl rfl];simp only [Bnd_some,aF,wx,wy,Z0,Z1,reduceCtorEq];exact hQ _ (g.keep fun j hj=>by simp only [aE,m008] at hj;subst hj;rw [adv_h,aB h02])
 | succ m ihm =>
  intro i s hi fr h0 h1 h2;show tX Q (xH Q (m+1)) _ _ _ _ s;obtain ⟨y,hy⟩:∃ y,items[i]?=some y:=⟨_,m004 (by omega)⟩;have c1:decide ((i:Int) < (items.length:Int))=true:=by simp;omega
  obtain ⟨e1,e2,e3,e4⟩:=JT (z:=6) (i:=i0) (e:=33) (n:=items.length) (vs:=items.map Sx.av) (k:=i) (v:=y.av) (fun v hv=>by obtain ⟨y,_,rfl⟩:=m021.1 hv;exact iC y) (by rw [m002]) (by rw [m047,hy];rfl) (OI y);have hlt:i < items.length:=by omega
  simp only [tX,aJh,c1,h0,e1,h2,e2,wx,wy,Z0,Z1,reduceCtorEq];refine oX (ih y (m017 hy)) (by simp [aV]) ?_;simp only [e1,wx,wy,Z0,Z1,reduceCtorEq];refine ⟨fr _ (by omega),?_⟩;rw [pX (z:=6) (e:=33) (ex:=false) (by rw [adv_h];exact h2) e3 e4 (cH y)];simp only [Bnd_some,wx,wy,Z0,Z1,reduceCtorEq];rw [cC i items.length hlt (by have:maxLen=9223372036854775807:=rfl;omega)];exact ihm (i+1) _ (by omega) fr.adv h0 h1 h2
theorem c97:∀ x:Sx,x.fit->bE mEv 97 [x.av] x.av:=by
 refine LL fun l k x p a items ih ho=>?_;obtain ⟨hlen,hfi⟩:=wW ho;have hlen:items.length<=2 ^ 20:=hlen;have h5:(Sx.mk l k x p a items).av.cells[5]?=some (.sl false (items.map Sx.av)):=by rw [<- Sx.avs_eq];rfl
 have hz:(AV.agg [.bool false,.int .i64 0,.str [],.int .i64 0,.int .i64 0,.nils]).cells=[.bool false,.int .i64 0,.str [],.int .i64 0,.int .i64 0,.nils]:=rfl;refine dA (aVl _ _ ?_);unfold f97;refine ⟨cH _,?_⟩;simp only [aUg,hz,h5,wx,wy,Z0,Z1,reduceCtorEq];have hset:∀ v:AV,(Sx.mk l k x p a items).av.cells.set 5 v=[.bool l,.int .i64 k,.str x,.int .i64 p,.int .i64 a,v]:=fun v=>rfl;have S0:∀ v:AV,v.cells=[v]->v.one=true->∀ S:St,S.h St.empty.nx=some (.cells (Sx.mk l k x p a items).av.cells 33 true true)->dU 1 (.ptr St.empty.nx 5) v S=some (S.set St.empty.nx (some (.cells [.bool l,.int .i64 k,.str x,.int .i64 p,.int .i64 a,v] 33 true true))):=fun v h1 h2 S hS=>by rw [eB hS (by rw [iC];decide) h1 h2,hset]
 obtain ⟨S,hS⟩:∃ S,S=Ai.adv ((St.empty.set St.empty.nx (some (gU.cells (Sx.mk l k x p a items).av.cells 33 true true))).set (St.empty.nx+1) (some (gU.cells [AV.bool false,AV.int IntKind.i64 0,AV.str [],AV.int IntKind.i64 0,AV.int IntKind.i64 0,AV.nils] 33 true true))) 7:=⟨_,rfl⟩;rw [<- hS];have nS:S.nx=7:=by rw [hS];rfl
 have n0:St.empty.nx=0:=rfl;have g0:S.h St.empty.nx=some (.cells (Sx.mk l k x p a items).av.cells 33 true true):=by rw [hS,adv_h,aB (by decide),aF]
 have g1:S.h (St.empty.nx+1)=some (.cells [AV.bool false,AV.int IntKind.i64 0,AV.str [],AV.int IntKind.i64 0,AV.int IntKind.i64 0,AV.nils] 33 true true):=by rw [hS,adv_h,aF]
 have fr:aI S:=fun j hj=>by rw [hS,adv_h,aB (by omega),aB (by omega)];rfl
 by_cases hne:items=[]
 ·subst hne;refine bQ aNx ⟨_,Ai.adv S 7,nB aQs (r:=.sl false []) (by unfold cK;simp only [zB.l,zB.b];rfl),?_⟩;rw [S0 _ rfl rfl _ (by rw [adv_h,g0])];simp only [Bnd_some,aF,CG,wx,wy,Z0,Z1,reduceCtorEq];refine ⟨1,?_⟩;show tX (pM (Sx.mk l k x p a []).av) (xH (pM (Sx.mk l k x p a []).av) 0) _ _ _ _ _;have hp:∀ v:AV,Ai.part 6 true 0 [.bool l,.int .i64 k,.str x,.int .i64 p,.int .i64 a,v]=some (.agg [.bool l,.int .i64 k,.str x,.int .i64 p,.int .i64 a,v]):=fun v=>rfl;have c1:decide (((0:Nat):Int) > ((0:Nat):Int))=false:=rfl;simp only [tX,HY,List.length_nil,hp,wx,wy,Z0,Z1,reduceCtorEq];rw [bJ (id:=St.empty.nx+1) (z:=6) (c:=[AV.bool false,AV.int IntKind.i64 0,AV.str [],AV.int IntKind.i64 0,AV.int IntKind.i64 0,AV.nils]) (e:=33) (ex:=true) (v:=.agg [.bool l,.int .i64 k,.str x,.int .i64 p,.int .i64 a,.sl false []]) (by rw [adv_h,aB (by omega),g1]) rfl rfl rfl];simp only [Bnd_some,aF,hp,wx,wy,Z0,Z1,reduceCtorEq];exact aWy
 ·obtain ⟨s',e1,e2,e3,e4⟩:=aLy (k:=148) zB aQs (vs:=items.map Sx.av) (s:=S) (fun v hv=>by obtain ⟨y,_,rfl⟩:=m021.1 hv;exact ⟨iC y,cH y⟩) (by simpa using hne) (by rw [m002];omega) (by rw [m002];omega) fr;rw [m002] at e1;refine bQ aNx ⟨_,_,e1,?_⟩;rw [S0 _ rfl rfl _ (by rw [e2.h _ (by omega) (by simp),g0])];simp only [Bnd_some,aF,PW,wx,wy,Z0,Z1,reduceCtorEq];refine ⟨items.length+1,l97 l k p a x items hlen (fun y hy=>ih y hy (hfi y hy)) _ St.empty.nx (St.empty.nx+1) (S.nx+5) (by omega) (by omega) (by omega) [AV.bool false,AV.int IntKind.i64 0,AV.str [],AV.int IntKind.i64 0,AV.int IntKind.i64 0,AV.nils] rfl (fun s g=>aUp g) items.length 0 _ (by omega) ?_ ?_ ?_ ?_⟩
  ·exact fun j hj=>by simp only [adv_nx,set_nx] at hj;rw [adv_h,aB (by omega)];exact e2.fr j (by omega)
  ·rw [adv_h,aF]
  ·rw [adv_h,aB (by omega),e2.h _ (by omega) (by simp),g1]
  ·rw [adv_h,aB (by omega),e3]
theorem aKc {id off:Nat} {v:AV} {c:List AV} {e:TypeId} {ex:Bool} {s:St} (h:s.h id=some (.cells c e ex true)) (hv:c[off]?=some v) (h1:v.cells=[v]) (h2:v.one=true):dU 1 (.ptr id off) v s=some s:=by obtain ⟨hl,he⟩:=m012.1 hv;refine pX h ?_ (by omega) (by rw [h1];simp [h2]);rw [h1,List.drop_eq_getElem_cons hl,he];rfl
theorem bQg (l:List (List UInt8×Int)) (hl:l.length<=2 ^ 20):bE mEv 147 [.sl false (l.map lE)] (.sl false (l.map lE)):=PJ bQb aZu bOx l (by omega) (by omega) (fun _ _=>rfl) (fun _ _=>rfl)
theorem TF (l:List (List UInt8×Int)):(AV.sl false (l.map lE)).closed=true:=gV _ _ fun _ _=>rfl
theorem c95 (d:Dc) (hb:d.body.fit) (hp:d.ps.length<=2 ^ 20):bE mEv 95 [d.av] d.av:=by
 have hz:∃ v,zr 67=some v/\v.cells.length=10:=by
  have h:(zr 67).map (fun v=>v.cells.length)=some 10:=by kernel_rfl
  obtain ⟨v,h1,h2⟩:=m022.1 h;exact ⟨v,h1,h2⟩
 obtain ⟨Z,hZ,hZl⟩:=hz;refine dA (aTf _ _ ?_);unfold f95;refine ⟨eL d,?_⟩;simp only [hZ,ZE,wx,wy,Z0,Z1,reduceCtorEq];refine aP (bQg d.ps hp) (by simp [TF]) ?_;obtain ⟨S,hS⟩:∃ S,S=Ai.adv ((St.empty.set St.empty.nx (some (gU.cells d.av.cells 67 true true))).set (St.empty.nx+1) (some (gU.cells Z.cells 67 true true))) 7:=⟨_,rfl⟩;rw [<- hS];have g0:S.h St.empty.nx=some (.cells d.av.cells 67 true true):=by rw [hS,adv_h,aB (by decide),aF]
 have g1:S.h (St.empty.nx+1)=some (.cells Z.cells 67 true true):=by rw [hS,adv_h,aF]
 simp only [aKc g0 (ZE d) rfl rfl,g0,kQ,wx,wy,Z0,Z1,reduceCtorEq];refine aP (c97 d.body hb) (by simp [aV]) ?_;have e4:(d.av.cells.drop 4).take 6=d.body.av.cells:=by obtain ⟨a,b,c,e,⟨⟩⟩:=d;rfl
 rw [pX (z:=6) (v:=d.body.av) (by rw [adv_h,g0]) e4 (by rw [gJ];decide) (cH _)];simp only [g0,kK,wx,wy,Z0,Z1,reduceCtorEq];rw [bJ (id:=St.empty.nx+1) (z:=10) (c:=Z.cells) (e:=67) (ex:=true) (v:=d.av) (by rw [adv_h,g1]) hZl (gJ d) (eL d)];simp only [Bnd_some,aF,kK,wx,wy,Z0,Z1,reduceCtorEq];exact aX (eO d)
end
noncomputable section
def RdZ (f:FuncId) (args:List AV) (s:St) (v:AV):Prop:=∃ r s' ids,WideC mEv f args s r s'/\EF [] s s'/\pur mEv.P s' 12 r=some (v,ids)/\∀ j∈ids,s.nx<=j
section
variable {s s':St} {K:aG} {f:FuncId} {args:List AV} {v:AV}
theorem EF.drop0 {ids:List Nat} (h:EF [] s s') (hi:∀ j∈ids,s.nx<=j):EF [] s (s'.drop ids):=by
 refine ⟨by rw [qY];exact h.nx,fun j hj hn=>?_,fun j hj=>?_⟩
 ·rw [WW (fun hm=>by have:=hi j hm;omega)];exact h.h j hj hn
 ·rw [qY] at hj;exact wZ (h.fr j hj)
theorem RdZ.call (h:RdZ f args s v) (hz:mEv.fz f=true) (hs:mEv.se f=[]) (hk:∀ s',EF [] s s'->K v s'):aL mEv f args s K:=by obtain ⟨r,s',ids,h1,h2,h3,h4⟩:=h;refine YS hz hs ⟨_,_,h1,?_⟩;rw [h3,Bnd_some];exact hk _ (h2.drop0 h4)
theorem RdZ.callD {l:List Nat} (h:RdZ f args (s.only l) v) (hz:mEv.fz f=true) (hs:mEv.se f=[]) (hk:∀ s',EF [] s s'->K v s'):cL mEv f args l s K:=by obtain ⟨r,s',ids,h1,h2,h3,h4⟩:=h;refine NA (ids:=[]) hz (by rw [hs];rfl) ⟨_,_,h1,?_⟩;rw [h3,Bnd_some];exact hk _ (lQ (h2.drop0 h4) fun j hj=>by cases hj)
end
def GK (e:TypeId) (s s':St) (r:AV) (vs:List AV):Prop:=EF [] s s'/\((vs=[]/\(r=.nils\/r=.sl true []))\/∃ j,vs≠[]/\r=.ref j 0 vs.length none e/\s.nx<=j/\s'.h j=some (.cells (vs.flatMap AV.cells) e false true))
theorem bNy:mEv.fz 94=false:=by kernel_rfl
theorem bHm:mEv.fz 96=false:=by kernel_rfl
theorem bRk:mEv.fz 98=false:=by kernel_rfl
theorem aZi:mEv.fz 44=true:=by kernel_rfl
theorem bHr:mEv.fz 45=true:=by kernel_rfl
theorem bMy:mEv.se 44=[]:=by kernel_rfl
theorem bPh:mEv.se 45=[]:=by kernel_rfl
section
variable {s s':St} {K:aG} {p o:Nat} {c:List AV} {e:TypeId} {ex wr:Bool} {x:AV} {vs:List AV}
theorem c94 (fr:aI s) (hc:s.h p=some (.cells c e ex wr)) (ho:c[o]?=some x) (g:Jw 67 10 s x vs) (hl:vs.length<=2 ^ 20):∃ r s',WideC mEv 94 [.ptr p o] s r s'/\GK 67 s s' r vs:=by refine aVh _ _ (Q:=fun r s'=>GK 67 s s' r vs) ?_;unfold f94;simp only [AT,wx,wy,Z0,Z1,reduceCtorEq];refine ⟨rfl,?_⟩;simp only [hc,ho,wx,wy,Z0,Z1,reduceCtorEq];obtain ⟨r,s',e1,e2,e3⟩:=MZ US bIl (g.keep (s':=Ai.adv s 9) fun _ _=>rfl) (by omega) (by omega) fr.adv;refine bQ bHq ⟨r,s',e1,(EF.refl [] fr).adv.trans e2 (fun _ h=>by cases h),e3.imp_right fun h=>⟨_,h.1,h.2.1,by simp only [adv_nx];omega,h.2.2⟩⟩
theorem c96 (fr:aI s) (hc:s.h p=some (.cells c e ex wr)) (ho:c[o]?=some x) (g:Jw 33 6 s x vs) (hl:vs.length<=2 ^ 20):∃ r s',WideC mEv 96 [.ptr p o] s r s'/\GK 33 s s' r vs:=by refine aVb _ _ (Q:=fun r s'=>GK 33 s s' r vs) ?_;unfold f96;simp only [LX,wx,wy,Z0,Z1,reduceCtorEq];refine ⟨rfl,?_⟩;simp only [hc,ho,wx,wy,Z0,Z1,reduceCtorEq];obtain ⟨r,s',e1,e2,e3⟩:=MZ zB aQs (g.keep (s':=Ai.adv s 9) fun _ _=>rfl) (by omega) (by omega) fr.adv;refine bQ aNx ⟨r,s',e1,(EF.refl [] fr).adv.trans e2 (fun _ h=>by cases h),e3.imp_right fun h=>⟨_,h.1,h.2.1,by simp only [adv_nx];omega,h.2.2⟩⟩
end
theorem SM (L:List Dc):∀ v∈L.map Dc.av,v.cells.length=10/\v.cells.all AV.one=true:=fun v hv=>by obtain ⟨d,_,rfl⟩:=m021.1 hv;exact ⟨gJ d,eL d⟩
theorem bPp (Q:aG) (r:AV) (S:St) (h:∀ n,Q r (Ai.adv S n)):tF Q 1 r (.int .i64 0) (.int .i64 0) S:=by show uA Q (tF Q 0) _ _ _ S;have c1:decide ((0:Int) < 0)=false:=rfl;simp only [uA,HC,c1,wx,wy,Z0,Z1,reduceCtorEq];exact h _
theorem l44 (D:List Dc) (hlen:D.length<=2 ^ 20) (hD:∀ d∈D,d.body.fit/\d.ps.length<=2 ^ 20) (Q:aG) (j:Nat) (S:St) (hj:S.h j=some (.cells ((D.map Dc.av).flatMap AV.cells) 67 false true)) (hQ:∀ s,s.h=S.h->S.nx<=s.nx->Q (.ref j 0 D.length none 67) s) :
  ∀ (m i:Nat) (s:St),i+m=D.length->s.h=S.h->S.nx<=s.nx->tF Q (m+1) (.ref j 0 D.length none 67) (.int .i64 D.length) (.int .i64 i) s:=by
 intro m
 induction m with
 | zero =>
  intro i s hi hs hn;show uA Q (tF Q 0) _ _ _ s;have c1:decide ((i:Int) < (D.length:Int))=false:=by simp;omega
  simp only [uA,HC,c1,wx,wy,Z0,Z1,reduceCtorEq];exact hQ _ hs (by simp only [adv_nx];omega)
 | succ m ihm =>
  intro i s hi hs hn;show uA Q (tF Q (m+1)) _ _ _ s;obtain ⟨y,hy⟩:∃ y,D[i]?=some y:=⟨_,m004 (by omega)⟩;have c1:decide ((i:Int) < (D.length:Int))=true:=by simp;omega
  obtain ⟨e1,e2,e3,e4⟩:=JT (z:=10) (i:=j) (e:=67) (n:=D.length) (vs:=D.map Dc.av) (k:=i) (v:=y.av) (fun v hv=>by obtain ⟨y,_,rfl⟩:=m021.1 hv;exact gJ y) (by rw [m002]) (by rw [m047,hy];rfl) rfl;have hlt:i < D.length:=by omega
  have hj':s.h j=some (.cells ((D.map Dc.av).flatMap AV.cells) 67 false true):=by rw [hs];exact hj
  obtain ⟨f1,f2⟩:=hD y (m017 hy);simp only [uA,aSy,c1,e1,hj',e2,wx,wy,Z0,Z1,reduceCtorEq];refine aP (c95 y f1 f2) (by simp [eO]) ?_;rw [pX (z:=10) (e:=67) (ex:=false) (by rw [adv_h];exact hj') e3 e4 (eL y)];simp only [Bnd_some,wx,wy,Z0,Z1,reduceCtorEq];rw [cC i D.length hlt (by have:maxLen=9223372036854775807:=rfl;omega)];exact ihm (i+1) _ (by omega) hs (by simp only [adv_nx];omega)
theorem bSc (Q:aG) (r:AV) (S:St) (h:∀ n,Q r (Ai.adv S n)):tI Q 1 r (.int .i64 0) (.int .i64 0) S:=by show tJ Q (tI Q 0) _ _ _ S;have c1:decide ((0:Int) < 0)=false:=rfl;simp only [tJ,IH,c1,wx,wy,Z0,Z1,reduceCtorEq];exact h _
theorem l45 (D:List Sx) (hlen:D.length<=2 ^ 20) (hD:∀ d∈D,d.fit) (Q:aG) (j:Nat) (S:St) (hj:S.h j=some (.cells ((D.map Sx.av).flatMap AV.cells) 33 false true)) (hQ:∀ s,s.h=S.h->S.nx<=s.nx->Q (.ref j 0 D.length none 33) s) :
  ∀ (m i:Nat) (s:St),i+m=D.length->s.h=S.h->S.nx<=s.nx->tI Q (m+1) (.ref j 0 D.length none 33) (.int .i64 D.length) (.int .i64 i) s:=by
 intro m
 induction m with
 | zero =>
  intro i s hi hs hn;show tJ Q (tI Q 0) _ _ _ s;have c1:decide ((i:Int) < (D.length:Int))=false:=by simp;omega
  simp only [tJ,IH,c1,wx,wy,Z0,Z1,reduceCtorEq];exact hQ _ hs (by simp only [adv_nx];omega)
 | succ m ihm =>
  intro i s hi hs hn;show tJ Q (tI Q (m+1)) _ _ _ s;obtain ⟨y,hy⟩:∃ y,D[i]?=some y:=⟨_,m004 (by omega)⟩;have c1:decide ((i:Int) < (D.length:Int))=true:=by simp;omega
  obtain ⟨e1,e2,e3,e4⟩:=JT (z:=6) (i:=j) (e:=33) (n:=D.length) (vs:=D.map Sx.av) (k:=i) (v:=y.av) (fun v hv=>by obtain ⟨y,_,rfl⟩:=m021.1 hv;exact iC y) (by rw [m002]) (by rw [m047,hy];rfl) (OI y);have hlt:i < D.length:=by omega
  have hj':s.h j=some (.cells ((D.map Sx.av).flatMap AV.cells) 33 false true):=by rw [hs];exact hj
  have f1:=hD y (m017 hy);simp only [tJ,aQc,c1,e1,hj',e2,wx,wy,Z0,Z1,reduceCtorEq];refine aP (c97 y f1) (by simp [aV]) ?_;rw [pX (z:=6) (e:=33) (ex:=false) (by rw [adv_h];exact hj') e3 e4 (cH y)];simp only [Bnd_some,wx,wy,Z0,Z1,reduceCtorEq];rw [cC i D.length hlt (by have:maxLen=9223372036854775807:=rfl;omega)];exact ihm (i+1) _ (by omega) hs (by simp only [adv_nx];omega)
section
variable {s s':St} {K:aG} {p o:Nat} {c:List AV} {e:TypeId} {ex wr:Bool} {x:AV} {vs:List AV}
theorem c44 (fr:aI s) (hc:s.h p=some (.cells c e ex wr)) (ho:c[0]?=some x) {D:List Dc} (g:Jw 67 10 s x (D.map Dc.av)) (hl:D.length<=2 ^ 20) (hD:∀ d∈D,d.body.fit/\d.ps.length<=2 ^ 20):RdZ 44 [.ptr p 0] s (.sl false (D.map Dc.av)):=by
 have h:=aUd (.ptr p 0) s (Q:=fun r s'=>∃ ids,EF [] s s'/\pur mEv.P s' 12 r=some (.sl false (D.map Dc.av),ids)/\∀ j∈ids,s.nx<=j) (by
  unfold f44;simp only [lZ,wx,wy,Z0,Z1,reduceCtorEq];refine ⟨rfl,?_⟩;obtain ⟨r,s1,e1,e2,e3⟩:=c94 (s:=Ai.adv s 8) (vs:=D.map Dc.av) fr.adv hc ho (g.keep fun _ _=>rfl) (by rw [m002];exact hl);refine bQ bNy ⟨r,s1,e1,?_⟩;have ef:EF [] s s1:=(EF.refl [] fr).adv.trans e2 (fun _ h=>by cases h);rcases e3 with ⟨h1,h2⟩ | ⟨j,h1,rfl,h3,h4⟩
  ·have hD0:D=[]:=by simpa using h1
   subst hD0;have hlen:∀ id S,bt .len #[49] [r] id S=some (.int .i64 0,S):=fun id S=>by rcases h2 with rfl | rfl;exact aNw id S;exact aMa ..
   have hp:∀ S:St,pur mEv.P S 12 r=some (.sl false [],[]):=fun S=>by rcases h2 with rfl | rfl<;>rfl
   simp only [hlen,wx,wy,Z0,Z1,reduceCtorEq];refine ⟨1,?_⟩;exact bPp _ _ _ fun n=>⟨[],ef.adv.adv,hp _,fun j hj=>by cases hj⟩
  ·rw [m002];simp only [aHp,wx,wy,Z0,Z1,reduceCtorEq];refine ⟨D.length+1,l44 D hl hD _ j s1 h4 (fun S b1 b2=>?_) D.length 0 _ (by omega) rfl (by simp only [adv_nx];omega)⟩;have ef2:EF [] s S:=⟨by have:=ef.nx;omega,fun i hi hn=>by rw [b1];exact ef.h i hi hn,fun i hi=>by rw [b1];exact ef.fr i (by omega)⟩;have g2:Gw 67 10 0 S (.ref j 0 D.length none 67) (D.map Dc.av):=⟨SM D,.inr ⟨j,nC _,by rw [m002],by rw [b1];exact h4⟩⟩
   exact ⟨_,ef2,KV US g2 (fun v hv=>by obtain ⟨d,_,rfl⟩:=m021.1 hv;exact eO d) (fun v hv=>by obtain ⟨d,_,rfl⟩:=m021.1 hv;rfl) 11,fun i hi=>by simp only [aE,m008] at hi;subst hi;simp only [adv_nx] at h3;omega⟩)
 obtain ⟨r,s',h1,ids,h2⟩:=h;exact ⟨r,s',ids,h1,h2⟩
theorem c45 (fr:aI s) (hc:s.h p=some (.cells c e ex wr)) (ho:c[2]?=some x) {D:List Sx} (g:Jw 33 6 s x (D.map Sx.av)) (hl:D.length<=2 ^ 20) (hD:∀ d∈D,d.fit):RdZ 45 [.ptr p 0] s (.sl false (D.map Sx.av)):=by
 have h:=aVd (.ptr p 0) s (Q:=fun r s'=>∃ ids,EF [] s s'/\pur mEv.P s' 12 r=some (.sl false (D.map Sx.av),ids)/\∀ j∈ids,s.nx<=j) (by
  unfold f45;simp only [lZ,wx,wy,Z0,Z1,reduceCtorEq];refine ⟨rfl,?_⟩;obtain ⟨r,s1,e1,e2,e3⟩:=c96 (s:=Ai.adv s 8) (vs:=D.map Sx.av) fr.adv hc ho (g.keep fun _ _=>rfl) (by rw [m002];exact hl);refine bQ bHm ⟨r,s1,e1,?_⟩;have ef:EF [] s s1:=(EF.refl [] fr).adv.trans e2 (fun _ h=>by cases h);rcases e3 with ⟨h1,h2⟩ | ⟨j,h1,rfl,h3,h4⟩
  ·have hD0:D=[]:=by simpa using h1
   subst hD0;have hlen:∀ id S,bt .len #[31] [r] id S=some (.int .i64 0,S):=fun id S=>by rcases h2 with rfl | rfl;exact WO id S;exact CG ..
   have hp:∀ S:St,pur mEv.P S 12 r=some (.sl false [],[]):=fun S=>by rcases h2 with rfl | rfl<;>rfl
   simp only [hlen,wx,wy,Z0,Z1,reduceCtorEq];refine ⟨1,?_⟩;exact bSc _ _ _ fun n=>⟨[],ef.adv.adv,hp _,fun j hj=>by cases hj⟩
  ·rw [m002];simp only [PW,wx,wy,Z0,Z1,reduceCtorEq];refine ⟨D.length+1,l45 D hl hD _ j s1 h4 (fun S b1 b2=>?_) D.length 0 _ (by omega) rfl (by simp only [adv_nx];omega)⟩;have ef2:EF [] s S:=⟨by have:=ef.nx;omega,fun i hi hn=>by rw [b1];exact ef.h i hi hn,fun i hi=>by rw [b1];exact ef.fr i (by omega)⟩;have g2:Gw 33 6 0 S (.ref j 0 D.length none 33) (D.map Sx.av):=⟨fun v hv=>by obtain ⟨y,_,rfl⟩:=m021.1 hv;exact ⟨iC y,cH y⟩,.inr ⟨j,nC _,by rw [m002],by rw [b1];exact h4⟩⟩
   exact ⟨_,ef2,KV zB g2 (fun v hv=>by obtain ⟨d,_,rfl⟩:=m021.1 hv;exact aV d) (fun v hv=>by obtain ⟨d,_,rfl⟩:=m021.1 hv;exact OI d) 11,fun i hi=>by simp only [aE,m008] at hi;subst hi;simp only [adv_nx] at h3;omega⟩)
 obtain ⟨r,s',h1,ids,h2⟩:=h;exact ⟨r,s',ids,h1,h2⟩
end
end
noncomputable section
structure Sk where
 D:List Dc
 dm:List Int
 X:List Sx
 am:List Int
 N:Option (List (List UInt8))
def pO (N:List (List UInt8)):List (AV×AV):=N.map fun n=>(.str n,.bool true)
def NmR (s:St) (m:AV) (N:Option (List (List UInt8))):Prop:=(N=none/\m=.nilm)\/∃ l j,N=some l/\m=.map j/\s.h j=some (.map (pO l))
structure gE (s:St) (p:Nat) (K:Sk) (xd xm xa xn m:AV):Prop where
 cell:s.h p=some (.cells [xd,xm,xa,xn,m] 88 true true)
 d:Jw 67 10 s xd (K.D.map Dc.av)
 dm:Jw 3 1 s xm (K.dm.map dE)
 x:Jw 33 6 s xa (K.X.map Sx.av)
 am:Jw 3 1 s xn (K.am.map dE)
 n:NmR s m K.N
 nd:(p::(aE xd++(aE xm++(aE xa++(aE xn++aE m))))).Nodup
def aN (xd xm xa xn m:AV):List Nat:=aE xd++(aE xm++(aE xa++(aE xn++aE m)))
def cN (s:St) (p:Nat) (K:Sk) (F:List Nat):Prop:=∃ xd xm xa xn m,gE s p K xd xm xa xn m/\F=p::aN xd xm xa xn m
theorem NmR.keep {s s':St} {m:AV} {N:Option (List (List UInt8))} (h:NmR s m N) (hk:∀ j∈aE m,s'.h j=s.h j):NmR s' m N:=by
 rcases h with h | ⟨l,j,h1,rfl,h⟩
 ·exact .inl h
 ·exact .inr ⟨l,j,h1,rfl,by rw [hk j (by simp [aE])];exact h⟩
theorem NmR.has {s:St} {m:AV} {N:Option (List (List UInt8))} (h:NmR s m N):∀ j∈aE m,∃ b,s.h j=some b/\eD b=[]:=by
 rcases h with ⟨_,rfl⟩ | ⟨l,j,_,rfl,h⟩
 ·intro j hj;cases hj
 ·intro i hi;simp only [aE,m008] at hi;subst hi;refine ⟨_,h,?_⟩
  have:∀ N:List (List UInt8),dC ((pO N).map (·.2))=[]:=fun N=>by
   induction N with
   | nil=>rfl
   | cons n N ih=>simpa [pO,dC,eH] using ih
  exact this l
theorem wF (x:AV):(aE x).Nodup:=by cases x<;>simp [aE]
theorem BU {A A' R1 R2:List Nat} {id:Nat} (h:(R1++(A++R2)).Nodup) (hA:A'.Nodup) (hs:∀ j∈A',j=id\/j∈A) (hi:id ∉ R1/\id ∉ R2):(R1++(A'++R2)).Nodup:=by
 simp only [m063,m003] at h ⊢;obtain ⟨h1,⟨h2,h3,h4⟩,h5⟩:=h;refine ⟨h1,⟨hA,h3,fun a ha b hb=>?_⟩,fun a ha b hb=>?_⟩
 ·rcases hs a ha with rfl | ha
  ·exact fun e=>hi.2 (e ▸ hb)
  ·exact h4 a ha b hb
 ·rcases hb with hb | hb
  ·rcases hs b hb with rfl | hb
   ·exact fun e=>hi.1 (e ▸ ha)
   ·exact h5 a ha b (.inl hb)
  ·exact h5 a ha b (.inr hb)
section
variable {s s':St} {p:Nat} {K:Sk} {F:List Nat} {xd xm xa xn m:AV}
theorem gE.mem (c:gE s p K xd xm xa xn m):∀ j∈p::aN xd xm xa xn m,∃ b,s.h j=some b/\(j=p\/eD b=[]):=by
 have f:∀ {e:TypeId} {z:Nat} {x:AV} {vs:List AV},Jw e z s x vs->∀ j∈aE x,∃ b,s.h j=some b/\(j=p\/eD b=[]):=fun g j hj=>by obtain ⟨c,h1,h2⟩:=g.has j hj;exact ⟨_,h1,.inr h2⟩
 intro j hj;simp only [m013,aN,m003] at hj;rcases hj with rfl | hj | hj | hj | hj | hj
 ·exact ⟨_,c.cell,.inl rfl⟩
 ·exact f c.d j hj
 ·exact f c.dm j hj
 ·exact f c.x j hj
 ·exact f c.am j hj
 ·obtain ⟨b,h1,h2⟩:=c.n.has j hj;exact ⟨b,h1,.inr h2⟩
theorem cN.lt (h:cN s p K F) (fr:aI s):∀ j∈F,j < s.nx:=fun j hj=>by obtain ⟨xd,xm,xa,xn,m,c,rfl⟩:=h;obtain ⟨b,hb,_⟩:=c.mem j hj;exact fr.lt hb
theorem cN.pin (h:cN s p K F):p∈F:=by obtain ⟨_,_,_,_,_,_,rfl⟩:=h;simp
theorem gE.keep (c:gE s p K xd xm xa xn m) (hk:∀ j∈p::aN xd xm xa xn m,s'.h j=s.h j):gE s' p K xd xm xa xn m:=by have e:∀ j,j∈aE xd\/j∈aE xm\/j∈aE xa\/j∈aE xn\/j∈aE m->s'.h j=s.h j:=fun j hj=>hk j (by simp only [m013,aN,m003];exact .inr hj);exact ⟨by rw [hk p (by simp)];exact c.cell,c.d.keep fun j hj=>e j (.inl hj),c.dm.keep fun j hj=>e j (.inr (.inl hj)),c.x.keep fun j hj=>e j (.inr (.inr (.inl hj))),c.am.keep fun j hj=>e j (.inr (.inr (.inr (.inl hj)))),c.n.keep fun j hj=>e j (.inr (.inr (.inr (.inr hj)))),c.nd⟩
theorem cN.keep (h:cN s p K F) (hk:∀ j∈F,s'.h j=s.h j):cN s' p K F:=by obtain ⟨xd,xm,xa,xn,m,c,rfl⟩:=h;exact ⟨xd,xm,xa,xn,m,c.keep hk,rfl⟩
theorem cN.ext (h:cN s p K F) (fr:aI s) (e:EF [] s s'):cN s' p K F:=h.keep fun j hj=>e.h j (h.lt fr j hj) (by simp)
theorem cN.adv {n:Nat} (h:cN s p K F):cN (Ai.adv s n) p K F:=h.keep fun _ _=>rfl
theorem cN.rch (h:cN s p K F) {vs:List AV} (hv:dC vs=[p]):∀ j,j∈rch s vs↔j∈F:=by
 obtain ⟨xd,xm,xa,xn,m,c,rfl⟩:=h;have one:∀ {e:TypeId} {z:Nat} {x:AV} {vs:List AV},Jw e z s x vs->eH x=aE x:=fun g=>by obtain ⟨_,⟨rfl,_⟩ | ⟨_,_,_,rfl,_⟩⟩:=g<;>rfl
 have onem:eH m=aE m:=by rcases c.n with ⟨_,rfl⟩ | ⟨_,_,_,rfl,_⟩<;>rfl
 have hb:eD (.cells [xd,xm,xa,xn,m] 88 true true)=aN xd xm xa xn m:=by simp only [eD,dC,one c.d,one c.dm,one c.x,one c.am,onem,aN,m011]
 have l1:∀ x:AV,(aE x).length<=1:=fun x=>by cases x<;>simp [aE]
 intro j;rw [vN hv c.cell ?_ ?_,hb,m013]
 ·rw [hb];simp only [aN,m006];have:=l1 xd;have:=l1 xm;have:=l1 xa;have:=l1 xn;have:=l1 m;omega
 ·intro j hj b hjb;rw [hb] at hj;obtain ⟨b',h1,h2⟩:=c.mem j (m005 _ hj);rw [hjb] at h1;cases h1;exact h2
def bY (s:St) (p:Nat) (F:List Nat) (K':Sk) (s':St):Prop:=∃ F',cN s' p K' F'/\EF F s s'/\∀ j∈F',j∈F\/s.nx<=j
theorem bY.adv {K':Sk} {n:Nat} (h:bY s p F K' s'):bY s p F K' (Ai.adv s' n):=by obtain ⟨F',h1,h2,h3⟩:=h;exact ⟨F',h1.adv,h2.adv,h3⟩
theorem bY.same (h:cN s p K F) (fr:aI s) (e:EF [] s s'):bY s p F K s':=⟨F,h.ext fr e,e.sub fun j hj=>(by cases hj),fun j hj=>.inl hj⟩
theorem bY.from {K':Sk} {s1:St} (h:bY s1 p F K' s') (e:EF [] s s1):bY s p F K' s':=by obtain ⟨F',h1,h2,h3⟩:=h;have:=e.nx;exact ⟨F',h1,(e.sub (M':=F) fun j hj=>(by cases hj)).trans h2 fun j hj=>.inr hj,fun j hj=>(h3 j hj).imp_right fun h=>(by omega)⟩
def mW (f:FuncId) (args:List AV) (s:St) (p:Nat) (F:List Nat) (r:AV) (K':Sk):Prop:=∃ v s',WideC mEv f args s v s'/\v=r/\bY s p F K' s'
theorem mW.call {f:FuncId} {args:List AV} {r:AV} {K':Sk} {k:aG} (h:mW f args s p F r K') (hz:mEv.fz f=false) (hk:∀ s',bY s p F K' s'->k r s'):aL mEv f args s k:=by obtain ⟨v,s',h1,rfl,h2⟩:=h;exact bQ hz ⟨_,s',h1,hk s' h2⟩
theorem mW.callD {f g:FuncId} {args:List AV} {l:List Nat} {r:AV} {K':Sk} {k:aG} (hz:mEv.fz f=false) (fr:aI s) (hR:cN s p K F) (hl:l=Ai.rch s (.fn g [] []::args)) (hv:dC (.fn g [] []::args)=[p]) (h:∀ s,aI s->cN s p K F->mW f args s p F r K') (hk:∀ s',bY s p F K' s'->k r s'):cL mEv f args l s k:=by
 have hm:∀ j,j∈l↔j∈F:=fun j=>by rw [hl];exact hR.rch hv j
 have hR':cN (s.only l) p K F:=hR.keep fun j hj=>by rw [jZ,if_pos ((hm j).2 hj)]
 obtain ⟨v,s',h1,rfl,F',h2,h3,h4⟩:=h (s.only l) (iA fr) hR';have hM:∀ j∈F,j∈l:=fun j hj=>(hm j).2 hj;refine rB hz ⟨_,s',h1,hk _ ⟨F',?_,lQ h3 hM,h4⟩⟩;have h2':=h2;refine h2'.keep fun j hj=>?_;have hb:∃ b,s'.h j=some b:=by obtain ⟨xd,xm,xa,xn,m,c,rfl⟩:=h2;obtain ⟨b,hb,_⟩:=c.mem j hj;exact ⟨b,hb⟩
 obtain ⟨b,hb⟩:=hb;rw [hb];exact lO h3 hM hb
theorem sP {K':Sk} {S':St} {id:Nat} {A:List Nat} {xd' xm' xa' xn' m':AV} (c:gE s p K xd xm xa xn m) (fr:aI s) (hid:s.nx<=id) (hn:s.nx<=S'.nx) (hidn:id < S'.nx) (hA:∀ j∈A,j∈aN xd xm xa xn m) (hE:∀ y,y < s.nx->y ∉ A->S'.h y=s.h y) (hfr:aI S') (hB:∀ j∈aN xd' xm' xa' xn' m',j=id\/j∈aN xd xm xa xn m) {b:Option gU}
  (h:gE (S'.set p b) p K' xd' xm' xa' xn' m'):bY s p (p::aN xd xm xa xn m) K' (S'.set p b):=by
 have hp:p < s.nx:=fr.lt c.cell;refine ⟨_,⟨xd',xm',xa',xn',m',h,rfl⟩,⟨hn,fun j hj hn=>?_,fun j hj=>?_⟩,fun j hj=>?_⟩
 ·simp only [m013,not_or] at hn;rw [aB hn.1,hE j hj fun h=>hn.2 (hA j h)]
 ·have hj:S'.nx<=j:=hj;rw [aB (by omega)];exact hfr j hj
 ·rcases m013.1 hj with rfl | hj
  ·exact .inl (m007 ..)
  ·rcases hB j hj with rfl | h
   ·exact .inr hid
   ·exact .inl (m005 _ h)
theorem bBk (c:gE s p K xd xm xa xn m) (fr:aI s) {S':St} {x':AV} {id:Nat} {l:List Dc} (hid:s.nx<=id) (hE:∀ y,y < s.nx->y ∉ aE xd->S'.h y=s.h y) (hI:∀ j∈aE x',j=id\/j∈aE xd) (hx:Jw 67 10 S' x' (l.map Dc.av)) :
  gE (S'.set p (some (.cells [x',xm,xa,xn,m] 88 true true))) p { K with D:=l } x' xm xa xn m:=by
 have hp:p < s.nx:=fr.lt c.cell;have hlt:∀ j∈aN xd xm xa xn m,j < s.nx:=fun j hj=>by obtain ⟨b,hb,_⟩:=c.mem j (m005 _ hj);exact fr.lt hb
 have nd:=c.nd;simp only [m036,m063,m003,not_or] at nd
 have hx':Jw 67 10 (S'.set p (some (.cells [x',xm,xa,xn,m] 88 true true))) x' (l.map Dc.av):=hx.keep fun j hj=>by
  refine aB fun e=>?_;subst e;rcases hI j hj with h | h
  ·omega
  ·exact absurd h (by grind)
 have k:∀ j,j∈aN xd xm xa xn m->j ∉ aE xd->(S'.set p (some (.cells [x',xm,xa,xn,m] 88 true true))).h j=s.h j:=fun j hj hn=>by
  have hjp:j≠p:=fun e=>by
   subst e;simp only [aN,m003] at hj
   grind
  rw [aB hjp,hE j (hlt j hj) hn]
 have no:∀ j,j∈aE xm\/j∈aE xa\/j∈aE xn\/j∈aE m->j ∉ aE xd:=fun j hj hx=>by
  grind
 refine ⟨aF,hx',c.dm.keep fun j hj=>k j (by simp only [aN,m003];grind) (no j (by grind)),c.x.keep fun j hj=>k j (by simp only [aN,m003];grind) (no j (by grind)),c.am.keep fun j hj=>k j (by simp only [aN,m003];grind) (no j (by grind)),c.n.keep fun j hj=>k j (by simp only [aN,m003];grind) (no j (by grind)),?_⟩;have h0:=BU (R1:=[p]) (A:=aE xd) (R2:=(aE xm++(aE xa++(aE xn++(aE m))))) (id:=id) (by simpa only [List.cons_append,List.nil_append,m019] using c.nd) (wF x') hI ⟨fun h=>?_,fun h=>?_⟩
 ·simpa only [List.cons_append,List.nil_append,m019] using h0
 ·simp only [m013,m003,m073,or_false] at h;have:id < s.nx:=by omega
  omega
 ·try simp only [m003] at h
  have:=hlt id (by simp only [aN,m003];grind);omega
theorem aIb (c:gE s p K xd xm xa xn m) (fr:aI s) {S':St} {x':AV} {id:Nat} {l:List Int} (hid:s.nx<=id) (hE:∀ y,y < s.nx->y ∉ aE xm->S'.h y=s.h y) (hI:∀ j∈aE x',j=id\/j∈aE xm) (hx:Jw 3 1 S' x' (l.map dE)) :
  gE (S'.set p (some (.cells [xd,x',xa,xn,m] 88 true true))) p { K with dm:=l } xd x' xa xn m:=by
 have hp:p < s.nx:=fr.lt c.cell;have hlt:∀ j∈aN xd xm xa xn m,j < s.nx:=fun j hj=>by obtain ⟨b,hb,_⟩:=c.mem j (m005 _ hj);exact fr.lt hb
 have nd:=c.nd;simp only [m036,m063,m003,not_or] at nd
 have hx':Jw 3 1 (S'.set p (some (.cells [xd,x',xa,xn,m] 88 true true))) x' (l.map dE):=hx.keep fun j hj=>by
  refine aB fun e=>?_;subst e;rcases hI j hj with h | h
  ·omega
  ·exact absurd h (by grind)
 have k:∀ j,j∈aN xd xm xa xn m->j ∉ aE xm->(S'.set p (some (.cells [xd,x',xa,xn,m] 88 true true))).h j=s.h j:=fun j hj hn=>by
  have hjp:j≠p:=fun e=>by
   subst e;simp only [aN,m003] at hj
   grind
  rw [aB hjp,hE j (hlt j hj) hn]
 have no:∀ j,j∈aE xd\/j∈aE xa\/j∈aE xn\/j∈aE m->j ∉ aE xm:=fun j hj hx=>by
  grind
 refine ⟨aF,c.d.keep fun j hj=>k j (by simp only [aN,m003];grind) (no j (by grind)),hx',c.x.keep fun j hj=>k j (by simp only [aN,m003];grind) (no j (by grind)),c.am.keep fun j hj=>k j (by simp only [aN,m003];grind) (no j (by grind)),c.n.keep fun j hj=>k j (by simp only [aN,m003];grind) (no j (by grind)),?_⟩;have h0:=BU (R1:=p::(aE xd)) (A:=aE xm) (R2:=(aE xa++(aE xn++(aE m)))) (id:=id) (by simpa only [List.cons_append,List.nil_append,m019] using c.nd) (wF x') hI ⟨fun h=>?_,fun h=>?_⟩
 ·simpa only [List.cons_append,List.nil_append,m019] using h0
 ·simp only [m013,m003,m073,or_false] at h;have:id < s.nx:=by rcases h with rfl | h;exact hp;exact hlt id (by simp only [aN,m003];grind)
  omega
 ·try simp only [m003] at h
  have:=hlt id (by simp only [aN,m003];grind);omega
theorem aZd (c:gE s p K xd xm xa xn m) (fr:aI s) {S':St} {x':AV} {id:Nat} {l:List Sx} (hid:s.nx<=id) (hE:∀ y,y < s.nx->y ∉ aE xa->S'.h y=s.h y) (hI:∀ j∈aE x',j=id\/j∈aE xa) (hx:Jw 33 6 S' x' (l.map Sx.av)) :
  gE (S'.set p (some (.cells [xd,xm,x',xn,m] 88 true true))) p { K with X:=l } xd xm x' xn m:=by
 have hp:p < s.nx:=fr.lt c.cell;have hlt:∀ j∈aN xd xm xa xn m,j < s.nx:=fun j hj=>by obtain ⟨b,hb,_⟩:=c.mem j (m005 _ hj);exact fr.lt hb
 have nd:=c.nd;simp only [m036,m063,m003,not_or] at nd
 have hx':Jw 33 6 (S'.set p (some (.cells [xd,xm,x',xn,m] 88 true true))) x' (l.map Sx.av):=hx.keep fun j hj=>by
  refine aB fun e=>?_;subst e;rcases hI j hj with h | h
  ·omega
  ·exact absurd h (by grind)
 have k:∀ j,j∈aN xd xm xa xn m->j ∉ aE xa->(S'.set p (some (.cells [xd,xm,x',xn,m] 88 true true))).h j=s.h j:=fun j hj hn=>by
  have hjp:j≠p:=fun e=>by
   subst e;simp only [aN,m003] at hj
   grind
  rw [aB hjp,hE j (hlt j hj) hn]
 have no:∀ j,j∈aE xd\/j∈aE xm\/j∈aE xn\/j∈aE m->j ∉ aE xa:=fun j hj hx=>by
  grind
 refine ⟨aF,c.d.keep fun j hj=>k j (by simp only [aN,m003];grind) (no j (by grind)),c.dm.keep fun j hj=>k j (by simp only [aN,m003];grind) (no j (by grind)),hx',c.am.keep fun j hj=>k j (by simp only [aN,m003];grind) (no j (by grind)),c.n.keep fun j hj=>k j (by simp only [aN,m003];grind) (no j (by grind)),?_⟩;have h0:=BU (R1:=p::(aE xd++aE xm)) (A:=aE xa) (R2:=(aE xn++(aE m))) (id:=id) (by simpa only [List.cons_append,List.nil_append,m019] using c.nd) (wF x') hI ⟨fun h=>?_,fun h=>?_⟩
 ·simpa only [List.cons_append,List.nil_append,m019] using h0
 ·simp only [m013,m003,m073,or_false] at h;have:id < s.nx:=by rcases h with rfl | h;exact hp;exact hlt id (by simp only [aN,m003];grind)
  omega
 ·try simp only [m003] at h
  have:=hlt id (by simp only [aN,m003];grind);omega
theorem aSa (c:gE s p K xd xm xa xn m) (fr:aI s) {S':St} {x':AV} {id:Nat} {l:List Int} (hid:s.nx<=id) (hE:∀ y,y < s.nx->y ∉ aE xn->S'.h y=s.h y) (hI:∀ j∈aE x',j=id\/j∈aE xn) (hx:Jw 3 1 S' x' (l.map dE)) :
  gE (S'.set p (some (.cells [xd,xm,xa,x',m] 88 true true))) p { K with am:=l } xd xm xa x' m:=by
 have hp:p < s.nx:=fr.lt c.cell;have hlt:∀ j∈aN xd xm xa xn m,j < s.nx:=fun j hj=>by obtain ⟨b,hb,_⟩:=c.mem j (m005 _ hj);exact fr.lt hb
 have nd:=c.nd;simp only [m036,m063,m003,not_or] at nd
 have hx':Jw 3 1 (S'.set p (some (.cells [xd,xm,xa,x',m] 88 true true))) x' (l.map dE):=hx.keep fun j hj=>by
  refine aB fun e=>?_;subst e;rcases hI j hj with h | h
  ·omega
  ·exact absurd h (by grind)
 have k:∀ j,j∈aN xd xm xa xn m->j ∉ aE xn->(S'.set p (some (.cells [xd,xm,xa,x',m] 88 true true))).h j=s.h j:=fun j hj hn=>by
  have hjp:j≠p:=fun e=>by
   subst e;simp only [aN,m003] at hj
   grind
  rw [aB hjp,hE j (hlt j hj) hn]
 have no:∀ j,j∈aE xd\/j∈aE xm\/j∈aE xa\/j∈aE m->j ∉ aE xn:=fun j hj hx=>by
  grind
 refine ⟨aF,c.d.keep fun j hj=>k j (by simp only [aN,m003];grind) (no j (by grind)),c.dm.keep fun j hj=>k j (by simp only [aN,m003];grind) (no j (by grind)),c.x.keep fun j hj=>k j (by simp only [aN,m003];grind) (no j (by grind)),hx',c.n.keep fun j hj=>k j (by simp only [aN,m003];grind) (no j (by grind)),?_⟩;have h0:=BU (R1:=p::(aE xd++aE xm++aE xa)) (A:=aE xn) (R2:=(aE m)) (id:=id) (by simpa only [List.cons_append,List.nil_append,m019] using c.nd) (wF x') hI ⟨fun h=>?_,fun h=>?_⟩
 ·simpa only [List.cons_append,List.nil_append,m019] using h0
 ·simp only [m013,m003,m073,or_false] at h;have:id < s.nx:=by rcases h with rfl | h;exact hp;exact hlt id (by simp only [aN,m003];grind)
  omega
 ·try simp only [m003] at h
  have:=hlt id (by simp only [aN,m003];grind);omega
theorem YD (c:gE s p K xd xm xa xn m) (fr:aI s) {S2:St} {m':AV} {id:Nat} {N':Option (List (List UInt8))} (hid:s.nx<=id) (hp:S2.h p=some (.cells [xd,xm,xa,xn,m'] 88 true true)) (hk:∀ j,j < s.nx->j≠p->j ∉ aE m->S2.h j=s.h j) (hI:∀ j∈aE m',j=id\/j∈aE m) (hn:NmR S2 m' N'):gE S2 p { K with N:=N' } xd xm xa xn m':=by
 have hpx:p < s.nx:=fr.lt c.cell;have hlt:∀ j∈aN xd xm xa xn m,j < s.nx:=fun j hj=>by obtain ⟨b,hb,_⟩:=c.mem j (m005 _ hj);exact fr.lt hb
 have nd:=c.nd;simp only [m036,m063,m003,not_or] at nd
 have k:∀ j,j∈aN xd xm xa xn m->j ∉ aE m->S2.h j=s.h j:=fun j hj hn=>hk j (hlt j hj) (fun e=>by
   subst e;simp only [aN,m003] at hj
   grind) hn
 have no:∀ j,j∈aE xd\/j∈aE xm\/j∈aE xa\/j∈aE xn->j ∉ aE m:=fun j hj hx=>by grind
 refine ⟨hp,c.d.keep fun j hj=>k j (by simp only [aN,m003];grind) (no j (by grind)),c.dm.keep fun j hj=>k j (by simp only [aN,m003];grind) (no j (by grind)),c.x.keep fun j hj=>k j (by simp only [aN,m003];grind) (no j (by grind)),c.am.keep fun j hj=>k j (by simp only [aN,m003];grind) (no j (by grind)),hn,?_⟩;have h0:=BU (R1:=p::(aE xd++aE xm++aE xa++aE xn)) (A:=aE m) (R2:=[]) (id:=id) (by simpa only [List.cons_append,List.nil_append,m019,m011] using c.nd) (wF m') hI ⟨fun h=>?_,fun h=>by cases h⟩
 ·simpa only [List.cons_append,List.nil_append,m019,m011] using h0
 ·simp only [m013,m003] at h;have:id < s.nx:=by rcases h with rfl | h;exact hpx;exact hlt id (by simp only [aN,m003];grind)
  omega
end
end
noncomputable section
structure Cl:Type where
 kind:Int
 n:Int
 d:Dc
 x:Sx
def Cl.av (c:Cl):AV:=.agg (.int .i64 c.kind::.int .i64 c.n::(c.d.av.cells++c.x.av.cells))
def Cl.ok (c:Cl):Bool:=pK c.kind&&pK c.n&&c.d.ok&&c.x.ok
theorem cl0 (c:Cl):c.av.cells[0]?=some (AV.int .i64 c.kind):=rfl
theorem cl1 (c:Cl):c.av.cells[1]?=some (AV.int .i64 c.n):=rfl
theorem cl2 (c:Cl):c.av.cells[2]?=some (AV.str c.d.nm):=by obtain ⟨k,n,⟨a,b,e,f,g⟩,x⟩:=c;rfl
theorem cl3 (c:Cl):c.av.cells[3]?=some (AV.int .i64 c.d.so):=by obtain ⟨k,n,⟨a,b,e,f,g⟩,x⟩:=c;rfl
theorem AB (c:Cl):Ai.part 6 true 12 c.av.cells=some c.x.av:=by obtain ⟨k,n,⟨a,b,e,f,⟨⟩⟩,⟨⟩⟩:=c;rfl
theorem bEw (c:Cl):Ai.part 10 true 2 c.av.cells=some c.d.av:=by obtain ⟨k,n,⟨a,b,e,f,⟨⟩⟩,⟨⟩⟩:=c;rfl
theorem aTd (c:Cl):Ai.part 6 true 6 c.av.cells=some c.d.body.av:=by obtain ⟨k,n,⟨a,b,e,f,⟨⟩⟩,⟨⟩⟩:=c;rfl
theorem oT (c:Cl):Ai.part 18 true 0 c.av.cells=some c.av:=by obtain ⟨k,n,⟨a,b,e,f,⟨⟩⟩,⟨⟩⟩:=c;rfl
theorem aIk (c:Cl):c.av.cells.length=18:=by obtain ⟨k,n,⟨a,b,e,f,⟨⟩⟩,⟨⟩⟩:=c;rfl
theorem VY (c:Cl):c.av.cells.all AV.one=true:=by obtain ⟨k,n,⟨a,b,e,f,⟨⟩⟩,⟨⟩⟩:=c;rfl
theorem aAe (c:Cl):c.av.closed=true:=by have h1:=kX (eO c.d);have h2:=kX (aV c.x);simp only [Cl.av,AV.closed,aW,CZ h1 h2,jH]
theorem vY (ex:Bool) (l:List AV) (id:Nat) (s:St):bt .len #[79] [.sl ex l] id s=some (.int .i64 l.length,s):=by kernel_rfl
theorem bAz (ex:Bool) (l:List Cl) (i:Nat) (d:Cl) (h:l[i]?=some d):cQ 18 (.sl ex (l.map Cl.av)) (.int .i64 (i:Int))=some (.pel d.av.cells 0):=by obtain ⟨hi,rfl⟩:=m012.1 h;simp [cQ,pW,xI,hi,aIk]
theorem bGh:eR 49 67 10 true 128:=⟨by kernel_rfl,by kernel_rfl,by kernel_rfl,by kernel_rfl,by decide⟩
theorem vR (x:List UInt8) (id:Nat) (s:St):bt .len #[9] [.str x] id s=some (.int .i64 x.length,s):=by kernel_rfl
theorem bBi {s:St} {n:Nat} {o:Option gU}:(s.set n o).nx=s.nx:=rfl
theorem bQq:∃ v,zr 93=some v/\v.cells.length=18:=by
 have h:(zr 93).map (fun v=>v.cells.length)=some 18:=by kernel_rfl
 obtain ⟨v,h1,h2⟩:=m022.1 h;exact ⟨v,h1,h2⟩
def nG:Sx:=.mk false 0 [] 0 0 []
def bBc:AV:=.agg [.bool false,.int .i64 0,.str [],.int .i64 0,.int .i64 0,.nils]
theorem bKe:lK 33 []=some bBc:=by kernel_rfl
theorem aPy (s:St):pur mEv.P s 12 bBc=some (nG.av,[]):=rfl
theorem aPu (d:Dc):d.av=.agg d.av.cells:=rfl
def NV:List Cl->List Dc->Bool
 | [],ds=>zF ds nG
 | c::l,ds=>cond (decide (c.x.size > 60)||(decide (c.x.depth > 64)||(decide (c.d.body.size > 60)||decide ((c.d.nm.length:Int) > 200)))) false
   (NV l (cond (c.kind==0||c.kind==1) (ds++[c.d]) ds))
def bEn (l:List Cl):Bool:=cond (decide ((l.length:Int) > 60)) false (NV l [])
theorem j43 (ds:List Dc) (hlen:ds.length<=60) (hok:∀ d∈ds,d.ok=true) (Q:aG) (hQ:∀ s,Q (.bool (zF ds nG)) s) (x:AV) (s:St) (g:Gw 67 10 0 s x (ds.map Dc.av)):GU Q x s:=by
 have hc:∀ v∈ds.map Dc.av,v.closed=true:=fun v hv=>by obtain ⟨d,_,rfl⟩:=m021.1 hv;exact eO d
 obtain ⟨ids,hp⟩:=bGa bGh (g.adv (n:=5)) hc (fun v hv=>by obtain ⟨d,_,rfl⟩:=m021.1 hv;rfl);have hcl:(AV.sl false (ds.map Dc.av)).closed=true:=by simp only [AV.closed,m027,m031];exact fA _ _ eO
 unfold GU;simp only [bKe,wz,wy,Z0];refine BJ (args2:=[.sl false (ds.map Dc.av),nG.av]) (ids:=ids++[]) (by simp only [dN,hp,aPy,m011]) (aTj false ds nG hcl (by have:maxLen=9223372036854775807:=rfl;omega) hok rfl) rfl ?_;simp only [wz,wy,Z0];have hq:=hQ (adv s 5);cases h:zF ds nG<;>rw [h] at hq<;>simpa using hq
theorem l43 (ex:Bool) (l:List Cl) (hlen:l.length<=60) (hok:∀ c∈l,c.ok=true) (Q:aG) (r:Bool) (hQ:∀ s,Q (.bool r) s) :
  ∀ (m i:Nat) (ds:List Dc) (x:AV) (s:St),i+m=l.length->ds.length<=i->(∀ d∈ds,d.ok=true)->aI s->Gw 67 10 0 s x (ds.map Dc.av)->r=NV (l.drop i) ds->∃ g,mM Q g (.sl ex (l.map Cl.av)) x (.int .i64 i) s:=by
 intro m
 induction m with
 | zero =>intro i ds x s hi hdl hdo fr g hr;refine ⟨1,?_⟩;show hJ Q (mM Q 0) _ _ _ s;rw [m044 (by omega)] at hr;have hr:r=zF ds nG:=hr;subst hr;simp only [hJ,vY,m002,oA,show ¬ (i < l.length) by omega,decide_false,wz,wy,Z0];exact j43 ds (by omega) hdo Q hQ x _ g.adv
 | succ m ihm =>
  intro i ds x s hi hdl hdo fr g hr;obtain ⟨c,hc⟩:∃ c,l[i]?=some c:=⟨_,m004 (by omega)⟩;rw [cE l i c hc,NV] at hr;have hix:=bAz ex l i c hc;have hlt:i < l.length:=by omega
  have hco:=hok c (m017 hc);simp only [Cl.ok,cR] at hco;obtain ⟨⟨⟨_,_⟩,hcd⟩,hcx⟩:=hco;have hcb:c.d.body.ok=true:=by simp only [Dc.ok,cR] at hcd;exact hcd.2
  have hs1:=JO c.x hcx;have hs2:=MC c.x hcx;have hs3:=JO c.d.body hcb;obtain ⟨Z,hZ,hZl⟩:=bQq
  have hst:∀ (q:St) (N:Nat),dU 18 (.ptr N 0) c.av (q.set N (some (.cells Z.cells 93 true true)))=some ((q.set N (some (.cells Z.cells 93 true true))).set N (some (.cells c.av.cells 93 true true))):=fun q N =>
   bJ (by rw [aF]) hZl (aIk c) (VY c)
  cases h1:decide (c.x.size > 60) with
  | true =>rw [h1] at hr;have hr:r=false:=hr;subst hr;refine ⟨1,?_⟩;show hJ Q (mM Q 0) _ _ _ s;simp only [hJ,vY,m002,oA,hlt,decide_true,hix,oT,hZ,hst,AB,wz,wy,Z0];refine aP hs1 (by simp [aV]) ?_;simp only [h1,wz,wy,Z0];exact hQ _
  | false =>
  cases h2:decide (c.x.depth > 64) with
  | true =>rw [h1,h2] at hr;have hr:r=false:=hr;subst hr;refine ⟨1,?_⟩;show hJ Q (mM Q 0) _ _ _ s;simp only [hJ,vY,m002,oA,hlt,decide_true,hix,oT,hZ,hst,AB,wz,wy,Z0];refine aP hs1 (by simp [aV]) ?_;simp only [h1,AB,wz,wy,Z0];refine aP hs2 (by simp [aV]) ?_;simp only [h2,wz,wy,Z0];exact hQ _
  | false =>
  cases h3:decide (c.d.body.size > 60) with
  | true =>rw [h1,h2,h3] at hr;have hr:r=false:=hr;subst hr;refine ⟨1,?_⟩;show hJ Q (mM Q 0) _ _ _ s;simp only [hJ,vY,m002,oA,hlt,decide_true,hix,oT,hZ,hst,AB,wz,wy,Z0];refine aP hs1 (by simp [aV]) ?_;simp only [h1,AB,wz,wy,Z0];refine aP hs2 (by simp [aV]) ?_;simp only [h2,aTd,wz,wy,Z0];refine aP hs3 (by simp [aV]) ?_;simp only [h3,wz,wy,Z0];exact hQ _
  | false =>
  cases h4:decide ((c.d.nm.length:Int) > 200) with
  | true =>rw [h1,h2,h3,h4] at hr;have hr:r=false:=hr;subst hr;refine ⟨1,?_⟩;show hJ Q (mM Q 0) _ _ _ s;simp only [hJ,vY,m002,oA,hlt,decide_true,hix,oT,hZ,hst,AB,wz,wy,Z0];refine aP hs1 (by simp [aV]) ?_;simp only [h1,AB,wz,wy,Z0];refine aP hs2 (by simp [aV]) ?_;simp only [h2,aTd,wz,wy,Z0];refine aP hs3 (by simp [aV]) ?_;simp only [h3,cl2,vR,h4,wz,wy,Z0];exact hQ _
  | false =>
  rw [h1,h2,h3,h4] at hr;have hr:r=NV (l.drop (i+1)) (cond (c.kind==0||c.kind==1) (ds++[c.d]) ds):=hr;have hN:s.h (s.nx+4+4)=none:=fr _ (by omega)
  have hB:∀ Z c:Option gU,aI (((adv (adv s 4) 6).set (s.nx+4+4) Z).set (s.nx+4+4) c):=fun Z c =>
   (fr.adv.adv.set (by show s.nx+4+4 < s.nx+4+6;omega)).set (by show s.nx+4+4 < s.nx+4+6;omega)
  have hG:∀ Z c:Option gU,Gw 67 10 0 (((adv (adv s 4) 6).set (s.nx+4+4) Z).set (s.nx+4+4) c) x (ds.map Dc.av):=fun Z c =>
   g.mono fun j _ hj=>by have hne:j≠s.nx+4+4:=fun he=>hj (by rw [he];exact hN);rw [aB hne,aB hne];rfl
  have hml:l.length<=maxLen:=by have:maxLen=9223372036854775807:=rfl;omega
  cases hk:(c.kind==0||c.kind==1) with
  | false =>rw [hk] at hr;simp only [LR] at hk;obtain ⟨n,hn⟩:=ihm (i+1) ds x (adv (adv (adv (((adv (adv s 4) 6).set (s.nx+4+4) (some (.cells Z.cells 93 true true))).set (s.nx+4+4) (some (.cells c.av.cells 93 true true))) 24) 8) 3) (by omega) (by omega) hdo (hB _ _).adv.adv.adv (hG _ _).adv.adv.adv hr;refine ⟨n+1,?_⟩;show hJ Q (mM Q n) _ _ _ s;simp only [hJ,vY,m002,oA,hlt,decide_true,hix,oT,hZ,hst,AB,wz,wy,Z0];refine aP hs1 (by simp [aV]) ?_;simp only [h1,AB,wz,wy,Z0];refine aP hs2 (by simp [aV]) ?_;simp only [h2,aTd,wz,wy,Z0];refine aP hs3 (by simp [aV]) ?_;simp only [h3,cl2,vR,h4,cl0,hk.1,hk.2,JA,wz,wy,Z0];rw [cC i _ hlt hml];exact hn
  | true =>
   rw [hk] at hr
   have hdo':∀ d∈ds++[c.d],d.ok=true:=fun d hd=>by
    rcases m003.1 hd with hd | hd
    ·exact hdo d hd
    ·simp at hd;subst hd;exact hcd
   have hfit:mL ((ds.map Dc.av).length+1) 128=true:=by
    rw [m002];have h1:(ds.length+1) * 128<=most:=by unfold most;omega
    have h2:ds.length+1<=most:=by unfold most;omega
    simp only [mL,Nat.ble_eq_true_of_le h1,Nat.ble_eq_true_of_le h2,jH]
   have hbs:kM 49 1 [(0,c.d.av)]=some (.sl true [c.d.av]):=dX bGh (by decide) (gJ c.d) (eL c.d);have fin:∀ q:St,aI q->Gw 67 10 0 q x (ds.map Dc.av)->∃ x' s' n,bt .append #[49,49] [x,.sl true [c.d.av]] (q.nx+4) (adv q 6)=some (x',s')/\mM Q n (.sl ex (l.map Cl.av)) x' (.int .i64 ((i+1:Nat):Int)) (adv s' 3):=by intro q fq gq;obtain ⟨x',s',e1,e2,e3,_,_⟩:=aUj (id:=q.nx+4) bGh (gq.adv (n:=6)) fq.adv (gJ c.d) (eL c.d) hfit (nC _) (by show q.nx+4 < q.nx+6;omega) true;obtain ⟨n,hn⟩:=ihm (i+1) (ds++[c.d]) x' (adv s' 3) (by omega) (by simp;omega) hdo' e3.adv (by rw [m038];exact e2.adv) hr;exact ⟨x',s',n,e1,hn⟩
   obtain ⟨x',s',n,e1,e2⟩:=fin (adv (adv (((adv (adv s 4) 6).set (s.nx+4+4) (some (.cells Z.cells 93 true true))).set (s.nx+4+4) (some (.cells c.av.cells 93 true true))) 24) 8) (hB _ _).adv.adv (hG _ _).adv.adv;refine ⟨n+1,?_⟩;show hJ Q (mM Q n) _ _ _ s;simp only [hJ,vY,m002,oA,hlt,decide_true,hix,oT,hZ,hst,AB,wz,wy,Z0];refine aP hs1 (by simp [aV]) ?_;simp only [h1,AB,wz,wy,Z0];refine aP hs2 (by simp [aV]) ?_;simp only [h2,aTd,wz,wy,Z0];refine aP hs3 (by simp [aV]) ?_
   cases hk0:(c.kind==0) with
   | true =>simp only [h3,cl2,vR,h4,cl0,bEw,hk0,hbs,JA,wz,wy,Z0];simp only [adv_nx,bBi] at e1;rw [e1];simp only [Bnd_some,bin_add];rw [cC i _ hlt hml];exact e2
   | false =>rw [hk0] at hk;have hk1:(c.kind==1)=true:=hk;simp only [h3,cl2,vR,h4,cl0,bEw,hk0,hk1,hbs,JA,wz,wy,Z0];simp only [adv_nx,bBi] at e1;rw [e1];simp only [Bnd_some,bin_add];rw [cC i _ hlt hml];exact e2
theorem bEa (ex:Bool) (l:List Cl) (hok:∀ c∈l,c.ok=true):bE mEv 43 [.sl ex (l.map Cl.av)] (.bool (bEn l)):=by
 refine bA rfl (aTk _ _ ?_);unfold f43 bEn
 cases h1:decide ((l.length:Int) > 60) with
 | true=>simp only [vY,m002,h1,wz,wy,Z0]
 | false =>simp only [vY,m002,h1,wz,wy,Z0];have:¬ ((l.length:Int) > 60):=of_decide_eq_false h1;exact l43 ex l (by omega) hok _ _ (fun _=>rfl) l.length 0 [] .nils _ (by omega) (by simp) (fun _ h=>by cases h) jP.adv.adv fG rfl
end
noncomputable section
theorem aVs {a b:Nat} (h:a≠b):Nat.beq a b=false:=by
 cases hh:Nat.beq a b with
 | false=>rfl
 | true=>exact absurd (iN hh) h
theorem bNi (d:Dc):EvA 10 d.av:=⟨gJ d,eL d,eO d⟩
theorem bId (y:Sx):EvA 6 y.av:=⟨iC y,cH y,aV y⟩
theorem bBb (n:Int):EvA 1 (.int .i64 n):=⟨rfl,rfl,rfl⟩
theorem UC {t e:TypeId} {z:Nat} {x:AV} {vs:List AV} {s:St} (g:Jw e z s x vs) (h1:∀ id S,bt .len #[t] [.nils] id S=some (.int .i64 0,S)) (h2:∀ i o n c e id S,bt .len #[t] [.ref i o n c e] id S=some (.int .i64 (n:Nat),S)) (id:Nat) (S:St):bt .len #[t] [x] id S=some (.int .i64 vs.length,S):=by
 obtain ⟨_,⟨rfl,rfl⟩ | ⟨_,_,_,rfl,_⟩⟩:=g
 ·exact h1 ..
 ·exact h2 ..
theorem bPd {x:AV} {vs:List AV} {s:St} (g:Jw 67 10 s x vs) (id:Nat) (S:St):bt .len #[49] [x] id S=some (.int .i64 vs.length,S):=UC g aNw aHp id S
theorem bGu {x:AV} {vs:List AV} {s:St} (g:Jw 33 6 s x vs) (id:Nat) (S:St):bt .len #[31] [x] id S=some (.int .i64 vs.length,S):=UC g WO PW id S
theorem aOb {x:AV} {vs:List AV} {s:St} (g:Jw 3 1 s x vs) (id:Nat) (S:St):bt .len #[72] [x] id S=some (.int .i64 vs.length,S):=UC g WP bBw id S
section
variable {s s':St} {p:Nat} {K:Sk} {F:List Nat}
theorem bRr (fr:aI s) (h:cN s p K F) (d:Dc) (hl:K.D.length<=2 ^ 20):mW 190 [.ptr p 0,d.av] s p F (.tup []) { K with D:=K.D++[d] }:=by
 have hF:=h.lt fr;have hp:=hF p h.pin;obtain ⟨xd,xm,xa,xn,m,c,rfl⟩:=h
 have r:=aGp (.ptr p 0) d.av s (Q:=fun r s'=>r=.tup []/\bY s p (p::aN xd xm xa xn m) { K with D:=K.D++[d] } s') (by
  unfold f190;refine ⟨eL d,?_⟩;have hps:¬ (p=s.nx):=by omega
  obtain ⟨S,hS⟩:∃ S,S=Ai.adv (s.set s.nx (some (.cells d.av.cells 67 true true))) 14:=⟨_,rfl⟩;have kS:∀ j,j < s.nx->S.h j=s.h j:=fun j hj=>by rw [hS,adv_h,aB (by omega)]
  have nS:S.nx=s.nx+14:=by rw [hS];rfl
  have fS:∀ j,s.nx < j->S.h j=none:=fun j hj=>by rw [hS,adv_h,aB (by omega)];exact fr j (by omega)
  have hb:kM 49 1 [(0,d.av)]=some (.sl true [d.av]):=dX US (by decide) (gJ d) (eL d);obtain ⟨x',S',e1,e2,e3,e4,e5,_⟩:=TT (s:=S) US (c.d.keep (s':=S) fun j hj=>kS j (hF j (by simp [aN,hj]))) (v:=d.av) (bNi d) (by rw [m002];omega) (by rw [m002];omega) true (s.nx+10) (fS _ (by omega));have hlt:∀ j∈aE xd,j < s.nx:=fun j hj=>hF j (by simp [aN,hj]);have nd:=c.nd;simp only [m036,m003,not_or] at nd;have hcell:S'.h p=some (.cells [xd,xm,xa,xn,m] 88 true true):=by rw [e4 p (by omega) nd.1.1,kS p hp,c.cell]
  simp only [XX,c.cell,hps,if_false,kK,hb,wx,wy,Z0,Z1,reduceCtorEq];refine ⟨rfl,fr _ (by omega),?_⟩;rw [<- hS,e1];simp only [Bnd_some];refine ⟨rfl,?_,?_⟩
  ·rw [e4 _ (by omega) (fun hm=>by have:=hlt _ hm;omega)];exact fS _ (by omega)
  ·rw [eB hcell (by simp) e2.one.1 e2.one.2];simp only [Bnd_some];have hE:∀ y,y < s.nx->y ∉ aE xd->S'.h y=s.h y:=fun y hy hn=>by rw [e4 y (by omega) hn,kS y hy]
   rw [<- List.map_singleton (f:=Dc.av),<- m038] at e2
   exact sP (id:=s.nx+10) (A:=aE xd) c fr (by omega) (by omega) (by omega) (fun j hj=>by simp [aN,hj]) hE (fun j hj=>by rw [e4 j (by omega) (fun hm=>by have:=hlt _ hm;omega)];exact fS j (by omega)) (fun j hj=>by
    simp only [aN,m003] at hj ⊢;have:=e5 j
    grind) (bBk c fr (id:=s.nx+10) (by omega) hE e5 e2))
 obtain ⟨r,s',h1,rfl,h2⟩:=r;exact ⟨_,s',h1,rfl,h2⟩
theorem bQx (fr:aI s) (h:cN s p K F) (y:Sx) (hl:K.X.length<=2 ^ 20):mW 145 [.ptr p 2,y.av] s p F (.tup []) { K with X:=K.X++[y] }:=by
 have hF:=h.lt fr;have hp:=hF p h.pin;obtain ⟨xd,xm,xa,xn,m,c,rfl⟩:=h
 have r:=aOa (.ptr p 2) y.av s (Q:=fun r s'=>r=.tup []/\bY s p (p::aN xd xm xa xn m) { K with X:=K.X++[y] } s') (by
  unfold f145;refine ⟨cH y,?_⟩;have hps:¬ (p=s.nx):=by omega
  obtain ⟨S,hS⟩:∃ S,S=Ai.adv (s.set s.nx (some (.cells y.av.cells 33 true true))) 16:=⟨_,rfl⟩;have kS:∀ j,j < s.nx->S.h j=s.h j:=fun j hj=>by rw [hS,adv_h,aB (by omega)]
  have nS:S.nx=s.nx+16:=by rw [hS];rfl
  have fS:∀ j,s.nx < j->S.h j=none:=fun j hj=>by rw [hS,adv_h,aB (by omega)];exact fr j (by omega)
  have hb:kM 31 1 [(0,.agg [.bool false,.int .i64 0,.str [],.int .i64 0,.int .i64 0,.nils])]=some (.sl true [.agg [.bool false,.int .i64 0,.str [],.int .i64 0,.int .i64 0,.nils]]):=dX zB (by decide) rfl rfl;obtain ⟨i,S',S2,e1,e2,e3,e4,e5,e6,e7,e8,e9⟩:=bEe (s:=S) zB (c.x.keep (s':=S) fun j hj=>kS j (hF j (by simp [aN,hj]))) (v0:=.agg [.bool false,.int .i64 0,.str [],.int .i64 0,.int .i64 0,.nils]) (v:=y.av) rfl rfl (bId y) (by rw [m002];omega) (by rw [m002];omega) true (s.nx+10) (fS _ (by omega));have hlt:∀ j∈aE xa,j < s.nx:=fun j hj=>hF j (by simp [aN,hj]);have nd:=c.nd;simp only [m036,m003,not_or] at nd;have hin:i < s.nx\/i=s.nx+10:=e9.elim .inr fun h=>.inl (hlt i h)
  have hip:i≠p:=fun e=>by
   subst e;rcases e9 with h | h
   ·omega
   ·exact nd.1.2.2.1 h
  have hcell:S2.h p=some (.cells [xd,xm,xa,xn,m] 88 true true):=by rw [e8 p (Ne.symm hip),e7 p (by omega) nd.1.2.2.1,kS p hp,c.cell]
  have hlen:=bGu c.x;rw [m002] at hlen e2 e3 e1 e4;simp only [YK,c.cell,hps,if_false,dI,hb,hlen,wx,wy,Z0,Z1,reduceCtorEq];refine ⟨rfl,fr _ (by omega),?_⟩;rw [<- hS,e1];simp only [Bnd_some,e2];refine ⟨?_,?_⟩
  ·rw [e7 _ (by omega) (fun hm=>by have:=hlt _ hm;omega)];exact fS _ (by omega)
  rw [e3];simp only [Bnd_some];have q1:¬ (s.nx+15=i):=by omega
  have q2:¬ (p=i):=fun e=>hip e.symm;have q3:¬ (p=s.nx+12):=by omega
  refine ⟨rfl,?_,?_,?_⟩
  ·simp [clear,eA.apart,tM,bN,aE,lY,dO,q1,q2,q3,aVs (show s.nx+12≠s.nx+15 by omega),aVs (show s.nx+12≠p by omega),aVs (show i≠s.nx+15 by omega),aVs hip]
  ·rw [e8 _ (by omega),e7 _ (by omega) (fun hm=>by have:=hlt _ hm;omega)];exact fS _ (by omega)
  ·rw [eB hcell (by simp) rfl rfl];simp only [Bnd_some];have hE:∀ y,y < s.nx->y ∉ aE xa->S2.h y=s.h y:=fun z hy hn=>by rw [e8 z (fun e=>by subst e;rcases e9 with h | h;omega;exact hn h),e7 z (by omega) hn,kS z hy]
   rw [<- List.map_singleton (f:=Sx.av),<- m038] at e4;have hI:∀ j∈aE (.ref i 0 (K.X.length+1) none 33),j=s.nx+10\/j∈aE xa:=fun j hj=>by simp only [aE,m008] at hj;subst hj;exact e9
   exact sP (id:=s.nx+10) (A:=aE xa) c fr (by omega) (by omega) (by omega) (fun j hj=>by simp [aN,hj]) hE (fun j hj=>by rw [e8 j (by omega),e7 j (by omega) (fun hm=>by have:=hlt _ hm;omega)];exact fS j (by omega)) (fun j hj=>by
    simp only [aN,m003] at hj ⊢;have:=hI j
    grind) (aZd c fr (id:=s.nx+10) (by omega) hE hI e4))
 obtain ⟨r,s',h1,rfl,h2⟩:=r;exact ⟨_,s',h1,rfl,h2⟩
theorem bTi (fr:aI s) (h:cN s p K F) (hl:K.dm.length<=2 ^ 20):mW 100 [.ptr p 0] s p F (.tup []) { K with dm:=K.dm++[(K.D.length:Int)] }:=by
 have hF:=h.lt fr;have hp:=hF p h.pin;obtain ⟨xd,xm,xa,xn,m,c,rfl⟩:=h
 have r:=aOi (.ptr p 0) s (Q:=fun r s'=>r=.tup []/\bY s p (p::aN xd xm xa xn m) { K with dm:=K.dm++[(K.D.length:Int)] } s') (by
  unfold f100;obtain ⟨S,hS⟩:∃ S,S=Ai.adv s 17:=⟨_,rfl⟩;have kS:∀ j,S.h j=s.h j:=fun j=>by rw [hS,adv_h]
  have nS:S.nx=s.nx+17:=by rw [hS];rfl
  have hb:∀ n:Int,kM 72 1 [(0,.int .i64 n)]=some (.sl true [.int .i64 n]):=fun n=>dX pQ (by decide) rfl rfl;obtain ⟨x',S',e1,e2,e3,e4,e5,_⟩:=TT (s:=S) pQ (c.dm.keep (s':=S) fun j hj=>kS j) (v:=.int .i64 (K.D.length:Int)) (bBb _) (by rw [m002];omega) (by rw [m002];omega) true (s.nx+13) (by rw [kS];exact fr _ (by omega));have hlt:∀ j∈aE xm,j < s.nx:=fun j hj=>hF j (by simp [aN,hj]);have nd:=c.nd;simp only [m036,m003,not_or] at nd;have hcell:S'.h p=some (.cells [xd,xm,xa,xn,m] 88 true true):=by rw [e4 p (by omega) (by grind),kS p,c.cell]
  have hlen:=bPd c.d;rw [m002] at hlen;simp only [XX,c.cell,hlen,hb,wx,wy,Z0,Z1,reduceCtorEq];refine ⟨rfl,?_⟩;refine ⟨rfl,fr _ (by omega),?_⟩;rw [<- hS,e1];simp only [Bnd_some];refine ⟨rfl,?_,?_⟩
  ·rw [e4 _ (by omega) (fun hm=>by have:=hlt _ hm;omega),kS];exact fr _ (by omega)
  ·rw [eB hcell (by simp) e2.one.1 e2.one.2];simp only [Bnd_some];have hE:∀ y,y < s.nx->y ∉ aE xm->S'.h y=s.h y:=fun y hy hn=>by rw [e4 y (by omega) hn,kS y]
   have e2':Jw 3 1 S' x' ((K.dm++[(K.D.length:Int)]).map dE):=by rw [m038];exact e2
   exact sP (id:=s.nx+13) (A:=aE xm) c fr (by omega) (by omega) (by omega) (fun j hj=>by simp [aN,hj]) hE (fun j hj=>by rw [e4 j (by omega) (fun hm=>by have:=hlt _ hm;omega),kS];exact fr j (by omega)) (fun j hj=>by
    simp only [aN,m003] at hj ⊢;have:=e5 j
    grind) (aIb c fr (id:=s.nx+13) (by omega) hE e5 e2'))
 obtain ⟨r,s',h1,rfl,h2⟩:=r;exact ⟨_,s',h1,rfl,h2⟩
theorem bPe (fr:aI s) (h:cN s p K F) (hl:K.am.length<=2 ^ 20):mW 101 [.ptr p 2] s p F (.tup []) { K with am:=K.am++[(K.X.length:Int)] }:=by
 have hF:=h.lt fr;have hp:=hF p h.pin;obtain ⟨xd,xm,xa,xn,m,c,rfl⟩:=h
 have r:=aMn (.ptr p 2) s (Q:=fun r s'=>r=.tup []/\bY s p (p::aN xd xm xa xn m) { K with am:=K.am++[(K.X.length:Int)] } s') (by
  unfold f101;obtain ⟨S,hS⟩:∃ S,S=Ai.adv s 17:=⟨_,rfl⟩;have kS:∀ j,S.h j=s.h j:=fun j=>by rw [hS,adv_h]
  have nS:S.nx=s.nx+17:=by rw [hS];rfl
  have hb:∀ n:Int,kM 72 1 [(0,.int .i64 n)]=some (.sl true [.int .i64 n]):=fun n=>dX pQ (by decide) rfl rfl;obtain ⟨x',S',e1,e2,e3,e4,e5,_⟩:=TT (s:=S) pQ (c.am.keep (s':=S) fun j hj=>kS j) (v:=.int .i64 (K.X.length:Int)) (bBb _) (by rw [m002];omega) (by rw [m002];omega) true (s.nx+13) (by rw [kS];exact fr _ (by omega));have hlt:∀ j∈aE xn,j < s.nx:=fun j hj=>hF j (by simp [aN,hj]);have nd:=c.nd;simp only [m036,m003,not_or] at nd;have hcell:S'.h p=some (.cells [xd,xm,xa,xn,m] 88 true true):=by rw [e4 p (by omega) (by grind),kS p,c.cell]
  have hlen:=bGu c.x;rw [m002] at hlen;simp only [YK,c.cell,hlen,hb,wx,wy,Z0,Z1,reduceCtorEq];refine ⟨rfl,?_⟩;refine ⟨rfl,fr _ (by omega),?_⟩;rw [<- hS,e1];simp only [Bnd_some];refine ⟨rfl,?_,?_⟩
  ·rw [e4 _ (by omega) (fun hm=>by have:=hlt _ hm;omega),kS];exact fr _ (by omega)
  ·rw [eB hcell (by simp) e2.one.1 e2.one.2];simp only [Bnd_some];have hE:∀ y,y < s.nx->y ∉ aE xn->S'.h y=s.h y:=fun y hy hn=>by rw [e4 y (by omega) hn,kS y]
   have e2':Jw 3 1 S' x' ((K.am++[(K.X.length:Int)]).map dE):=by rw [m038];exact e2
   exact sP (id:=s.nx+13) (A:=aE xn) c fr (by omega) (by omega) (by omega) (fun j hj=>by simp [aN,hj]) hE (fun j hj=>by rw [e4 j (by omega) (fun hm=>by have:=hlt _ hm;omega),kS];exact fr j (by omega)) (fun j hj=>by
    simp only [aN,m003] at hj ⊢;have:=e5 j
    grind) (aSa c fr (id:=s.nx+13) (by omega) hE e5 e2'))
 obtain ⟨r,s',h1,rfl,h2⟩:=r;exact ⟨_,s',h1,rfl,h2⟩
theorem c46 (fr:aI s) (h:cN s p K F):LF 46 [.ptr p 0] s (.int .i64 K.dm.length):=by obtain ⟨xd,xm,xa,xn,m,c,rfl⟩:=h;have hlen:=aOb c.dm;rw [m002] at hlen;refine aTu _ _ (Q:=fun r s'=>r=.int .i64 K.dm.length/\EF [] s s') ?_;unfold f46;simp only [lZ,wx,wy,Z0,Z1,reduceCtorEq];refine ⟨rfl,?_⟩;refine bQ bRk (VS _ _ ?_);unfold f98;simp only [AT,wx,wy,Z0,Z1,reduceCtorEq];refine ⟨rfl,?_⟩;simp only [c.cell,hlen,wx,wy,Z0,Z1,reduceCtorEq];exact (EF.refl [] fr).adv
def iH (K:Sk) (nm:List UInt8):Int:=bif aU nm then 101 else bif (K.N.getD []).contains nm then 4 else 0
theorem PO (nm:List UInt8) (N:List (List UInt8)):find (.str nm) (pO N)=some (if N.contains nm then some (.bool true) else none):=by
 induction N with
 | nil=>rfl
 | cons a N ih =>
  simp only [pO,m039,find,gR]
  cases h:(nm==a) with
  | true =>
   have:nm=a:=by simpa using h
   subst this;simp
  | false =>
   have h2:(a==nm)=false:=by
    have:nm≠a:=by simpa using h
    simpa using Ne.symm this
   simp only [pO] at ih;simp only [ih,List.contains_cons,h,m026]
theorem bBo:eK Tryz.ty 86=some (.map 9 4):=by kernel_rfl
theorem bEl {m:AV} {N:Option (List (List UInt8))} (h:NmR s m N) (nm:List UInt8) (S:St) (hS:∀ j∈aE m,S.h j=s.h j):eE Tryz.ty 86 m (.str nm) false S=some (.bool ((N.getD []).contains nm)):=by
 have h9:eK Tryz.ty 9=some .string:=by kernel_rfl
 have hz:zero Tryz.ty 4=some (.bool false):=by kernel_rfl
 have he:jV m (.str nm) S=some (if (N.getD []).contains nm then some (.bool true) else none):=by
  rcases h with ⟨rfl,rfl⟩ | ⟨l,j,rfl,rfl,hj⟩
  ·rfl
  ·simp only [jV,hS j (by simp [aE]),hj,PO,Option.getD_some]
 simp only [eE,bBo,h9,Option.bind_some,uQ,if_true,hz,he,Option.map_some,m015,if_false];cases (N.getD []).contains nm<;>rfl
theorem bCt:mEv.fz 143=false:=by kernel_rfl
theorem bNj (fr:aI s) (h:cN s p K F) (nm:List UInt8):LF 143 [.ptr p 0,.str nm] s (.int .i64 (iH K nm)):=by
 obtain ⟨xd,xm,xa,xn,m,c,rfl⟩:=h;refine aGm _ _ _ (Q:=fun r s'=>r=.int .i64 (iH K nm)/\EF [] s s') ?_;unfold f143;refine aP (c24 nm) (by simp [AV.closed]) ?_;show _
 cases hr:aU nm with
 | true =>have hr0:=hr;unfold aU at hr;simp only [hr,iH,hr0,cond_true,wx,wy,Z0,Z1,reduceCtorEq];exact (EF.refl [] fr).adv
 | false =>
  have hr0:=hr;unfold aU at hr;simp only [hr,wx,wy,Z0,Z1,reduceCtorEq];refine ⟨rfl,?_⟩;have hlk:∀ k,eE Tryz.ty 86 m (.str nm) false (Ai.adv s k)=some (.bool ((K.N.getD []).contains nm)):=fun k=>bEl c.n nm _ fun _ _=>rfl;simp only [c.cell,hlk,wx,wy,Z0,Z1,reduceCtorEq]
  cases hc:(K.N.getD []).contains nm with
  | true =>simp only [iH,hr0,hc,cond_true,cond_false,wx,wy,Z0,Z1,reduceCtorEq];exact (EF.refl [] fr).adv
  | false =>simp only [iH,hr0,hc,cond_false,wx,wy,Z0,Z1,reduceCtorEq];exact (EF.refl [] fr).adv
def TL (N:Option (List (List UInt8))) (nm:List UInt8):Option (List (List UInt8)):=some (let l:=N.getD [];if l.contains nm then l else l++[nm])
def pR (N:List (List UInt8)) (nm:List UInt8):List (List UInt8):=if N.contains nm then N else N++[nm]
theorem aWf (nm:List UInt8) (N:List (List UInt8)):fX (.str nm) (.bool true) (pO N)=pO (pR N nm):=by
 induction N with
 | nil=>rfl
 | cons a N ih =>
  simp only [pO,m039,fX,gR];by_cases h:nm=a
  ·subst h;simp [pR,pO]
  ·have h1:(nm==a)=false:=by simpa using h
   simp only [pO] at ih;simp only [h1,ih];have hc:(a::N).contains nm=N.contains nm:=by rw [List.contains_cons,h1,m026]
   simp only [pR,hc];cases N.contains nm<;>simp
theorem bDg {j:Nat} {N:List (List UInt8)} {S:St} (hj:S.h j=some (.map (pO N))) (nm:List UInt8):eN Tryz.ty 86 (.map j) (.str nm) (.bool true) S=some (S.set j (some (.map (pO (pR N nm))))):=by
 have h9:eK Tryz.ty 9=some .string:=by kernel_rfl
 simp only [eN,bBo,h9,Option.bind_some,hj,uQ,if_true,PO,Option.map_some,aWf]
end
end
noncomputable section
structure DcV (v:AV) (d:Dc):Prop where
 len:v.cells.length=10
 ones:v.cells.all AV.one=true
 nm:v.cells[0]?=some (.str d.nm)
 part:Ai.part 10 true 0 v.cells=some v
 pur:∀ s,pur mEv.P s 12 v=some (d.av,[])
theorem dcv (d:Dc):DcV d.av d:=⟨gJ d,eL d,dc0 d,kK d,fun s=>UB (eO d) s⟩
def aMy (nm:List UInt8) (so:Int):AV:=.agg [.str nm,.int .i64 so,.bool false,.nils,.bool false,.int .i64 0,.str [],.int .i64 0,.int .i64 0,.nils]
def uF (nm:List UInt8) (so:Int):Dc:=⟨nm,so,false,[],nG⟩
theorem aCp (nm:List UInt8) (so:Int):DcV (aMy nm so) (uF nm so):=⟨rfl,rfl,rfl,rfl,fun s=>rfl⟩
theorem bDp (d:Dc):eH d.av=[]:=by have h:=jR (l:=[d.av]) (by simp only [aW,eO,jH]);simpa only [dC,m011] using h
theorem aRk (y:Sx):eH y.av=[]:=by have h:=jR (l:=[y.av]) (by simp only [aW,aV,jH]);simpa only [dC,m011] using h
theorem aHw {h:FuncId} {l:List Nat} {s:St} {k:aG} {v w r:AV} (hp:pur mEv.P (s.only l) 12 v=some (w,[])) (hc:bE mEv h [w] r) (hk:k r s):fF mEv h [v] l s k:=.mk [w] [] r (by simp only [dN,hp,m011]) hc rfl hk
theorem bNa:mEv.fz 190=false:=by kernel_rfl
theorem bMf:mEv.fz 145=false:=by kernel_rfl
theorem aYv:mEv.fz 144=false:=by kernel_rfl
theorem bFu {s s':St} {r:AV} {D:List Dc} (h:GK 67 s s' r (D.map Dc.av)) (id:Nat) (S:St):bt .len #[49] [r] id S=some (.int .i64 D.length,S):=by
 rcases h.2 with ⟨h1,h2⟩ | ⟨j,_,rfl,_⟩
 ·have:D=[]:=by simpa using h1
  subst this;rcases h2 with rfl | rfl
  ·exact aNw ..
  ·exact aMa ..
 ·rw [m002];exact aHp ..
theorem bTk {s s':St} {r:AV} {D:List Sx} (h:GK 33 s s' r (D.map Sx.av)) (id:Nat) (S:St):bt .len #[31] [r] id S=some (.int .i64 D.length,S):=by
 rcases h.2 with ⟨h1,h2⟩ | ⟨j,_,rfl,_⟩
 ·have:D=[]:=by simpa using h1
  subst this;rcases h2 with rfl | rfl
  ·exact WO ..
  ·exact CG ..
 ·rw [m002];exact PW ..
def oR (K:Sk) (d:Dc):Int×Sk:=bif (K.D.length:Int)==500 then (2,K) else (0,{ K with D:=K.D++[d],N:=TL K.N d.nm })
section
variable {s s':St} {p:Nat} {K:Sk} {F:List Nat} {xd xm xa xn m:AV}
theorem bY.step {F1:List Nat} {K2:Sk} {s1 s2:St} (e:EF F s s1) (hF:∀ j∈F1,j∈F\/s.nx<=j) (q:bY s1 p F1 K2 s2):bY s p F K2 s2:=by obtain ⟨F',h1,h2,h3⟩:=q;have:=e.nx;exact ⟨F',h1,e.trans h2 fun j hj=>(hF j hj).symm,fun j hj=>(h3 j hj).elim (hF j) fun h=>.inr (by omega)⟩
theorem bGx {v:AV} {d:Dc} (hv:DcV v d) (hd1:d.body.fit) (hd2:d.ps.length<=2 ^ 20) (fr:aI s) {j b:Nat} (c:gE s p K xd xm xa xn (.map j)) (hb:s.h b=some (.cells v.cells 67 true true)) (hbn:b ∉ p::aN xd xm xa xn (.map j)) (hl:K.D.length<=2 ^ 20) {Q:aG}
  (hQ:∀ S',bY s p (p::aN xd xm xa xn (.map j)) { K with D:=K.D++[d],N:=TL K.N d.nm } S'->Q (.int .i64 0) S'):yB Q (.ptr p 0) (.ptr b 0) s:=by
 unfold yB;have hR:cN s p K (p::aN xd xm xa xn (.map j)):=⟨_,_,_,_,_,c,rfl⟩;have hF:=hR.lt fr;have hj0:j∈p::aN xd xm xa xn (.map j):=by simp [aN,aE]
 have hjs:=hF j hj0;have hbj:b≠j:=fun e=>hbn (e ▸ hj0);have hpj:p≠j:=fun e=>by have:=c.nd;simp only [m036,m003,aE,m008,not_or] at this;exact this.1.2.2.2.2 e
 obtain ⟨N0,hN,hm⟩:∃ N0,K.N=some N0/\s.h j=some (.map (pO N0)):=by
  rcases c.n with ⟨_,h⟩ | ⟨l,i,h1,h,h2⟩
  ·cases h
  ·cases h;exact ⟨l,h1,h2⟩
 have hadd:TL K.N d.nm=some (pR N0 d.nm):=by rw [hN];rfl
 refine ⟨rfl,?_⟩;simp only [c.cell,hb,hv.nm,wx,wy,Z0,Z1,reduceCtorEq];refine ⟨fr _ (by omega),?_⟩;rw [bDg (S:=Ai.adv s 7) (by rw [adv_h];exact hm)];simp only [Bnd_some];refine ⟨rfl,?_⟩;obtain ⟨S,hS⟩:∃ S,S=Ai.adv (s.set j (some (.map (pO (pR N0 d.nm))))) 13:=⟨_,rfl⟩;have nS:S.nx=s.nx+13:=by rw [hS];rfl
 have kS:∀ i,i≠j->S.h i=s.h i:=fun i hi=>by rw [hS,adv_h,aB hi]
 have fS:aI S:=fun i hi=>by rw [kS i (by omega)];exact fr i (by omega)
 have hbS:S.h b=some (.cells v.cells 67 true true):=by rw [kS b hbj,hb]
 simp only [hbj,hb,hv.part,if_false,wx,wy,Z0,Z1,reduceCtorEq];rw [<- hS];have c2:gE S p { K with N:=TL K.N d.nm } xd xm xa xn (.map j):=YD c fr (id:=s.nx) (bK _) (by rw [kS p hpj,c.cell]) (fun i _ _ hi=>kS i (by simpa [aE] using hi)) (fun i hi=>.inr hi) (.inr ⟨_,j,hadd,rfl,by rw [hS,adv_h,aF]⟩);have e2:EF (p::aN xd xm xa xn (.map j)) s S:=⟨by omega,fun i hi hn=>kS i fun e=>hn (e ▸ hj0),fS⟩;refine aHw (hv.pur _) (c95 d hd1 hd2) ?_;refine mW.callD (K:={ K with N:=TL K.N d.nm }) (F:=p::aN xd xm xa xn (.map j)) bNa fS ⟨_,_,_,_,_,c2,rfl⟩ rfl (by simp [dC,eH,bDp]) (fun s f h=>bRr f h d hl) fun S2 q=>?_;exact hQ _ (bY.step e2 (fun i hi=>.inl hi) q).adv
theorem bKx {v:AV} {d:Dc} (hv:DcV v d) (hd1:d.body.fit) (hd2:d.ps.length<=2 ^ 20) (fr:aI s) (h:cN s p K F) (hl:K.D.length<=2 ^ 20):mW 144 [.ptr p 0,v] s p F (.int .i64 (oR K d).1) (oR K d).2:=by
 have hF:=h.lt fr;have hp:=hF p h.pin;have h0:=h;obtain ⟨xd,xm,xa,xn,m,c,rfl⟩:=h
 have r:=aJu (.ptr p 0) v s (Q:=fun r s'=>r=.int .i64 (oR K d).1/\bY s p (p::aN xd xm xa xn m) (oR K d).2 s') (by
  unfold f144;refine ⟨hv.ones,?_⟩;obtain ⟨S1,hS1⟩:∃ S,S=(Ai.adv s 2).set s.nx (some (.cells v.cells 67 true true)):=⟨_,rfl⟩;dsimp only;rw [<- hS1];have n1:S1.nx=s.nx+2:=by rw [hS1];rfl
  have k1:∀ j,j < s.nx->S1.h j=s.h j:=fun j hj=>by rw [hS1,aB (by omega),adv_h]
  have b1:S1.h s.nx=some (.cells v.cells 67 true true):=by rw [hS1,aF]
  have f1:aI S1:=fun j hj=>by rw [hS1,aB (by omega),adv_h];exact fr j (by omega)
  have c1:gE S1 p K xd xm xa xn m:=c.keep fun j hj=>k1 j (hF j hj);have ef1:EF [] s S1:=⟨by omega,fun j hj _=>k1 j hj,f1⟩;refine ⟨rfl,?_⟩;simp only [wx,wy,Z0,Z1,reduceCtorEq];obtain ⟨r,s2,e1,e2⟩:=c94 (p:=p) (o:=0) (s:=Ai.adv S1 6) (vs:=K.D.map Dc.av) f1.adv c1.cell rfl (c1.d.keep fun _ _=>rfl) (by rw [m002];exact hl);refine bQ bNy ⟨r,s2,e1,?_⟩;have ef2:EF [] s s2:=ef1.adv.nil_trans e2.1;have n2:=e2.1.nx;simp only [adv_nx] at n2;have k2:∀ j,j < s.nx+2->s2.h j=S1.h j:=fun j hj=>by rw [e2.1.h j (by simp only [adv_nx];omega) (by simp),adv_h]
  have c2:gE s2 p K xd xm xa xn m:=c1.keep fun j hj=>k2 j (by have:=hF j hj;omega);simp only [bFu e2,wx,wy,Z0,Z1,reduceCtorEq]
  cases hq:((K.D.length:Int)==500) with
  | true =>simp only [oR,hq,cond_true,wx,wy,Z0,Z1,reduceCtorEq];exact bY.same h0 fr ef2.adv
  | false =>
   simp only [oR,hq,cond_false,wx,wy,Z0,Z1,reduceCtorEq];refine ⟨rfl,?_⟩;have hbs:s.nx ∉ p::aN xd xm xa xn m:=fun hm=>by have:=hF _ hm;omega
   rcases c.n with ⟨hN,rfl⟩ | ⟨l0,j,hN,rfl,hj⟩
   ·simp only [c2.cell,bGk,wx,wy,Z0,Z1,reduceCtorEq];refine ⟨rfl,?_⟩;obtain ⟨S3,hS3⟩:∃ S,S=(Ai.adv (s2.set (s2.nx+6) (some (.map []))) 10).set p (some (.cells [xd,xm,xa,xn,.map (s2.nx+6)] 88 true true)):=⟨_,rfl⟩;rw [eB (c:=[xd,xm,xa,xn,.nilm]) (e:=88) (ex:=true) (by rw [adv_h,aB (by omega),c2.cell]) (by simp) rfl rfl];simp only [Bnd_some];show yB _ _ _ ((Ai.adv (s2.set (s2.nx+6) (some (.map []))) 10).set p (some (.cells [xd,xm,xa,xn,.map (s2.nx+6)] 88 true true)));rw [<- hS3];have n3:S3.nx=s2.nx+10:=by rw [hS3];rfl
    have k3:∀ j,j≠p->j≠s2.nx+6->S3.h j=s2.h j:=fun j a b=>by rw [hS3,aB a,adv_h,aB b]
    have f3:aI S3:=fun j hj=>by rw [k3 j (by omega) (by omega)];exact e2.1.fr j (by omega)
    have c3:gE S3 p { K with N:=some [] } xd xm xa xn (.map (s2.nx+6)):=YD c2 e2.1.fr (id:=s2.nx+6) (by omega) (by rw [hS3,aF]) (fun j a b _=>k3 j b (by omega)) (fun j hj=>.inl (by simpa [aE] using hj)) (.inr ⟨[],_,rfl,rfl,by rw [hS3,aB (by omega),adv_h,aF];rfl⟩);have ef3:EF (p::aN xd xm xa xn .nilm) s S3:=⟨by omega,fun j a b=>by rw [k3 j (fun e=>b (by simp [e])) (by omega)];exact ef2.h j a (by simp),f3⟩;have hadd:TL K.N d.nm=TL (some []) d.nm:=by rw [hN];rfl
    rw [hadd];refine bGx (K:={ K with N:=some [] }) hv hd1 hd2 f3 c3 (by rw [k3 _ (by omega) (by omega),k2 _ (by omega),b1]) (fun hm=>?_) hl fun S' q=>⟨rfl,bY.step ef3 (fun j hj=>?_) q⟩
    ·simp only [m013,aN,m003,aE,m008] at hm hbs;have:s.nx≠s2.nx+6:=by omega
     grind
    ·simp only [m013,aN,m003,aE,m008] at hj ⊢;have:s.nx<=s2.nx+6:=by omega
     grind
   ·simp only [c2.cell,bDn,wx,wy,Z0,Z1,reduceCtorEq];refine bGx (s:=Ai.adv s2 5) (K:=K) hv hd1 hd2 e2.1.fr.adv (c2.keep fun _ _=>rfl) (by rw [adv_h,k2 _ (by omega),b1]) hbs hl fun S' q=>⟨rfl,?_⟩
    exact bY.step (F1:=p::aN xd xm xa xn (.map j)) (ef2.adv.sub fun j hj=>by cases hj) (fun i hi=>.inl hi) q)
 obtain ⟨r,s',h1,rfl,h2⟩:=r;exact ⟨_,s',h1,rfl,h2⟩
def nK (K:Sk) (nm:List UInt8) (so:Int):Int×Sk:=bif (decide (so < 1)||(decide (so > 3)||decide ((nm.length:Int) > 16384))) then (1,K) else bif iH K nm != 0 then (iH K nm,K) else oR K (uF nm so)
theorem bOu:mEv.fz 91=false:=by kernel_rfl
theorem c91 (fr:aI s) (h:cN s p K F) (nm:List UInt8) (so:Int) (hl:K.D.length<=2 ^ 20):mW 91 [.ptr p 0,.str nm,.int .i64 so] s p F (.int .i64 (nK K nm so).1) (nK K nm so).2:=by
 have r:=aUt (.ptr p 0) (.str nm) (.int .i64 so) s (Q:=fun r s'=>r=.int .i64 (nK K nm so).1/\bY s p F (nK K nm so).2 s') (by
  unfold f91;have hln:∀ id S,bt .len #[9] [.str nm] id S=some (.int .i64 nm.length,S):=bEf nm;have hb:lK 67 [(0,.str nm),(1,.int .i64 so)]=some (aMy nm so):=by rw [bQz];rfl
  have e20:∀ n,EF [] s (Ai.adv s n):=fun n=>(EF.refl [] fr).adv
  cases h1:decide (so < 1) with
  | true =>simp only [nK,lZ,h1,m033,cond_true,wx,wy,Z0,Z1,reduceCtorEq];exact bY.same h fr (e20 _)
  | false =>
  cases h2:decide (so > 3) with
  | true =>simp only [nK,lZ,h1,h2,m033,m078,cond_true,wx,wy,Z0,Z1,reduceCtorEq];exact bY.same h fr (e20 _)
  | false =>
  cases h3:decide ((nm.length:Int) > 16384) with
  | true =>simp only [nK,lZ,hln,h1,h2,h3,m033,m078,cond_true,wx,wy,Z0,Z1,reduceCtorEq];exact bY.same h fr (e20 _)
  | false =>
   simp only [nK,lZ,hln,h1,h2,h3,Bool.or_self,cond_false,wx,wy,Z0,Z1,reduceCtorEq];refine (bNj fr.adv h.adv nm).call bCt fun s1 e1=>?_;have e2:=(e20 _).nil_trans e1
   cases hq:(iH K nm != 0) with
   | true =>simp only [hq,cond_true,wx,wy,Z0,Z1,reduceCtorEq];exact bY.same h fr e2.adv
   | false =>
    simp only [hq,cond_false,hb,wx,wy,Z0,Z1,reduceCtorEq];refine (bKx (aCp nm so) ⟨⟨by decide,by decide⟩,by simp,by simp,trivial⟩ (by simp [uF]) e2.fr.adv ((h.ext fr e2).adv) hl).call aYv fun s2 q=>?_
    exact ⟨rfl,q.from e2.adv⟩)
 obtain ⟨r,s',h1,rfl,h2⟩:=r;exact ⟨_,s',h1,rfl,h2⟩
end
end
end Go.Proofs.YtdehdahimkcakaaGreatDoor
