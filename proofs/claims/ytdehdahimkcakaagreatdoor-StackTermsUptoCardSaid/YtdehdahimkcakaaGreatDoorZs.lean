/- Texts joined by wip/tools/pack.py: Te,Tg,Th,Mk,Ml,Mn,Mo,Mp,Mq,Mr,Ms. -/
import Derived.Test.YtdehdahimkcakaaGreatDoorZr
open Nat renaming reduceAdd→Z0, reduceEqDiff→Z1
set_option linter.unusedSimpArgs false
set_option linter.unusedVariables false
set_option maxHeartbeats 4000000
set_option maxRecDepth 100000
namespace Go.Proofs.YtdehdahimkcakaaGreatDoor
open Go Ai
noncomputable section
section
variable {s:St} {i:Nat} {B:Bk} {F:List Nat} {K:aG}
theorem bMg:mEv.fz 187=false:=by kernel_rfl
theorem bMo:mEv.fz 135=false:=by kernel_rfl
theorem bIh:mEv.fz 134=false:=by kernel_rfl
theorem bIk:mEv.fz 133=false:=by kernel_rfl
theorem bHz:mEv.fz 186=false:=by kernel_rfl
theorem bNz:mEv.fz 132=false:=by kernel_rfl
theorem EF.nil_trans {a b c:St} (h:EF [] a b) (k:EF [] b c):EF [] a c:=h.trans k fun j hj=>by cases hj
theorem jG {i n:Nat} (h:i < n) (hn:n<=2 ^ 40):IntKind.i64.wrap ((i:Int)+1)=((i+1:Nat):Int):=by rw [IntWalk.i64_in _ (by omega)];rfl
theorem zU (l:List Int) (id:Nat) (s:St):bt .len #[72] [.sl false (l.map dE)] id s=some (.int .i64 l.length,s):=by rw [QD,m002]
theorem in0 (q:Int):(dE q).cells[0]?=some (.int .i64 q):=rfl
theorem aFi (a:List Int) (j:Nat) (q:Int) (h:a[j]?=some q):gD B (a.take (j+1))=gD B (a.take j)+(bif gI B q then 0 else 1):=by
 induction a generalizing j with
 | nil=>simp at h
 | cons x a ih =>
  cases j with
  | zero=>simp at h;subst h;simp [gD]
  | succ j =>simp only [List.getElem?_cons_succ] at h;simp only [List.take_succ_cons,gD,ih j h];omega
theorem aXb (a:List Int):gD B a<=a.length:=by
 induction a with
 | nil=>exact bK _
 | cons x a ih=>simp only [gD,List.length_cons];cases gI B x<;>simp<;>omega
theorem bSs (hw:Wf B) (a:List Int) (ha:∀ q∈a,eZ B q) (hl:a.length<=2 ^ 30) (s0:St) (fr0:aI s0) (hB:jJ s0 i B F) (Q:aG) (hQ:∀ s',EF [] s0 s'->Q (.bool (decide (gD B a<=1))) s') :
  ∀ (m j:Nat) (s:St),j+m=a.length->EF [] s0 s->qC Q (m+1) (.ptr i 0) (.int .i64 (gD B (a.take j))) (.sl false (a.map dE)) (.int .i64 a.length) (.int .i64 j) s:=by
 intro m
 induction m with
 | zero =>
  intro j s hj e;show wT Q (qC Q 0) _ _ _ _ _ s;have c1:decide ((j:Int) < (a.length:Int))=false:=by simp;omega
  rw [m014 (by omega)]
  have c2:decide (((gD B a:Nat):Int)<=1)=decide (gD B a<=1):=by
   by_cases h:gD B a<=1
   ·rw [decide_eq_true h,decide_eq_true (by omega)]
   ·rw [decide_eq_false h,decide_eq_false (by omega)]
  simp only [wT,c1,FZ,c2,wx,wy,Z0,Z1,reduceCtorEq];exact hQ _ e.adv
 | succ m ih =>
  intro j s hj e;show wT Q (qC Q (m+1)) _ _ _ _ _ s;have c1:decide ((j:Int) < (a.length:Int))=true:=by simp;omega
  obtain ⟨q,hq⟩:∃ q,a[j]?=some q:=⟨_,m004 (by omega)⟩;have hix:=cJ iY false hq .i64;have w1:=jG (i:=j) (n:=a.length) (by omega) (by omega);have hft:=aFi (B:=B) a j q hq;have hfl:=aXb (B:=B) (a.take j);have hfl2:=List.length_take_le j a;simp only [wT,c1,hix,in0,wx,wy,Z0,Z1,reduceCtorEq];refine (aCs e.adv.fr (jK hB fr0 e.adv) hw (ha q (m017 hq))).call bMg fun s1 e1=>?_;have e2:=e.adv.nil_trans e1
  cases hn:gI B q with
  | true =>rw [hn] at hft;simp only [DE,w1,wx,wy,Z0,Z1,reduceCtorEq];have:=ih (j+1) (Ai.adv s1 2) (by omega) e2.adv;rw [hft] at this;exact this
  | false =>
   rw [hn] at hft;have w2:IntKind.i64.wrap (((gD B (a.take j):Nat):Int)+1)=((gD B (a.take j)+1:Nat):Int):=by rw [IntWalk.i64_in _ (by omega)];rfl
   simp only [DE,w1,w2,wx,wy,Z0,Z1,reduceCtorEq];have:=ih (j+1) (Ai.adv s1 5) (by omega) e2.adv;rw [hft] at this;exact this
theorem aNo (fr:aI s) (hB:jJ s i B F) (hw:Wf B) (a:List Int) (ha:∀ q∈a,eZ B q) (hl:a.length<=2 ^ 30):LF 135 [.ptr i 0,.sl false (a.map dE)] s (.bool (decide (gD B a<=1))):=by refine aMv _ _ _ ?_;unfold f135;simp only [zU,wx,wy,Z0,Z1,reduceCtorEq];exact ⟨_,bSs hw a ha hl s fr hB _ (fun s' e=>⟨rfl,e⟩) a.length 0 _ (by omega) (EF.refl _ fr).adv⟩
def wE.av (x:wE):AV:=.agg [.int .i64 x.parts,.bool x.more,.int .i64 x.s0,.int .i64 x.s1,.int .i64 x.s2,.int .i64 x.own]
theorem HX (x:wE):x.av.cells=[.int .i64 x.parts,.bool x.more,.int .i64 x.s0,.int .i64 x.s1,.int .i64 x.s2,.int .i64 x.own]:=rfl
theorem aQr (x:wE) (k:Nat) (hk:k<=2):x.av.cells[2+k]?=some (.int .i64 (x.sort k)):=by
 match k,hk with
 | 0,_=>rfl
 | 1,_=>rfl
 | 2,_=>rfl
theorem aRm (x:wE) (j:Nat):x.sort (min j 2)=x.sort j:=by
 match j with
 | 0=>rfl
 | 1=>rfl
 | 2=>rfl
 | j+3=>rw [Nat.min_eq_right (by omega)];rfl
theorem bSp (j:Nat) (id:Nat) (s:St):bt .min #[3,3] [.int .i64 (j:Int),.int .i64 2] id s=some (.int .i64 ((min j 2:Nat):Int),s):=by
 have h:bt .min #[3,3] [.int .i64 (j:Int),.int .i64 2] id s=some (.int .i64 (if decide ((2:Int) < (j:Int)) then 2 else (j:Int)),s):=rfl
 rw [h];by_cases hc:2 < j
 ·rw [decide_eq_true (by omega),if_pos rfl,Nat.min_eq_right (by omega)];rfl
 ·rw [decide_eq_false (by omega),if_neg (by decide),rM (by omega)]
theorem ix3 (p o k:Nat) (hk:k<=2):ixA 3 1 (.ptr p o) (.int .i64 (k:Int))=some (.ptr p (o+k)):=by
 have:(k:Int) < 3:=by omega
 simp [ixA,pW,xI,aC,this]
theorem bQw (hw:Wf B) (x:wE) (a:List Int) (ha:∀ q∈a,eZ B q) (hl:a.length<=2 ^ 30) (s0:St) (fr0:aI s0) (hB:jJ s0 i B F) (p:Nat) (Q:aG) (r:Int) (hQ:∀ s',EF [] s0 s'->Q (.int .i64 r) s') :
  ∀ (m j:Nat) (last:Int) (s:St),j+m=a.length->EF [] s0 s->s.h p=some (.cells x.av.cells 192 true true)->r=dL B x j last (a.drop j)->jX Q (m+1) (.ptr i 0) (.ptr p 0) (.int .i64 last) (.sl false (a.map dE)) (.int .i64 a.length) (.int .i64 j) s:=by
 intro m
 induction m with
 | zero =>
  intro j last s hj e hp hr;show wC Q (jX Q 0) _ _ _ _ _ _ s;have c1:decide ((j:Int) < (a.length:Int))=false:=by simp;omega
  rw [m037 (by omega)] at hr;simp only [wC,c1,yD,hp,HX,eq3,wx,wy,Z0,Z1,reduceCtorEq];have hr:r=bif x.own==-1 then last else x.own:=hr
  cases ho:(x.own==-1) with
  | true =>rw [ho] at hr;rw [hr] at hQ;simp only [wx,wy,Z0,Z1,reduceCtorEq];exact hQ _ e.adv
  | false =>rw [ho] at hr;rw [hr] at hQ;simp only [hp,HX,wx,wy,Z0,Z1,reduceCtorEq];exact hQ _ e.adv
 | succ m ih =>
  intro j last s hj e hp hr;show wC Q (jX Q (m+1)) _ _ _ _ _ _ s;have c1:decide ((j:Int) < (a.length:Int))=true:=by simp;omega
  obtain ⟨q,hq⟩:∃ q,a[j]?=some q:=⟨_,m004 (by omega)⟩;rw [cE a j q hq] at hr;simp only [dL] at hr;have hix:=cJ iY false hq .i64;have w1:=jG (i:=j) (n:=a.length) (by omega) (by omega);obtain ⟨n,hn⟩:=uJ (ha q (m017 hq));obtain ⟨xl,mm,xn,⟨h1,h2,h3,h4,h5,h6,h7⟩,_⟩:=jK hB fr0 e;obtain ⟨k,j1,j2,j3,j4⟩:=YQ h4 hn;have j31:=j3 1 (by decide);have o1:n.av.cells[1]?=some (.int .i64 n.so):=rfl;have hso:jO B q=n.so:=by simp only [jO,hn]
  rw [hso] at hr;have hs:=aQr x (min j 2) (Nat.min_le_right _ _);rw [aRm] at hs;have hsx:x.av.cells[2+min j 2]?=some (.int .i64 (x.sort j)):=hs;simp only [wC,c1,hix,in0,bSp,ix3 p 2 (min j 2) (Nat.min_le_right _ _),hp,hsx,wx,wy,Z0,Z1,reduceCtorEq];refine ⟨rfl,?_⟩
  have hgo:∀ (want:Int) (c:Nat),(want=bif x.sort j==-1 then last else x.sort j)->BT Q (jX Q (m+1)) (.int .i64 want) (.int .i64 n.so) (.int .i64 j) (.ptr i 0) (.ptr p 0) (.sl false (a.map dE)) (.int .i64 a.length) (Ai.adv s c):=fun want c hwant=>by
   rw [<- hwant] at hr;unfold BT;have hneq:∀ u v:Int,bn .neq 3 (.int .i64 u) (.int .i64 v)=some (.bool (u != v)):=fun u v=>bin_neq
   cases d1:(want != -2) with
   | false =>rw [d1] at hr;simp only [hneq,d1,xR,w1,wx,wy,Z0,Z1,reduceCtorEq];exact ih (j+1) n.so _ (by omega) e.adv hp (by simpa using hr)
   | true =>
    rw [d1] at hr
    cases d2:(want != n.so) with
    | true =>rw [d2] at hr;simp only [m031,cond_true] at hr;rw [hr] at hQ;simp only [hneq,d1,d2,wx,wy,Z0,Z1,reduceCtorEq];exact hQ _ e.adv
    | false =>rw [d2] at hr;simp only [hneq,d1,d2,xR,w1,wx,wy,Z0,Z1,reduceCtorEq];exact ih (j+1) n.so _ (by omega) e.adv hp (by simpa using hr)
  simp only [h1,j1,j2,j31,o1,eq3,wx,wy,Z0,Z1,reduceCtorEq]
  cases ho:(x.sort j==-1) with
  | true =>simp only [wx,wy,Z0,Z1,reduceCtorEq];exact hgo _ _ (by rw [ho,cond_true])
  | false =>simp only [wx,wy,Z0,Z1,reduceCtorEq];exact hgo _ _ (by rw [ho,cond_false])
theorem aOn (fr:aI s) (hB:jJ s i B F) (hw:Wf B) (x:wE) (a:List Int) (ha:∀ q∈a,eZ B q) (hl:a.length<=2 ^ 30):LF 134 [.ptr i 0,x.av,.sl false (a.map dE)] s (.int .i64 (dL B x 0 0 a)):=by refine aQz _ _ _ _ ?_;unfold f134;refine ⟨rfl,?_⟩;simp only [zU,wx,wy,Z0,Z1,reduceCtorEq];have e0:∀ k,0 < k->EF [] s (Ai.adv (s.set s.nx (some (.cells x.av.cells 192 true true))) k):=fun k hk=>⟨by simp only [adv_nx,set_nx];omega,fun y hy _=>by rw [adv_h,aB (by omega)],cA fr k (by omega)⟩;exact ⟨_,bQw hw x a ha hl s fr hB s.nx _ _ (fun s' e=>⟨rfl,e⟩) a.length 0 0 _ (by omega) (e0 _ (by omega)) (by rw [adv_h,aF]) rfl⟩
theorem BZ {f h:FuncId} {a cap args:List AV} (hp:mEv.pm f h=false) (hk:aL mEv h (a++args++cap) s K):sZ mEv f (.fn h a cap) args s K:=by show DL mEv f h (a++args++cap) s K;unfold DL;rw [hp];exact hk
theorem DG {f h:FuncId} {a cap args:List AV} (hp:mEv.pm f h=true) (hk:aO mEv h (a++args++cap) s K):sZ mEv f (.fn h a cap) args s K:=by show DL mEv f h (a++args++cap) s K;unfold DL;rw [hp];exact hk
theorem bSf (fr:aI s) (hB:jJ s i B F) {p:Nat} (hp:s.h p=some (.cells [.ptr i 0] 51 true true)) (q:Int):LF 132 [.int .i64 q,.ptr p 0] s (.bool (AK B q)):=by
 refine aKf _ _ _ ?_;unfold f132;have hl:∀ a b:Int,bn .lss 3 (.int .i64 a) (.int .i64 b)=some (.bool (decide (a < b))):=fun a b=>bin_lss;have hg:∀ a b:Int,bn .geq 3 (.int .i64 a) (.int .i64 b)=some (.bool (decide (a >= b))):=fun a b=>bin_geq;unfold AK
 cases h:decide (q < 0) with
 | true =>simp only [hl,h,wx,wy,Z0,Z1,reduceCtorEq];exact (EF.refl _ fr).adv
 | false =>simp only [hl,h,hp,wx,wy,Z0,Z1,reduceCtorEq];refine bAf hB.adv ?_;simp only [hg,wx,wy,Z0,Z1,reduceCtorEq];exact (EF.refl _ fr).adv
theorem bSn (a:List Int) (hl:a.length<=2 ^ 30) (s0:St) (fr0:aI s0) (hB:jJ s0 i B F) {p:Nat} (hp:s0.h p=some (.cells [.ptr i 0] 51 true true)) (Q:aG) (r:Bool) (hQ:∀ k s',EF [] s0 s'->decide (k >= 0)=r->Q (.int .i64 k) s') :
  ∀ (m j:Nat) (s:St),j+m=a.length->EF [] s0 s->r=(a.drop j).any (AK B)->qK Q (m+1) (.sl false (a.map dE)) (.fn 132 [] [.ptr p 0]) (.int .i64 a.length) (.int .i64 j) s:=by
 intro m
 induction m with
 | zero =>
  intro j s hj e hr;show vX Q (qK Q 0) _ _ _ _ s;have c1:decide ((j:Int) < (a.length:Int))=false:=by simp;omega
  rw [m037 (by omega)] at hr;simp only [vX,c1,FO,wx,wy,Z0,Z1,reduceCtorEq];exact hQ _ _ e.adv (by rw [hr];rfl)
 | succ m ih =>
  intro j s hj e hr;show vX Q (qK Q (m+1)) _ _ _ _ s;have c1:decide ((j:Int) < (a.length:Int))=true:=by simp;omega
  obtain ⟨q,hq⟩:∃ q,a[j]?=some q:=⟨_,m004 (by omega)⟩;rw [cE a j q hq,List.any_cons] at hr;have hix:=cJ iY false hq .i64;have w1:=jG (i:=j) (n:=a.length) (by omega) (by omega);have hpp:=fr0.lt hp;simp only [vX,c1,hix,in0,wx,wy,Z0,Z1,reduceCtorEq];refine BZ (by kernel_rfl) ?_;refine (bSf (i:=i) (B:=B) e.adv.fr (jK hB fr0 e.adv) (p:=p) (by rw [e.adv.h p hpp (by simp)];exact hp) q).call bNz fun s1 e1=>?_;have e2:=e.adv.nil_trans e1
  cases hb:AK B q with
  | true =>rw [hb,m033] at hr;simp only [wx,wy,Z0,Z1,reduceCtorEq];exact hQ _ _ e2.adv (by rw [hr];simp)
  | false =>rw [hb,m026] at hr;simp only [TC,w1,wx,wy,Z0,Z1,reduceCtorEq];exact ih (j+1) _ (by omega) e2.adv hr
theorem bQk (fr:aI s) (hB:jJ s i B F) {p:Nat} (hp:s.h p=some (.cells [.ptr i 0] 51 true true)) (a:List Int) (hl:a.length<=2 ^ 30):LF 133 [.sl false (a.map dE),.fn 132 [] [.ptr p 0]] s (.bool (a.any (AK B))):=by
 refine aJw _ _ _ ?_;unfold f133;have h186:∃ k s',WideC mEv 186 [.sl false (a.map dE),.fn 132 [] [.ptr p 0]] (Ai.adv s 6) k s'/\∃ n:Int,k=.int .i64 n/\EF [] s s'/\decide (n >= 0)=a.any (AK B):=by refine aIv _ _ _ ?_;unfold f186;simp only [zU,wx,wy,Z0,Z1,reduceCtorEq];exact ⟨_,bSn a hl (Ai.adv s 6) fr.adv hB.adv hp _ _ (fun k s' e hk=>⟨k,rfl,(EF.refl [] fr).adv.nil_trans e,hk⟩) a.length 0 _ (by omega) ⟨by simp only [adv_nx];omega,fun _ _ _=>rfl,fr.adv⟩ rfl⟩
 obtain ⟨k,s',h1,n,rfl,h2,h3⟩:=h186;refine bQ bHz ⟨_,s',h1,?_⟩;have hg:∀ a b:Int,bn .geq 3 (.int .i64 a) (.int .i64 b)=some (.bool (decide (a >= b))):=fun a b=>bin_geq;simp only [hg,h3,wx,wy,Z0,Z1,reduceCtorEq];exact h2
def MG:List AV:=(gK.map wE.av).flatMap AV.cells
theorem gl1:gl 1=.pel MG 0:=by kernel_rfl
theorem bDv {op:Int} (h0:0<=op) {x:wE} (hx:gK[op.toNat]?=some x):ixA 31 6 (gl 1) (.int .i64 op)=some (.pel MG (op.toNat * 6))/\MG[op.toNat * 6]?=some (.int .i64 x.parts)/\Ai.part 6 true (op.toNat * 6) MG=some x.av:=by
 have hv:(gK.map wE.av)[op.toNat]?=some x.av:=by rw [m047,hx];rfl
 have hlt:=(m012.1 hx).1;have h31:gK.length=31:=rfl;have hlen:∀ v∈gK.map wE.av,v.cells.length=6:=fun v hv=>by obtain ⟨y,_,rfl⟩:=m021.1 hv;rfl
 obtain ⟨d1,d2⟩:=sS hlen hv;refine ⟨?_,?_,?_⟩
 ·rw [gl1];have:op < 31:=by omega
  simp [ixA,pW,xI,aC,h0,this]
 ·have:=fD hlen hv (k:=0) (by decide);rw [Nat.add_zero] at this;exact this
 ·unfold MG;rw [DQ,if_pos d2];show some (AV.agg ((((gK.map wE.av).flatMap AV.cells).drop (op.toNat * 6)).take 6))=_;rw [d1];rfl
end
end
noncomputable section
section
variable {s:St} {i:Nat} {B:Bk} {F:List Nat} {K:aG}
theorem aSx {op:Int} (h0:0<=op):(op < 31↔∃ x,gK[op.toNat]?=some x):=by
 have h31:gK.length=31:=rfl;constructor
 ·intro h;exact ⟨_,m004 (by omega)⟩
 ·rintro ⟨x,hx⟩;have:=(m012.1 hx).1;omega
theorem bDs (hok:∀ n∈B,n.ok) (q:Int):i64 (jO B q):=by
 unfold jO
 cases h:mA B q with
 | none=>exact ⟨by decide,by decide⟩
 | some n=>exact (hok n (pZ h)).so
theorem aQl (hok:∀ n∈B,n.ok) {x:wE} (hx:i64 x.own):∀ (a:List Int) (j:Nat) (last:Int),i64 last->i64 (dL B x j last a):=by
 intro a
 induction a with
 | nil =>
  intro j last h;simp only [dL];cases (x.own==-1)
  ·exact hx
  ·exact h
 | cons q a ih =>
  intro j last h;simp only [dL];generalize (bif x.sort j==-1 then last else x.sort j)=w;cases (w != -2&&w != jO B q)
  ·exact ih _ _ (bDs hok q)
  ·exact (⟨by decide,by decide⟩:i64 0)
theorem aTl (x:wE) (h:x∈gK):i64 x.own:=by
 have:(gK.all fun x=>decide (-9223372036854775808<=x.own)&&decide (x.own<=9223372036854775807))=true:=by decide
 have:=m032.1 this x h;simp only [cR,decide_eq_true_eq] at this;exact this
theorem bGz (fr:aI s) (hB:jJ s i B F) (hw:Wf B) (op:Int) (a:List Int) (hop:i64 op) (hl:a.length<=2 ^ 30) (ha:∀ q∈a,i64 q):GR 81 [.ptr i 0,.int .i64 op,.sl false (a.map dE)] s i F (jN B op a):=by
 refine aVn _ _ _ _ ?_;unfold f81;refine ⟨rfl,?_⟩;have hs:∀ u v:Int,bn .lss 3 (.int .i64 u) (.int .i64 v)=some (.bool (decide (u < v))):=fun _ _=>bin_lss;have hg:∀ u v:Int,bn .geq 3 (.int .i64 u) (.int .i64 v)=some (.bool (decide (u >= v))):=fun _ _=>bin_geq;have hgt:∀ u v:Int,bn .gtr 3 (.int .i64 u) (.int .i64 v)=some (.bool (decide (u > v))):=fun _ _=>bin_gtr;have hcell:(AV.ptr i 0).cells=[.ptr i 0]:=rfl;have hi:=hB.lt fr i hB.mem;have e0:∀ (k:Nat),0 < k->EF [] s (Ai.adv (s.set s.nx (some (.cells [.ptr i 0] 51 true true))) k):=fun k hk=>⟨by simp only [adv_nx,set_nx];omega,fun y hy _=>by rw [adv_h,aB (by omega)],cA fr k (by omega)⟩;have hnil:∀ (k:Nat) (e:Int),0 < k->(AV.tup [.int .i64 0,.int .i64 e]=mE (((0,e),B):(Int×Int)×Bk).1/\yZ s i F (((0,e),B):(Int×Int)×Bk).2 (Ai.adv (s.set s.nx (some (.cells [.ptr i 0] 51 true true))) k)):=fun k e hk=>⟨rfl,yZ.same hB fr (e0 k hk)⟩;unfold jN
 cases h1:decide (op < 0) with
 | true =>simp only [hcell,hs,h1,wx,wy,Z0,Z1,reduceCtorEq];exact hnil _ _ (by omega)
 | false =>
 have o1:=of_decide_eq_false h1
 cases h2:gK[op.toNat]? with
 | none =>
  have h31:decide (op >= 31)=true:=decide_eq_true (by
   have:=aSx (op:=op) (by omega);by_cases hc:op < 31
   ·obtain ⟨x,hx⟩:=this.1 hc;rw [h2] at hx;cases hx
   ·omega)
  simp only [hcell,hs,hg,h1,h31,wx,wy,Z0,Z1,reduceCtorEq];exact hnil _ _ (by omega)
 | some x =>
 have h31:decide (op >= 31)=false:=decide_eq_false (by have:=(aSx (op:=op) (by omega)).2 ⟨x,h2⟩;omega);obtain ⟨a1,a2,a3⟩:=bDv (op:=op) (by omega) h2
 cases h3:(x.parts==0) with
 | true =>simp only [hcell,hs,hg,h1,h31,a1,a2,eq3,h3,wx,wy,Z0,Z1,reduceCtorEq];exact hnil _ _ (by omega)
 | false =>
 have hst:∀ (q:St) (k c:Nat),dU 6 (.ptr k 0) x.av (Ai.adv (q.set k (some (.cells (AV.agg [.int .i64 0,.bool false,.int .i64 0,.int .i64 0,.int .i64 0,.int .i64 0]).cells 192 true true))) c)=some (Ai.adv (q.set k (some (.cells x.av.cells 192 true true))) c):=fun q k c=>by rw [bJ (z:=6) (by rw [adv_h,aF]) rfl rfl rfl,adv_set,set_set]
 have hp6:Ai.part 6 true 0 x.av.cells=some x.av:=rfl;have q0:x.av.cells[0]?=some (.int .i64 x.parts):=rfl;have q1:x.av.cells[1]?=some (.bool x.more):=rfl;obtain ⟨p,hp⟩:∃ p,p=s.nx:=⟨_,rfl⟩
 have e1:∀ (k d:Nat),0 < d->d < k->EF [] s (Ai.adv ((s.set s.nx (some (.cells [.ptr i 0] 51 true true))).set (s.nx+d) (some (.cells x.av.cells 192 true true))) k):=fun k d hd hk =>
  ⟨by simp only [adv_nx,set_nx];omega,fun y hy _=>by rw [adv_h,aB (by omega),aB (by omega)],fun y hy=>by
   have hy:s.nx+k<=y:=hy
   rw [adv_h,aB (by omega),aB (by omega)];exact fr y (by omega)⟩
 have hnil1:∀ (k d:Nat) (e:Int),0 < d->d < k->(AV.tup [.int .i64 0,.int .i64 e]=mE (((0,e),B):(Int×Int)×Bk).1/\yZ s i F (((0,e),B):(Int×Int)×Bk).2 (Ai.adv ((s.set s.nx (some (.cells [.ptr i 0] 51 true true))).set (s.nx+d) (some (.cells x.av.cells 192 true true))) k)):=fun k d e hd hk=>⟨rfl,yZ.same hB fr (e1 k d hd hk)⟩;simp only [hcell,hs,hg,h1,h31,a1,a2,a3,eq3,h3,bHn,hst,zU,q0,wx,wy,Z0,Z1,reduceCtorEq];have hx64:i64 x.own:=aTl x (m017 h2);have hok:∀ n∈B,n.ok:=by obtain ⟨_,_,_,⟨_,_,_,_,_,h,_⟩,_⟩:=hB;exact h
 cases h4:decide ((a.length:Int) < x.parts) with
 | true =>simp only [h4,m033,wx,wy,Z0,Z1,reduceCtorEq];exact hnil1 _ _ _ (by omega) (by omega)
 | false =>
 by_cases h56:(decide ((a.length:Int) > x.parts)&&!x.more)=true
 ·simp only [cR,Bool.not_eq_true'] at h56;obtain ⟨h5,h6⟩:=h56;rw [h6] at q1;simp only [h4,h5,h6,q0,q1,hgt,zU,m027,jH,m033,m026,wx,wy,Z0,Z1,reduceCtorEq];exact hnil1 _ _ _ (by omega) (by omega)
 ·have hc:decide ((a.length:Int) > x.parts)=false\/(decide ((a.length:Int) > x.parts)=true/\x.more=true):=by
   cases h5:decide ((a.length:Int) > x.parts) with
   | false=>exact .inl rfl
   | true =>
    rw [h5] at h56
    cases h6:x.more with
    | false=>rw [h6] at h56;simp at h56
    | true=>exact .inr ⟨rfl,rfl⟩
  have h56:(decide ((a.length:Int) > x.parts)&&!x.more)=false:=by simpa using h56
  rcases hc with h5 | ⟨h5,h6⟩
  all_goals
   first
    | (rw [h6] at q1;simp only [h4,h5,h6,q0,q1,hgt,zU,m025,m071,m026,wx,wy,Z0,Z1,reduceCtorEq])
    | simp only [h4,h5,h56,q0,q1,hgt,zU,m026,wx,wy,Z0,Z1,reduceCtorEq]
   cases h7:decide ((a.length:Int) > 200) with
   | true =>simp only [m033,wx,wy,Z0,Z1,reduceCtorEq];exact hnil1 _ _ _ (by omega) (by omega)
   | false =>
    simp only [m026,wx,wy,Z0,Z1,reduceCtorEq];refine (bQk (i:=i) (B:=B) (e1 _ _ (by omega) (by omega)).fr (jK hB fr (e1 _ _ (by omega) (by omega))) (p:=s.nx) (by rw [adv_h,aB (by omega),aF]) a hl).call bIk fun s1 k1=>?_;have k2:=(e1 _ _ (by omega) (by omega)).nil_trans k1;have b1:s1.h s.nx=some (.cells [.ptr i 0] 51 true true):=by rw [k1.h s.nx (by simp only [adv_nx,set_nx];omega) (by simp),adv_h,aB (by omega),aF]
    have b2:s1.h (s.nx+19)=some (.cells x.av.cells 192 true true):=by rw [k1.h (s.nx+19) (by simp only [adv_nx,set_nx];omega) (by simp),adv_h,aF]
    have n1:s.nx+20<=s1.nx:=by have:=k1.nx;simp only [adv_nx,set_nx] at this;omega
    cases h8:a.any (AK B) with
    | true =>simp only [wx,wy,Z0,Z1,reduceCtorEq];exact ⟨rfl,yZ.same hB fr k2.adv⟩
    | false =>
     have hin:=KJ.1 h8;simp only [b1,b2,hp6,wx,wy,Z0,Z1,reduceCtorEq];refine (aOn (i:=i) (B:=B) k2.adv.fr (jK hB fr k2.adv) hw x a hin hl).call bIh fun s2 k3=>?_;have k4:=k2.adv.nil_trans k3;have n2:=k3.nx;simp only [adv_nx] at n2;have c1:s2.h s.nx=some (.cells [.ptr i 0] 51 true true):=by rw [k3.h s.nx (by simp only [adv_nx];omega) (by simp)];exact b1
     cases h9:(dL B x 0 0 a==0) with
     | true =>simp only [eq3,h9,wx,wy,Z0,Z1,reduceCtorEq];exact ⟨rfl,yZ.same hB fr k4.adv⟩
     | false =>
      have ho:Nd.ok ⟨op,dL B x 0 0 a,a,[],false,[],[]⟩:=VV hop (aQl hok hx64 a 0 0 (eW (by decide) (by decide))) ha (by have:=of_decide_eq_false h7;omega) (by simp) (fun _ h=>by cases h) (by simp) (fun _ h=>by cases h) (by simp);have hb:lK 101 [(0,.int .i64 op),(1,.int .i64 (dL B x 0 0 a)),(2,.sl false (a.map dE))]=some (GE ⟨op,dL B x 0 0 a,a,[],false,[],[]⟩ (.sl false (a.map dE)) .nils .nils):=by rw [QK];rfl
      cases h10:(op==17) with
      | false =>simp only [eq3,h9,h10,m035,UZ,c1,hb,wx,wy,Z0,Z1,reduceCtorEq];refine (CJ k4.adv.fr (jK hB fr k4.adv) ho (tY _ (.inl rfl) gA gA)).call FS fun s' hs'=>?_;simp only [zV,zO,wx,wy,Z0,Z1,reduceCtorEq];exact ⟨rfl,hs'.from k4.adv⟩
      | true =>
       simp only [eq3,h9,h10,c1,m031,wx,wy,Z0,Z1,reduceCtorEq];refine (aNo (i:=i) (B:=B) k4.adv.fr (jK hB fr k4.adv) hw a hin hl).call bMo fun s3 k5=>?_;have k6:=k4.adv.nil_trans k5;have d1:s3.h s.nx=some (.cells [.ptr i 0] 51 true true):=by rw [k5.h s.nx (by simp only [adv_nx];omega) (by simp)];exact c1
       cases h11:decide (gD B a<=1) with
       | false =>simp only [h10,m027,wx,wy,Z0,Z1,reduceCtorEq];exact ⟨rfl,yZ.same hB fr k6.adv⟩
       | true =>simp only [h10,m025,UZ,d1,hb,wx,wy,Z0,Z1,reduceCtorEq];refine (CJ k6.adv.fr (jK hB fr k6.adv) ho (tY _ (.inl rfl) gA gA)).call FS fun s' hs'=>?_;simp only [zV,zO,wx,wy,Z0,Z1,reduceCtorEq];exact ⟨rfl,hs'.from k6.adv⟩
end
end
noncomputable section
section
variable {s:St} {i:Nat} {B:Bk} {F:List Nat} {K:aG}
theorem aXa:mEv.fz 53=false:=by kernel_rfl
theorem aXo (fr:aI s) (hB:jJ s i B F) {id:Int} {n:Nd} (hid:eZ B id) (hn:mA B id=some n):LF 53 [.ptr i 0,.int .i64 id] s (.tup [n.av,.bool true]):=by
 have hF:=hB.lt fr;have hi:=hF i hB.mem;refine aYd _ _ _ ?_;unfold f53;have hs:∀ u v:Int,bn .lss 3 (.int .i64 u) (.int .i64 v)=some (.bool (decide (u < v))):=fun _ _=>bin_lss;have hg:∀ u v:Int,bn .geq 3 (.int .i64 u) (.int .i64 v)=some (.bool (decide (u >= v))):=fun _ _=>bin_geq;have h1:decide (id < 0)=false:=decide_eq_false (by have:=hid.1;omega);have h2:decide (id >= (B.length:Int))=false:=decide_eq_false (by have:=hid.2;omega);have hz:(AV.agg [.int .i64 0,.int .i64 0,.nils,.str [],.bool false,.nils,.nils]).cells=[.int .i64 0,.int .i64 0,.nils,.str [],.bool false,.nils,.nils]:=rfl;have e0:∀ (C:Option gU) (k:Nat),0 < k->EF [] s (Ai.adv (s.set s.nx C) k):=fun C k hk=>⟨by simp only [adv_nx,set_nx];omega,fun y hy _=>by rw [adv_h,aB (by omega)],cA fr k (by omega)⟩;simp only [FV,hz,hs,h1,wx,wy,Z0,Z1,reduceCtorEq];refine bAf (jK hB fr (e0 _ _ (by omega))) ?_;obtain ⟨xl,m,xn,⟨b1,b2,b3,b4,b5,b6,b7⟩,rfl⟩:=hB;obtain ⟨j,j1,j2,j3,j4⟩:=YQ b4 hn;have hj:=fr.lt j1;have ni:¬ (i=s.nx):=by omega
 have nj:¬ (j=s.nx):=by omega
 simp only [hg,h2,wx,wy,Z0,Z1,reduceCtorEq];refine ⟨rfl,?_⟩;simp only [b1,ni,nj,j1,j2,j4,if_false,wx,wy,Z0,Z1,reduceCtorEq];refine aP (bJe n (b6 n (pZ hn))) (by simp [yV]) ?_;rw [bJ (z:=7) (by rw [adv_h,aF]) rfl rfl rfl];simp only [adv_set,set_set,YP,wx,wy,Z0,Z1,reduceCtorEq];exact e0 _ _ (by omega)
theorem LF.callD {f:FuncId} {args:List AV} {l:List Nat} {v:AV} (h:LF f args (s.only l) v) (hz:mEv.fz f=false) (fr:aI s) (hk:∀ s',EF [] s s'->K v s'):cL mEv f args l s K:=by obtain ⟨r,s',h1,rfl,h2⟩:=h;exact rB hz ⟨_,s',h1,hk _ (lQ h2 fun j hj=>by cases hj)⟩
theorem bQm (fr:aI s) (hB:jJ s i B F) {id:Int} {n:Nd} (hid:eZ B id) (hn:mA B id=some n) {l:List Nat} {f:FuncId} (hl:l=rch s [.fn f [] [],.ptr i 0,.int .i64 id]) (hk:∀ s',EF [] s s'->K (.tup [n.av,.bool true]) s'):cL mEv 53 [.ptr i 0,.int .i64 id] l s K:=by
 have hm:∀ j,j∈l↔j∈F:=fun j=>by rw [hl];exact hB.rch rfl j
 have hB':jJ (s.only l) i B F:=hB.keep fun j hj=>by rw [jZ,if_pos ((hm j).2 hj)]
 exact (aXo (iA fr) hB' hid hn).callD aXa fr hk
theorem GR.callD {f g:FuncId} {args:List AV} {l:List Nat} {r:(Int×Int)×Bk} (hz:mEv.fz f=false) (fr:aI s) (hB:jJ s i B F) (hl:l=rch s (.fn g [] []::args)) (hv:dC (.fn g [] []::args)=[i]) (h:∀ s,aI s->jJ s i B F->GR f args s i F r) (hk:∀ s',yZ s i F r.2 s'->K (mE r.1) s'):cL mEv f args l s K:=by
 have hm:∀ j,j∈l↔j∈F:=fun j=>by rw [hl];exact hB.rch hv j
 have hB':jJ (s.only l) i B F:=hB.keep fun j hj=>by rw [jZ,if_pos ((hm j).2 hj)]
 obtain ⟨v,s',h1,rfl,F',h2,h3,h4⟩:=h (s.only l) (iA fr) hB';have hM:∀ j∈F,j∈l:=fun j hj=>(hm j).2 hj;refine rB hz ⟨_,s',h1,hk _ ⟨F',?_,lQ h3 hM,h4⟩⟩;exact h2.keep fun j hj=>by obtain ⟨b,hb⟩:=h2.have j hj;rw [hb];exact lO h3 hM hb
theorem GR.callDS {f g:FuncId} {args bs:List AV} {l:List Nat} {r:(Int×Int)×Bk} (hz:mEv.fz f=true) (fr:aI s) (hB:jJ s i B F) (hl:l=rch s (.fn g [] []::args)) (hv:dC (.fn g [] []::args)=[i]) (hq:∀ s,iK mEv.P s (mEv.se f) args=some (bs,[])) (h:∀ s,aI s->jJ s i B F->GR f bs s i F r) (hk:∀ s',yZ s i F r.2 s'->K (mE r.1) s'):cL mEv f args l s K:=by
 have hm:∀ j,j∈l↔j∈F:=fun j=>by rw [hl];exact hB.rch hv j
 have hB':jJ (s.only l) i B F:=hB.keep fun j hj=>by rw [jZ,if_pos ((hm j).2 hj)]
 obtain ⟨v,s',h1,rfl,F',h2,h3,h4⟩:=h (s.only l) (iA fr) hB';have hM:∀ j∈F,j∈l:=fun j hj=>(hm j).2 hj;refine NA hz (hq _) ⟨_,s',h1,?_⟩;rw [dF 12 (GA r.1),Bnd_some];refine hk _ ⟨F',?_,lQ h3 hM,h4⟩;exact h2.keep fun j hj=>by obtain ⟨b,hb⟩:=h2.have j hj;rw [hb];exact lO h3 hM hb
theorem st0 (q:List UInt8):(mD q).cells[0]?=some (.str q):=rfl
theorem EO (l:List (List UInt8)):(AV.sl false (l.map mD)).closed=true:=gV _ _ fun _ _=>rfl
theorem aYy (ex:Bool) (l:List (List UInt8)) (id:Nat) (s:St):bt .len #[52] [.sl ex (l.map mD)] id s=some (.int .i64 l.length,s):=by rw [bHg,m002]
theorem eq9 (a b:List UInt8):bn .eql 9 (.str a) (.str b)=some (.bool (a==b)):=bin_seql
theorem bTa (l:List (List UInt8)) (hl:l.length<=2 ^ 30) (q:List UInt8):∃ k:Int,bE mEv 248 [.sl false (l.map mD),.str q] (.int .i64 k)/\decide (k >= 0)=l.any (·==q):=by
 have key:∀ (Q:aG) (r:Bool),(∀ (k:Int) (s:St),decide (k >= 0)=r->Q (.int .i64 k) s)->∀ (m j:Nat) (s:St),j+m=l.length->r=(l.drop j).any (·==q)->qG Q (m+1) (.sl false (l.map mD)) (.str q) (.int .i64 l.length) (.int .i64 j) s:=by
  intro Q r hQ m
  induction m with
  | zero =>
   intro j s hj hr;show wU Q (qG Q 0) _ _ _ _ s;have c1:decide ((j:Int) < (l.length:Int))=false:=by simp;omega
   rw [m037 (by omega)] at hr;simp only [wU,c1,BP,wx,wy,Z0,Z1,reduceCtorEq];exact hQ _ _ (by rw [hr];rfl)
  | succ m ih =>
   intro j s hj hr;show wU Q (qG Q (m+1)) _ _ _ _ s;have c1:decide ((j:Int) < (l.length:Int))=true:=by simp;omega
   obtain ⟨y,hy⟩:∃ y,l[j]?=some y:=⟨_,m004 (by omega)⟩;rw [cE l j y hy,List.any_cons] at hr;have hix:=cJ tC false hy .i64;have w1:=jG (i:=j) (n:=l.length) (by omega) (by omega);simp only [wU,c1,hix,st0,eq9,wx,wy,Z0,Z1,reduceCtorEq]
   have hsym:(y==q)=(q==y):=by
    cases h:(q==y) with
    | true=>have:q=y:=by simpa using h
            subst this;simp
    | false =>
     cases h2:(y==q) with
     | false=>rfl
     | true=>have:y=q:=by simpa using h2
             subst this;simp at h
   rw [hsym] at hr
   cases h:(q==y) with
   | true =>rw [h,m033] at hr;simp only [wx,wy,Z0,Z1,reduceCtorEq];exact hQ _ _ (by rw [hr];simp)
   | false =>rw [h,m026] at hr;simp only [TG,w1,wx,wy,Z0,Z1,reduceCtorEq];exact ih (j+1) _ (by omega) hr
 have h:=aMk (.sl false (l.map mD)) (.str q) St.empty (Q:=fun v _=>∃ k:Int,v=.int .i64 k/\decide (k >= 0)=l.any (·==q)) (by
  unfold f248;simp only [aYy,wx,wy,Z0,Z1,reduceCtorEq]
  exact ⟨_,key _ _ (fun k s hk=>⟨k,rfl,hk⟩) l.length 0 _ (by omega) rfl⟩)
 obtain ⟨v,s',h1,k,rfl,h2⟩:=h;exact ⟨k,dA ⟨_,s',h1,aX rfl⟩,h2⟩
theorem bRq (l:List (List UInt8)) (hl:l.length<=2 ^ 30) (q:List UInt8):bE mEv 221 [.sl false (l.map mD),.str q] (.bool (l.any (·==q))):=by obtain ⟨k,h1,h2⟩:=bTa l hl q;refine dA (aLj _ _ _ ?_);unfold f221;refine aP h1 (by intro x hx;simp only [m013,m052,or_false] at hx;rcases hx with rfl | rfl;exact EO l;rfl) ?_;have hg:∀ u v:Int,bn .geq 3 (.int .i64 u) (.int .i64 v)=some (.bool (decide (u >= v))):=fun _ _=>bin_geq;simp only [hg,h2,wx,wy,Z0,Z1,reduceCtorEq];exact aX rfl
theorem bMs (l:List (List UInt8)) (hl:l.length<=2 ^ 30):bE mEv 192 [.sl false (l.map mD)] (.bool (dbl l)):=by
 have key:∀ (Q:aG) (r:Bool),(∀ s,Q (.bool r) s)->∀ (m j:Nat) (s:St),j+m=l.length->r=((List.range l.length).drop j).any (fun i=>(l.take i).any fun y=>some y==l[i]?)->qU Q (m+1) (.sl false (l.map mD)) (.sl false (l.map mD)) (.int .i64 l.length) (.int .i64 j) s:=by
  intro Q r hQ m
  induction m with
  | zero =>
   intro j s hj hr;show wJ Q (qU Q 0) _ _ _ _ s;have c1:decide ((j:Int) < (l.length:Int))=false:=by simp;omega
   rw [m037 (by rw [List.length_range];omega)] at hr;have hr:r=false:=hr;subst hr;simp only [wJ,c1,EB,wx,wy,Z0,Z1,reduceCtorEq];exact hQ _
  | succ m ih =>
   intro j s hj hr;show wJ Q (qU Q (m+1)) _ _ _ _ s;have c1:decide ((j:Int) < (l.length:Int))=true:=by simp;omega
   obtain ⟨y,hy⟩:∃ y,l[j]?=some y:=⟨_,m004 (by omega)⟩;have hrg:(List.range l.length)[j]?=some j:=List.getElem?_range (by omega);rw [cE _ j j hrg,List.any_cons,hy] at hr;have hix:=cJ tC false hy .i64;have w1:=jG (i:=j) (n:=l.length) (by omega) (by omega);have hsl:∀ s,mF 52 (.sl false (l.map mD)) none (some (.int .i64 (j:Int))) none s=some (.sl false ((l.take j).map mD)):=fun s=>by rw [MQ FN tC.len false l (by omega) .i64,m035]
   simp only [wJ,c1,hix,st0,hsl,wx,wy,Z0,Z1,reduceCtorEq];refine aP (bRq (l.take j) (by simp only [m020];omega) y) (by intro x hx;simp only [m013,m052,or_false] at hx;rcases hx with rfl | rfl;exact EO _;rfl) ?_;have he:(l.take j).any (fun x=>some x==some y)=(l.take j).any (·==y):=rfl;rw [he] at hr
   cases h:(l.take j).any (·==y) with
   | true =>rw [h,m033] at hr;subst hr;simp only [wx,wy,Z0,Z1,reduceCtorEq];exact hQ _
   | false =>rw [h,m026] at hr;simp only [TN,w1,wx,wy,Z0,Z1,reduceCtorEq];exact ih (j+1) _ (by omega) hr
 refine dA (aQb _ _ ?_);unfold f192;simp only [aYy,wx,wy,Z0,Z1,reduceCtorEq];exact ⟨_,key _ _ (fun s=>aX rfl) l.length 0 _ (by omega) rfl⟩
theorem YR {e:TypeId} {z:Nat} {x:AV} {vs:List AV} (g:Gw e z 0 s x vs) {k:Nat} {v:AV} (hv:vs[k]?=some v):∃ j,s.h j=some (.cells (vs.flatMap AV.cells) e false true)/\cQ z x (.int .i64 (k:Int))=some (.ptr j (k * z))/\∀ o,o < z->(vs.flatMap AV.cells)[k * z+o]?=v.cells[o]?:=by
 have hlt:=(m012.1 hv).1;obtain ⟨g1,⟨rfl,g2⟩ | ⟨j,_,rfl,g3⟩⟩:=g
 ·rw [g2] at hlt;simp at hlt
 ·have hlen:∀ v∈vs,v.cells.length=z:=fun v hv=>(g1 v hv).1;have hix:=oZ (e:=e) (z:=z) (id:=j) (off:=0) (c:=none) hlt .i64;rw [m023] at hix;exact ⟨j,g3,hix,fun o ho=>fD hlen hv ho⟩
theorem aYq:mEv.fz 193=false:=by kernel_rfl
theorem bJw:mEv.fz 222=false:=by kernel_rfl
theorem bNv (fr:aI s) {x:AV} {l:List (List UInt8)} (hx:Gw 9 1 0 s x (l.map mD)) (hl:l.length<=2 ^ 30):LF 193 [x,.fn 24 [] []] s (.bool (l.any aU)):=by
 refine aPj _ _ _ ?_;unfold f193
 have key:∀ (Q:aG) (r:Bool) (s0:St),aI s0->Gw 9 1 0 s0 x (l.map mD)->(∀ (k:Int) (s':St),EF [] s0 s'->decide (k >= 0)=r->Q (.int .i64 k) s')->∀ (m j:Nat) (s:St),j+m=l.length->EF [] s0 s->r=(l.drop j).any aU->rR Q (m+1) x (.fn 24 [] []) (.int .i64 l.length) (.int .i64 j) s:=by
  intro Q r s0 fr0 hx0 hQ m
  induction m with
  | zero =>
   intro j s hj e hr;show uY Q (rR Q 0) _ _ _ _ s;have c1:decide ((j:Int) < (l.length:Int))=false:=by simp;omega
   rw [m037 (by omega)] at hr;simp only [uY,c1,CF,wx,wy,Z0,Z1,reduceCtorEq];exact hQ _ _ e.adv (by rw [hr];rfl)
  | succ m ih =>
   intro j s hj e hr;show uY Q (rR Q (m+1)) _ _ _ _ s;have c1:decide ((j:Int) < (l.length:Int))=true:=by simp;omega
   obtain ⟨y,hy⟩:∃ y,l[j]?=some y:=⟨_,m004 (by omega)⟩;rw [cE l j y hy,List.any_cons] at hr;have hv:(l.map mD)[j]?=some (mD y):=by rw [m047,hy];rfl
   have w1:=jG (i:=j) (n:=l.length) (by omega) (by omega);obtain ⟨k,k1,k2,k3⟩:=YR (hx0.ext fr0 e fun _ _ h=>by cases h) hv;have k4:((l.map mD).flatMap AV.cells)[j]?=some (.str y):=by have:=k3 0 (by decide);rw [Nat.add_zero,pS] at this;exact this
   rw [pS] at k2;simp only [uY,c1,k2,k1,k4,wx,wy,Z0,Z1,reduceCtorEq];refine DG (by kernel_rfl) ?_;refine aP (c24 y) (by simp [AV.closed]) ?_;have hrs:aU y=((uT RM y).isSome||(GD y != 0)||dM [115,116,114,46] y||dM [114,101,46] y):=rfl;rw [<- hrs]
   cases h:aU y with
   | true =>rw [h,m033] at hr;simp only [wx,wy,Z0,Z1,reduceCtorEq];exact hQ _ _ e.adv (by rw [hr];simp)
   | false =>rw [h,m026] at hr;simp only [UX,w1,wx,wy,Z0,Z1,reduceCtorEq];exact ih (j+1) _ (by omega) e.adv hr
 have h222:∃ k s',WideC mEv 222 [x,.fn 24 [] []] (Ai.adv s 6) k s'/\∃ n:Int,k=.int .i64 n/\EF [] s s'/\decide (n >= 0)=l.any aU:=by refine aPg _ _ _ ?_;unfold f222;have hln:∀ id,bt .len #[52] [x] id (Ai.adv s 10)=some (.int .i64 l.length,Ai.adv s 10):=fun id=>uH hx.adv id;simp only [hln,wx,wy,Z0,Z1,reduceCtorEq];exact ⟨_,key _ _ (Ai.adv s 6) fr.adv hx.adv (fun k s' e hk=>⟨k,rfl,(EF.refl [] fr).adv.nil_trans e,hk⟩) l.length 0 _ (by omega) ⟨by simp only [adv_nx];omega,fun _ _ _=>rfl,fr.adv⟩ rfl⟩
 obtain ⟨k,s',h1,n,rfl,h2,h3⟩:=h222;refine bQ bJw ⟨_,s',h1,?_⟩;have hg:∀ a b:Int,bn .geq 3 (.int .i64 a) (.int .i64 b)=some (.bool (decide (a >= b))):=fun a b=>bin_geq;simp only [hg,h3,wx,wy,Z0,Z1,reduceCtorEq];exact h2
end
end
noncomputable section
def nW (v:AV×AV):AV:=.agg [v.1,v.2]
section
variable {s s':St} {p ib:Nat} {x:AV} {vs:List (AV×AV)} {K:aG}
def JU (s:St) (x:AV) (vs:List (AV×AV)):Prop :=
 (x=.nils/\vs=[])\/(x=.sl true (vs.map nW))\/∃ id c,x=.ref id 0 vs.length none 254/\s.h id=some (.cells c 254 false true)/\c.take (vs.length * 2)=(vs.map nW).flatMap AV.cells/\vs.length * 2<=c.length/\∃ k,c.length=k * 2
def ScR (s:St) (v:AV×AV) (sc:Ev):Prop:=Gw 9 1 0 s v.1 ((sc.map (·.1)).map mD)/\(Em v.2 ((sc.map (·.2)).map dE)\/Gw 3 1 0 s v.2 ((sc.map (·.2)).map dE))/\sc.length<=2 ^ 20
def kA (s:St):List (AV×AV)->List Ev->Prop
 | [],[]=>True
 | v::vs,sc::scs=>ScR s v sc/\kA s vs scs
 | _,_=>False
theorem jU (ex:Bool) (l:List AV):aE (.sl ex l)=[]:=rfl
def bG (x:AV) (vs:List (AV×AV)):List Nat:=aE x++vs.flatMap fun v=>aE v.1++aE v.2
theorem ScR.keep {v:AV×AV} {sc:Ev} (h:ScR s v sc) (hk:∀ j∈aE v.1++aE v.2,s'.h j=s.h j):ScR s' v sc:=⟨h.1.keep fun j hj=>hk j (m041 _ hj),h.2.1.imp_right fun g=>g.keep fun j hj=>hk j (m049 _ hj),h.2.2⟩
theorem kA.keep:∀ {vs:List (AV×AV)} {scs:List Ev},kA s vs scs->(∀ j∈vs.flatMap (fun v=>aE v.1++aE v.2),s'.h j=s.h j)->kA s' vs scs:=by
 intro vs
 induction vs with
 | nil=>intro scs h _;cases scs with
  | nil=>exact h
  | cons a b=>exact h.elim
 | cons v vs ih =>
  intro scs h hk
  cases scs with
  | nil=>exact h.elim
  | cons sc scs=>exact ⟨h.1.keep fun j hj=>hk j (by rw [m024];exact m041 _ hj),ih h.2 fun j hj=>hk j (by simp only [m024,m003];exact .inr hj)⟩
theorem kA.len:∀ {vs:List (AV×AV)} {scs:List Ev},kA s vs scs->vs.length=scs.length:=by
 intro vs
 induction vs with
 | nil=>intro scs h;cases scs with
  | nil=>rfl
  | cons a b=>exact h.elim
 | cons v vs ih =>
  intro scs h
  cases scs with
  | nil=>exact h.elim
  | cons sc scs=>simp only [List.length_cons,ih h.2]
theorem kA.get:∀ {vs:List (AV×AV)} {scs:List Ev},kA s vs scs->∀ {j:Nat} {v:AV×AV} {sc:Ev},vs[j]?=some v->scs[j]?=some sc->ScR s v sc:=by
 intro vs
 induction vs with
 | nil=>intro scs _ j v sc h;simp at h
 | cons w vs ih =>
  intro scs h j v sc hv hs
  cases scs with
  | nil=>exact h.elim
  | cons sc2 scs =>
   cases j with
   | zero=>simp at hv hs;subst hv;subst hs;exact h.1
   | succ j=>simp at hv hs;exact ih h.2 hv hs
theorem kA.has:∀ {vs:List (AV×AV)} {scs:List Ev},kA s vs scs->∀ j∈vs.flatMap (fun v=>aE v.1++aE v.2),∃ b,s.h j=some b:=by
 intro vs
 induction vs with
 | nil=>intro scs _ j h;simp at h
 | cons w vs ih =>
  intro scs h j hj
  cases scs with
  | nil=>exact h.elim
  | cons sc scs =>
   simp only [m024,m003] at hj;rcases hj with hj | hj
   ·rcases hj with hj | hj
    ·exact ⟨_,h.1.1.has j hj⟩
    ·rcases h.1.2.1 with (g | ⟨g,_⟩) | g
     ·rw [g] at hj;cases hj
     ·rw [g] at hj;cases hj
     ·exact ⟨_,g.has j hj⟩
   ·exact ih h.2 j hj
theorem JU.keep (h:JU s x vs) (hk:∀ j∈aE x,s'.h j=s.h j):JU s' x vs:=by
 rcases h with h | h | ⟨id,c,rfl,h1,h2⟩
 ·exact .inl h
 ·exact .inr (.inl h)
 ·exact .inr (.inr ⟨id,c,rfl,by rw [hk id (by simp [aE])];exact h1,h2⟩)
theorem JU.has (h:JU s x vs):∀ j∈aE x,∃ b,s.h j=some b:=by
 rcases h with ⟨rfl,_⟩ | rfl | ⟨id,c,rfl,h1,h2⟩
 ·intro j hj;cases hj
 ·intro j hj;cases hj
 ·intro j hj;simp only [aE,m008] at hj;subst hj;exact ⟨_,h1⟩
theorem MA (vs:List (AV×AV)):((vs.map nW).flatMap AV.cells).length=vs.length * 2:=by
 induction vs with
 | nil=>rfl
 | cons v l ih=>simp only [m039,m024,m006,ih,List.length_cons];show 2+l.length * 2=_;omega
theorem JU.ix (h:JU s x vs) {j:Nat} {v:AV×AV} (hv:vs[j]?=some v):∃ a a0 a1,cQ 2 x (.int .i64 (j:Int))=some a/\aC 0 a=some a0/\aC 1 a=some a1/\(∀ S:St,S.h=s.h->ld 1 false a0 S=some v.1)/\(∀ S:St,S.h=s.h->ld 1 false a1 S=some v.2):=by
 have hlt:=(m012.1 hv).1;have hm:(vs.map nW)[j]?=some (nW v):=by rw [m047,hv];rfl
 rcases h with ⟨_,rfl⟩ | rfl | ⟨id,c,rfl,h1,h2,h3,_⟩
 ·simp at hlt
 ·have hix:cQ 2 (.sl true (vs.map nW)) (.int .i64 (j:Int))=some (.pel (nW v).cells 0):=by
   have hlt2:j < (vs.map nW).length:=by simpa using hlt
   simp only [cQ,pW,Option.bind_some,xI];rw [if_pos (by omega)];simp only [Option.bind_some,Int.toNat_natCast,hm];rfl
  exact ⟨_,_,_,hix,rfl,rfl,fun _ _=>rfl,fun _ _=>rfl⟩
 ·have hix:=oZ (e:=254) (z:=2) (id:=id) (off:=0) (c:=none) hlt .i64;rw [m023] at hix;have hlen:∀ v∈vs.map nW,v.cells.length=2:=fun v hv=>by obtain ⟨w,_,rfl⟩:=m021.1 hv;rfl
  have g0:=fD hlen hm (k:=0) (by decide);have g1:=fD hlen hm (k:=1) (by decide);rw [<- h2,List.getElem?_take_of_lt (by omega)] at g0 g1;exact ⟨_,_,_,hix,rfl,rfl,fun S hS=>by rw [ld_ptr,hS,h1];exact g0,fun S hS=>by rw [ld_ptr,hS,h1];exact g1⟩
theorem JU.len (h:JU s x vs) (id:Nat) (c:Nat):bt .len #[122] [x] id (Ai.adv s c)=some (.int .i64 vs.length,Ai.adv s c):=by
 rcases h with ⟨rfl,rfl⟩ | rfl | ⟨_,_,rfl,_⟩
 ·exact bFv id _
 ·rw [bEx,m002]
 ·exact bGt ..
theorem JN (a b:Ev) (nm:List UInt8):bP (a++b) nm=match bP b nm with
  | some i=>some i
  | none=>bP a nm:=by
 induction a with
 | nil=>simp only [List.nil_append];cases bP b nm<;>rfl
 | cons p a ih =>simp only [List.cons_append,bP,ih];cases bP b nm<;>rfl
def aNe (o:Option Int):AV:=.tup [.int .i64 (o.getD 0),.bool o.isSome]
theorem bIs (nm:List UInt8) (hvs:vs.length<=2 ^ 30) (s0:St) (hp:∃ a b d e ex wr,s0.h p=some (.cells [a,b,x,d] e ex wr)) (hI:JU s0 x vs) {j:Nat} {v:AV×AV} {sc:Ev} (hv:vs[j]?=some v) (hsc:ScR s0 v sc) (Q:aG) (ih1:AV->AV->aG) :
  ∀ (k c:Nat),k<=sc.length->(∀ c',bP (sc.take k) nm=none->ih1 (.ptr p 0) (.str nm) (.int .i64 ((j:Int) - 1)) (Ai.adv s0 c'))->(∀ id c',bP (sc.take k) nm=some id->Q (aNe (some id)) (Ai.adv s0 c')) ->
   qL Q ih1 (k+1) (.ptr p 0) (.str nm) (.int .i64 j) (.int .i64 ((k:Int) - 1)) (Ai.adv s0 c):=by
 obtain ⟨q1,q2,q3,q4,q5,q6,hp⟩:=hp;obtain ⟨a,a0,a1,i1,i2,i3,i4,i5⟩:=hI.ix hv;have hjl:j < vs.length:=(m012.1 hv).1;have hj1:IntKind.i64.wrap ((j:Int) - 1)=(j:Int) - 1:=by rw [IntWalk.i64_in _ (by omega)]
 obtain ⟨g1,g2,g3⟩:=hsc;intro k
 induction k with
 | zero =>
  intro c _ h1 h2;show xD Q ih1 (qL Q ih1 0) _ _ _ _ _;have c1:decide ((((0:Nat):Int) - 1) >= 0)=false:=by decide
  simp only [xD,c1,tT,hj1,wx,wy,Z0,Z1,reduceCtorEq];exact h1 _ (by simp [bP])
 | succ k ih =>
  intro c hk h1 h2;show xD Q ih1 (qL Q ih1 (k+1)) _ _ _ _ _;have c0:(((k+1:Nat):Int) - 1)=(k:Int):=by omega
  have c1:decide ((k:Int) >= 0)=true:=by simp
  have hk1:IntKind.i64.wrap ((k:Int) - 1)=(k:Int) - 1:=by rw [IntWalk.i64_in _ (by omega)]
  obtain ⟨q,hq⟩:∃ q,sc[k]?=some q:=⟨_,m004 (by omega)⟩;have hn:((sc.map (·.1)).map mD)[k]?=some (mD q.1):=by simp [hq]
  have hd:((sc.map (·.2)).map dE)[k]?=some (dE q.2):=by simp [hq]
  obtain ⟨jn,n1,n2,n3⟩:=YR g1 hn;have n3:=n3 0 (by decide);rw [Nat.add_zero,pS,st0] at n3;rw [pS] at n2;have htk:sc.take (k+1)=sc.take k++[q]:=by rw [m062,hq];rfl
  have hb:bP (sc.take (k+1)) nm=bif q.1==nm then some q.2 else bP (sc.take k) nm:=by rw [htk,JN];simp only [bP];cases (q.1==nm)<;>rfl
  rw [c0];simp only [xD,c1,hp,i1,i2,wx,wy,Z0,Z1,reduceCtorEq];refine ⟨rfl,?_⟩;simp only [hp,i1,i2,i4 (Ai.adv s0 (c+15)) rfl,n1,n2,n3,eq9,wx,wy,Z0,Z1,reduceCtorEq]
  cases hqn:(q.1==nm) with
  | false =>rw [hqn,cond_false] at hb;simp only [SF,hk1,wx,wy,Z0,Z1,reduceCtorEq];exact ih _ (by omega) (fun c' h=>h1 c' (by rw [hb];exact h)) (fun id c' h=>h2 id c' (by rw [hb];exact h))
  | true =>
   rw [hqn,cond_true] at hb;simp only [wx,wy,Z0,Z1,reduceCtorEq];refine ⟨rfl,?_⟩;rcases g2 with g2 | g2
   ·have hix:cQ 1 v.2 (.int .i64 (k:Int))=some (.pel (dE q.2).cells 0):=by
     rcases g2 with g2 | ⟨_,g2⟩
     ·rw [g2];have:=cJ iY false (l:=sc.map (·.2)) (i:=k) (a:=q.2) (by simp [hq]) .i64;exact this
     ·rw [g2] at hd;simp at hd
    simp only [hp,i1,i3,i5 (Ai.adv s0 (c+28)) rfl,hix,in0,wx,wy,Z0,Z1,reduceCtorEq];exact h2 q.2 _ hb
   ·obtain ⟨jd,d1,d2,d3⟩:=YR g2 hd;have d3:=d3 0 (by decide);rw [Nat.add_zero,pS,in0] at d3;rw [pS] at d2;simp only [hp,i1,i3,i5 (Ai.adv s0 (c+28)) rfl,d1,d2,d3,wx,wy,Z0,Z1,reduceCtorEq];exact h2 q.2 _ hb
theorem LY (scs:List Ev) (j:Nat) (sc:Ev) (h:scs[j]?=some sc):(scs.take (j+1)).flatten=(scs.take j).flatten++sc:=by rw [m062,h];simp
theorem bNs (nm:List UInt8) (hvs:vs.length<=2 ^ 30) (s0:St) {scs:List Ev} (hp:∃ a b d e ex wr,s0.h p=some (.cells [a,b,x,d] e ex wr)) (hI:JU s0 x vs) (hS:kA s0 vs scs) (Q:aG) (hQ:∀ c,Q (aNe (bP scs.flatten nm)) (Ai.adv s0 c)) :
  ∀ (j c:Nat),j<=vs.length->bP scs.flatten nm=bP (scs.take j).flatten nm->gB Q (j+1) (.ptr p 0) (.str nm) (.int .i64 ((j:Int) - 1)) (Ai.adv s0 c):=by
 intro j
 induction j with
 | zero =>
  intro c _ hb;show vZ Q (gB Q 0) _ _ _ _;have c1:decide ((((0:Nat):Int) - 1) >= 0)=false:=by decide
  have hb:bP scs.flatten nm=none:=by rw [hb];rfl
  rw [hb] at hQ;simp only [vZ,c1,uR,wx,wy,Z0,Z1,reduceCtorEq];exact hQ _
 | succ j ih =>
  intro c hj hb;show vZ Q (gB Q (j+1)) _ _ _ _;have c0:(((j+1:Nat):Int) - 1)=(j:Int):=by omega
  have c1:decide ((j:Int) >= 0)=true:=by simp
  obtain ⟨v,hv⟩:∃ v,vs[j]?=some v:=⟨_,m004 (by omega)⟩;have hlen:=hS.len;obtain ⟨sc,hsc⟩:∃ sc,scs[j]?=some sc:=⟨_,m004 (by omega)⟩;have hR:=hS.get hv hsc;obtain ⟨a,a0,a1,i1,i2,i3,i4,i5⟩:=hI.ix hv;rw [LY scs j sc hsc,JN] at hb
  have hln:∀ id c,bt .len #[52] [v.1] id (Ai.adv s0 c)=some (.int .i64 sc.length,Ai.adv s0 c):=fun id c=>by
   have:=uH (s:=Ai.adv s0 c) hR.1.adv id
   rwa [m002] at this
  have hk1:IntKind.i64.wrap ((sc.length:Int) - 1)=(sc.length:Int) - 1:=by have:=hR.2.2;rw [IntWalk.i64_in _ (by omega)]
  have hp':=hp;obtain ⟨q1,q2,q3,q4,q5,q6,hp⟩:=hp;rw [c0];simp only [vZ,c1,hp,i1,i2,wx,wy,Z0,Z1,reduceCtorEq];refine ⟨rfl,?_⟩;simp only [hp,i1,i2,i4 (Ai.adv s0 (c+13)) rfl,hln,hk1,wx,wy,Z0,Z1,reduceCtorEq];refine ⟨sc.length+1,bIs nm hvs s0 hp' hI hv hR Q (gB Q (j+1)) sc.length _ (bK _) (fun c' h=>?_) (fun id c' h=>?_)⟩
  ·rw [m045] at h;rw [h] at hb;exact ih c' (by omega) hb
  ·rw [m045] at h;rw [h] at hb;have:=hQ c';rw [hb] at this;exact this
theorem bCd:mEv.fz 175=false:=by kernel_rfl
theorem bAo:mEv.fz 174=false:=by kernel_rfl
theorem WF (fr:aI s) (nm:List UInt8) (hvs:vs.length<=2 ^ 30) {scs:List Ev} (hp:∃ a b d e ex wr,s.h p=some (.cells [a,b,x,d] e ex wr)) (hI:JU s x vs) (hS:kA s vs scs):LF 175 [.ptr p 0,.str nm] s (aNe (bP scs.flatten nm)):=by
 refine aIe _ _ _ ?_;unfold f175;have hp':=hp;obtain ⟨q1,q2,q3,q4,q5,q6,hp⟩:=hp;refine ⟨rfl,?_⟩;have hk1:IntKind.i64.wrap ((vs.length:Int) - 1)=(vs.length:Int) - 1:=by rw [IntWalk.i64_in _ (by omega)]
 simp only [hp,hI.len,hk1,wx,wy,Z0,Z1,reduceCtorEq];exact ⟨_,bNs nm hvs s hp' hI hS _ (fun c=>⟨rfl,(EF.refl _ fr).adv⟩) vs.length _ (bK _) (by rw [hS.len,m045])⟩
theorem aDg (a b:List Dc) (nm:List UInt8):bR (a++b) nm=match bR b nm with
  | some i=>some (a.length+i)
  | none=>bR a nm:=by
 induction a with
 | nil =>
  simp only [List.nil_append]
  cases bR b nm with
  | none=>rfl
  | some k=>simp
 | cons d a ih =>
  simp only [List.cons_append,bR,ih]
  cases bR b nm with
  | none=>rfl
  | some k=>simp only [List.length_cons,m000];omega
def aLc (o:Option Nat):Int:=match o with
 | some k=>(k:Int)
 | none=>-1
theorem PG:QP Dc.av 10:=⟨gJ,eL⟩
theorem aIf (fr:aI s) (nm:List UInt8) (L:List Dc) (hL:L.length<=2 ^ 40) (hp:∃ a b d e ex wr,s.h p=some (.cells [a,.sl false (L.map Dc.av),b,d] e ex wr)):LF 174 [.ptr p 0,.str nm] s (.int .i64 (aLc (bR L nm))):=by
 refine aKh _ _ _ ?_;unfold f174;obtain ⟨q1,q2,q3,q4,q5,q6,hp⟩:=hp;refine ⟨rfl,?_⟩;have hk1:IntKind.i64.wrap ((L.length:Int) - 1)=(L.length:Int) - 1:=by rw [IntWalk.i64_in _ (by omega)]
 have hln:∀ id c,bt .len #[49] [.sl false (L.map Dc.av)] id (Ai.adv s c)=some (.int .i64 L.length,Ai.adv s c):=fun id c=>by rw [aMa,m002]
 have key:∀ (Q:aG),(∀ c,Q (.int .i64 (aLc (bR L nm))) (Ai.adv s c))->∀ (j c:Nat),j<=L.length->bR L nm=bR (L.take j) nm->qH Q (j+1) (.ptr p 0) (.str nm) (.int .i64 ((j:Int) - 1)) (Ai.adv s c):=by
  intro Q hQ j
  induction j with
  | zero =>
   intro c _ hb;show vD Q (qH Q 0) _ _ _ _;have c1:decide ((((0:Nat):Int) - 1) >= 0)=false:=by decide
   have hb:bR L nm=none:=by rw [hb];rfl
   rw [hb] at hQ;simp only [vD,c1,EG,wx,wy,Z0,Z1,reduceCtorEq];exact hQ _
  | succ j ih =>
   intro c hj hb;show vD Q (qH Q (j+1)) _ _ _ _;have c0:(((j+1:Nat):Int) - 1)=(j:Int):=by omega
   have c1:decide ((j:Int) >= 0)=true:=by simp
   have hj1:IntKind.i64.wrap ((j:Int) - 1)=(j:Int) - 1:=by rw [IntWalk.i64_in _ (by omega)]
   obtain ⟨d,hd⟩:∃ d,L[j]?=some d:=⟨_,m004 (by omega)⟩;have hix:=cJ PG false hd .i64;rw [m062,hd] at hb
   have hb:bR L nm=bif d.nm==nm then some j else bR (L.take j) nm:=by
    rw [hb,show (some d).toList=[d] from rfl,aDg];simp only [bR]
    cases (d.nm==nm) with
    | true=>simp only [cond_true,m020,Nat.add_zero,rM (show j<=L.length by omega)]
    | false=>rfl
   rw [c0];simp only [vD,c1,hp,hix,dc0,eq9,wx,wy,Z0,Z1,reduceCtorEq];refine ⟨rfl,?_⟩
   cases hn:(d.nm==nm) with
   | true =>rw [hn,cond_true] at hb;rw [hb] at hQ;simp only [wx,wy,Z0,Z1,reduceCtorEq];exact hQ _
   | false =>rw [hn,cond_false] at hb;simp only [RS,hj1,wx,wy,Z0,Z1,reduceCtorEq];exact ih _ (by omega) hb
 simp only [hp,hln,hk1,wx,wy,Z0,Z1,reduceCtorEq];exact ⟨_,key _ (fun c=>⟨rfl,(EF.refl _ fr).adv⟩) L.length _ (bK _) (by rw [m045])⟩
end
end
noncomputable section
mutual
def Sx.fit:Sx->Prop
 | .mk _ k x _ _ items=>i64 k/\x.length<=2 ^ 30/\items.length<=2 ^ 20/\Sx.fits items
def Sx.fits:List Sx->Prop
 | []=>True
 | s::l=>s.fit/\Sx.fits l
end
theorem aSs:∀ {l:List Sx},Sx.fits l->∀ s∈l,s.fit:=by
 intro l
 induction l with
 | nil=>intro _ s h;cases h
 | cons a l ih=>intro h s hs;rcases m013.1 hs with rfl | hs;exact h.1;exact ih h.2 s hs
theorem wW {x:Sx} (h:x.fit):x.its.length<=2 ^ 20/\∀ s∈x.its,s.fit:=by
 cases x with
 | mk l k t p a items=>exact ⟨h.2.2.1,aSs h.2.2.2⟩
theorem aXx {x:Sx} (h:x.fit):x.txt.length<=2 ^ 30:=by
 cases x with
 | mk l k t p a items=>exact h.2.1
structure rN (L:List Dc):Prop where
 len:L.length<=2 ^ 30
 fit:∀ d∈L,d.body.fit
 wt:∀ d∈L,d.body.wt<=2 ^ 29
 ps:∀ d∈L,d.ps.length<=2 ^ 20
def mapM (M:Mm):List (AV×AV):=M.map fun q=>(.str q.1,.int .i64 q.2)
theorem JH (k:List UInt8):∀ M:Mm,find (.str k) (mapM M)=some ((pF k M).map fun v=>.int .i64 v):=by
 intro M
 induction M with
 | nil=>rfl
 | cons q M ih =>
  obtain ⟨a,v⟩:=q;simp only [mapM,m039,find,gR,pF]
  cases h:(k==a) with
  | true=>rfl
  | false=>exact ih
theorem aSn (k:List UInt8) (v:Int):∀ M:Mm,fX (.str k) (.int .i64 v) (mapM M)=mapM (KK k v M):=by
 intro M
 induction M with
 | nil=>rfl
 | cons q M ih =>
  obtain ⟨a,u⟩:=q;by_cases h:k=a
  ·subst h;simp [mapM,fX,gR,KK]
  ·have h1:(k==a)=false:=by simpa using h
   simp only [mapM] at ih;simp [mapM,fX,gR,KK,h1,ih]
section
variable {s s':St} {p ib:Nat} {L:List Dc} {scs:List Ev} {σ:Sg} {F:List Nat} {K:aG}
structure MkC (s:St) (p ib:Nat) (L:List Dc) (scs:List Ev) (σ:Sg) (xin:AV) (vs:List (AV×AV)) (jm:Nat) (FB:List Nat):Prop where
 cell:s.h p=some (.cells [.ptr ib 0,.sl false (L.map Dc.av),xin,.map jm] 124 true true)
 bank:jJ s ib σ.1 FB
 made:s.h jm=some (.map (mapM σ.2))
 inx:JU s xin vs
 sco:kA s vs scs
 ne:p≠jm
 pb:p ∉ FB
 jb:jm ∉ FB
 ii:∀ j∈bG xin vs,j≠p/\j≠jm/\j ∉ FB
def pJ (s:St) (p ib:Nat) (L:List Dc) (scs:List Ev) (σ:Sg) (F:List Nat):Prop:=∃ xin vs jm FB,MkC s p ib L scs σ xin vs jm FB/\F=p::jm::(FB++bG xin vs)
theorem pJ.have (h:pJ s p ib L scs σ F):∀ j∈F,∃ b,s.h j=some b:=by
 obtain ⟨xin,vs,jm,FB,c,rfl⟩:=h;intro j hj;simp only [m013,m003,bG] at hj;rcases hj with rfl | rfl | hj | hj | hj
 ·exact ⟨_,c.cell⟩
 ·exact ⟨_,c.made⟩
 ·exact c.bank.have j hj
 ·exact c.inx.has j hj
 ·exact c.sco.has j hj
theorem pJ.lt (h:pJ s p ib L scs σ F) (fr:aI s):∀ j∈F,j < s.nx:=fun j hj=>by obtain ⟨b,hb⟩:=h.have j hj;exact fr.lt hb
theorem pJ.keep (h:pJ s p ib L scs σ F) (hk:∀ j∈F,s'.h j=s.h j):pJ s' p ib L scs σ F:=by
 obtain ⟨xin,vs,jm,FB,c,rfl⟩:=h;refine ⟨xin,vs,jm,FB,⟨?_,?_,?_,?_,?_,c.ne,c.pb,c.jb,c.ii⟩,rfl⟩
 ·rw [hk p (by simp)];exact c.cell
 ·exact c.bank.keep fun j hj=>hk j (by simp [hj])
 ·rw [hk jm (by simp)];exact c.made
 ·exact c.inx.keep fun j hj=>hk j (by simp [bG,hj])
 ·exact c.sco.keep fun j hj=>hk j (by simp only [m013,m003,bG];exact .inr (.inr (.inr (.inr hj))))
theorem pJ.ext (h:pJ s p ib L scs σ F) (fr:aI s) (e:EF [] s s'):pJ s' p ib L scs σ F:=by have hF:=h.lt fr;exact h.keep fun j hj=>e.h j (hF j hj) (by simp)
theorem pJ.adv {n:Nat} (h:pJ s p ib L scs σ F):pJ (Ai.adv s n) p ib L scs σ F:=h.keep fun _ _=>rfl
def GM (s:St) (p:Nat):Option (List AV):=match s.h p with
 | some (.cells [_,_,.sl true l,_] _ _ _)=>some l
 | _=>none
def NS (s s':St) (p:Nat):Prop:=GM s' p=none\/GM s' p=GM s p
theorem NS.of (h:s'.h p=s.h p):NS s s' p:=.inr (by simp only [GM,h])
theorem NS.trans {a b c:St} (h:NS a b p) (k:NS b c p):NS a c p:=by
 rcases k with k | k
 ·exact .inl k
 ·rcases h with h | h
  ·exact .inl (k.trans h)
  ·exact .inr (k.trans h)
def kW (s:St) (p ib:Nat) (L:List Dc) (scs:List Ev) (F:List Nat) (σ':Sg) (s':St) (F':List Nat):Prop:=pJ s' p ib L scs σ' F'/\EF F s s'/\(∀ j∈F',j∈F\/s.nx<=j)/\NS s s' p
theorem pJ.pin (h:pJ s p ib L scs σ F):p∈F:=by obtain ⟨_,_,_,_,_,rfl⟩:=h;simp
theorem kW.same (h:pJ s p ib L scs σ F) (fr:aI s) (e:EF [] s s'):kW s p ib L scs F σ s' F:=⟨h.ext fr e,e.sub fun j hj=>(by cases hj),fun j hj=>.inl hj,NS.of (e.h p (h.lt fr p h.pin) (by simp))⟩
theorem kW.from {σ':Sg} {s1:St} {F':List Nat} (h:kW s1 p ib L scs F σ' s' F') (e:EF [] s s1) (hp:p < s.nx):kW s p ib L scs F σ' s' F':=by obtain ⟨h1,h2,h3,h4⟩:=h;have:=e.nx;exact ⟨h1,(e.sub (M':=F) fun j hj=>(by cases hj)).trans h2 fun j hj=>.inr hj,fun j hj=>(h3 j hj).imp_right fun h=>(by omega),(NS.of (e.h p hp (by simp))).trans h4⟩
theorem kW.trans {σ1 σ2:Sg} {s1 s2:St} {F1 F2:List Nat} (h:kW s p ib L scs F σ1 s1 F1) (k:kW s1 p ib L scs F1 σ2 s2 F2):kW s p ib L scs F σ2 s2 F2:=by
 obtain ⟨h1,h2,h3,h4⟩:=h;obtain ⟨k1,k2,k3,k4⟩:=k;have:=h2.nx;refine ⟨k1,h2.trans k2 fun j hj=>(h3 j hj).symm,fun j hj=>?_,h4.trans k4⟩;rcases k3 j hj with k3 | k3
 ·exact h3 j k3
 ·exact .inr (by omega)
theorem kW.adv {σ':Sg} {s':St} {F':List Nat} {n:Nat} (h:kW s p ib L scs F σ' s' F'):kW s p ib L scs F σ' (Ai.adv s' n) F':=⟨h.1.adv,h.2.1.adv,h.2.2.1,h.2.2.2⟩
theorem kW.bank {xin:AV} {vs:List (AV×AV)} {jm:Nat} {FB:List Nat} (c:MkC s p ib L scs σ xin vs jm FB) (fr:aI s) {B':Bk} (h:yZ s ib FB B' s'):∃ F',kW s p ib L scs (p::jm::(FB++bG xin vs)) (B',σ.2) s' F':=by
 obtain ⟨FB',h1,h2,h3⟩:=h;have hR:pJ s p ib L scs σ (p::jm::(FB++bG xin vs)):=⟨xin,vs,jm,FB,c,rfl⟩;have hlt:=hR.lt fr;have hp:=hlt p (by simp);have hj:=hlt jm (by simp);have hi:∀ j∈bG xin vs,j < s.nx:=fun j hj=>hlt j (by simp only [m013,m003];exact .inr (.inr (.inr hj)));have nb:∀ y,y < s.nx->y ∉ FB->y ∉ FB':=fun y hy hn hm=>by rcases h3 y hm with h | h;exact hn h;omega
 refine ⟨p::jm::(FB'++bG xin vs),⟨xin,vs,jm,FB',⟨?_,h1,?_,?_,?_,c.ne,nb p hp c.pb,nb jm hj c.jb,fun j hj=>?_⟩,rfl⟩,?_,fun j hj=>?_,NS.of (h2.h p hp c.pb)⟩
 ·rw [h2.h p hp c.pb];exact c.cell
 ·rw [h2.h jm hj c.jb];exact c.made
 ·exact c.inx.keep fun j hj=>h2.h j (hi j (by simp [bG,hj])) (c.ii j (by simp [bG,hj])).2.2
 ·exact c.sco.keep fun j hj=>h2.h j (hi j (by simp only [bG,m003];exact .inr hj)) (c.ii j (by simp only [bG,m003];exact .inr hj)).2.2
 ·obtain ⟨a,b,d⟩:=c.ii j hj;exact ⟨a,b,nb j (hi j hj) d⟩
 ·exact h2.sub fun j hj=>.inr (by simp [hj])
 ·simp only [m013,m003] at hj ⊢;rcases hj with rfl | rfl | hj | hj
  ·exact .inl (.inl rfl)
  ·exact .inl (.inr (.inl rfl))
  ·rcases h3 j hj with h | h
   ·exact .inl (.inr (.inr (.inl h)))
   ·exact .inr h
  ·exact .inl (.inr (.inr (.inr hj)))
variable (ps:List UInt8->List Nat×Int)
structure qT (L0:List Dc) (env:Ev) (σ:Sg):Prop where
 wf:Wf σ.1
 env:∀ q∈env,eZ σ.1 q.2
 mv:nV ps L0 σ.1 σ.2
variable {ps:List UInt8->List Nat×Int} {L0:List Dc} {env:Ev} {n j:Nat} {σ':Sg}
theorem ZD (hL:L0.length < 2 ^ 60) (h:qT ps L0 env σ) {x:Sx} {r:Int×Int} (hT:T ps true n (L0.take j) env x σ=some (r,σ')):qT ps L0 env σ'/\xJ σ.1 σ'.1/\(r.2=0->eZ σ'.1 r.1)/\(r.2≠0->r.1=0):=by obtain ⟨B,M⟩:=σ;obtain ⟨B',M'⟩:=σ';obtain ⟨h1,h2⟩:=bGg ps BK hL n j env x B M r B' M' h.wf h.env h.mv hT;obtain ⟨e,w,i⟩:=SJ ps h.wf h.env h1;obtain ⟨_,_,_,_,g⟩:=yF ps _ env x B h.wf h.env [] _ _ _ h1;exact ⟨⟨w,fun q hq=>(h.env q hq).ext e,h2⟩,e,i,fun h0=>(g (by simpa [okE] using h0)).1⟩
theorem FH (hL:L0.length < 2 ^ 60) (h:qT ps L0 env σ) {l:List Sx} {r:List Int×Int} (hT:dS (T ps true n) (L0.take j) env l σ=some (r,σ')):qT ps L0 env σ'/\xJ σ.1 σ'.1/\(r.2=0->r.1.length=l.length/\∀ i∈r.1,eZ σ'.1 i)/\(r.2≠0->r.1=[]):=by obtain ⟨B,M⟩:=σ;obtain ⟨B',M'⟩:=σ';obtain ⟨h1,h2⟩:=BG ps (bGg ps BK hL n) j env l B M r B' M' h.wf h.env h.mv hT;obtain ⟨e,w,i⟩:=sG ps h.wf h.env h1;obtain ⟨_,_,_,_,g⟩:=iI (yF ps) _ env l B h.wf h.env [] _ _ _ h1;exact ⟨⟨w,fun q hq=>(h.env q hq).ext e,h2⟩,e,i,fun h0=>(g (by simpa [okL] using h0)).1⟩
def rW (ps:List UInt8->List Nat×Int) (n:Nat):Prop:=∀ (s:St) (p ib:Nat) (L0:List Dc) (j:Nat) (scs:List Ev) (σ:Sg) (F:List Nat) (x:Sx) (r:Int×Int) (σ':Sg),aI s->pJ s p ib (L0.take j) scs σ F->qT ps L0 scs.flatten σ->rN L0->x.fit->scs.length+x.wt<=2 ^ 30 ->
 T ps true n (L0.take j) scs.flatten x σ=some (r,σ')->∃ v s',WideC mEv 75 [.ptr p 0,x.av] s v s'/\v=mE r/\∃ F',kW s p ib (L0.take j) scs F σ' s' F'
def LsR (s:St) (x:AV) (l:List Sx):Prop:=x=.sl false (l.map Sx.av)\/Gw 33 6 0 s x (l.map Sx.av)
theorem bGr (x:Sx):x.av=.agg x.av.cells:=by cases x;rfl
theorem LsR.keep {x:AV} {l:List Sx} (h:LsR s x l) (hk:∀ j∈aE x,s'.h j=s.h j):LsR s' x l:=h.imp id fun g=>g.keep hk
theorem LsR.len {x:AV} {l:List Sx} (h:LsR s x l) (id:Nat) (c:Nat):bt .len #[31] [x] id (Ai.adv s c)=some (.int .i64 l.length,Ai.adv s c):=by
 rcases h with rfl | g
 ·rw [CG,m002]
 ·have:=bOv (s:=Ai.adv s c) g.adv id
  rwa [m002] at this
theorem LsR.ix {x:AV} {l:List Sx} (h:LsR s x l) {k:Nat} {y:Sx} (hy:l[k]?=some y):∃ a,cQ 6 x (.int .i64 (k:Int))=some a/\∀ S:St,S.h=s.h->ld 6 true a S=some y.av:=by
 have hv:(l.map Sx.av)[k]?=some y.av:=by rw [m047,hy];rfl
 rcases h with rfl | g
 ·exact ⟨_,cJ rL false hy .i64,fun S _=>dI y⟩
 ·have hlt:=(m012.1 hv).1;obtain ⟨g1,⟨rfl,g2⟩ | ⟨i,_,rfl,g3⟩⟩:=g
  ·rw [g2] at hlt;simp at hlt
  ·have hlen:∀ v∈l.map Sx.av,v.cells.length=6:=fun v hv=>(g1 v hv).1;have hix:=oZ (e:=33) (z:=6) (id:=i) (off:=0) (c:=none) hlt .i64;rw [m023] at hix;obtain ⟨d1,d2⟩:=sS hlen hv;refine ⟨_,hix,fun S hS=>?_⟩;rw [ld_ptr,hS,g3];show Ai.part 6 true (k * 6) _=_;rw [DQ,if_pos d2,d1,<- bGr]
theorem PC (y:Sx) (C:List AV) (hC:C.length=6) (q:St) (k c:Nat):dU 6 (.ptr k 0) y.av (Ai.adv (q.set k (some (.cells C 33 true true))) c)=some (Ai.adv (q.set k (some (.cells y.av.cells 33 true true))) c):=by rw [bJ (z:=6) (by rw [adv_h,aF]) hC (iC y) (cH y),adv_set,set_set]
theorem bSw (hT:rW ps n) (hL:rN L0) (x:AV) (l:List Sx) (hll:l.length<=2 ^ 20) (hfit:∀ y∈l,y.fit) (hw:∀ y∈l,scs.length+y.wt<=2 ^ 30) (s0:St) (fr0:aI s0) (F0:List Nat) (hF0:∀ y∈F0,y < s0.nx) (hx:LsR s0 x l) (hxF:∀ y∈aE x,y < s0.nx/\y ∉ F0)
  (Q:aG) (q:List Int×Int) (σ':Sg)
  (hQ:∀ (out:AV) (s':St) (F':List Nat),kW s0 p ib (L0.take j) scs F0 σ' s' F'->(q.2=0->Gw 3 1 0 s' out (q.1.map dE)/\∀ y∈aE out,s0.nx<=y/\y ∉ F')->(q.2≠0->out=.nils)->Q (.tup [out,.int .i64 q.2]) s') :
  ∀ (m i:Nat) (done:List Int) (y:AV) (s:St) (σ:Sg) (F:List Nat),i+m=l.length->done.length=i->qT ps L0 scs.flatten σ->kW s0 p ib (L0.take j) scs F0 σ s F->Gw 3 1 0 s y (done.map dE)->(∀ z∈aE y,s0.nx<=z/\z ∉ F) ->
   (∃ q1,dS (T ps true n) (L0.take j) scs.flatten (l.drop i) σ=some (q1,σ')/\q=(bif q1.2==0 then done++q1.1 else [],q1.2)) ->
   rD Q (m+1) (.fn 75 [.ptr p 0] []) y x (.int .i64 l.length) (.int .i64 i) s:=by
 intro m
 induction m with
 | zero =>
  intro i done y s σ F hi hd hok hQ1 hy hyF hev;show xA Q (rD Q 0) _ _ _ _ _ s;have c1:decide ((i:Int) < (l.length:Int))=false:=by simp;omega
  obtain ⟨q1,hev,hq⟩:=hev;rw [m037 (by omega)] at hev;simp only [dS,m000,m001] at hev;obtain ⟨rfl,rfl⟩:=hev;simp only [beq_self_eq_true,cond_true,m011] at hq;subst hq;simp only [xA,c1,GC,wx,wy,Z0,Z1,reduceCtorEq];exact hQ y _ F hQ1.adv (fun _=>⟨hy.adv,hyF⟩) fun h=>absurd rfl h
 | succ m ih =>
  intro i done y s σ F hi hd hok hQ1 hy hyF hev;show xA Q (rD Q (m+1)) _ _ _ _ _ s;have c1:decide ((i:Int) < (l.length:Int))=true:=by simp;omega
  obtain ⟨z,hz⟩:∃ z,l[i]?=some z:=⟨_,m004 (by omega)⟩;have hzm:=m017 hz;obtain ⟨q1,hev,hq⟩:=hev;rw [cE l i z hz] at hev;simp only [dS,m028] at hev;obtain ⟨⟨r,σ1⟩,h1,h2⟩:=hev;have hQ1':=hQ1;obtain ⟨hR,hE,hN,hS⟩:=hQ1;have hps:=hR.lt hE.fr p hR.pin;have hsn:=hE.nx;have frs:=hE.fr;have hx':LsR s x l:=hx.keep fun a ha=>hE.h a (hxF a ha).1 (hxF a ha).2;obtain ⟨a,a1,a2⟩:=hx'.ix hz;have w1:=jG (i:=i) (n:=l.length) (by omega) (by omega);have hC6:((AV.agg [.bool false,.int .i64 0,.str [],.int .i64 0,.int .i64 0,.nils]).cells).length=6:=rfl;have e0:∀ (C:Option gU) (k:Nat),3 < k->EF [] s (Ai.adv (s.set (s.nx+3) C) k):=fun C k hk=>⟨by simp only [adv_nx,set_nx];omega,fun b hb _=>by rw [adv_h,aB (by omega)],cA frs k (by omega)⟩;obtain ⟨hok1,hext,hin,hne⟩:=ZD (by have:=hL.len;omega) hok h1;simp only [xA,c1,a1,a2 (Ai.adv s 5) rfl,aUg,PC z _ hC6,dI,wx,wy,Z0,Z1,reduceCtorEq];obtain ⟨v,s2,t1,rfl,F2,t2⟩:=hT (Ai.adv (s.set (s.nx+3) (some (.cells z.av.cells 33 true true))) 13) p ib L0 j scs σ F z r σ1 (e0 _ _ (by omega)).fr (hR.ext frs (e0 _ _ (by omega))) hok hL (hfit z hzm) (hw z hzm) h1;refine BZ (by kernel_rfl) (bQ (by kernel_rfl) ⟨_,s2,t1,?_⟩);have hne34:∀ u v:Int,bn .neq 34 (.int .i64 u) (.int .i64 v)=some (.bool (u != v)):=fun _ _=>bin_neq;have t3:=t2.from (e0 _ _ (by omega)) hps;have hQ2:kW s0 p ib (L0.take j) scs F0 σ1 s2 F2:=kW.trans hQ1' t3;simp only [zV,zO,hne34,wx,wy,Z0,Z1,reduceCtorEq]
  cases hr:(r.2==0) with
  | false =>
   simp only [hr,cond_false,m000,m001] at h2;obtain ⟨rfl,rfl⟩:=h2;have hrn:(r.2 != 0)=true:=by simp only [bne,hr];rfl
   simp only [hr,cond_false] at hq;subst hq;simp only [hrn,wx,wy,Z0,Z1,reduceCtorEq];exact hQ .nils _ F2 hQ2.adv (fun h=>by simp only at h;rw [h] at hr;cases hr) fun _=>rfl
  | true =>
   simp only [hr,cond_true,m022] at h2;obtain ⟨⟨w,σ2⟩,h3,h4⟩:=h2;simp only [m001] at h4;obtain ⟨rfl,rfl⟩:=h4;have hrn:(r.2 != 0)=false:=by simp only [bne,hr];rfl
   have hr0:r.2=0:=by simpa using hr
   have hylt:∀ b∈aE y,b < s.nx:=fun b hb=>frs.lt (hy.has b hb);have hy2:Gw 3 1 0 s2 y (done.map dE):=hy.keep fun b hb=>t3.2.1.h b (hylt b hb) (hyF b hb).2
   have hyF2:∀ b∈aE y,b ∉ F2:=fun b hb hm=>by
    rcases t3.2.2.1 b hm with h | h
    ·exact (hyF b hb).2 h
    ·have:=hylt b hb;omega
   have bs:kM 72 1 [(0,.int .i64 r.1)]=some (.sl true [dE r.1]):=dX pQ (by decide) rfl rfl;have happ:=gM pQ iY (hy2.adv (n:=7)) (a:=r.1) (by omega) (by omega) true (s2.nx+5);simp only [hrn,bs,happ,TQ,w1,wx,wy,Z0,Z1,reduceCtorEq];have n2:=t3.2.1.nx;have hF2:=t3.1.lt t3.2.1.fr
   have e2:EF (aE y) s2 (Ai.adv ((s2.drop (aE y)).set (s2.nx+5) (some (.cells (((done++[r.1]).map dE).flatMap AV.cells) 3 false true))) 9):=by
    refine ⟨by simp only [adv_nx,set_nx,nx_drop];omega,fun b hb hn=>?_,fun b hb=>?_⟩
    ·rw [adv_h,get_set,if_neg (by omega),get_drop',if_neg hn]
    ·simp only [adv_nx,set_nx,nx_drop] at hb;rw [adv_h,get_set,if_neg (by omega),get_drop']
     split
     ·rfl
     ·exact t3.2.1.fr b (by omega)
   refine ih (i+1) (done++[r.1]) _ _ σ1 F2 (by omega) (by simp only [m006,List.length_singleton];omega) hok1 ⟨hQ2.1.keep fun b hb=>e2.h b (hF2 b hb) fun hh=>hyF2 b hh hb,hQ2.2.1.trans e2 fun b hb=>.inl (hyF b hb).1,hQ2.2.2.1,hQ2.2.2.2.trans (NS.of (e2.h p (hF2 p hQ2.1.pin) fun hh=>hyF2 p hh hQ2.1.pin))⟩ ?_ ?_ ⟨w,h3,?_⟩
   ·have:=jL (l:=done) (a:=r.1) iY (e:=3) (id:=s2.nx+5) (n:=9) (s0:=s2);exact this.keep fun b hb=>by simp only [aE,m008] at hb;subst hb;rw [adv_h,aF,adv_h,aF]
   ·intro b hb;simp only [aE,m008] at hb;subst hb;exact ⟨by omega,fun hm=>by have:=hF2 _ hm;omega⟩
   ·rw [hq]
    cases hw2:(w.2==0) with
    | true=>simp only [hw2,cond_true,m019,List.singleton_append]
    | false=>simp only [hw2,cond_false]
theorem bNx:mEv.fz 177=true:=by kernel_rfl
theorem bDo:mEv.fz 75=false:=by kernel_rfl
theorem aNh (hT:rW ps n) (hL:rN L0) {x:AV} {l:List Sx} (hll:l.length<=2 ^ 20) (hfit:∀ y∈l,y.fit) (hw:∀ y∈l,scs.length+y.wt<=2 ^ 30) (fr:aI s) (hR:pJ s p ib (L0.take j) scs σ F) (hok:qT ps L0 scs.flatten σ) (hx:LsR s x l) (hxF:∀ y∈aE x,y < s.nx/\y ∉ F) {q:List Int×Int} (hev:dS (T ps true n) (L0.take j) scs.flatten l σ=some (q,σ'))
  (hK:∀ s' F',kW s p ib (L0.take j) scs F σ' s' F'->K (.tup [.sl false (q.1.map dE),.int .i64 q.2]) s'):aL mEv 177 [x,.fn 75 [.ptr p 0] []] s K:=by
 obtain ⟨_,_,hq1,hq2⟩:=FH (by have:=hL.len;omega) hok hev
 have h:=aNr x (.fn 75 [.ptr p 0] []) s (Q:=fun v s'=>∃ out F',v=.tup [out,.int .i64 q.2]/\kW s p ib (L0.take j) scs F σ' s' F'/\(q.2=0->Gw 3 1 0 s' out (q.1.map dE)/\∀ y∈aE out,s.nx<=y/\y ∉ F')/\(q.2≠0->out=.nils)) (by
  unfold f177;simp only [hx.len,wx,wy,Z0,Z1,reduceCtorEq]
  exact ⟨_,bSw hT hL x l hll hfit hw s fr F (hR.lt fr) hx hxF _ q σ' (fun out s' F' a b c=>⟨out,F',rfl,a,b,c⟩) l.length 0 [] .nils _ σ F (by omega) rfl hok (kW.same hR fr (EF.refl _ fr).adv) fG (fun z hz=>by cases hz) ⟨q,by simpa using hev,by
   cases hq:(q.2==0) with
   | true=>simp
   | false =>
    have:=hq2 (by simpa using hq);obtain ⟨a,b⟩:=q;simp only at this
    subst this;rfl⟩⟩)
 obtain ⟨v,s',h1,out,F',rfl,h2,h3,h4⟩:=h;refine YS bNx (by kernel_rfl) ⟨_,s',h1,?_⟩;by_cases h0:q.2=0
 ·obtain ⟨g1,g2⟩:=h3 h0;obtain ⟨ids,p1,p2⟩:=rV pQ g1 (fun _ _=>rfl) (fun _ _=>rfl) 10;have hno:out.closed=false:=g1.not_closed;rw [OZ hno p1 rfl];simp only [Bnd_some];subst p2;have hF':=h2.1.lt h2.2.1.fr;have hdr:∀ y∈F',(s'.drop (aE out)).h y=s'.h y:=fun y hy=>by rw [get_drop',if_neg fun hh=>(g2 y hh).2 hy]
  exact hK _ F' ⟨h2.1.keep hdr,h2.2.1.drop fun y hy=>.inl (g2 y hy).1,h2.2.2.1,h2.2.2.2.trans (NS.of (hdr p h2.1.pin))⟩
 ·have:=h4 h0;subst this;have hq:=hq2 h0;have:pur mEv.P s' 12 (.tup [.nils,.int .i64 q.2])=some (.tup [.sl false [],.int .i64 q.2],[]):=rfl;rw [this];simp only [Bnd_some];have hk:=hK s' F' h2;rw [hq] at hk;exact hk
end
end
noncomputable section
theorem aZu:QP lE 2:=⟨fun _=>rfl,fun _=>rfl⟩
section
variable {s s':St} {p ib:Nat} {L:List Dc} {scs:List Ev} {σ:Sg} {F:List Nat} {K:aG} {ps:List UInt8->List Nat×Int} {L0:List Dc} {n j:Nat} {σ':Sg}
theorem vT:∀ (l:List Nat) (q:Nat),q ∉ l->lY l [q]=true:=by
 intro l
 induction l with
 | nil=>intro q _;rfl
 | cons x l ih =>
  intro q h;simp only [m013,not_or] at h
  have h1:Nat.beq x q=false:=by
   cases hb:Nat.beq x q with
   | false=>rfl
   | true=>exact absurd (iN hb).symm h.1
  simp only [lY,dO,h1,cond_false,Bool.or_self,m027,m031,ih q h.2]
theorem BI {q:Nat} {l:List Nat} (h:q ∉ l):dO q l=false:=by
 cases hc:dO q l with
 | false=>rfl
 | true=>exact absurd (bO.1 hc) h
theorem bRx {a:List Int} {ta:AV} (hta:Em ta (a.map dE)) {i:Nat} {q:Int} (h:a[i]?=some q):cQ 1 ta (.int .i64 (i:Int))=some (.pel (dE q).cells 0):=by
 rcases hta with rfl | ⟨_,h2⟩
 ·exact cJ iY false h .i64
 ·have:a=[]:=by simpa using h2
  subst this;simp at h
structure CaR (s0 s:St) (p ib:Nat) (L:List Dc) (scs:List Ev) (σ:Sg) (F:List Nat) (d:Dc) (ta:AV) (d0 w0 v0:Nat) (names:List (List UInt8)) (bs:List UInt8) (FW:List Nat) (y:AV):Prop where
 mr:pJ s p ib L scs σ F
 ef:EF [] s0 s
 bu:Bu s w0 bs true FW
 dh:s.h d0=some (.cells d.av.cells 67 true true)
 vh:s.h v0=some (.cells [y,ta] 254 true true)
 gy:Gw 9 1 0 s y (names.map mD)
 dn:s0.nx<=d0/\d0 ∉ FW/\d0≠v0/\d0 ∉ aE y
 vn:s0.nx<=v0/\v0 ∉ FW/\v0 ∉ aE y
 wn:∀ x∈FW,s0.nx<=x/\x ∉ aE y
 yn:∀ x∈aE y,s0.nx<=x
theorem CaR.ext {s0:St} {d:Dc} {ta y:AV} {d0 w0 v0:Nat} {names:List (List UInt8)} {bs:List UInt8} {FW:List Nat} (h:CaR s0 s p ib L scs σ F d ta d0 w0 v0 names bs FW y) (e:EF [] s s'):CaR s0 s' p ib L scs σ F d ta d0 w0 v0 names bs FW y:=by have fr:=h.ef.fr;refine ⟨h.mr.ext fr e,h.ef.nil_trans e,h.bu.keep fun x hx=>e.h x (h.bu.lt fr x hx) (by simp),by rw [e.h d0 (fr.lt h.dh) (by simp)];exact h.dh,by rw [e.h v0 (fr.lt h.vh) (by simp)];exact h.vh,h.gy.keep fun x hx=>e.h x (fr.lt (h.gy.has x hx)) (by simp),h.dn,h.vn,h.wn,h.yn⟩
theorem CaR.ws {s0:St} {d:Dc} {ta y:AV} {d0 w0 v0:Nat} {names:List (List UInt8)} {bs bs':List UInt8} {FW FW':List Nat} (h:CaR s0 s p ib L scs σ F d ta d0 w0 v0 names bs FW y) (hF:∀ x∈F,x < s0.nx) (b:Bu s' w0 bs' true FW') (e:EF FW s s') (hn:∀ x∈FW',x∈FW\/s.nx<=x):CaR s0 s' p ib L scs σ F d ta d0 w0 v0 names bs' FW' y:=by
 have fr:=h.ef.fr;have hd0:=fr.lt h.dh;have hv0:=fr.lt h.vh;have hyl:∀ x∈aE y,x < s.nx:=fun x hx=>fr.lt (h.gy.has x hx);have hs0:=h.ef.nx;have no:∀ x,x < s.nx->x ∉ FW->x ∉ FW':=fun x hx hn2 hm=>by rcases hn x hm with h | h;exact hn2 h;omega
 refine ⟨h.mr.keep fun x hx=>e.h x (by have:=hF x hx;omega) fun hm=>by have:=(h.wn x hm).1;have:=hF x hx;omega,h.ef.trans e fun x hx=>.inl (h.wn x hx).1,b,by rw [e.h d0 hd0 h.dn.2.1];exact h.dh,by rw [e.h v0 hv0 h.vn.2.1];exact h.vh,h.gy.keep fun x hx=>e.h x (hyl x hx) fun hm=>(h.wn x hm).2 hx,⟨h.dn.1,no d0 hd0 h.dn.2.1,h.dn.2.2⟩,⟨h.vn.1,no v0 hv0 h.vn.2.1,h.vn.2.2⟩,fun x hx=>?_,h.yn⟩;rcases hn x hx with h1 | h1
 ·exact h.wn x h1
 ·exact ⟨by omega,fun hm=>by have:=hyl x hm;omega⟩
theorem bRi (hL:rN L0) (s0:St) (d:Dc) (a:List Int) (ta:AV) (hta:Em ta (a.map dE)) (hlen:a.length=d.ps.length) (hps:d.ps.length<=2 ^ 20) (hw:Wf σ.1) (ha:∀ i∈a,eZ σ.1 i) (hF:∀ x∈F,x < s0.nx) (k:Nat) (d0 w0 v0:Nat) (Q:aG)
  (hQ1:∀ s',eG σ.1 d.ps a=false->EF [] s0 s'->pJ s' p ib L scs σ F->Q (mE (0,90)) s')
  (hQ2:∀ s' FW y,eG σ.1 d.ps a=true->CaR s0 s' p ib L scs σ F d ta d0 w0 v0 (d.ps.map (·.1)) (a.flatMap fun i=>cB i++[32]) FW y->uL Q (.int .i64 k) (.ptr w0 0) (.ptr p 0) (.ptr v0 0) (.ptr d0 0) s') :
  ∀ (m i:Nat) (s:St) (FW:List Nat) (y:AV),i+m=d.ps.length->eG σ.1 d.ps a=eG σ.1 (d.ps.drop i) (a.drop i)->CaR s0 s p ib L scs σ F d ta d0 w0 v0 ((d.ps.take i).map (·.1)) ((a.take i).flatMap fun i=>cB i++[32]) FW y ->
   qQ Q (m+1) (.ptr p 0) (.int .i64 k) ta (.ptr d0 0) (.ptr w0 0) (.ptr v0 0) (.sl false (d.ps.map lE)) (.int .i64 d.ps.length) (.int .i64 i) s:=by
 intro m
 induction m with
 | zero =>
  intro i s FW y hi hso h;show vK Q (qQ Q 0) _ _ _ _ _ _ _ _ _ s;have c1:decide ((i:Int) < (d.ps.length:Int))=false:=by simp;omega
  rw [m037 (by omega)] at hso;rw [m014 (by omega),m014 (by omega)] at h;simp only [vK,c1,wx,wy,Z0,Z1,reduceCtorEq];exact hQ2 _ FW y (by rw [hso];rfl) (h.ext (EF.refl _ h.ef.fr).adv)
 | succ m ih =>
  intro i s FW y hi hso h;show vK Q (qQ Q (m+1)) _ _ _ _ _ _ _ _ _ s;have c1:decide ((i:Int) < (d.ps.length:Int))=true:=by simp;omega
  obtain ⟨z,hz⟩:∃ z,d.ps[i]?=some z:=⟨_,m004 (by omega)⟩;obtain ⟨q,hq⟩:∃ q,a[i]?=some q:=⟨_,m004 (by omega)⟩;rw [cE _ i z hz,cE _ i q hq] at hso;simp only [eG] at hso;have fr:=h.ef.fr;have hix:=cJ aZu false hz .i64;have hpm:Ai.part 2 true 0 (lE z).cells=some (lE z):=rfl;have hiq:=bRx hta hq;have hqin:=ha q (m017 hq);obtain ⟨nd,hnd⟩:=uJ hqin;have hso1:jO σ.1 q=nd.so:=by simp only [jO,hnd]
  rw [hso1] at hso;have w1:=jG (i:=i) (n:=d.ps.length) (by omega) (by omega);have hst:∀ (q':St) (k c:Nat),dU 2 (.ptr k 0) (lE z) (Ai.adv (q'.set k (some (.cells (AV.agg [.str [],.int .i64 0]).cells 151 true true))) c)=some (Ai.adv (q'.set k (some (.cells (lE z).cells 151 true true))) c):=fun q' k c=>by rw [bJ (z:=2) (by rw [adv_h,aF]) rfl rfl rfl,adv_set,set_set]
  have e0:∀ (C:Option gU) (k:Nat),4 < k->EF [] s (Ai.adv (s.set (s.nx+4) C) k):=fun C k hk=>⟨by simp only [adv_nx,set_nx];omega,fun b hb _=>by rw [adv_h,aB (by omega)],cA fr k (by omega)⟩;have h1:=h.ext (e0 (some (.cells (lE z).cells 151 true true)) 22 (by omega));obtain ⟨xin,vs,jm,FB,c,hFe⟩:=h1.mr;have hcell:=c.cell
  have hcs:s.h p=some (.cells [.ptr ib 0,.sl false (L.map Dc.av),xin,.map jm] 124 true true):=by
   have hp:p < s.nx:=h.mr.lt fr p (by rw [hFe];simp);have:=hcell
   rwa [adv_h,aB (by omega)] at this
  have hpn:¬ (p=s.nx+4):=by have hp:p < s.nx:=h.mr.lt fr p (by rw [hFe];simp);omega
  simp only [vK,c1,hix,hpm,aRj,hst,wx,wy,Z0,Z1,reduceCtorEq];refine ⟨rfl,?_⟩;simp only [hcs,hpn,hiq,in0,if_false,wx,wy,Z0,Z1,reduceCtorEq];have hFB:∀ x∈FB,x < s.nx:=fun x hx=>h.mr.lt fr x (by rw [hFe];simp [hx]);have hw0:=h.bu.lt fr;have hd0:=fr.lt h.dh;have hv0:=fr.lt h.vh;have hyl:∀ x∈aE y,x < s.nx:=fun x hx=>fr.lt (h.gy.has x hx);have hs0:=h.ef.nx;refine bQm h1.ef.fr c.bank hqin hnd rfl fun s2 e2=>?_;have n2:=e2.nx;simp only [adv_nx,set_nx] at n2;have n19:s2.h (s.nx+19)=none:=by rw [e2.h _ (by simp only [adv_nx,set_nx];omega) (by simp),adv_h,aB (by omega)];exact fr _ (by omega)
  have n20:s2.h (s.nx+20)=none:=by rw [e2.h _ (by simp only [adv_nx,set_nx];omega) (by simp),adv_h,aB (by omega)];exact fr _ (by omega)
  have n4:s2.h (s.nx+4)=some (.cells (lE z).cells 151 true true):=by rw [e2.h _ (by simp only [adv_nx,set_nx];omega) (by simp),adv_h,aF]
  have x0:aS (.tup [nd.av,.bool true]) 0=some nd.av:=rfl;have x1:aS (.tup [nd.av,.bool true]) 1=some (.bool true):=rfl;simp only [x0,x1,wx,wy,Z0,Z1,reduceCtorEq];refine ⟨?_,n19,?_⟩
  ·have hnr:s.nx+19 ∉ rch (Ai.adv (s.set (s.nx+4) (some (.cells (lE z).cells 151 true true))) 22) [.fn 53 [] [],.ptr ib 0,.int .i64 q]:=fun hm=>by
    have:=hFB _ ((c.bank.rch rfl _).1 hm);omega
   have hp19:p≠s.nx+19:=by have:=h.mr.lt fr p (by rw [hFe];simp);omega
   have hlt:Nat.blt (s.nx+19) (s.nx+22)=true:=by simp [Nat.blt_eq]
   have hpb:Nat.beq (s.nx+19) p=false:=by
    cases hb:Nat.beq (s.nx+19) p with
    | false=>rfl
    | true=>exact absurd (iN hb).symm hp19
   have hpb2:Nat.beq p (s.nx+19)=false:=by
    cases hb:Nat.beq p (s.nx+19) with
    | false=>rfl
    | true=>exact absurd (iN hb) hp19
   simp [clear,eA.apart,tM,bN,lY,dO,BI hnr,vT _ _ hnr,hlt,hpb,hpb2,hp19,Ne.symm hp19]
  simp only [FV,n20,wx,wy,Z0,Z1,reduceCtorEq];rw [bJ (z:=7) (by rw [aF]) rfl rfl rfl,set_set];have e2s:EF [] s s2:=(e0 _ _ (by omega)).nil_trans e2;have e3:EF [] s (s2.set (s.nx+19) (some (.cells nd.av.cells 101 true true))):=e2s.set (by omega) (.inl (by omega));have o1:nd.av.cells[1]?=some (.int .i64 nd.so):=rfl;have z1:(lE z).cells[1]?=some (.int .i64 z.2):=rfl;have z0:(lE z).cells[0]?=some (.str z.1):=rfl;have hne3:∀ u v:Int,bn .neq 3 (.int .i64 u) (.int .i64 v)=some (.bool (u != v)):=fun _ _=>bin_neq;obtain ⟨s3,hs3⟩:∃ s3,s3=s2.set (s.nx+19) (some (.cells nd.av.cells 101 true true)):=⟨_,rfl⟩;rw [<- hs3] at e3;have h3:=h.ext e3;have m19:s3.h (s.nx+19)=some (.cells nd.av.cells 101 true true):=by rw [hs3,aF]
  have m4:s3.h (s.nx+4)=some (.cells (lE z).cells 151 true true):=by rw [hs3,aB (by omega)];exact n4
  have nx3:s3.nx=s2.nx:=by rw [hs3,set_nx]
  simp only [Bnd_some];rw [<- hs3];simp only [m19,m4,o1,z1,z0,hne3,wx,wy,Z0,Z1,reduceCtorEq]
  cases hcmp:(nd.so==z.2) with
  | false =>
   rw [hcmp,m035] at hso;have:(nd.so != z.2)=true:=by simp only [bne,hcmp];rfl
   simp only [this,wx,wy,Z0,Z1,reduceCtorEq];exact hQ1 _ hso h3.ef.adv h3.mr.adv
  | true =>
   rw [hcmp,m031] at hso;have:(nd.so != z.2)=false:=by simp only [bne,hcmp];rfl
   have bs52:kM 52 1 [(0,.str z.1)]=some (.sl true [mD z.1]):=dX FN (by decide) rfl rfl;have htl:((d.ps.take i).map (·.1)).length=i:=by simp;omega
   have happ:=gM FN tC (h3.gy.adv (n:=13)) (a:=z.1) (by omega) (by omega) true (s3.nx+10);simp only [this,h3.vh,z0,bs52,happ,wx,wy,Z0,Z1,reduceCtorEq];have fr3:=h3.ef.fr;obtain ⟨C,hC⟩:∃ C,C=(some (gU.cells (((((d.ps.take i).map (·.1))++[z.1]).map mD).flatMap AV.cells) 9 false true):Option gU):=⟨_,rfl⟩;rw [<- hC];have hv3:=fr3.lt h3.vh;rw [eB (c:=[y,ta]) (by rw [adv_h,get_set,if_neg (by omega),get_drop',if_neg h3.vn.2.2];exact h3.vh) (by simp) rfl rfl];simp only [List.set_cons_zero,wx,wy,Z0,Z1,reduceCtorEq];have hqi:i64 q:=⟨by have:=hqin.1;omega,by have:=hqin.2;have:=hw.1;omega⟩;refine aP (RJ q hqi.1 hqi.2) (by simp [AV.closed]) ?_;have li:=gN q;rw [gZ (y:=[32]) (by simp only [List.length_cons,List.length_nil];omega)];simp only [Bnd_some]
   have h4:CaR s0 (Ai.adv (((s3.drop (aE y)).set (s3.nx+10) C).set v0 (some (.cells [.ref (s3.nx+10) 0 (((d.ps.take i).map (·.1)).length+1) none 9,ta] 254 true true))) 20) p ib L scs σ F d ta d0 w0 v0 ((d.ps.take i).map (·.1)++[z.1]) ((a.take i).flatMap fun i=>cB i++[32]) FW (.ref (s3.nx+10) 0 (((d.ps.take i).map (·.1)).length+1) none 9):=by
    have get:∀ x,x≠v0->x≠s3.nx+10->x ∉ aE y->(Ai.adv (((s3.drop (aE y)).set (s3.nx+10) C).set v0 (some (.cells [.ref (s3.nx+10) 0 (((d.ps.take i).map (·.1)).length+1) none 9,ta] 254 true true))) 20).h x=s3.h x:=fun x a b c=>by rw [adv_h,get_set,if_neg a,get_set,if_neg b,get_drop',if_neg c]
    have hold:∀ x,x < s0.nx->x≠v0/\x≠s3.nx+10/\x ∉ aE y:=fun x hx=>⟨fun e=>by have:=h3.vn.1;omega,by have:=h3.ef.nx;omega,fun e=>by have:=h3.yn x e;omega⟩;refine ⟨h3.mr.keep fun x hx=>?_,⟨?_,fun x hx _=>?_,fun x hx=>?_⟩,h3.bu.keep fun x hx=>?_,?_,by rw [adv_h,aF],?_,?_,?_,?_,?_⟩
    ·obtain ⟨a1,a2,a3⟩:=hold x (hF x hx);exact get x a1 a2 a3
    ·have:=h3.ef.nx;simp only [adv_nx,set_nx,nx_drop];omega
    ·obtain ⟨a1,a2,a3⟩:=hold x hx;rw [get x a1 a2 a3];exact h3.ef.h x hx (by simp)
    ·simp only [adv_nx,set_nx,nx_drop] at hx;rw [adv_h,get_set,if_neg (by omega),get_set,if_neg (by omega),get_drop']
     split
     ·rfl
     ·exact fr3 x (by omega)
    ·have:=h3.bu.lt fr3 x hx;exact get x (fun e=>h3.vn.2.1 (by rw [<- e];exact hx)) (by omega) (h3.wn x hx).2
    ·have:=fr3.lt h3.dh;rw [get d0 h3.dn.2.2.1 (by omega) h3.dn.2.2.2];exact h3.dh
    ·have:=jL (l:=(d.ps.take i).map (·.1)) (a:=z.1) tC (e:=9) (id:=s3.nx+10) (n:=20) (s0:=s3);exact this.keep fun x hx=>by simp only [aE,m008] at hx;subst hx;rw [adv_h,aB (by omega),aF,adv_h,aF,hC]
    ·have:=fr3.lt h3.dh;exact ⟨h3.dn.1,h3.dn.2.1,h3.dn.2.2.1,by simp only [aE,m008];omega⟩
    ·exact ⟨h3.vn.1,h3.vn.2.1,by simp only [aE,m008];omega⟩
    ·intro x hx;have:=h3.bu.lt fr3 x hx;exact ⟨(h3.wn x hx).1,by simp only [aE,m008];omega⟩
    ·intro x hx;have:=h3.ef.nx;simp only [aE,m008] at hx;omega
   have hbl:((a.take i).flatMap fun i=>cB i++[32]).length<=22 * i:=by
    have:∀ l:List Int,(l.flatMap fun i=>cB i++[32]).length<=22 * l.length:=by
     intro l
     induction l with
     | nil=>simp
     | cons x l ih=>have:=gN x;simp only [m024,m006,List.length_cons,List.length_nil];omega
    have h1:=this (a.take i);have h2:=List.length_take_le i a;omega
   refine AX h4.bu h4.ef.fr (by simp) (by simp only [m006,List.length_cons,List.length_nil];omega) fun s5 FW' b1 b2 b3=>?_;simp only [TS,w1,wx,wy,Z0,Z1,reduceCtorEq];have t1:(d.ps.take (i+1)).map (·.1)=(d.ps.take i).map (·.1)++[z.1]:=by rw [m062,hz];simp
   have t2:(a.take (i+1)).flatMap (fun i=>cB i++[32])=(a.take i).flatMap (fun i=>cB i++[32])++(cB q++[32]):=by rw [m062,hq];simp
   refine ih (i+1) _ FW' (.ref (s3.nx+10) 0 (((d.ps.take i).map (·.1)).length+1) none 9) (by omega) hso ?_;rw [t1,t2];exact (h4.ws hF b1 b2 b3).ext (EF.refl _ b2.fr).adv
end
end
noncomputable section
section
variable {s s':St} {p ib:Nat} {L:List Dc} {scs:List Ev} {σ:Sg} {F:List Nat} {K:aG} {ps:List UInt8->List Nat×Int} {L0:List Dc} {n j:Nat} {σ':Sg}
theorem bHk {m:Nat} {M:Mm} {S:St} (h:S.h m=some (.map (mapM M))) (k:List UInt8):eE Tryz.ty 53 (.map m) (.str k) true S=some (.tup [.int .i64 ((pF k M).getD 0),.bool (pF k M).isSome]):=by
 have h9:eK Tryz.ty 9=some .string:=by kernel_rfl
 have hz:zero Tryz.ty 3=some (.int .i64 0):=by kernel_rfl
 have he:jV (.map m) (.str k) S=some ((pF k M).map fun j=>.int .i64 j):=by simp only [jV,h,JH]
 simp only [eE,YF,h9,Option.bind_some,uQ,if_true,hz,he,Option.map_some];cases pF k M<;>rfl
theorem bSa {m:Nat} {M:Mm} {S:St} (h:S.h m=some (.map (mapM M))) (k:List UInt8) (v:Int):eN Tryz.ty 53 (.map m) (.str k) (.int .i64 v) S=some (S.set m (some (.map (mapM (KK k v M))))):=by
 have h9:eK Tryz.ty 9=some .string:=by kernel_rfl
 simp only [eN,YF,h9,Option.bind_some,h,uQ,if_true,JH,aSn,Option.map_some]
structure CbR (s0 s:St) (p ib:Nat) (L:List Dc) (scs:List Ev) (σ:Sg) (F:List Nat) (d:Dc) (ta:AV) (d0 w0 v0:Nat) (names:List (List UInt8)) (bs:List UInt8) (w:Bool) (FW:List Nat) (y:AV):Prop where
 mr:pJ s p ib L scs σ F
 ef:EF [] s0 s
 bu:Bu s w0 bs w FW
 dh:s.h d0=some (.cells d.av.cells 67 true true)
 vh:s.h v0=some (.cells [y,ta] 254 true true)
 gy:Gw 9 1 0 s y (names.map mD)
 dn:s0.nx<=d0/\d0 ∉ FW/\d0≠v0/\d0 ∉ aE y
 vn:s0.nx<=v0/\v0 ∉ FW/\v0 ∉ aE y
 wn:∀ x∈FW,s0.nx<=x/\x ∉ aE y
 yn:∀ x∈aE y,s0.nx<=x
theorem CaR.cb {s0:St} {d:Dc} {ta y:AV} {d0 w0 v0:Nat} {names:List (List UInt8)} {bs bs':List UInt8} {w:Bool} {FW:List Nat} (h:CaR s0 s p ib L scs σ F d ta d0 w0 v0 names bs FW y) (hF:∀ x∈F,x < s0.nx) (b:Bu s' w0 bs' w FW) (e:EF FW s s'):CbR s0 s' p ib L scs σ F d ta d0 w0 v0 names bs' w FW y:=by have fr:=h.ef.fr;have hd0:=fr.lt h.dh;have hv0:=fr.lt h.vh;have hyl:∀ x∈aE y,x < s.nx:=fun x hx=>fr.lt (h.gy.has x hx);have hs0:=h.ef.nx;exact ⟨h.mr.keep fun x hx=>e.h x (by have:=hF x hx;omega) fun hm=>by have:=(h.wn x hm).1;have:=hF x hx;omega,h.ef.trans e fun x hx=>.inl (h.wn x hx).1,b,by rw [e.h d0 hd0 h.dn.2.1];exact h.dh,by rw [e.h v0 hv0 h.vn.2.1];exact h.vh,h.gy.keep fun x hx=>e.h x (hyl x hx) fun hm=>(h.wn x hm).2 hx,h.dn,h.vn,h.wn,h.yn⟩
theorem bQs (hT:rW ps n) (hL:rN L0) (s0:St) (hok:qT ps L0 scs.flatten σ) (d:Dc) (a:List Int) (ta:AV) (hta:Em ta (a.map dE)) (hlen:a.length=d.ps.length) (ha:∀ i∈a,eZ σ.1 i) (hF:∀ x∈F,x < s0.nx) (k:Nat) (hd:(L0.take j)[k]?=some d) (d0 w0 v0:Nat) (FW:List Nat) (y:AV) (s:St)
  (h:CaR s0 s p ib (L0.take j) scs σ F d ta d0 w0 v0 (d.ps.map (·.1)) (a.flatMap fun i=>cB i++[32]) FW y) (hso:eG σ.1 d.ps a=true) {r:Int×Int} (hc:fP true (T ps true n) (L0.take j) k a σ=some (r,σ')) (Q:aG) (hQ:∀ s' F',kW s0 p ib (L0.take j) scs F σ' s' F'->Q (mE r) s') :
  uL Q (.int .i64 k) (.ptr w0 0) (.ptr p 0) (.ptr v0 0) (.ptr d0 0) s:=by
 have fr0:=h.ef.fr;have hkl:k < (L0.take j).length:=(m012.1 hd).1;have hk30:k < 2 ^ 30:=by have:=hL.len;simp only [m020] at hkl;omega
 obtain ⟨hd0,htk⟩:=FK hd;have hdm:=m017 hd0;have hps:=hL.ps d hdm;unfold uL;refine aP (RJ (k:Int) (by omega) (by omega)) (by simp [AV.closed]) ?_;have li:=gN (k:Int);rw [gZ (x:=[102]) (by simp only [List.length_cons,List.length_nil];omega)];simp only [Bnd_some]
 have hbl:(a.flatMap fun i=>cB i++[32]).length<=22 * a.length:=by
  clear hc hso h ha hta hlen
  induction a with
  | nil=>simp
  | cons x l ih=>have:=gN x;simp only [m024,m006,List.length_cons,List.length_nil];omega
 have h1:=h.ext (EF.refl _ fr0).adv (s':=Ai.adv s 4);refine AX h1.bu h1.ef.fr (by simp) (by simp only [m006,List.length_cons,List.length_nil];omega) fun s2 FW2 b1 b2 b3=>?_;have h2:=h1.ws hF b1 b2 b3;have hkey:(a.flatMap fun i=>cB i++[32])++([102]++cB (k:Int))=jY k a:=rfl;rw [hkey] at h2;have hkn:jY k a≠[]:=by simp [jY]
 have hkl2:(jY k a).length<=2 ^ 40:=by rw [<- hkey];simp only [m006,List.length_cons,List.length_nil];omega
 have h3:=h2.ext (EF.refl _ h2.ef.fr).adv (s':=Ai.adv s2 11);obtain ⟨xin,vs,jm,FB,c,hFe⟩:=h3.mr;have hcs:s2.h p=some (.cells [.ptr ib 0,.sl false ((L0.take j).map Dc.av),xin,.map jm] 124 true true):=c.cell;refine ⟨rfl,?_⟩;simp only [hcs,wx,wy,Z0,Z1,reduceCtorEq];have hpF:p∈F:=by rw [hFe];simp
 have hp0:=hF p hpF;have hjm0:=hF jm (by rw [hFe];simp);have hpW:p ∉ FW2:=fun hm=>by have:=(h2.wn p hm).1;omega
 have hcl:∀ (S:St) (FW:List Nat) (bs:List UInt8) (w:Bool),Bu S w0 bs w FW->p < S.nx->p ∉ FW->clear 0 ⟨4,true,rch S [.fn 108 [] [],.ptr w0 0],some S.nx⟩ [⟨3,false,[p],none⟩,⟨2,false,[],none⟩,⟨1,false,[],none⟩,⟨0,false,[],none⟩]=true:=fun S FW bs w hb hps hpn=>by have hn:p ∉ rch S [.fn 108 [] [],.ptr w0 0]:=fun hm=>hpn ((hb.rch rfl p).1 hm);simp [clear,eA.apart,tM,bN,lY,BI hn,vT _ _ hn,hps]
 refine ⟨hcl _ FW2 _ true h3.bu (by have:=h3.ef.nx;show p < s2.nx+11;have:s0.nx<=s2.nx+11:=h3.ef.nx;omega) hpW,?_⟩;refine DZ h3.bu h3.ef.fr hkn hkl2 rfl fun s3 g1 g2=>?_;have h4:=h3.cb hF g1 g2;obtain ⟨xin2,vs2,jm2,FB2,c2,hFe2⟩:=h4.mr;have hcell:s3.h p=some (.cells [.ptr ib 0,.sl false ((L0.take j).map Dc.av),xin,.map jm] 124 true true):=by rw [g2.h p (by show p < s2.nx+11;have:s0.nx<=s2.nx+11:=h3.ef.nx;omega) hpW];exact c.cell
 obtain ⟨rfl,rfl⟩:xin2=xin/\jm2=jm:=by have:=c2.cell;rw [hcell] at this;simp only [m000,gU.cells.injEq,m057,AV.map.injEq,and_true,true_and] at this;exact ⟨this.1.symm,this.2.symm⟩
 have hlk:=bHk c2.made (jY k a);have hcM:=hc;unfold fP at hcM;rw [hd] at hcM;simp only [hlen,beq_self_eq_true,cond_true,hso,htk] at hcM;simp only [hlk,wx,wy,Z0,Z1,reduceCtorEq]
 cases hg:pF (jY k a) σ.2 with
 | some id =>rw [hg] at hcM;simp only [m000,m001] at hcM;obtain ⟨rfl,rfl⟩:=hcM;simp only [Option.isSome_some,Option.getD_some,wx,wy,Z0,Z1,reduceCtorEq];exact hQ _ F ⟨h4.mr.adv,(h4.ef.sub fun x hx=>by cases hx).adv,fun x hx=>.inl hx,NS.of (h4.ef.h p hp0 (by simp))⟩
 | none =>
  rw [hg] at hcM;simp only [m022] at hcM;obtain ⟨⟨r1,B1,M1⟩,hrun,hfin⟩:=hcM;simp only [m001,m031] at hfin;obtain ⟨rfl,rfl⟩:=hfin;simp only [Option.isSome_none,Option.getD_none,wx,wy,Z0,Z1,reduceCtorEq];refine ⟨rfl,?_⟩;simp only [hcell,wx,wy,Z0,Z1,reduceCtorEq];refine ⟨rfl,?_⟩;have hpart:Ai.part 2 true 0 [y,ta]=some (nW (y,ta)):=rfl;have hya:y.one=true:=by obtain ⟨_,⟨rfl,_⟩ | ⟨_,_,rfl,_⟩⟩:=h4.gy<;>rfl
  have hb122:kM 122 1 [(0,nW (y,ta))]=some (.sl true [nW (y,ta)]):=dX OY (by decide) rfl (by
   show ([y,ta]:List AV).all AV.one=true
   simp only [List.all_cons,hya,(EQ hta).1,List.all_nil,jH])
  have hsl:∀ S,mF 49 (.sl false ((L0.take j).map Dc.av)) none (some (.int .i64 (k:Int))) none S=some (.sl false ((L0.take k).map Dc.av)):=fun S=>by rw [MQ US PG.len false _ (by omega) .i64,m035,htk]
  simp only [hcell,h4.vh,hpart,hb122,hsl,wx,wy,Z0,Z1,reduceCtorEq];refine ⟨rfl,?_⟩;have fr3:=h4.ef.fr;have ns3:=h4.ef.nx;have hp3:p < s3.nx:=by omega
  refine ⟨by simp [clear,eA.apart,tM,bN,lY],fr3 _ (by omega),?_⟩;rw [eB (c:=[.ptr ib 0,.sl false ((L0.take j).map Dc.av),xin2,.map jm2]) (by rw [adv_h];exact hcell) (by simp) rfl rfl];simp only [List.set_cons_succ,List.set_cons_zero,wx,wy,Z0,Z1,reduceCtorEq];refine ⟨rfl,?_,?_⟩
  ·rw [if_neg (by omega)];exact fr3 _ (by omega)
  rw [eB (c:=[.ptr ib 0,.sl false ((L0.take j).map Dc.av),.sl true [nW (y,ta)],.map jm2]) (by rw [adv_h,aF]) (by simp) rfl rfl];simp only [List.set_cons_succ,List.set_cons_zero,wx,wy,Z0,Z1,reduceCtorEq];have hd0p:¬ (d0=p):=by have:=h4.dn.1;omega
  have hbody:Ai.part 6 true 4 d.av.cells=some d.body.av:=kQ d;simp only [h4.dh,hd0p,hbody,if_false,wx,wy,Z0,Z1,reduceCtorEq];obtain ⟨S5,hS5⟩:∃ S5,S5=Ai.adv (s3.set p (some (.cells [.ptr ib 0,.sl false ((L0.take k).map Dc.av),.sl true [nW (y,ta)],.map jm2] 124 true true))) 33:=⟨_,rfl⟩;rw [<- hS5];have g5:∀ x,x≠p->S5.h x=s3.h x:=fun x hx=>by rw [hS5,adv_h,aB hx]
  have n5:S5.nx=s3.nx+33:=by rw [hS5];rfl
  have f5:aI S5:=by rw [hS5];exact cA fr3 33 (by omega)
  have hyp:∀ x∈aE y,x≠p/\x≠jm2/\x ∉ FB2:=fun x hx=>by have:=h4.yn x hx;exact ⟨by omega,by omega,fun hm=>by have:=hF x (by rw [hFe2];simp [hm]);omega⟩
  have hta0:aE ta=[]:=by rcases hta with rfl | ⟨rfl,_⟩<;>rfl
  have hsc:ScR S5 (y,ta) (List.zip (d.ps.map (·.1)) a):=by
   have e1:(List.zip (d.ps.map (·.1)) a).map (·.1)=d.ps.map (·.1):=List.map_fst_zip (by simp [hlen]);have e2:(List.zip (d.ps.map (·.1)) a).map (·.2)=a:=List.map_snd_zip (by simp [hlen]);refine ⟨?_,?_,?_⟩
   ·rw [e1];exact h4.gy.keep fun x hx=>g5 x (hyp x hx).1
   ·rw [e2];exact .inl hta
   ·simp only [List.length_zip,m002];omega
  have hmk5:pJ S5 p ib (L0.take k) [List.zip (d.ps.map (·.1)) a] σ (p::jm2::(FB2++bG (.sl true [nW (y,ta)]) [(y,ta)])):=by refine ⟨_,[(y,ta)],jm2,FB2,⟨by rw [hS5,adv_h,aF];rfl,c2.bank.keep fun x hx=>g5 x fun e=>c2.pb (by rw [<- e];exact hx),by rw [g5 jm2 c2.ne.symm];exact c2.made,.inr (.inl rfl),⟨hsc,trivial⟩,c2.ne,c2.pb,c2.jb,fun x hx=>?_⟩,rfl⟩;simp only [bG,jU,hta0,List.nil_append,m024,m042,m011] at hx;exact hyp x hx
  have hok5:qT ps L0 [List.zip (d.ps.map (·.1)) a].flatten σ:=⟨hok.wf,by simp only [List.flatten_cons,List.flatten_nil,m011];exact kB _ a ha,hok.mv⟩;have hw5:=hL.wt d hdm;obtain ⟨v,s6,t1,rfl,F6,t2⟩:=hT S5 p ib L0 k [List.zip (d.ps.map (·.1)) a] σ _ d.body r1 (B1,M1) f5 hmk5 hok5 hL (hL.fit d hdm) (by simp only [List.length_singleton];omega) (by simp only [List.flatten_cons,List.flatten_nil,m011];exact hrun);refine bQ (by kernel_rfl) ⟨_,s6,t1,?_⟩;obtain ⟨⟨xin6,vs6,jm6,FB6,c6,hF6⟩,e6,m6,_⟩:=t2;have n6:=e6.nx;have fr6:=e6.fr;have hp6:p < s6.nx:=by omega
  simp only [zV,zO,wx,wy,Z0,Z1,reduceCtorEq];refine ⟨rfl,?_⟩
  rw [eB (c:=[.ptr ib 0,.sl false ((L0.take k).map Dc.av),xin6,.map jm6]) (by rw [adv_h];exact c6.cell) (by simp) (by
   rcases c2.inx with ⟨rfl,_⟩ | rfl | ⟨_,_,rfl,_⟩<;>rfl) (by rcases c2.inx with ⟨rfl,_⟩ | rfl | ⟨_,_,rfl,_⟩<;>rfl)]
  simp only [List.set_cons_succ,List.set_cons_zero,wx,wy,Z0,Z1,reduceCtorEq];refine ⟨rfl,?_⟩;rw [eB (c:=[.ptr ib 0,.sl false ((L0.take k).map Dc.av),xin2,.map jm6]) (by rw [adv_h,aF]) (by simp) rfl rfl];simp only [List.set_cons_succ,List.set_cons_zero,wx,wy,Z0,Z1,reduceCtorEq];obtain ⟨S8,hS8⟩:∃ S8,S8=Ai.adv (s6.set p (some (.cells [.ptr ib 0,.sl false ((L0.take j).map Dc.av),xin2,.map jm6] 124 true true))) 10:=⟨_,rfl⟩;have g8:∀ x,x≠p->S8.h x=s6.h x:=fun x hx=>by rw [hS8,adv_h,aB hx]
  have n8:S8.nx=s6.nx+10:=by rw [hS8];rfl
  have f8:aI S8:=by rw [hS8];exact cA fr6 10 (by omega)
  have old:∀ x,x < s3.nx->x≠p->x≠jm2->x ∉ FB2->x ∉ aE y->S8.h x=s3.h x:=fun x h1 h2 h3 h4 h5=>by rw [g8 x h2,e6.h x (by omega) (by simp only [bG,jU,hta0,List.nil_append,m024,m042,m011,m013,m003,not_or];exact ⟨h2,h3,h4,h5⟩),g5 x h2]
  have hin2:∀ x∈bG xin2 vs2,x < s0.nx/\x≠p/\x≠jm2/\x ∉ FB2/\x ∉ aE y:=fun x hx=>by have:=hF x (by rw [hFe2];simp [hx]);obtain ⟨a1,a2,a3⟩:=c2.ii x hx;exact ⟨this,a1,a2,a3,fun hm=>by have:=h4.yn x hm;omega⟩
  have nF6:∀ x,x < s3.nx->x≠p->x≠jm2->x ∉ FB2->x ∉ aE y->x ∉ F6:=fun x h1 h2 h3 h4 h5 hm=>by
   rcases m6 x hm with h | h
   ·simp only [bG,jU,hta0,List.nil_append,m024,m042,m011,m013,m003] at h;rcases h with h | h | h | h
    ·exact h2 h
    ·exact h3 h
    ·exact h4 h
    ·exact h5 h
   ·omega
  have hmk8:MkC S8 p ib (L0.take j) scs (B1,M1) xin2 vs2 jm6 FB6:=by
   refine ⟨by rw [hS8,adv_h,aF],c6.bank.keep fun x hx=>g8 x fun e=>c6.pb (by rw [<- e];exact hx),by rw [g8 jm6 c6.ne.symm];exact c6.made,?_,?_,c6.ne,c6.pb,c6.jb,fun x hx=>?_⟩
   ·exact c2.inx.keep fun x hx=>by obtain ⟨a0,a1,a2,a3,a4⟩:=hin2 x (by simp [bG,hx]);exact old x (by omega) a1 a2 a3 a4
   ·exact c2.sco.keep fun x hx=>by obtain ⟨a0,a1,a2,a3,a4⟩:=hin2 x (by simp only [bG,m003];exact .inr hx);exact old x (by omega) a1 a2 a3 a4
   ·obtain ⟨a0,a1,a2,a3,a4⟩:=hin2 x hx;have:=nF6 x (by omega) a1 a2 a3 a4;rw [hF6] at this;simp only [m013,m003,not_or] at this;exact ⟨a1,this.2.1,this.2.2.1⟩
  have ef8:EF F s0 S8:=by refine ⟨by omega,fun x hx hn=>?_,f8⟩;rw [hFe2] at hn;simp only [m013,m003,not_or] at hn;rw [old x (by omega) hn.1 hn.2.1 hn.2.2.1 (fun hm=>by have:=h4.yn x hm;omega)];exact h4.ef.h x hx (by simp)
  have hsub:∀ x∈p::jm6::(FB6++bG xin2 vs2),x∈F\/s0.nx<=x:=fun x hx=>by
   simp only [m013,m003] at hx
   have six:x∈F6->x∈F\/s0.nx<=x:=fun hm=>by
    rcases m6 x hm with h | h
    ·simp only [bG,jU,hta0,List.nil_append,m024,m042,m011,m013,m003] at h;rw [hFe2];rcases h with h | h | h | h
     ·exact .inl (by simp [h])
     ·exact .inl (by simp [h])
     ·exact .inl (by simp [h])
     ·exact .inr (h4.yn x h)
    ·exact .inr (by omega)
   rcases hx with rfl | rfl | hx | hx
   ·exact .inl hpF
   ·exact six (by rw [hF6];simp)
   ·exact six (by rw [hF6];simp [hx])
   ·rw [hFe2];exact .inl (by simp [hx])
  have heq34:∀ u v:Int,bn .eql 34 (.int .i64 u) (.int .i64 v)=some (.bool (u==v)):=fun _ _=>bin_eql
  have hns:∀ S:St,S.h p=some (.cells [.ptr ib 0,.sl false ((L0.take j).map Dc.av),xin2,.map jm6] 124 true true)->NS s0 S p:=fun S hS=>.inr (by
   have h0:s0.h p=some (.cells [.ptr ib 0,.sl false ((L0.take j).map Dc.av),xin2,.map jm2] 124 true true):=by rw [<- h4.ef.h p hp0 (by simp)];exact hcell
   simp only [GM,hS,h0]
   rcases c2.inx with ⟨hx,_⟩ | hx | ⟨_,_,hx,_⟩<;>rw [hx])
  have hq8:kW s0 p ib (L0.take j) scs F (B1,M1) S8 (p::jm6::(FB6++bG xin2 vs2)):=⟨⟨xin2,vs2,jm6,FB6,hmk8,rfl⟩,ef8,hsub,hns _ hmk8.cell⟩
  cases hr:(r1.2==0) with
  | false =>rw [hr,cond_false] at hQ;simp only [heq34,hr,DJ,wx,wy,Z0,Z1,reduceCtorEq];have:=hQ (Ai.adv S8 6) _ hq8.adv;rw [hS8] at this;exact this
  | true =>
   rw [hr,cond_true] at hQ;have hW:∀ x∈FW2,x < s3.nx/\x≠p/\x≠jm2/\x ∉ FB2/\x ∉ aE y:=fun x hx=>by have a0:=h4.bu.lt fr3 x hx;have a1:=(h4.wn x hx).1;exact ⟨a0,by omega,by omega,fun hm=>by have:=hF x (by rw [hFe2];simp [hm]);omega,(h4.wn x hx).2⟩
   have bu8:Bu S8 w0 (jY k a) false FW2:=h4.bu.keep fun x hx=>by obtain ⟨a0,a1,a2,a3,a4⟩:=hW x hx;exact old x a0 a1 a2 a3 a4
   simp only [heq34,hr,wx,wy,Z0,Z1,reduceCtorEq];have bu9:Bu (Ai.adv (s6.set p (some (.cells [.ptr ib 0,.sl false ((L0.take j).map Dc.av),xin2,.map jm6] 124 true true))) 19) w0 (jY k a) false FW2:=bu8.keep fun x _=>by rw [hS8];rfl
   refine ⟨rfl,?_⟩;refine ⟨hcl _ FW2 _ false bu9 (by show p < s6.nx+19;omega) hpW,?_⟩;refine DZ bu9 (cA fr6 19 (by omega)) hkn hkl2 rfl fun s9 k1 k2=>?_;have n9:=k2.nx;simp only [adv_nx,set_nx] at n9
   have hWF:∀ x∈p::jm6::(FB6++bG xin2 vs2),x ∉ FW2:=fun x hx hm=>by
    obtain ⟨a0,a1,a2,a3,a4⟩:=hW x hm;have a5:=(h4.wn x hm).1;simp only [m013,m003] at hx;have h6:=nF6 x a0 a1 a2 a3 a4;rcases hx with hx | hx | hx | hx
    ·exact a1 hx
    ·exact h6 (by rw [hF6,hx];simp)
    ·exact h6 (by rw [hF6];simp [hx])
    ·have:=(hin2 x hx).1;omega
   have g9:∀ x∈p::jm6::(FB6++bG xin2 vs2),s9.h x=S8.h x:=fun x hx=>by have hlt:=hq8.1.lt f8 x hx;rw [k2.h x (by simp only [adv_nx,set_nx];omega) (hWF x hx),hS8];rfl
   have mk9:MkC s9 p ib (L0.take j) scs (B1,M1) xin2 vs2 jm6 FB6:=by obtain ⟨q1,q2,q3,q4,q5,q6,q7,q8,q9⟩:=hmk8;exact ⟨by rw [g9 p (by simp)];exact q1,q2.keep fun x hx=>g9 x (by simp [hx]),by rw [g9 jm6 (by simp)];exact q3,q4.keep fun x hx=>g9 x (by simp [bG,hx]),q5.keep fun x hx=>g9 x (by simp only [m013,m003,bG];exact .inr (.inr (.inr (.inr hx)))),q6,q7,q8,q9⟩
   have ef9:EF F s0 s9:=by refine ⟨by omega,fun x hx hn=>?_,k2.fr⟩;rw [k2.h x (by simp only [adv_nx,set_nx];omega) (fun hm=>by have:=(h4.wn x hm).1;omega)];have:=ef8.h x hx hn;rw [hS8] at this;exact this
   have hnone:s9.h (s6.nx+18)=none:=by rw [k2.h (s6.nx+18) (by simp only [adv_nx,set_nx];omega) (fun hm=>by have:=(hW _ hm).1;omega),adv_h,aB (by omega)];exact fr6 _ (by omega)
   refine ⟨hnone,?_⟩;rw [bSa mk9.made (jY k a) r1.1];simp only [DJ,wx,wy,Z0,Z1,reduceCtorEq];have hjm9:=k2.fr.lt mk9.made;refine hQ _ (p::jm6::(FB6++bG xin2 vs2)) ⟨⟨xin2,vs2,jm6,FB6,?_,rfl⟩,?_,hsub,hns _ (by rw [adv_h,aB mk9.ne];exact mk9.cell)⟩
   ·obtain ⟨q1,q2,q3,q4,q5,q6,q7,q8,q9⟩:=mk9;refine ⟨by rw [adv_h,aB q6];exact q1,q2.keep fun x hx=>?_,by rw [adv_h,aF],q4.keep fun x hx=>?_,q5.keep fun x hx=>?_,q6,q7,q8,q9⟩
    ·rw [adv_h,aB fun e=>q8 (by rw [<- e];exact hx)]
    ·rw [adv_h,aB (q9 x (by simp [bG,hx])).2.1]
    ·rw [adv_h,aB (q9 x (by simp only [bG,m003];exact .inr hx)).2.1]
   ·exact (ef9.set hjm9 (hsub jm6 (by simp)).symm).adv
theorem bFz {ta:AV} {a:List Int} (h:Em ta (a.map dE)) (id:Nat) (S:St):bt .len #[72] [ta] id S=some (.int .i64 a.length,S):=by
 rcases h with rfl | ⟨rfl,h⟩
 ·exact zU a id S
 ·have:a=[]:=by simpa using h
  subst this;exact WP id S
theorem bBn:mEv.fz 178=false:=by kernel_rfl
theorem aJt (hT:rW ps n) (hL:rN L0) (fr:aI s) (hR:pJ s p ib (L0.take j) scs σ F) (hok:qT ps L0 scs.flatten σ) (a:List Int) (ta:AV) (hta:Em ta (a.map dE)) (ha:∀ i∈a,eZ σ.1 i) (k:Nat) {r:Int×Int} (hc:fP true (T ps true n) (L0.take j) k a σ=some (r,σ')) :
  ∃ v s',WideC mEv 178 [.ptr p 0,.int .i64 k,ta] s v s'/\v=mE r/\∃ F',kW s p ib (L0.take j) scs F σ' s' F':=by
 have hF:=hR.lt fr;have hc0:=hc;unfold fP at hc0
 cases hd:(L0.take j)[k]? with
 | none=>rw [hd] at hc0;cases hc0
 | some d =>
 obtain ⟨hd0,htk⟩:=FK hd;have hdm:=m017 hd0;have hps:=hL.ps d hdm;obtain ⟨xin,vs,jm,FB,c,hFe⟩:=hR;have hR:pJ s p ib (L0.take j) scs σ F:=⟨xin,vs,jm,FB,c,hFe⟩;refine aLb _ _ _ _ ?_;unfold f178;refine ⟨rfl,?_⟩;have hix:=cJ PG false hd .i64;have hdp:Ai.part 10 true 0 d.av.cells=some d.av:=kK d;have hp:p < s.nx:=hF p (by rw [hFe];simp);have hz10:∀ (C:List AV) (q:St) (k c:Nat),C.length=10->dU 10 (.ptr k 0) d.av (Ai.adv (q.set k (some (.cells C 67 true true))) c)=some (Ai.adv (q.set k (some (.cells d.av.cells 67 true true))) c):=fun C q k c hC=>by rw [bJ (z:=10) (by rw [adv_h,aF]) hC (gJ d) (eL d),adv_set,set_set]
 have hl65:∀ id S,bt .len #[65] [.sl false (d.ps.map lE)] id S=some (.int .i64 d.ps.length,S):=fun id S=>by rw [RF,m002]
 have hne3:∀ u v:Int,bn .neq 3 (.int .i64 u) (.int .i64 v)=some (.bool (u != v)):=fun _ _=>bin_neq;have e0:∀ (C:Option gU) (k:Nat),9 < k->EF [] s (Ai.adv (s.set (s.nx+9) C) k):=fun C k hk=>⟨by simp only [adv_nx,set_nx];omega,fun b hb _=>by rw [adv_h,aB (by omega)],cA fr k (by omega)⟩;have hne:¬ (p=s.nx+9):=by omega
 simp only [c.cell,hix,hdp,bRy,wx,wy,Z0,Z1,reduceCtorEq];rw [hz10 _ _ _ _ rfl];simp only [bFz hta,ZE,hl65,hne3,wx,wy,Z0,Z1,reduceCtorEq];rw [hd] at hc0;by_cases hlen:a.length=d.ps.length
 ·have hb:(((a.length:Nat):Int) != ((d.ps.length:Nat):Int))=false:=by simp [hlen]
  have bf163e:lK 163 []=some (.agg [.nilp,.nils]):=by rw [bHh];rfl
  have bf254e:lK 254 [(1,ta)]=some (.agg [.nils,ta]):=by rw [bMk];rcases hta with rfl | ⟨rfl,_⟩<;>rfl
  have s163:∀ (q:St) (k c:Nat),dU 2 (.ptr k 0) (.agg [.nilp,.nils]) (Ai.adv (q.set k (some (.cells (AV.agg [.nilp,.nils]).cells 163 true true))) c)=some (Ai.adv (q.set k (some (.cells [.nilp,.nils] 163 true true))) c):=fun q k c=>by rw [bJ (z:=2) (by rw [adv_h,aF]) rfl rfl rfl,adv_set,set_set];rfl
  have s254:∀ (q:St) (k c:Nat),dU 2 (.ptr k 0) (.agg [.nils,ta]) (Ai.adv (q.set k (some (.cells (AV.agg [.nils,.nils]).cells 254 true true))) c)=some (Ai.adv (q.set k (some (.cells [.nils,ta] 254 true true))) c):=fun q k c=>by rw [bJ (z:=2) (by rw [adv_h,aF]) rfl rfl (by show ([.nils,ta]:List AV).all AV.one=true;simp only [List.all_cons,(EQ hta).1,List.all_nil,m059];rfl),adv_set,set_set];rfl
  simp only [hb,bf163e,aZg,s163,bf254e,aSu,wx,wy,Z0,Z1,reduceCtorEq];rw [s254];simp only [ZE,hl65,wx,wy,Z0,Z1,reduceCtorEq];obtain ⟨S,hS⟩:∃ S,S=Ai.adv (((s.set (s.nx+9) (some (.cells d.av.cells 67 true true))).set (s.nx+18) (some (.cells [.nilp,.nils] 163 true true))).set (s.nx+22) (some (.cells [.nils,ta] 254 true true))) 28:=⟨_,rfl⟩;rw [<- hS];have gS:∀ x,x < s.nx->S.h x=s.h x:=fun x hx=>by rw [hS,adv_h,aB (by omega),aB (by omega),aB (by omega)]
  have eS:EF [] s S:=by refine ⟨by rw [hS];simp only [adv_nx,set_nx];omega,fun x hx _=>gS x hx,fun x hx=>?_⟩;rw [hS] at hx ⊢;have hx:s.nx+28<=x:=hx;rw [adv_h,aB (by omega),aB (by omega),aB (by omega)];exact fr x (by omega)
  have h0:CaR s S p ib (L0.take j) scs σ F d ta (s.nx+9) (s.nx+18) (s.nx+22) [] [] [s.nx+18] .nils:=by refine ⟨hR.ext fr eS,eS,⟨.nilp,.nils,.inl rfl,by rw [hS,adv_h,aB (by omega),aF],.inl ⟨rfl,rfl,rfl⟩⟩,by rw [hS,adv_h,aB (by omega),aB (by omega),aF],by rw [hS,adv_h,aF],fG,⟨by omega,by simp,by omega,fun h=>by cases h⟩,⟨by omega,by simp,fun h=>by cases h⟩,fun x hx=>?_,fun x hx=>by cases hx⟩;rw [m008.1 hx];exact ⟨by omega,fun h=>by cases h⟩
  refine ⟨_,bRi hL s d a ta hta hlen hps hok.wf ha hF k (s.nx+9) (s.nx+18) (s.nx+22) _ (fun s' hso e hm=>?_) (fun s' FW y hso h=>?_) d.ps.length 0 S [s.nx+18] .nils (by omega) rfl h0⟩
  ·simp only [hlen,beq_self_eq_true,cond_true,hso,cond_false,m000,m001] at hc0;obtain ⟨rfl,rfl⟩:=hc0;exact ⟨rfl,F,hm,e.sub fun x hx=>(by cases hx),fun x hx=>.inl hx,NS.of (e.h p hp (by simp))⟩
  ·exact bQs hT hL s hok d a ta hta hlen ha hF k hd (s.nx+9) (s.nx+18) (s.nx+22) FW y s' h hso hc _ fun s' F' hq=>⟨rfl,F',hq⟩
 ·have hb:(((a.length:Nat):Int) != ((d.ps.length:Nat):Int))=true:=by simp;omega
  have hb2:(a.length==d.ps.length)=false:=by simpa using hlen
  simp only [hb2,cond_false,m000,m001] at hc0;obtain ⟨rfl,rfl⟩:=hc0;simp only [hb,wx,wy,Z0,Z1,reduceCtorEq];exact ⟨rfl,F,kW.same hR fr (e0 _ _ (by omega))⟩
end
end
noncomputable section
section
variable {s s':St} {p ib:Nat} {L:List Dc} {scs:List Ev} {σ:Sg} {F:List Nat} {K:aG} {ps:List UInt8->List Nat×Int} {L0:List Dc} {n j:Nat} {σ':Sg}
theorem MkC.ext {xin:AV} {vs:List (AV×AV)} {jm:Nat} {FB:List Nat} (c:MkC s p ib L scs σ xin vs jm FB) (fr:aI s) (e:EF [] s s'):MkC s' p ib L scs σ xin vs jm FB:=by have hR:pJ s p ib L scs σ (p::jm::(FB++bG xin vs)):=⟨xin,vs,jm,FB,c,rfl⟩;have hlt:=hR.lt fr;have k:∀ x∈p::jm::(FB++bG xin vs),s'.h x=s.h x:=fun x hx=>e.h x (hlt x hx) (by simp);exact ⟨by rw [k p (by simp)];exact c.cell,c.bank.keep fun x hx=>k x (by simp [hx]),by rw [k jm (by simp)];exact c.made,c.inx.keep fun x hx=>k x (by simp [bG,hx]),c.sco.keep fun x hx=>k x (by simp only [m013,m003,bG];exact .inr (.inr (.inr (.inr hx)))),c.ne,c.pb,c.jb,c.ii⟩
theorem KB {xin:AV} {vs:List (AV×AV)} {jm:Nat} {FB:List Nat} {S:St} (c:MkC s p ib L scs σ xin vs jm FB) (fr:aI s) (e:EF [] s S) {B':Bk} (h:yZ S ib FB B' s'):∃ F',kW s p ib L scs (p::jm::(FB++bG xin vs)) (B',σ.2) s' F':=by obtain ⟨F',h1⟩:=kW.bank (c.ext fr e) e.fr h;exact ⟨F',h1.from e (fr.lt c.cell)⟩
theorem bPz:mEv.fz 78=false:=by kernel_rfl
theorem bLk:mEv.fz 77=false:=by kernel_rfl
theorem bRt:mEv.fz 79=false:=by kernel_rfl
theorem bRj:mEv.fz 80=false:=by kernel_rfl
theorem bSr:mEv.fz 81=false:=by kernel_rfl
theorem bKk:mEv.fz 130=false:=by kernel_rfl
theorem bMw:mEv.fz 126=false:=by kernel_rfl
theorem bLb:mEv.fz 176=false:=by kernel_rfl
theorem ef0 (fr:aI s) (k:Nat):EF [] s (Ai.adv s k):=(EF.refl _ fr).adv
theorem bE0 (o:Option Int):aS (aNe o) 0=some (.int .i64 (o.getD 0)):=rfl
theorem bE1 (o:Option Int):aS (aNe o) 1=some (.bool o.isSome):=rfl
theorem aPn {xin:AV} {vs:List (AV×AV)} {jm:Nat} {FB:List Nat} (c:MkC s p ib L scs σ xin vs jm FB) (h:scs.length<=2 ^ 30):vs.length<=2 ^ 30:=by rw [c.sco.len];exact h
theorem bEb (hT:rW ps n) (hL:rN L0) (fr:aI s) (hR:pJ s p ib (L0.take j) scs σ F) (hok:qT ps L0 scs.flatten σ) (hsl:scs.length<=2 ^ 30) (nm:List UInt8) {r:Int×Int} (hc:jQ true (T ps true n) (L0.take j) scs.flatten nm σ=some (r,σ')) :
  ∃ v s',WideC mEv 130 [.ptr p 0,.str nm] s v s'/\v=mE r/\∃ F',kW s p ib (L0.take j) scs F σ' s' F':=by
 obtain ⟨xin,vs,jm,FB,c,rfl⟩:=hR;have hR:pJ s p ib (L0.take j) scs σ (p::jm::(FB++bG xin vs)):=⟨xin,vs,jm,FB,c,rfl⟩;have hLl:(L0.take j).length<=2 ^ 30:=by have:=hL.len;simp only [m020];omega
 refine aMt _ _ _ ?_;unfold f130;unfold jQ at hc;have same:∀ (S:St) (r0:Int×Int),EF [] s S->(some (r0,σ):Rt)=some (r,σ')->(mE r0=mE r/\∃ F',kW s p ib (L0.take j) scs (p::jm::(FB++bG xin vs)) σ' S F'):=fun S r0 e h=>by simp only [m000,m001] at h;obtain ⟨rfl,rfl⟩:=h;exact ⟨rfl,_,kW.same hR fr e⟩
 have bank:∀ (S s':St) (q:(Int×Int)×Bk),EF [] s S->pU q σ.2=some (r,σ')->yZ S ib FB q.2 s'->(mE q.1=mE r/\∃ F',kW s p ib (L0.take j) scs (p::jm::(FB++bG xin vs)) σ' s' F'):=fun S s' q e h hb=>by simp only [pU,m000,m001] at h;obtain ⟨rfl,rfl⟩:=h;exact ⟨rfl,KB c fr e hb⟩
 have wt:∀ b:Bool,(b==false)=!b:=fun b=>by cases b<;>rfl
 by_cases htf:(nm==iV||nm==nE)=true
 ·rw [htf,cond_true] at hc;have go:∀ k:Nat,aL mEv 78 [.ptr ib 0,.bool (nm==iV)] (Ai.adv s k) fun t21 s3=>aA (aS t21 0) fun t22=>aA (aS t21 1) fun t23=>.tup [t22,t23]=mE r/\∃ F',kW s p ib (L0.take j) scs (p::jm::(FB++bG xin vs)) σ' s3 F':=fun k=>by refine (aVe fr.adv (c.bank.adv) (nm==iV)).call bPz fun s3 hs=>?_;simp only [zV,zO,wx,wy,Z0,Z1,reduceCtorEq];exact bank _ _ _ (ef0 fr k) hc hs
  cases h1:(nm==[116,114,117,101]) with
  | true =>simp only [eq9,h1,wx,wy,Z0,Z1,reduceCtorEq];refine ⟨rfl,?_⟩;simp only [c.cell,eq9,h1,wx,wy,Z0,Z1,reduceCtorEq];have:=go 19;rw [show (nm==iV)=true from h1] at this;exact this
  | false =>
   have h2:(nm==[102,97,108,115,101])=true:=by have h1':(nm==iV)=false:=h1;rw [h1',m026] at htf;exact htf
   simp only [eq9,h1,h2,wx,wy,Z0,Z1,reduceCtorEq];refine ⟨rfl,?_⟩;simp only [c.cell,eq9,h1,wx,wy,Z0,Z1,reduceCtorEq];have:=go 19;rw [show (nm==iV)=false from h1] at this;exact this
 ·have htf:(nm==iV||nm==nE)=false:=by simpa using htf
  rw [htf,cond_false] at hc;simp only [LR] at htf;have h1:(nm==[116,114,117,101])=false:=htf.1;have h2:(nm==[102,97,108,115,101])=false:=htf.2;simp only [eq9,h1,h2,wx,wy,Z0,Z1,reduceCtorEq];refine aP (c24 nm) (by simp [AV.closed]) ?_;have hrs:aU nm=((uT RM nm).isSome||(GD nm != 0)||dM [115,116,114,46] nm||dM [114,101,46] nm):=rfl;rw [<- hrs]
  cases h3:aU nm with
  | true =>rw [h3,cond_true] at hc;simp only [wx,wy,Z0,Z1,reduceCtorEq];exact same _ _ (ef0 fr _) hc
  | false =>
  rw [h3,cond_false] at hc;simp only [wx,wy,Z0,Z1,reduceCtorEq];refine (WF (ef0 fr 18).fr nm (aPn c hsl) ⟨_,_,_,_,_,_,c.cell⟩ (c.inx.keep fun _ _=>rfl) (c.sco.keep fun _ _=>rfl)).call bCd fun s5 e5=>?_;have f5:=(ef0 fr 18).nil_trans e5;have c5:=c.ext fr f5
  cases hb:bP scs.flatten nm with
  | some id =>rw [hb] at hc;simp only [bE0,bE1,Option.isSome_some,Option.getD_some,wx,wy,Z0,Z1,reduceCtorEq];exact same _ (id,0) f5.adv hc
  | none =>
  rw [hb] at hc;simp only at hc;simp only [bE0,bE1,Option.isSome_none,Option.getD_none,wx,wy,Z0,Z1,reduceCtorEq];refine (aIf (ef0 f5.fr 5).fr nm (L0.take j) (by omega) ⟨_,_,_,_,_,_,c5.cell⟩).call bAo fun s6 e6=>?_;have f6:=f5.adv.nil_trans e6;have c6:=c.ext fr f6;have hls:∀ u v:Int,bn .lss 3 (.int .i64 u) (.int .i64 v)=some (.bool (decide (u < v))):=fun _ _=>bin_lss
  cases hd:bR (L0.take j) nm with
  | none =>rw [hd] at hc;simp only [aLc,hls,show decide ((-1:Int) < 0)=true from rfl,wx,wy,Z0,Z1,reduceCtorEq];exact same _ (0,100) f6.adv hc
  | some k =>
  rw [hd] at hc;have hkn:decide (((k:Nat):Int) < 0)=false:=by simp
  cases hdk:(L0.take j)[k]? with
  | none=>simp only [hdk] at hc;cases hc
  | some d =>
  simp only [hdk] at hc;have hix:=cJ PG false hdk .i64;simp only [aLc,hls,hkn,wx,wy,Z0,Z1,reduceCtorEq];refine ⟨rfl,?_⟩;simp only [c6.cell,hix,dc2,wx,wy,Z0,Z1,reduceCtorEq]
  cases hm:d.mac with
  | false =>rw [hm,cond_false] at hc;simp only [m027,c6.cell,hix,dc1,wx,wy,Z0,Z1,reduceCtorEq];refine ⟨rfl,rfl,?_⟩;refine GR.callD bLk f6.adv.fr (c.ext fr f6.adv).bank rfl rfl (fun S fS hS=>WU fS hS nm d.so) fun s7 hs=>?_;simp only [zV,zO,wx,wy,Z0,Z1,reduceCtorEq];exact bank _ _ _ f6.adv hc hs
  | true =>
   rw [hm,cond_true] at hc;have hl65:∀ id S,bt .len #[65] [.sl false (d.ps.map lE)] id S=some (.int .i64 d.ps.length,S):=fun id S=>by rw [RF,m002]
   have hg:∀ u v:Int,bn .gtr 3 (.int .i64 u) (.int .i64 v)=some (.bool (decide (u > v))):=fun _ _=>bin_gtr;simp only [m025,wx,wy,Z0,Z1,reduceCtorEq];refine ⟨rfl,?_⟩;simp only [c6.cell,hix,ZE,hl65,hg,wx,wy,Z0,Z1,reduceCtorEq]
   cases hp:(d.ps.length==0) with
   | false =>rw [hp,cond_false] at hc;have:decide (((d.ps.length:Nat):Int) > 0)=true:=decide_eq_true (by have:=beq_eq_false_iff_ne.1 hp;omega);simp only [this,wx,wy,Z0,Z1,reduceCtorEq];exact same _ (0,1) f6.adv hc
   | true =>rw [hp,cond_true] at hc;have:decide (((d.ps.length:Nat):Int) > 0)=false:=decide_eq_false (by have:=beq_iff_eq.1 hp;omega);simp only [this,UJ,wx,wy,Z0,Z1,reduceCtorEq];obtain ⟨v,s7,g1,rfl,F7,g2⟩:=aJt hT hL f6.adv.fr (hR.ext fr f6.adv) hok [] .nils gA (fun i hi=>by cases hi) k hc;refine bQ bBn ⟨_,s7,g1,?_⟩;simp only [zV,zO,wx,wy,Z0,Z1,reduceCtorEq];exact ⟨rfl,F7,g2.from f6.adv (fr.lt c.cell)⟩
end
end
noncomputable section
section
variable {s s':St} {p ib:Nat} {L:List Dc} {scs:List Ev} {σ:Sg} {F:List Nat} {K:aG} {ps:List UInt8->List Nat×Int} {L0:List Dc} {n j:Nat} {σ':Sg}
theorem aUn (e:TypeId) (z b:Nat) (x:AV) (news:List AV) (nid:Nat) (S:St) (h1:news.isEmpty=false) (h2:news.all AV.one=true):bM e z b x news nid S=match x with
  | .nils=>dR e z b news nid S
  | .sl true l=>if l.all (fun v=>v.cells.length==z) then dR e z b (l.flatMap AV.cells++news) nid S else none
  | .ref id off n cap e1=>match S.h id with
   | some (.cells c e' ex true) =>
    if off+n * z<=c.length/\e1=e then
     match cap with
     | some k =>
      if n+news.length / z<=k then
       (if off+n * z+news.length<=c.length then some (.ref id off (n+news.length / z) cap e,S.set id (some (.cells (bZ c (off+n * z) news) e' ex true))) else none)
      else dR e z b ((c.take (off+n * z)).drop off++news) nid S
     | none =>
      if off+n * z+news.length<=c.length then some (.ref id off (n+news.length / z) none e,S.set id (some (.cells (bZ c (off+n * z) news) e' ex true)))
      else if off+n * z=c.length/\off=0/\e'=e then dR e z b (c++news) nid (S.set id none)
      else none
    else none
   | _=>none
  | _=>none:=by
 unfold bM;rw [h1,h2];rfl
theorem aVo {x:AV} {vs:List (AV×AV)} {S:St} (h:JU S x vs) (v:AV×AV) (h1:v.1.one=true) (h2:v.2.one=true) (hn:vs.length<=2 ^ 30) (id:Nat) (hid:S.h id=none):∃ x' S',bt .append #[122,122] [x,.sl true [nW v]] id S=some (x',S')/\JU S' x' (vs++[v])/\S'.nx=S.nx /\
  (∀ y,y≠id->y ∉ aE x->S'.h y=S.h y)/\(∃ k,x'=.ref k 0 (vs.length+1) none 254/\(k=id\/k∈aE x))/\(∀ y,y ∉ aE x->y=id->x'≠.ref id 0 (vs.length+1) none 254->S'.h y=S.h y):=by
 have hall:([v.1,v.2]:List AV).all AV.one=true:=by simp only [List.all_cons,h1,h2,List.all_nil,jH]
 have hsrc:bt .append #[122,122] [x,.sl true [nW v]] id S=bM 254 2 48 x [v.1,v.2] id S:=by rw [pG OY];rfl
 rw [hsrc,aUn _ _ _ _ _ _ _ rfl hall];have hfit:∀ k:Nat,k<=2 ^ 30+1->mL k 48=true:=fun k hk=>sH (by omega) (by omega);rcases h with ⟨rfl,rfl⟩ | rfl | ⟨i,c,rfl,g1,g2,g3,k,g4⟩
 ·have hd1:([v.1,v.2]:List AV).length / 2=1:=by simp
  simp only [dR,hd1,hfit 1 (by omega),if_true,kG];refine ⟨_,_,rfl,.inr (.inr ⟨id,[v.1,v.2],rfl,aF,rfl,bK _,1,rfl⟩),rfl,fun y hy _=>aB hy,⟨id,rfl,.inl rfl⟩,fun y _ _ h=>absurd rfl h⟩
 ·have ha:(vs.map nW).all (fun v=>v.cells.length==2)=true:=m032.2 fun w hw=>by obtain ⟨q,_,rfl⟩:=m021.1 hw;rfl
  have hl:((vs.map nW).flatMap AV.cells++[v.1,v.2]).length=(vs.length+1) * 2:=by rw [m006,MA];simp only [List.length_cons,List.length_nil];omega
  have hd:((vs.map nW).flatMap AV.cells++[v.1,v.2]).length / 2=vs.length+1:=by rw [hl];omega
  simp only [ha,if_true,dR,hd,hfit _ (show vs.length+1<=2 ^ 30+1 by omega),kG];have hf:((vs++[v]).map nW).flatMap AV.cells=(vs.map nW).flatMap AV.cells++[v.1,v.2]:=by simp [nW,AV.cells]
  refine ⟨_,_,rfl,.inr (.inr ⟨id,_,by simp,aF,?_,?_,vs.length+1,hl⟩),rfl,fun y hy _=>aB hy,⟨id,rfl,.inl rfl⟩,fun y _ _ h=>absurd rfl h⟩
  ·rw [hf];exact m014 (by rw [hl];simp)
  ·rw [hl];simp
 ·have hne:i≠id:=fun e=>by rw [e,hid] at g1;cases g1
  have hf:((vs++[v]).map nW).flatMap AV.cells=(vs.map nW).flatMap AV.cells++[v.1,v.2]:=by simp [nW,AV.cells]
  dsimp only;rw [g1];simp only [m023,g3,and_true,if_true];by_cases hroom:vs.length * 2+2<=c.length
  ·have hl2:([v.1,v.2]:List AV).length=2:=rfl;rw [hl2,if_pos hroom];have hset:bZ c (vs.length * 2) [v.1,v.2]=(c.set (vs.length * 2) v.1).set (vs.length * 2+1) v.2:=rfl;refine ⟨_,_,rfl,.inr (.inr ⟨i,_,by simp,aF,?_,?_,k,?_⟩),rfl,fun y _ hy=>aB fun e=>hy (by simp [aE,e]),⟨i,rfl,.inr (by simp [aE])⟩,fun y hy _ _=>aB fun e=>hy (by simp [aE,e])⟩
   ·rw [hset,hf,<- g2];apply List.ext_getElem?;intro q;by_cases hq:q < (vs++[v]).length * 2
    ·rw [List.getElem?_take_of_lt hq];simp only [m006,List.length_singleton] at hq;by_cases q1:q < vs.length * 2
     ·rw [m051 (by simp only [m020];omega),List.getElem?_take_of_lt q1,List.getElem?_set_ne (by omega),List.getElem?_set_ne (by omega)]
     ·rw [List.getElem?_append_right (by simp only [m020];omega)];simp only [m020,rM g3];by_cases q2:q=vs.length * 2
      ·subst q2;rw [List.getElem?_set_ne (by omega),List.getElem?_set_self (by omega),Nat.sub_self];rfl
      ·have:q=vs.length * 2+1:=by omega
       subst this;rw [List.getElem?_set_self (by simp only [List.length_set];omega),show vs.length * 2+1 - vs.length * 2=1 by omega];rfl
    ·rw [List.getElem?_take_eq_none (by omega),List.getElem?_eq_none];simp only [m006,List.length_singleton,m020,List.length_cons,List.length_nil] at hq ⊢;omega
   ·rw [hset];simp only [List.length_set,m006,List.length_singleton];omega
   ·rw [hset];simp only [List.length_set];exact g4
  ·have hceq:vs.length * 2=c.length:=by omega
   have hl2:([v.1,v.2]:List AV).length=2:=rfl;rw [hl2,if_neg hroom,if_pos hceq];have hl:(c++[v.1,v.2]).length=(vs.length+1) * 2:=by rw [m006];simp only [List.length_cons,List.length_nil];omega
   have hd:(c++[v.1,v.2]).length / 2=vs.length+1:=by rw [hl];omega
   simp only [dR,hd,hfit _ (show vs.length+1<=2 ^ 30+1 by omega),if_true,kG];refine ⟨_,_,rfl,.inr (.inr ⟨id,_,by simp,aF,?_,by rw [hl];simp,vs.length+1,hl⟩),rfl,fun y hy hyi=>by rw [aB hy,aB fun e=>hyi (by simp [aE,e])],⟨id,rfl,.inl rfl⟩,fun y _ _ h=>absurd rfl h⟩;rw [hf,<- g2,m014 (by rw [hl];simp),m014 (by omega)]
theorem VN {x:AV} {vs:List (AV×AV)} {v:AV×AV} {S:St} (h:JU S x (vs++[v])) (hsl:∀ l,x≠.sl true l):∃ x',mF 122 x none (some (.int .i64 (vs.length:Int))) none S=some x'/\JU S x' vs/\aE x'=aE x/\(∀ l,x'≠.sl true l):=by
 rcases h with ⟨rfl,h⟩ | rfl | ⟨i,c,rfl,g1,g2,g3,k,g4⟩
 ·exact absurd h (by simp)
 ·exact absurd rfl (hsl _)
 ·simp only [m006,List.length_singleton] at g2 g3 ⊢;refine ⟨.ref i 0 vs.length none 254,DD OY g1 (by omega) (by omega) .i64,.inr (.inr ⟨i,c,rfl,g1,?_,by omega,k,g4⟩),rfl,fun l h=>by cases h⟩;have:=congrArg (List.take (vs.length * 2)) g2;rw [List.take_take,rM (by omega)] at this;rw [this,m038,m056,List.take_append_of_le_length (by rw [MA];omega),m014 (by rw [MA];omega)]
end
end
noncomputable section
theorem aPx (x:Sx):x.av.cells[0]?=some (.bool x.lst):=by cases x;rfl
theorem bEh (x:Sx):x.av.cells[1]?=some (.int .i64 x.kind):=by cases x;rfl
theorem aRo (x:Sx):x.av.cells[2]?=some (.str x.txt):=by cases x;rfl
theorem NW (x:Sx):x.av.cells[5]?=some (.sl false (x.its.map Sx.av)):=by
 cases x with
 | mk l k t p a items=>show some (AV.sl false (Sx.avs items))=_;rw [Sx.avs_eq];rfl
theorem IQ (l:List Sx) (id:Nat) (s:St):bt .len #[31] [.sl false (l.map Sx.av)] id s=some (.int .i64 l.length,s):=by rw [CG,m002]
section
variable {s s':St} {p ib:Nat} {L:List Dc} {scs:List Ev} {σ:Sg} {F:List Nat} {K:aG} {ps:List UInt8->List Nat×Int} {L0:List Dc} {n j:Nat} {σ':Sg}
structure LtR (s0 s:St) (p ib:Nat) (L:List Dc) (scs:List Ev) (σ:Sg) (F:List Nat) (v0:Nat) (y ty:AV) (ns:List (List UInt8)) (ts:List Sx):Prop where
 mr:pJ s p ib L scs σ F
 ef:EF [] s0 s
 vh:s.h v0=some (.cells [y,.nils] 254 true true)
 gy:Gw 9 1 0 s y (ns.map mD)
 gt:Gw 33 6 0 s ty (ts.map Sx.av)
 vn:s0.nx<=v0/\v0 ∉ aE y/\v0 ∉ aE ty
 yn:∀ x∈aE y,s0.nx<=x/\x ∉ aE ty
 tn:∀ x∈aE ty,s0.nx<=x
theorem LtR.ext {s0:St} {v0:Nat} {y ty:AV} {ns:List (List UInt8)} {ts:List Sx} (h:LtR s0 s p ib L scs σ F v0 y ty ns ts) (e:EF [] s s'):LtR s0 s' p ib L scs σ F v0 y ty ns ts:=by have fr:=h.ef.fr;exact ⟨h.mr.ext fr e,h.ef.nil_trans e,by rw [e.h v0 (fr.lt h.vh) (by simp)];exact h.vh,h.gy.keep fun x hx=>e.h x (fr.lt (h.gy.has x hx)) (by simp),h.gt.keep fun x hx=>e.h x (fr.lt (h.gt.has x hx)) (by simp),h.vn,h.yn,h.tn⟩
theorem bRd (s0:St) (its:List Sx) (hits:its.length<=2 ^ 20) (hF:∀ x∈F,x < s0.nx) (v0:Nat) (rx:AV) (Q:aG)
  (hQ1:∀ s',cD its=none->EF [] s0 s'->pJ s' p ib L scs σ F->Q (mE (0,1)) s')
  (hQ2:∀ s' y ty ns ts,cD its=some (ns,ts)->LtR s0 s' p ib L scs σ F v0 y ty ns ts->tK Q (.ptr v0 0) ty (.ptr p 0) rx s') :
  ∀ (m i:Nat) (s:St) (y ty:AV) (ns:List (List UInt8)) (ts:List Sx),i+m=its.length->ns.length<=i->ts.length<=i->cD its=(cD (its.drop i)).map (fun q=>(ns++q.1,ts++q.2))->LtR s0 s p ib L scs σ F v0 y ty ns ts ->
   qD Q (m+1) (.ptr p 0) rx (.ptr v0 0) ty (.sl false (its.map Sx.av)) (.int .i64 its.length) (.int .i64 i) s:=by
 intro m
 induction m with
 | zero =>
  intro i s y ty ns ts hi hns hts hp h;show vB Q (qD Q 0) _ _ _ _ _ _ _ s;have c1:decide ((i:Int) < (its.length:Int))=false:=by simp;omega
  rw [m037 (by omega)] at hp;simp only [cD,Option.map_some,m011] at hp;simp only [vB,c1,wx,wy,Z0,Z1,reduceCtorEq];exact hQ2 _ y ty ns ts hp (h.ext (ef0 h.ef.fr 1))
 | succ m ih =>
  intro i s y ty ns ts hi hns hts hp h;show vB Q (qD Q (m+1)) _ _ _ _ _ _ _ s;have c1:decide ((i:Int) < (its.length:Int))=true:=by simp;omega
  obtain ⟨q,hq⟩:∃ q,its[i]?=some q:=⟨_,m004 (by omega)⟩;rw [cE its i q hq] at hp;have fr:=h.ef.fr;have hix:=cJ rL false hq .i64;have w1:=jG (i:=i) (n:=its.length) (by omega) (by omega);have hC6:((AV.agg [.bool false,.int .i64 0,.str [],.int .i64 0,.int .i64 0,.nils]).cells).length=6:=rfl;have e0:∀ (k:Nat),3 < k->EF [] s (Ai.adv (s.set (s.nx+3) (some (.cells q.av.cells 33 true true))) k):=fun k hk=>⟨by simp only [adv_nx,set_nx];omega,fun b hb _=>by rw [adv_h,aB (by omega)],cA fr k (by omega)⟩;have hne3:∀ u v:Int,bn .neq 3 (.int .i64 u) (.int .i64 v)=some (.bool (u != v)):=fun _ _=>bin_neq;have bad:cD (q::its.drop (i+1))=none->cD its=none:=fun hb=>by rw [hp,hb];rfl
  have fin:∀ k,3 < k->cD (q::its.drop (i+1))=none->Q (mE (0,1)) (Ai.adv (s.set (s.nx+3) (some (.cells q.av.cells 33 true true))) k):=fun k hk hb=>hQ1 _ (bad hb) (h.ef.nil_trans (e0 k hk)) (h.mr.ext fr (e0 k hk));simp only [vB,c1,hix,dI,aUg,PC q _ hC6,aPx,wx,wy,Z0,Z1,reduceCtorEq]
  cases hl:q.lst with
  | false =>simp only [m027,wx,wy,Z0,Z1,reduceCtorEq];exact fin _ (by omega) (by unfold cD;simp only [hl])
  | true =>
   simp only [m025,NW,IQ,hne3,wx,wy,Z0,Z1,reduceCtorEq];by_cases h2:q.its.length=2
   ·obtain ⟨x,z,hxz⟩:∃ x z,q.its=[x,z]:=by
     match hh:q.its,h2 with
     | [x,z],_=>exact ⟨x,z,rfl⟩
    have hn2:(((q.its.length:Nat):Int) != 2)=false:=by simp [h2]
    have ix0:cQ 6 (.sl false (q.its.map Sx.av)) (.int .i64 0)=some (.pel x.av.cells 0):=cJ rL false (l:=q.its) (i:=0) (a:=x) (by rw [hxz];rfl) .i64;have ix1:cQ 6 (.sl false (q.its.map Sx.av)) (.int .i64 1)=some (.pel z.av.cells 0):=cJ rL false (l:=q.its) (i:=1) (a:=z) (by rw [hxz];rfl) .i64;simp only [hn2,NW,ix0,aPx,wx,wy,Z0,Z1,reduceCtorEq]
    cases hxl:x.lst with
    | true =>simp only [wx,wy,Z0,Z1,reduceCtorEq];exact fin _ (by omega) (by unfold cD;simp only [hl,hxz,Sx.isN,hxl,m025,m035,cond_false])
    | false =>
     simp only [NW,ix0,bEh,hne3,wx,wy,Z0,Z1,reduceCtorEq]
     cases hk:(x.kind==3) with
     | false =>
      have:(x.kind != 3)=true:=by simp only [bne,hk];rfl
      simp only [this,wx,wy,Z0,Z1,reduceCtorEq];exact fin _ (by omega) (by unfold cD;simp only [hl,hxz,Sx.isN,hxl,hk,m027,m071,cond_false])
     | true =>
      have hk2:(x.kind != 3)=false:=by simp only [bne,hk];rfl
      have hpq:cD its=(cD (its.drop (i+1))).map (fun q=>((ns++[x.txt])++q.1,(ts++[z])++q.2)):=by
       rw [hp]
       have:cD (q::its.drop (i+1))=(cD (its.drop (i+1))).map fun w=>(x.txt::w.1,z::w.2):=by
        conv=>lhs;unfold cD
        simp only [hl,hxz,Sx.isN,hxl,hk,m027,jH,cond_true]
       rw [this,Option.map_map];congr 1;funext w;simp
      have hv0:=fr.lt h.vh;have hvn3:¬ (v0=s.nx+3):=by omega
      have bs52:kM 52 1 [(0,.str x.txt)]=some (.sl true [mD x.txt]):=dX FN (by decide) rfl rfl;have bs31:kM 31 1 [(0,z.av)]=some (.sl true [z.av]):=dX zB (by decide) (iC z) (cH z);have h1:=h.ext (e0 40 (by omega));have hgy:∀ k,Gw 9 1 0 (Ai.adv (s.set (s.nx+3) (some (.cells q.av.cells 33 true true))) k) y (ns.map mD):=fun k=>h.gy.keep fun a ha=>by rw [adv_h,aB (by have:=fr.lt (h.gy.has a ha);omega)]
      have hap1:=fun k id=>gM FN tC (hgy k) (a:=x.txt) (by omega) (by omega) true id;simp only [hk2,h.vh,hvn3,NW,ix0,aRo,bs52,hap1,if_false,wx,wy,Z0,Z1,reduceCtorEq];have hyl:∀ a∈aE y,a < s.nx:=fun a ha=>fr.lt (h.gy.has a ha);have htl:∀ a∈aE ty,a < s.nx:=fun a ha=>fr.lt (h.gt.has a ha);have hs0:=h.ef.nx;refine ⟨fr _ (by omega),?_,?_⟩
      ·split
       ·rfl
       ·exact fr _ (by omega)
      obtain ⟨C,hC⟩:∃ C,C=(some (gU.cells (((ns++[x.txt]).map mD).flatMap AV.cells) 9 false true):Option gU):=⟨_,rfl⟩;rw [<- hC];rw [eB (c:=[y,.nils]) (by rw [adv_h,get_set,if_neg (by omega),get_drop',if_neg h.vn.2.1,get_set,if_neg hvn3];exact h.vh) (by simp) rfl rfl];simp only [List.set_cons_zero,Bnd_some];obtain ⟨S,hS⟩:∃ S,S=(Ai.adv (((s.set (s.nx+3) (some (.cells q.av.cells 33 true true))).drop (aE y)).set (s.nx+39) C) 42).set v0 (some (.cells [.ref (s.nx+39) 0 (ns.length+1) none 9,.nils] 254 true true)):=⟨_,rfl⟩;rw [<- hS];have nS:S.nx=s.nx+42:=by rw [hS];simp only [set_nx,adv_nx,nx_drop]
      have gS:∀ a,a≠v0->a≠s.nx+39->a ∉ aE y->a≠s.nx+3->S.h a=s.h a:=fun a a1 a2 a3 a4=>by rw [hS,get_set,if_neg a1,adv_h,get_set,if_neg a2,get_drop',if_neg a3,get_set,if_neg a4]
      have g3:S.h (s.nx+3)=some (.cells q.av.cells 33 true true):=by rw [hS,get_set,if_neg (by omega),adv_h,get_set,if_neg (by omega),get_drop',if_neg (fun hh=>by have:=hyl _ hh;omega),aF]
      have g39:S.h (s.nx+39)=C:=by rw [hS,get_set,if_neg (by omega),adv_h,aF]
      have gv:S.h v0=some (.cells [.ref (s.nx+39) 0 (ns.length+1) none 9,.nils] 254 true true):=by rw [hS,aF]
      have fS:aI S:=fun a ha=>by
       rw [nS] at ha;rw [hS,get_set,if_neg (by omega),adv_h,get_set,if_neg (by omega),get_drop']
       split
       ·rfl
       ·rw [get_set,if_neg (by omega)];exact fr a (by omega)
      have hgt:Gw 33 6 0 S ty (ts.map Sx.av):=h.gt.keep fun a ha=>gS a (fun e=>h.vn.2.2 (by rw [<- e];exact ha)) (by have:=htl a ha;omega) (fun hh=>(h.yn a hh).2 ha) (by have:=htl a ha;omega);have hap2:=gM zB rL (hgt.adv (n:=8)) (a:=z) (by omega) (by omega) true (S.nx+6);simp only [g3,NW,ix1,dI,bs31,hap2,SB,w1,wx,wy,Z0,Z1,reduceCtorEq];have hold:∀ a,a < s0.nx->a≠v0/\a≠s.nx+39/\a ∉ aE y/\a≠s.nx+3/\a ∉ aE ty/\a≠S.nx+6:=fun a ha=>⟨fun e=>by have:=h.vn.1;omega,by omega,fun e=>by have:=(h.yn a e).1;omega,by omega,fun e=>by have:=h.tn a e;omega,by omega⟩;obtain ⟨D,hD⟩:∃ D,D=(some (gU.cells (((ts++[z]).map Sx.av).flatMap AV.cells) 33 false true):Option gU):=⟨_,rfl⟩;rw [<- hD];have gT:∀ a k,a ∉ aE ty->a≠S.nx+6->(Ai.adv ((S.drop (aE ty)).set (S.nx+6) D) k).h a=S.h a:=fun a k a1 a2=>by rw [adv_h,get_set,if_neg a2,get_drop',if_neg a1]
      refine ih (i+1) _ (.ref (s.nx+39) 0 (ns.length+1) none 9) (.ref (S.nx+6) 0 (ts.length+1) none 33) (ns++[x.txt]) (ts++[z]) (by omega) (by simp only [m006,List.length_singleton];omega) (by simp only [m006,List.length_singleton];omega) hpq ?_;refine ⟨h.mr.keep fun a ha=>?_,⟨?_,fun a ha _=>?_,fun a ha=>?_⟩,?_,?_,?_,⟨h.vn.1,by simp only [aE,m008];omega,by simp only [aE,m008];omega⟩,fun a ha=>?_,fun a ha=>?_⟩
      ·obtain ⟨a1,a2,a3,a4,a5,a6⟩:=hold a (hF a ha);rw [gT a _ a5 a6,gS a a1 a2 a3 a4]
      ·simp only [adv_nx,set_nx,nx_drop];omega
      ·obtain ⟨a1,a2,a3,a4,a5,a6⟩:=hold a ha;rw [gT a _ a5 a6,gS a a1 a2 a3 a4];exact h.ef.h a ha (by simp)
      ·simp only [adv_nx,set_nx,nx_drop] at ha;rw [adv_h,get_set,if_neg (by omega),get_drop']
       split
       ·rfl
       ·exact fS a (by omega)
      ·rw [gT v0 _ h.vn.2.2 (by omega)];exact gv
      ·have:=jL (l:=ns) (a:=x.txt) tC (e:=9) (id:=s.nx+39) (n:=0) (s0:=s);exact this.keep fun a ha=>by simp only [aE,m008] at ha;subst ha;rw [gT _ _ (fun hh=>by have:=htl _ hh;omega) (by omega),g39,adv_h,aF,hC]
      ·have:=jL (l:=ts) (a:=z) rL (e:=33) (id:=S.nx+6) (n:=0) (s0:=S);exact this.keep fun a ha=>by simp only [aE,m008] at ha;subst ha;rw [adv_h,aF,adv_h,aF,hD]
      ·simp only [aE,m008] at ha ⊢;omega
      ·simp only [aE,m008] at ha;omega
   ·have hn2:(((q.its.length:Nat):Int) != 2)=true:=by simp;omega
    simp only [hn2,wx,wy,Z0,Z1,reduceCtorEq];refine fin _ (by omega) ?_;unfold cD;simp only [hl]
    split
    ·rename_i x z h3 h4;rw [h4] at h2;simp at h2
    ·rfl
end
end
noncomputable section
section
variable {s s':St} {p ib:Nat} {L:List Dc} {scs:List Ev} {σ:Sg} {F:List Nat} {K:aG} {ps:List UInt8->List Nat×Int} {L0:List Dc} {n j:Nat} {σ':Sg}
theorem JU.ty {x:AV} {vs:List (AV×AV)} (h:JU s x vs):∀ j∈aE x,∃ c,s.h j=some (.cells c 254 false true):=by
 rcases h with ⟨rfl,_⟩ | rfl | ⟨id,c,rfl,h1,h2⟩
 ·intro j hj;cases hj
 ·intro j hj;cases hj
 ·intro j hj;simp only [aE,m008] at hj;subst hj;exact ⟨_,h1⟩
theorem kA.ty:∀ {vs:List (AV×AV)} {scs:List Ev},kA s vs scs->∀ j∈vs.flatMap (fun v=>aE v.1++aE v.2),∃ c e,s.h j=some (.cells c e false true)/\e≠254:=by
 intro vs
 induction vs with
 | nil=>intro scs _ j h;simp at h
 | cons w vs ih =>
  intro scs h j hj
  cases scs with
  | nil=>exact h.elim
  | cons sc scs =>
   simp only [m024,m003] at hj;rcases hj with hj | hj
   ·rcases hj with hj | hj
    ·exact ⟨_,9,h.1.1.has j hj,by decide⟩
    ·rcases h.1.2.1 with (g | ⟨g,_⟩) | g
     ·rw [g] at hj;cases hj
     ·rw [g] at hj;cases hj
     ·exact ⟨_,3,g.has j hj,by decide⟩
   ·exact ih h.2 j hj
theorem kA.snoc {v:AV×AV} {sc:Ev} (hv:ScR s v sc):∀ {vs:List (AV×AV)} {scs:List Ev},kA s vs scs->kA s (vs++[v]) (scs++[sc]):=by
 intro vs
 induction vs with
 | nil=>intro scs h;cases scs with
  | nil=>exact ⟨hv,trivial⟩
  | cons a b=>exact h.elim
 | cons w vs ih =>
  intro scs h
  cases scs with
  | nil=>exact h.elim
  | cons sc scs=>exact ⟨h.1,ih h.2⟩
theorem kA.pop {v:AV×AV} {sc:Ev}:∀ {vs:List (AV×AV)} {scs:List Ev},kA s (vs++[v]) (scs++[sc])->kA s vs scs:=by
 intro vs
 induction vs with
 | nil =>
  intro scs h
  cases scs with
  | nil=>trivial
  | cons a b=>cases b<;>exact h.2.elim
 | cons w vs ih =>
  intro scs h
  cases scs with
  | nil =>have:=h.2;cases vs<;>exact this.elim
  | cons sc scs=>exact ⟨h.1,ih h.2⟩
theorem kA.split {sc:Ev} {vs:List (AV×AV)} (h:kA s vs (scs++[sc])):∃ ws w,vs=ws++[w]/\kA s ws scs:=by
 have hlen:=h.len;simp only [m006,List.length_singleton] at hlen
 obtain ⟨ws,w,rfl⟩:∃ ws w,vs=ws++[w]:=by
  rcases m061 vs with rfl | ⟨ws,w,rfl⟩
  ·simp at hlen
  ·exact ⟨ws,w,by simp⟩
 exact ⟨ws,w,rfl,h.pop⟩
theorem bQe (hT:rW ps n) (hL:rN L0) (s0:St) (fr0:aI s0) (hR0:pJ s0 p ib (L0.take j) scs σ F) (hok:qT ps L0 scs.flatten σ) (h z:Sx) (hh:h.lst=true) (hz:z.fit) (hw:scs.length+1+h.wt+z.wt<=2 ^ 30) (hhf:h.fit) (v0:Nat) (y ty:AV) (ns:List (List UInt8)) (ts:List Sx) (hp:cD h.its=some (ns,ts))
  (hns:ns.length=ts.length) (hnl:ns.length<=2 ^ 20) (s:St) (hl:LtR s0 s p ib (L0.take j) scs σ F v0 y ty ns ts) {r:Int×Int} (hc:lT (T ps true n) (L0.take j) scs.flatten [h,z] σ=some (r,σ')) (Q:aG) (hQ:∀ s' F',kW s0 p ib (L0.take j) scs F σ' s' F'->Q (mE r) s') :
  tK Q (.ptr v0 0) ty (.ptr p 0) (.sl false ([h,z].map Sx.av)) s:=by
 have fr:=hl.ef.fr;have hF:∀ a∈F,a < s0.nx:=hR0.lt fr0;have hpp:=hF p hR0.pin;have hs0:=hl.ef.nx;unfold lT at hc;simp only [hh,cond_true,hp] at hc;have same:∀ (S:St) (r0:Int×Int),EF [] s S->(some (r0,σ):Rt)=some (r,σ')->Q (mE r0) S:=fun S r0 e h=>by simp only [m000,m001] at h;obtain ⟨rfl,rfl⟩:=h;exact hQ S F (kW.same hR0 fr0 (hl.ef.nil_trans e))
 unfold tK;simp only [hl.vh,wx,wy,Z0,Z1,reduceCtorEq];refine (bNv (ef0 fr 3).fr hl.gy.adv (by omega)).call aYq fun s1 e1=>?_;have f1:=(ef0 fr 3).nil_trans e1;have l1:=hl.ext f1
 cases h1:ns.any aU with
 | true =>rw [h1,cond_true] at hc;simp only [wx,wy,Z0,Z1,reduceCtorEq];exact same _ (0,101) f1.adv hc
 | false =>
 rw [h1,cond_false] at hc;simp only [l1.vh,wx,wy,Z0,Z1,reduceCtorEq];obtain ⟨ids,p1,p2⟩:=rV FN (l1.gy.adv (n:=3)) (fun _ _=>rfl) (fun _ _=>rfl) 11;have hpl:dN (pur mEv.P (Ai.adv s1 3) 12) [y]=some ([.sl false (ns.map mD)],ids):=by simp only [dN,p1,m011]
 refine BJ hpl (bMs ns (by omega)) rfl ?_
 cases h2:dbl ns with
 | true =>rw [h2,cond_true] at hc;simp only [wx,wy,Z0,Z1,reduceCtorEq];exact same _ (0,4) f1.adv hc
 | false =>
 rw [h2,cond_false] at hc;simp only [m028] at hc;obtain ⟨⟨q,σ1⟩,hev,hc⟩:=hc;simp only [wx,wy,Z0,Z1,reduceCtorEq];have f2:EF [] s (Ai.adv s1 14):=f1.adv;have l2:=hl.ext f2;have htlt:∀ a∈aE ty,a < (Ai.adv s1 14).nx:=fun a ha=>f2.fr.lt (l2.gt.has a ha);have hylt:∀ a∈aE y,a < (Ai.adv s1 14).nx:=fun a ha=>f2.fr.lt (l2.gy.has a ha);have hvlt:=f2.fr.lt l2.vh;have nF:∀ a,s0.nx<=a->a ∉ F:=fun a ha hm=>by have:=hF a hm;omega
 have hts:∀ t∈ts,t.fit/\t.wt < h.wt:=fun t ht=>by obtain ⟨q,q1,q2⟩:=HZ hp t ht;have a1:=FY q1;have a2:=FY q2;exact ⟨(wW ((wW hhf).2 q q1)).2 t q2,by omega⟩
 obtain ⟨hok1,hext,hin,hne⟩:=FH (by have:=hL.len;omega) hok hev;refine aNh hT hL (by omega) (fun t ht=>(hts t ht).1) (fun t ht=>by have:=(hts t ht).2;omega) f2.fr l2.mr hok (.inr l2.gt) (fun a ha=>⟨htlt a ha,nF a (hl.tn a ha)⟩) hev fun s3 F3 k3=>?_;have k3':=k3.from (hl.ef.nil_trans f2) hpp;obtain ⟨⟨xin,vs,jm,FB,c,hF3⟩,e3,m3,ns3⟩:=k3;have n3:=e3.nx
 have nF3:∀ a,s0.nx<=a->a < (Ai.adv s1 14).nx->a ∉ F3:=fun a ha hb hm=>by
  rcases m3 a hm with h | h
  ·exact nF a ha h
  ·omega
 have hv3:s3.h v0=some (.cells [y,.nils] 254 true true):=by rw [e3.h v0 hvlt (nF v0 hl.vn.1)];exact l2.vh
 have hy3:Gw 9 1 0 s3 y (ns.map mD):=l2.gy.keep fun a ha=>e3.h a (hylt a ha) (nF a (hl.yn a ha).1);have x0:aS (.tup [.sl false (q.1.map dE),.int .i64 q.2]) 0=some (.sl false (q.1.map dE)):=rfl;have x1:aS (.tup [.sl false (q.1.map dE),.int .i64 q.2]) 1=some (.int .i64 q.2):=rfl;have hne34:∀ u v:Int,bn .neq 34 (.int .i64 u) (.int .i64 v)=some (.bool (u != v)):=fun _ _=>bin_neq;simp only [x0,x1,wx,wy,Z0,Z1,reduceCtorEq];rw [eB (c:=[y,.nils]) hv3 (by simp) rfl rfl];simp only [List.set_cons_succ,List.set_cons_zero,Bnd_some];have hv3n:=e3.fr.lt hv3;obtain ⟨S4,hS4⟩:∃ S4,S4=s3.set v0 (some (.cells [y,.sl false (q.1.map dE)] 254 true true)):=⟨_,rfl⟩;have hF3lt:∀ a∈F3,a < s3.nx:=fun a ha=>k3'.1.lt e3.fr a ha;have hv0F3:v0 ∉ F3:=nF3 v0 hl.vn.1 hvlt;have g4:∀ a,a≠v0->S4.h a=s3.h a:=fun a ha=>by rw [hS4,aB ha]
 have f4:aI S4:=by rw [hS4];exact e3.fr.set hv3n
 have n4:S4.nx=s3.nx:=by rw [hS4,set_nx]
 have k4:kW s0 p ib (L0.take j) scs F σ1 S4 F3:=by obtain ⟨a1,a2,a3,a4⟩:=k3';refine ⟨a1.keep fun a ha=>g4 a fun e=>hv0F3 (by rw [<- e];exact ha),?_,a3,a4.trans (NS.of (g4 p fun e=>hv0F3 (by rw [<- e];exact a1.pin)))⟩;rw [hS4];exact a2.set hv3n (.inl hl.vn.1)
 rw [<- hS4]
 cases hq0:(q.2==0) with
 | false =>
  rw [hq0,cond_false] at hc;simp only [m000,m001] at hc;obtain ⟨rfl,rfl⟩:=hc;have:(q.2 != 0)=true:=by simp only [bne,hq0];rfl
  simp only [hne34,this,wx,wy,Z0,Z1,reduceCtorEq];exact hQ _ F3 k4.adv
 | true =>
 rw [hq0,cond_true] at hc;have hq1:(q.2 != 0)=false:=by simp only [bne,hq0];rfl
 have hq00:q.2=0:=by simpa using hq0
 obtain ⟨hql,hqin⟩:=hin hq00;have c4:MkC S4 p ib (L0.take j) scs σ1 xin vs jm FB:=by have kk:∀ a∈F3,S4.h a=s3.h a:=fun a ha=>g4 a fun e=>hv0F3 (by rw [<- e];exact ha);rw [hF3] at kk;exact ⟨by rw [kk p (by simp)];exact c.cell,c.bank.keep fun x hx=>kk x (by simp [hx]),by rw [kk jm (by simp)];exact c.made,c.inx.keep fun x hx=>kk x (by simp [bG,hx]),c.sco.keep fun x hx=>kk x (by simp only [m013,m003,bG];exact .inr (.inr (.inr (.inr hx)))),c.ne,c.pb,c.jb,c.ii⟩
 have hvs:vs.length<=2 ^ 30:=aPn c4 (by omega);have hyone:y.one=true:=by obtain ⟨_,⟨rfl,_⟩ | ⟨_,_,rfl,_⟩⟩:=hl.gy<;>rfl
 have hv4:S4.h v0=some (.cells [y,.sl false (q.1.map dE)] 254 true true):=by rw [hS4,aF]
 have hpart:Ai.part 2 true 0 [y,.sl false (q.1.map dE)]=some (nW (y,.sl false (q.1.map dE))):=rfl
 have hb122:kM 122 1 [(0,nW (y,.sl false (q.1.map dE)))]=some (.sl true [nW (y,.sl false (q.1.map dE))]):=dX OY (by decide) rfl (by
  show ([y,.sl false (q.1.map dE)]:List AV).all AV.one=true
  simp only [List.all_cons,hyone,List.all_nil,m059];rfl)
 simp only [hne34,hq1,wx,wy,Z0,Z1,reduceCtorEq];refine ⟨rfl,?_⟩;simp only [c4.cell,hv4,hpart,hb122,wx,wy,Z0,Z1,reduceCtorEq];refine ⟨f4 _ (by omega),?_⟩;obtain ⟨x',S5,a1,a2,a3,a4,⟨k,a5,a6⟩,a7⟩:=aVo (S:=Ai.adv S4 13) (c4.inx.keep fun _ _=>rfl) (y,.sl false (q.1.map dE)) hyone rfl hvs (S4.nx+9) (f4 _ (by show S4.nx<=S4.nx+9;omega));rw [a1];simp only [wx,wy,Z0,Z1,reduceCtorEq];refine ⟨rfl,?_⟩;have a3:S5.nx=S4.nx+13:=a3;have hxlt:∀ a∈aE xin,a < S4.nx:=fun a ha=>by obtain ⟨b,hb⟩:=c4.inx.has a ha;exact f4.lt hb
 have f5:aI S5:=fun a ha=>by rw [a3] at ha;rw [a4 a (by omega) (fun hh=>by have:=hxlt a hh;omega)];exact f4 a (by omega)
 have hpx:p ∉ aE xin:=fun hh=>(c4.ii p (by simp [bG,hh])).1 rfl;have hp4:p < S4.nx:=f4.lt c4.cell;have hcell5:S5.h p=some (.cells [.ptr ib 0,.sl false ((L0.take j).map Dc.av),xin,.map jm] 124 true true):=by rw [a4 p (by omega) hpx];exact c4.cell
 refine ⟨by rw [a4 _ (by omega) (fun hh=>by have:=hxlt _ hh;omega)];exact f4 _ (by show S4.nx<=S4.nx+12;omega),?_⟩;rw [eB (c:=[.ptr ib 0,.sl false ((L0.take j).map Dc.av),xin,.map jm]) hcell5 (by simp) (by rw [a5];rfl) (by rw [a5];rfl)];have ix1:cQ 6 (.sl false ([h,z].map Sx.av)) (.int .i64 1)=some (.pel z.av.cells 0):=cJ rL false (l:=[h,z]) (i:=1) (a:=z) rfl .i64;simp only [List.set_cons_succ,List.set_cons_zero,ix1,dI,wx,wy,Z0,Z1,reduceCtorEq];obtain ⟨S6,hS6⟩:∃ S6,S6=Ai.adv (S5.set p (some (.cells [.ptr ib 0,.sl false ((L0.take j).map Dc.av),x',.map jm] 124 true true))) 10:=⟨_,rfl⟩;rw [<- hS6];have n6:S6.nx=S4.nx+23:=by rw [hS6];show S5.nx+10=_;omega
 have f6:aI S6:=by rw [hS6];exact cA f5 10 (by omega)
 have g6:∀ a,a≠p->S6.h a=S5.h a:=fun a ha=>by rw [hS6,adv_h,aB ha]
 have g56:∀ a,a≠p->a≠S4.nx+9->a ∉ aE xin->S6.h a=S4.h a:=fun a h1 h2 h3=>by rw [g6 a h1,a4 a h2 h3];rfl
 have hyF3:∀ a∈aE y,a ∉ F3:=fun a ha=>nF3 a (hl.yn a ha).1 (hylt a ha);have hy4:Gw 9 1 0 S4 y (ns.map mD):=hy3.keep fun a ha=>g4 a fun e=>hl.vn.2.1 (by rw [<- e];exact ha);have hy4lt:∀ a∈aE y,a < S4.nx:=fun a ha=>f4.lt (hy4.has a ha);have nmx:∀ a,(∃ c e,S4.h a=some (.cells c e false true)/\e≠254)->a ∉ aE xin:=fun a h hx=>by obtain ⟨c1,e1,h1,hne⟩:=h;obtain ⟨c2,h2⟩:=c4.inx.ty a hx;rw [h1] at h2;simp only [m000,gU.cells.injEq] at h2;exact absurd h2.2.1 hne
 have zipl:(List.zip ns q.1).map (·.1)=ns:=List.map_fst_zip (by omega);have zipr:(List.zip ns q.1).map (·.2)=q.1:=List.map_snd_zip (by omega);have hyFB:∀ a∈aE y,a≠p/\a≠jm/\a ∉ FB:=fun a ha=>by have:=hyF3 a ha;rw [hF3] at this;simp only [m013,m003,not_or] at this;exact ⟨this.1,this.2.1,this.2.2.1⟩
 have hoth:∀ a,a < S4.nx->a≠p->a ∉ aE xin->S6.h a=S4.h a:=fun a h1 h2 h3=>g56 a h2 (by omega) h3;have hFBx:∀ a∈FB,a ∉ aE xin:=fun a ha hx=>(c4.ii a (by simp [bG,hx])).2.2 ha;have hjx:jm ∉ aE xin:=fun hx=>(c4.ii jm (by simp [bG,hx])).2.1 rfl;have hFB4:∀ a∈FB,a < S4.nx:=fun a ha=>c4.bank.lt f4 a ha;have hjm4:jm < S4.nx:=f4.lt c4.made;have hnm4:∀ a∈vs.flatMap (fun v=>aE v.1++aE v.2),a < S4.nx:=fun a ha=>by obtain ⟨b,hb⟩:=c4.sco.has a ha;exact f4.lt hb
 have hkp:k≠p:=by
  rcases a6 with rfl | a6
  ·omega
  ·exact fun e=>hpx (by rw [<- e];exact a6)
 have hidx':aE x'=[k]:=by rw [a5];rfl
 have hmk6:MkC S6 p ib (L0.take j) (scs++[List.zip ns q.1]) σ1 x' (vs++[(y,.sl false (q.1.map dE))]) jm FB:=by
  refine ⟨by rw [hS6,adv_h,aF],c4.bank.keep fun a ha=>hoth a (hFB4 a ha) (fun e=>c4.pb (by rw [<- e];exact ha)) (hFBx a ha),by rw [hoth jm hjm4 c4.ne.symm hjx];exact c4.made,a2.keep fun a ha=>?_,kA.snoc ⟨?_,?_,?_⟩ (c4.sco.keep fun a ha=>?_),c4.ne,c4.pb,c4.jb,fun a ha=>?_⟩
  ·rw [hidx',m008] at ha;exact g6 a (by rw [ha];exact hkp)
  ·rw [zipl];exact hy4.keep fun a ha=>hoth a (hy4lt a ha) (hyFB a ha).1 (nmx a ⟨_,9,hy4.has a ha,by decide⟩)
  ·rw [zipr];exact .inl (.inl rfl)
  ·simp only [List.length_zip];omega
  ·exact hoth a (hnm4 a ha) (c4.ii a (by simp only [bG,m003];exact .inr ha)).1 (nmx a (c4.sco.ty a ha))
  ·simp only [bG,jU,hidx',List.singleton_append,m056,m024,m042,m011,m013,m003] at ha;rcases ha with rfl | ha | ha
   ·rcases a6 with rfl | a6
    ·exact ⟨by omega,by omega,fun hm=>by have:=hFB4 _ hm;omega⟩
    ·exact c4.ii a (by simp [bG,a6])
   ·exact c4.ii a (by simp only [bG,m003];exact .inr ha)
   ·exact hyFB a ha
 have henv:(scs++[List.zip ns q.1]).flatten=scs.flatten++List.zip ns q.1:=by simp
 have hok6:qT ps L0 (scs++[List.zip ns q.1]).flatten σ1:=by
  refine ⟨hok1.wf,?_,hok1.mv⟩;rw [henv];intro a ha;rcases m003.1 ha with ha | ha
  ·exact hok1.env a ha
  ·exact kB ns q.1 hqin a ha
 obtain ⟨v,s7,t1,rfl,F7,t2⟩:=hT S6 p ib L0 j (scs++[List.zip ns q.1]) σ1 _ z r σ' f6 ⟨_,_,jm,FB,hmk6,rfl⟩ hok6 hL hz (by simp only [m006,List.length_singleton];omega) (by rw [henv];exact hc);refine bQ bDo ⟨_,s7,t1,?_⟩;obtain ⟨⟨xin7,vs7,jm7,FB7,c7,hF7⟩,e7,m7,ns7⟩:=t2;obtain ⟨vs8,w8,rfl,sco8⟩:=c7.sco.split;have n7:=e7.nx;have hns6:GM S6 p=none:=by simp only [GM,hmk6.cell,a5]
 have hns7:GM s7 p=none:=by
  rcases ns7 with h | h
  ·exact h
  ·rw [h];exact hns6
 have hnsl:∀ l,xin7≠.sl true l:=fun l e=>by rw [GM,c7.cell,e] at hns7;simp only [reduceCtorEq] at hns7
 obtain ⟨x8,b1,b2,b3,b4⟩:=VN c7.inx hnsl;have hlen8:bt .len #[122] [xin7] (s7.nx+9) (Ai.adv s7 15)=some (.int .i64 ((vs8.length+1:Nat):Int),Ai.adv s7 15):=by have:=c7.inx.len (s7.nx+9) 15;rw [m006,List.length_singleton] at this;exact this
 have hvs8:vs8.length<=2 ^ 30:=by have:=sco8.len;omega
 have w8':IntKind.i64.wrap (((vs8.length+1:Nat):Int) - 1)=(vs8.length:Int):=by rw [IntWalk.i64_in _ (by omega)];omega
 have b1':mF 122 xin7 none (some (.int .i64 (vs8.length:Int))) none (Ai.adv s7 15)=some x8:=by
  obtain ⟨x9,d1,_⟩:=VN (S:=Ai.adv s7 15) (c7.inx.keep fun _ _=>rfl) hnsl;rcases c7.inx with ⟨h,_⟩ | h | ⟨i,cc,h,g1,_⟩
  ·subst h;rw [<- b1];rfl
  ·exact absurd h (hnsl _)
  ·subst h;have:mF 122 (.ref i 0 (vs8++[w8]).length none 254) none (some (.int .i64 (vs8.length:Int))) none (Ai.adv s7 15)=mF 122 (.ref i 0 (vs8++[w8]).length none 254) none (some (.int .i64 (vs8.length:Int))) none s7:=rfl;rw [this,b1]
 simp only [zV,zO,wx,wy,Z0,Z1,reduceCtorEq];refine ⟨rfl,?_⟩;simp only [c7.cell,wx,wy,Z0,Z1,reduceCtorEq];refine ⟨rfl,?_⟩;simp only [c7.cell,hlen8,w8',b1',wx,wy,Z0,Z1,reduceCtorEq];refine ⟨rfl,e7.fr _ (by omega),?_⟩;have hx8:x8.cells=[x8]/\x8.one=true:=by rcases b2 with ⟨rfl,_⟩ | rfl | ⟨_,_,rfl,_⟩<;>exact ⟨rfl,rfl⟩
 rw [eB (c:=[.ptr ib 0,.sl false ((L0.take j).map Dc.av),xin7,.map jm7]) (by rw [adv_h];exact c7.cell) (by simp) hx8.1 hx8.2];simp only [List.set_cons_succ,List.set_cons_zero,wx,wy,Z0,Z1,reduceCtorEq];have hp7:p < s7.nx:=e7.fr.lt c7.cell
 have hF6sub:∀ a∈p::jm::(FB++bG x' (vs++[(y,.sl false (q.1.map dE))])),a∈F\/s0.nx<=a:=fun a ha=>by
  have of3:a∈F3->a∈F\/s0.nx<=a:=fun hm=>k4.2.2.1 a hm;simp only [bG,jU,hidx',List.singleton_append,m056,m024,m042,m011,m013,m003] at ha;rcases ha with rfl | rfl | ha | rfl | ha | ha
  ·exact of3 (by rw [hF3];simp)
  ·exact of3 (by rw [hF3];simp)
  ·exact of3 (by rw [hF3];simp [ha])
  ·rcases a6 with rfl | a6
   ·have:=k4.2.1.nx;exact .inr (by omega)
   ·exact of3 (by rw [hF3];simp [bG,a6])
  ·exact of3 (by rw [hF3];simp only [m013,m003,bG];exact .inr (.inr (.inr (.inr ha))))
  ·exact .inr (hl.yn a ha).1
 have hnx6:s0.nx<=S6.nx:=by have:=k4.2.1.nx;omega
 have hF7sub:∀ a∈F7,a∈F\/s0.nx<=a:=fun a ha=>by
  rcases m7 a ha with h | h
  ·exact hF6sub a h
  ·exact .inr (by omega)
 have e46:EF F s0 S6:=by
  refine ⟨hnx6,fun a ha hn=>?_,f6⟩
  have h1:a ∉ F3:=fun hm=>by
   rcases k4.2.2.1 a hm with h | h
   ·exact hn h
   ·omega
  rw [hF3] at h1;simp only [m013,m003,bG,not_or] at h1;have h2:=k4.2.1.nx;rw [hoth a (by omega) h1.1 h1.2.2.2.1];exact k4.2.1.h a ha hn
 refine hQ _ (p::jm7::(FB7++bG x8 vs8)) ⟨⟨x8,vs8,jm7,FB7,⟨by rw [adv_h,aF],c7.bank.keep fun a ha=>?_,by rw [adv_h,aB c7.ne.symm];exact c7.made,b2.keep fun a ha=>?_,sco8.keep fun a ha=>?_,c7.ne,c7.pb,c7.jb,fun a ha=>?_⟩,rfl⟩,?_,fun a ha=>?_,.inl ?_⟩
 ·rw [adv_h,aB fun e=>c7.pb (by rw [<- e];exact ha)]
 ·rw [b3] at ha;rw [adv_h,aB (c7.ii a (by simp [bG,ha])).1]
 ·rw [adv_h,aB (c7.ii a (by simp only [bG,m056,m003];exact .inr (.inl ha))).1]
 ·refine c7.ii a ?_;simp only [bG,m003,b3,m056] at ha ⊢;rcases ha with ha | ha
  ·exact .inl ha
  ·exact .inr (.inl ha)
 ·exact ((e46.trans e7 fun a ha=>(hF6sub a ha).symm).set hp7 (.inr hR0.pin)).adv
 ·refine hF7sub a ?_;rw [hF7];simp only [bG,m013,m003,b3,m056] at ha ⊢;rcases ha with ha | ha | ha | ha | ha
  ·exact .inl ha
  ·exact .inr (.inl ha)
  ·exact .inr (.inr (.inl ha))
  ·exact .inr (.inr (.inr (.inl ha)))
  ·exact .inr (.inr (.inr (.inr (.inl ha))))
 ·simp only [GM,adv_h,aF];rcases b2 with ⟨h,_⟩ | h | ⟨_,_,h,_⟩
  ·rw [h]
  ·exact absurd h (b4 _)
  ·rw [h]
end
end
end Go.Proofs.YtdehdahimkcakaaGreatDoor
