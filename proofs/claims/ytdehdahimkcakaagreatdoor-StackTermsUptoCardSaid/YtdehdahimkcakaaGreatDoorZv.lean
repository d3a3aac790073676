/- Texts joined by wip/tools/pack.py: Ua,Ub,Uc,Ku,Kp,Kv,Rd,Bk,Rk. -/
import Derived.Test.YtdehdahimkcakaaGreatDoorZu
open Nat renaming reduceAdd→Z0, reduceEqDiff→Z1
set_option linter.unusedSimpArgs false
set_option linter.unusedVariables false
set_option maxHeartbeats 4000000
set_option maxRecDepth 100000
namespace Go.Proofs.YtdehdahimkcakaaGreatDoor
open Go Ai
noncomputable section
structure Ab:Type where
 so:Int
 lit:Bool
 num:Bool
def zA:Ab:=⟨0,false,false⟩
abbrev RA:=Option (Ab×Int)
abbrev EA:=List (List UInt8×Ab)
def sY (op so:Int) (a:List Ab):Ab:=⟨so,op==4,op==4||(op==14&&match a with
 | i::_=>i.lit
 | []=>false)⟩
def cW (B:Bk) (i:Int):Ab:=⟨jO B i,UM B i==4,gI B i⟩
def uO:EA->List UInt8->Option Ab
 | [],_=>none
 | p::l,nm=>match uO l nm with
  | some i=>some i
  | none=>bif p.1==nm then some p.2 else none
def lW (x:wE):Nat->Int->List Ab->Int
 | _,last,[]=>bif x.own==-1 then last else x.own
 | i,last,b::a =>
  let want:=bif x.sort i==-1 then last else x.sort i
  bif want != -2&&want != b.so then 0 else lW x (i+1) b.so a
def EW:List Ab->Nat
 | []=>0
 | b::a=>(bif b.num then 0 else 1)+EW a
def KY (op:Int) (a:List Ab):Ab×Int :=
 bif decide (op < 0) then (zA,101) else
 match gK[op.toNat]? with
 | none=>(zA,101)
 | some x=>bif x.parts==0 then (zA,101) else
  bif decide ((a.length:Int) < x.parts)||((decide ((a.length:Int) > x.parts)&&!x.more)||decide ((a.length:Int) > 200)) then (zA,1) else
  bif lW x 0 0 a==0 then (zA,90) else
  bif op==17&&!decide (EW a<=1) then (zA,101) else (sY op (lW x 0 0 a) a,0)
def KS:List (List UInt8×Int)->List Ab->Bool
 | p::ps,i::a=>i.so==p.2&&KS ps a
 | _,_=>true
def SG (nm:List UInt8) (so:Int):RA:=bif decide (so < 1)||(decide (so > 3)||decide ((nm.length:Int) > 16384)) then some (zA,1) else some (sY 1 so [],0)
section
variable (ps:List UInt8->List Nat×Int) (f:List Dc->EA->Sx->RA)
def qE (L:List Dc) (env:EA):List Sx->Option (List Ab×Int)
 | []=>some ([],0)
 | x::l=>(f L env x).bind fun r=>bif r.2==0 then (qE L env l).map fun q=>(bif q.2==0 then r.1::q.1 else [],q.2) else some ([],r.2)
def tB (L:List Dc) (k:Nat) (a:List Ab):RA :=
 match L[k]? with
 | none=>none
 | some d=>bif a.length==d.ps.length then (bif KS d.ps a then f (L.take k) (List.zip (d.ps.map (·.1)) a) d.body else some (zA,90)) else some (zA,1)
def HI (L:List Dc) (env:EA) (nm:List UInt8):RA :=
 bif nm==iV||nm==nE then some (sY 2 1 [],0) else
 bif aU nm then some (zA,101) else
 match uO env nm with
 | some b=>some (b,0)
 | none=>match bR L nm with
  | none=>some (zA,100)
  | some k=>match L[k]? with
   | none=>none
   | some d=>bif d.mac then (bif d.ps.length==0 then tB f L k [] else some (zA,1)) else SG nm d.so
def aBu (L:List Dc) (env:EA) (rest:List Sx):RA :=
 match rest with
 | [h,y]=>bif h.lst then
   match cD h.its with
   | none=>some (zA,1)
   | some (ns,ts)=>bif ns.any aU then some (zA,101) else bif dbl ns then some (zA,4) else
    (qE f L env ts).bind fun r=>bif r.2==0 then f L (env++List.zip ns r.1) y else some (zA,r.2)
  else some (zA,1)
 | _=>some (zA,1)
def ZK (L:List Dc) (env:EA) (l:List Sx):RA :=
 match l with
 | []=>some (zA,1)
 | h::rest=>bif !h.isN then some (zA,101) else
  bif h.txt==KT then aBu f L env rest else
  bif bW h.txt rest.length==0&&aU h.txt then some (zA,101) else
  bif bW h.txt rest.length==0 then
   match uO env h.txt,bR L h.txt with
   | none,some k=>match L[k]? with
    | none=>none
    | some d=>bif d.mac then (qE f L env rest).bind fun r=>bif r.2==0 then tB f L k r.1 else some (zA,r.2)
     else some (zA,100)
   | _,_=>some (zA,100)
  else (qE f L env rest).bind fun r=>bif r.2==0 then some (KY (bW h.txt rest.length) r.1) else some (zA,r.2)
def OJ (L:List Dc) (env:EA) (x:Sx):RA :=
 bif x.lst then ZK f L env x.its else
 bif x.kind==4 then (bif (ps x.txt).2 != 0 then some (zA,101) else bif decide (CV false (ps x.txt).1 < 0) then some (zA,1) else some (sY 4 2 [],0)) else
 bif x.kind==6 then (bif LC (lG (FG x.txt) []).1 then some (sY 5 3 [],0) else some (zA,1)) else
 bif x.kind==3 then HI f L env x.txt else some (zA,101)
end
def TA (ps:List UInt8->List Nat×Int):Nat->List Dc->EA->Sx->RA
 | 0=>fun _ _ _=>none
 | n+1=>OJ ps (TA ps n)
def oC (B:Bk):Prop:=∀ n∈B,(0<=n.op/\n.op < 2 ^ 60)/\0<=n.so/\n.so < 2 ^ 60
theorem PI:oC []:=fun _ h=>by cases h
theorem JL:∀ {x x' y y':List UInt8},(∀ c∈x,eM c=true)->(∀ c∈x',eM c=true)->(∀ c∈y.head?,eM c=false)->(∀ c∈y'.head?,eM c=false)->x++y=x'++y'->x=x'/\y=y':=by
 intro x
 induction x with
 | nil =>
  intro x' y y' _ h' hy _ e
  cases x' with
  | nil=>exact ⟨rfl,e⟩
  | cons d x' =>have e:y=d::(x'++y'):=e;have h1:=hy d (by rw [e];rfl);rw [h' d (m007 ..)] at h1;cases h1
 | cons d x ih =>
  intro x' y y' h h' hy hy' e
  cases x' with
  | nil =>have e:d::(x++y)=y':=e;have h1:=hy' d (by rw [<- e];rfl);rw [h d (m007 ..)] at h1;cases h1
  | cons d' x' =>simp only [List.cons_append,m057] at e;obtain ⟨a,b⟩:=ih (fun c hc=>h c (m005 _ hc)) (fun c hc=>h' c (m005 _ hc)) hy hy' e.2;exact ⟨by rw [e.1,a],b⟩
def aT (a:List Int):List UInt8:=a.flatMap fun i=>32::cB i
theorem AO (a:List Int) (R:List UInt8):∀ c∈(aT a++35::R).head?,eM c=false:=by
 intro c hc
 cases a with
 | nil=>cases hc;rfl
 | cons i a=>cases hc;rfl
theorem bDu:∀ {a a':List Int} {R R':List UInt8},(∀ i∈a,0<=i/\i < 2 ^ 60)->(∀ i∈a',0<=i/\i < 2 ^ 60)->aT a++35::R=aT a'++35::R'->a=a':=by
 intro a
 induction a with
 | nil =>
  intro a' R R' _ _ e
  cases a' with
  | nil=>rfl
  | cons i a'=>simp [aT] at e
 | cons i a ih =>
  intro a' R R' h h' e
  cases a' with
  | nil=>simp [aT] at e
  | cons j a' =>
   have e:cB i++(aT a++35::R)=cB j++(aT a'++35::R'):=by simpa [aT] using e
   have hi:=h i (m007 ..);have hj:=h' j (m007 ..);obtain ⟨e1,e2⟩:=JL (iO hi.1) (iO hj.1) (AO a R) (AO a' R') e;rw [qB hi.1 hi.2 hj.1 hj.2 e1,ih (fun c hc=>h c (m005 _ hc)) (fun c hc=>h' c (m005 _ hc)) e2]
theorem aGf (n:Nd):∃ R,iB n=cB n.op++58::(cB n.so++(aT n.a++35::R)):=⟨DO n.num++(n.str.flatMap (fun r=>32::cB r.1++42::cB r.2)++61::n.nm),by simp [iB,aT]⟩
theorem aXj {n m:Nd} (no:0<=n.op/\n.op < 2 ^ 60) (mo:0<=m.op/\m.op < 2 ^ 60) (ns:0<=n.so/\n.so < 2 ^ 60) (ms:0<=m.so/\m.so < 2 ^ 60) (na:∀ i∈n.a,0<=i/\i < 2 ^ 60) (ma:∀ i∈m.a,0<=i/\i < 2 ^ 60) (e:iB n=iB m):n.op=m.op/\n.so=m.so/\n.a=m.a:=by obtain ⟨R,hR⟩:=aGf n;obtain ⟨R',hR'⟩:=aGf m;rw [hR,hR'] at e;obtain ⟨e1,e2⟩:=ND (JV (iO no.1) rfl) (JV (iO mo.1) rfl) e;obtain ⟨e3,e4⟩:=JL (iO ns.1) (iO ms.1) (AO n.a R) (AO m.a R') e2;exact ⟨qB no.1 no.2 mo.1 mo.2 e1,qB ns.1 ns.2 ms.1 ms.2 e3,bDu na ma e4⟩
theorem aCx {k:List UInt8}:∀ {B:Bk} {i:Nat},gQ k B=some i->∃ m,B[i]?=some m/\k=iB m:=by
 intro B
 induction B with
 | nil=>intro i h;cases h
 | cons m B ih =>
  intro i h;simp only [gQ] at h
  cases hk:(k==iB m) with
  | true=>rw [hk] at h;cases h;exact ⟨m,rfl,by simpa using hk⟩
  | false =>rw [hk] at h;simp only [cond_false,m022] at h;obtain ⟨j,hj,rfl⟩:=h;exact ih hj
theorem WG {B:Bk} {i:Int} {m:Nd} (h:mA B i=some m):cW B i=sY m.op m.so (m.a.map (cW B)):=by simp only [cW,sY,jO,UM,gI,h];cases m.a<;>rfl
theorem KE {B B':Bk} {i:Int} (hw:Wf B) (h:eZ B i) (e:xJ B B'):cW B' i=cW B i:=by obtain ⟨E,rfl⟩:=e;simp only [cW,vA h,QQ h,zK hw h]
theorem aVg {B B':Bk} {a:List Int} (hw:Wf B) (h:∀ i∈a,eZ B i) (e:xJ B B'):a.map (cW B')=a.map (cW B):=List.map_congr_left fun i hi=>KE hw (h i hi) e
def sT (B:Bk) (env:Ev):EA:=env.map fun p=>(p.1,cW B p.2)
theorem PQ {B B':Bk} {env:Ev} (hw:Wf B) (h:∀ p∈env,eZ B p.2) (e:xJ B B'):sT B' env=sT B env:=List.map_congr_left fun p hp=>by rw [KE hw (h p hp) e]
theorem MU (B:Bk):∀ (ns:List (List UInt8)) (a:List Int),sT B (List.zip ns a)=List.zip ns (a.map (cW B)):=by
 intro ns
 induction ns with
 | nil=>intro a;rfl
 | cons n ns ih=>intro a;cases a with
  | nil=>rfl
  | cons i a=>exact congrArg _ (ih a)
theorem BR (B:Bk) (nm:List UInt8):∀ env:Ev,uO (sT B env) nm=(bP env nm).map (cW B):=by
 intro env
 induction env with
 | nil=>rfl
 | cons p l ih =>
  show (match uO (sT B l) nm with | some i=>some i | none=>bif p.1==nm then some (cW B p.2) else none)=_
  rw [ih];simp only [bP]
  cases bP l nm with
  | some i=>rfl
  | none=>cases p.1==nm<;>rfl
theorem IR (B:Bk) (x:wE):∀ (a:List Int) (i:Nat) (last:Int),dL B x i last a=lW x i last (a.map (cW B)):=by
 intro a
 induction a with
 | nil=>intro i last;rfl
 | cons id a ih=>intro i last;simp only [dL,m039,lW,ih];rfl
theorem aEy (B:Bk):∀ a:List Int,gD B a=EW (a.map (cW B)):=by
 intro a
 induction a with
 | nil=>rfl
 | cons id a ih=>simp only [gD,m039,EW,ih];rfl
theorem RU (B:Bk):∀ (ps:List (List UInt8×Int)) (a:List Int),eG B ps a=KS ps (a.map (cW B)):=by
 intro ps
 induction ps with
 | nil=>intro a;rfl
 | cons p ps ih=>intro a;cases a with
  | nil=>rfl
  | cons i a=>simp only [eG,m039,KS,ih];rfl
theorem bLt {B:Bk} (hk:oC B) (i:Int):0<=jO B i/\jO B i < 2 ^ 60:=by
 unfold jO
 cases h:mA B i with
 | none=>exact ⟨by decide,by decide⟩
 | some n=>exact (hk n (pZ h)).2
theorem aWi {B:Bk} (hk:oC B) (x:wE) (hx:x.own=-1\/(0<=x.own/\x.own < 2 ^ 60)):∀ (a:List Int) (i:Nat) (last:Int),(0<=last/\last < 2 ^ 60)->0<=dL B x i last a/\dL B x i last a < 2 ^ 60:=by
 intro a
 induction a with
 | nil =>
  intro i last hl;simp only [dL]
  cases h:(x.own==-1) with
  | true=>exact hl
  | false =>
   have:x.own≠-1:=by simpa using h
   rcases hx with hx | hx
   ·exact absurd hx this
   ·exact hx
 | cons id a ih =>
  intro i last hl;simp only [dL]
  cases (bif x.sort i==-1 then last else x.sort i) != -2&&(bif x.sort i==-1 then last else x.sort i) != jO B id with
  | true=>exact ⟨Int.le_refl 0,(by decide:(0:Int) < 2 ^ 60)⟩
  | false=>exact ih _ _ (bLt hk id)
def bPw (B':Bk) (r:Int×Int) (v:RA):Prop:=r.2=2\/∃ a,v=some (a,r.2)/\(r.2=0->cW B' r.1=a)
def bQp (B':Bk) (r:List Int×Int) (v:Option (List Ab×Int)):Prop:=r.2=2\/∃ a,v=some (a,r.2)/\(r.2=0->r.1.map (cW B')=a)
def WS (c:Sg->Rt) (B:Bk) (v:RA):Prop:=∀ r B' M',c (B,[])=some (r,(B',M'))->oC B'/\bPw B' r v
def AbL (c:Sg->Option ((List Int×Int)×Sg)) (B:Bk) (v:Option (List Ab×Int)):Prop:=∀ r B' M',c (B,[])=some (r,(B',M'))->oC B'/\bQp B' r v
theorem dK {B:Bk} (hk:oC B) (a:Ab) (e:Int) (he:e≠0):WS (fun σ=>some ((0,e),σ)) B (some (a,e)):=fun r B' M' h=>by simp only [m000,m001] at h;obtain ⟨rfl,rfl,_⟩:=h;exact ⟨hk,.inr ⟨a,rfl,fun h=>absurd h he⟩⟩
theorem EH {B:Bk} {v:RA}:WS (fun _=>none) B v:=fun r B' M' h=>by cases h
theorem WX {B:Bk} {n:Nd} (hw:Wf B) (hk:oC B) (ho:0<=n.op/\n.op < 2 ^ 60) (hs:0<=n.so/\n.so < 2 ^ 60) (ha:∀ i∈n.a,eZ B i):WS (fun σ=>pU (fY σ.1 n) σ.2) B (some (sY n.op n.so (n.a.map (cW B)),0)):=by
 intro r B' M' h;simp only [pU,m000,m001] at h;obtain ⟨rfl,rfl,_⟩:=h;rcases oL B n with ⟨i,h1,h2⟩ | ⟨h1,h2,h3⟩ | ⟨h1,h2,h3⟩
 ·rw [h2];obtain ⟨m,e1,e2⟩:=aCx h1;have hm:=m017 e1;obtain ⟨k1,k2,k3⟩:=aXj ho (hk m hm).1 hs (hk m hm).2 (wY hw ha) (wY hw (hw.2 m hm).1) e2;refine ⟨hk,.inr ⟨_,rfl,fun _=>?_⟩⟩;have hg:mA B (i:Int)=some m:=by simp only [mA,show ¬ ((i:Int) < 0) by omega,decide_false,cond_false,Int.toNat_natCast];exact e1
  rw [k1,k2,k3];exact WG hg
 ·rw [h3];exact ⟨hk,.inl rfl⟩
 ·rw [h3];refine ⟨fun m hm=>?_,.inr ⟨_,rfl,fun _=>?_⟩⟩
  ·rcases m003.1 hm with hm | hm
   ·exact hk m hm
   ·simp only [m008] at hm;subst hm;exact ⟨ho,hs⟩
  ·have hg:mA (B++[n]) (B.length:Int)=some n:=by simp only [mA,show ¬ ((B.length:Int) < 0) by omega,decide_false,cond_false,Int.toNat_natCast];simp
   rw [WG hg];exact congrArg _ (aVg hw ha ⟨[n],rfl⟩)
theorem aNu:∀ x∈gK,x.own=-1\/(0<=x.own/\x.own < 2 ^ 60):=by decide
theorem aRe {op:Int} {x:wE} (h0:decide (op < 0)=false) (h:gK[op.toNat]?=some x):0<=op/\op < 2 ^ 60:=by obtain ⟨h1,_⟩:=m012.1 h;have h2:gK.length=31:=rfl;have h3:¬ (op < 0):=of_decide_eq_false h0;omega
theorem aUq {B:Bk} (hw:Wf B) (hk:oC B) (op:Int) (a:List Int) (ha:∀ i∈a,eZ B i):WS (fun σ=>pU (jN σ.1 op a) σ.2) B (some (KY op (a.map (cW B)))):=by
 have er:∀ e:Int,e≠0->jN B op a=((0,e),B)->KY op (a.map (cW B))=(zA,e)->WS (fun σ=>pU (jN σ.1 op a) σ.2) B (some (KY op (a.map (cW B)))):=fun e he h1 h2 r B' M' h=>by simp only [pU,h1,m000,m001] at h;obtain ⟨rfl,rfl,_⟩:=h;exact ⟨hk,.inr ⟨zA,by rw [h2],fun h=>absurd h he⟩⟩
 have hb:=KJ.2 ha
 have e1:jN B op a=bif decide (op < 0) then ((0,101),B) else
   match gK[op.toNat]? with
   | none=>((0,101),B)
   | some x=>bif x.parts==0 then ((0,101),B) else
    bif decide ((a.length:Int) < x.parts)||((decide ((a.length:Int) > x.parts)&&!x.more)||decide ((a.length:Int) > 200)) then ((0,1),B) else
    bif lW x 0 0 (a.map (cW B))==0 then ((0,90),B) else
    bif op==17&&!decide (EW (a.map (cW B))<=1) then ((0,101),B) else fY B ⟨op,lW x 0 0 (a.map (cW B)),a,[],false,[],[]⟩:=by
  unfold jN;simp only [hb,Bool.or_false,IR,aEy];rfl
 have e2:KY op (a.map (cW B))=bif decide (op < 0) then ((zA,101):Ab×Int) else
   match gK[op.toNat]? with
   | none=>(zA,101)
   | some x=>bif x.parts==0 then (zA,101) else
    bif decide ((a.length:Int) < x.parts)||((decide ((a.length:Int) > x.parts)&&!x.more)||decide ((a.length:Int) > 200)) then (zA,1) else
    bif lW x 0 0 (a.map (cW B))==0 then (zA,90) else
    bif op==17&&!decide (EW (a.map (cW B))<=1) then (zA,101) else (sY op (lW x 0 0 (a.map (cW B))) (a.map (cW B)),0):=by
  unfold KY;simp only [m002]
 cases h0:decide (op < 0) with
 | true=>rw [h0] at e1 e2;exact er 101 (by decide) e1 e2
 | false =>
 rw [h0] at e1 e2
 cases h1:gK[op.toNat]? with
 | none=>rw [h1] at e1 e2;exact er 101 (by decide) e1 e2
 | some x =>
 rw [h1] at e1 e2;simp only [cond_false] at e1 e2
 cases h2:(x.parts==0) with
 | true=>rw [h2] at e1 e2;exact er 101 (by decide) e1 e2
 | false =>
 rw [h2] at e1 e2;simp only [cond_false] at e1 e2
 cases h3:(decide ((a.length:Int) < x.parts)||((decide ((a.length:Int) > x.parts)&&!x.more)||decide ((a.length:Int) > 200))) with
 | true=>rw [h3] at e1 e2;exact er 1 (by decide) e1 e2
 | false =>
 rw [h3] at e1 e2;simp only [cond_false] at e1 e2
 cases h4:(lW x 0 0 (a.map (cW B))==0) with
 | true=>rw [h4] at e1 e2;exact er 90 (by decide) e1 e2
 | false =>
 rw [h4] at e1 e2;simp only [cond_false] at e1 e2
 cases h5:(op==17&&!decide (EW (a.map (cW B))<=1)) with
 | true=>rw [h5] at e1 e2;exact er 101 (by decide) e1 e2
 | false =>
 rw [h5] at e1 e2;simp only [cond_false] at e1 e2;have hs:=aWi hk x (aNu x (m017 h1)) a 0 0 ⟨by decide,by decide⟩;rw [IR] at hs;have key:=WX (n:=⟨op,lW x 0 0 (a.map (cW B)),a,[],false,[],[]⟩) hw hk (aRe h0 h1) hs ha;intro r B' M' h;have h:pU (jN B op a) []=some (r,(B',M')):=h;rw [e1] at h;rw [e2];exact key r B' M' h
end
noncomputable section
section
variable (ps:List UInt8->List Nat×Int) {f:List Dc->Ev->Sx->Sg->Rt} {g:List Dc->EA->Sx->RA}
def FA (f:List Dc->Ev->Sx->Sg->Rt) (g:List Dc->EA->Sx->RA):Prop:=∀ L env x B,Wf B->oC B->(∀ p∈env,eZ B p.2)->WS (f L env x) B (g L (sT B env) x)
variable {ps}
theorem EY {c:Sg->Option ((List Int×Int)×Sg)} {k:List Int×Int->Sg->Rt} {B:Bk} {v:Option (List Ab×Int)} {w:List Ab->RA} {m:Nat} (hw:Wf B) (hc:Stb okL (PL m) (fun r=>r.1=[]) c B) (ha:AbL c B v)
  (hk:∀ is B1,xJ B B1->Wf B1->oC B1->(∀ i∈is,eZ B1 i)->WS (k (is,0)) B1 (w (is.map (cW B1)))):WS (PF c okL k (fun r=>(0,r.2))) B (v.bind fun q=>bif q.2==0 then w q.1 else some (zA,q.2)):=by
 intro r B' M' h;unfold PF at h
 cases h1:c (B,[]) with
 | none=>rw [h1] at h;cases h
 | some q =>
  obtain ⟨⟨is,e⟩,B1,M1⟩:=q;obtain ⟨k1,r1⟩:=ha _ _ _ h1;obtain ⟨rfl,e1,w1,o1,_⟩:=hc _ _ _ _ h1;rw [h1] at h;simp only [Option.bind_some] at h
  cases he:(e==0) with
  | true =>
   have e0:e=0:=by simpa using he
   subst e0;simp only [okL,he,cond_true] at h;rcases r1 with r1 | ⟨bs,rfl,r2⟩
   ·exact absurd (show (0:Int)=2 from r1) (by decide)
   ·have r2:=r2 rfl;subst r2;exact hk is B1 e1 w1 k1 (o1 rfl).1.2 _ _ _ h
  | false =>
   have e0:e≠0:=by simpa using he
   simp only [okL,he,cond_false,m000,m001] at h;obtain ⟨rfl,rfl,_⟩:=h;refine ⟨k1,?_⟩;rcases r1 with r1 | ⟨bs,rfl,r2⟩
   ·exact .inl r1
   ·exact .inr ⟨zA,by simp only [Option.bind_some,he,cond_false],fun h=>absurd h e0⟩
theorem DR (hs:nJ f) (hf:FA f g) (L:List Dc) (env:Ev):∀ (l:List Sx) (B:Bk),Wf B->oC B->(∀ p∈env,eZ B p.2)->AbL (dS f L env l) B (qE g L (sT B env) l):=by
 intro l
 induction l with
 | nil =>intro B hw hk he r B' M' h;simp only [dS,m000,m001] at h;obtain ⟨rfl,rfl,_⟩:=h;exact ⟨hk,.inr ⟨[],rfl,fun _=>rfl⟩⟩
 | cons x l ih =>
  intro B hw hk he r B' M' h;simp only [dS] at h
  cases h1:f L env x (B,[]) with
  | none=>rw [h1] at h;cases h
  | some q =>
   obtain ⟨⟨i,e⟩,B1,M1⟩:=q;obtain ⟨k1,r1⟩:=hf L env x B hw hk he _ _ _ h1;obtain ⟨rfl,e1,w1,o1,_⟩:=hs L env x B hw he _ _ _ _ h1;rw [h1] at h;simp only [Option.bind_some] at h
   cases hz:(e==0) with
   | false =>
    simp only [hz,cond_false,m000,m001] at h;obtain ⟨rfl,rfl,_⟩:=h;refine ⟨k1,?_⟩;rcases r1 with r1 | ⟨a,ha,r2⟩
    ·exact .inl r1
    ·have ha:g L (sT B env) x=some (a,e):=ha;refine .inr ⟨[],by simp only [qE,ha,Option.bind_some,hz,cond_false],fun h=>?_⟩;rfl
   | true =>
    have e0:e=0:=by simpa using hz
    subst e0;simp only [hz,cond_true,m022] at h;obtain ⟨⟨⟨is,e⟩,B2,M2⟩,h2,h3⟩:=h;simp only [m001] at h3;obtain ⟨rfl,rfl,_⟩:=h3;rcases r1 with r1 | ⟨a,ha,r2⟩
    ·exact absurd (show (0:Int)=2 from r1) (by decide)
    have ha:g L (sT B env) x=some (a,0):=ha;have r2:cW B1 i=a:=r2 rfl;subst r2;have he1:∀ p∈env,eZ B1 p.2:=fun p hp=>(he p hp).ext e1;obtain ⟨k2,s1⟩:=ih B1 w1 k1 he1 _ _ _ h2;obtain ⟨_,e2,w2,_,_⟩:=iI hs L env l B1 w1 he1 _ _ _ _ h2;rw [PQ hw he e1] at s1;refine ⟨k2,?_⟩;rcases s1 with s1 | ⟨bs,hv,s2⟩
    ·exact .inl s1
    ·have hv:qE g L (sT B env) l=some (bs,e):=hv;refine .inr ⟨bif e==0 then cW B1 i::bs else [],by simp only [qE,ha,Option.bind_some,hz,cond_true,hv,Option.map_some],fun h=>?_⟩;have h:e=0:=h;subst h;have s2:is.map (cW B2)=bs:=s2 rfl;show (bif (0:Int)==0 then i::is else []).map (cW B2)=_;simp only [hz,cond_true,m039,s2];have hi:eZ B1 i:=(o1 rfl).1;rw [KE w1 hi e2]
theorem PH (hf:FA f g) (L:List Dc) (k:Nat) (a:List Int) (B:Bk) (hw:Wf B) (hk:oC B) (ha:∀ i∈a,eZ B i):WS (fP false f L k a) B (tB g L k (a.map (cW B))):=by
 intro r B' M' h;unfold fP at h;unfold tB
 cases hd:L[k]? with
 | none=>rw [hd] at h;cases h
 | some d =>
  rw [hd] at h;simp only [m002,<- RU] at h ⊢
  cases hl:a.length==d.ps.length with
  | false=>rw [hl] at h;exact dK hk _ 1 (by decide) _ _ _ h
  | true =>
   simp only [hl,cond_true] at h ⊢
   cases hs:eG B d.ps a with
   | false=>rw [hs] at h;exact dK hk _ 90 (by decide) _ _ _ h
   | true =>simp only [hs,cond_true,cond_false,m022,m035,m001] at h ⊢;obtain ⟨⟨q,B2,M2⟩,h1,rfl,rfl,_⟩:=h;have:=hf (L.take k) _ d.body B hw hk (kB _ a ha) _ _ _ h1;rw [MU] at this;exact this
theorem qV {B:Bk} (hw:Wf B) (hk:oC B) (op so:Int) (ho:0<=op/\op < 2 ^ 60) (hs:0<=so/\so < 2 ^ 60) (nm:List UInt8) (neg:Bool) (num:List Nat) (str:List (Int×Int)):WS (fun σ=>pU (fY σ.1 ⟨op,so,[],nm,neg,num,str⟩) σ.2) B (some (sY op so [],0)) :=
 WX (n:=⟨op,so,[],nm,neg,num,str⟩) hw hk ho hs fun i hi=>by cases hi
theorem aDy {B:Bk} (hw:Wf B) (hk:oC B) (nm:List UInt8) (so:Int):WS (fun σ=>pU (lJ σ.1 nm so) σ.2) B (SG nm so):=by
 unfold lJ SG
 cases h:(decide (so < 1)||(decide (so > 3)||decide ((nm.length:Int) > 16384))) with
 | true=>exact dK hk _ 1 (by decide)
 | false =>simp only [LR,decide_eq_false_iff_not] at h;exact qV hw hk 1 so (by decide) ⟨by omega,by omega⟩ _ _ _ _
theorem aLg (hf:FA f g) (L:List Dc) (env:Ev) (nm:List UInt8) (B:Bk) (hw:Wf B) (hk:oC B) (he:∀ p∈env,eZ B p.2):WS (jQ false f L env nm) B (HI g L (sT B env) nm):=by
 unfold jQ HI
 cases nm==iV||nm==nE with
 | true =>
  simp only [cond_true]
  cases hn:nm==iV with
  | true=>exact qV hw hk 2 1 (by decide) (by decide) _ _ _ _
  | false=>exact qV hw hk 3 1 (by decide) (by decide) _ _ _ _
 | false =>
 simp only [cond_false]
 cases aU nm with
 | true=>exact dK hk _ 101 (by decide)
 | false =>
 simp only [cond_false,BR]
 cases hb:bP env nm with
 | some id =>intro r B' M' h;simp only [m000,m001] at h;obtain ⟨rfl,rfl,_⟩:=h;exact ⟨hk,.inr ⟨_,rfl,fun _=>rfl⟩⟩
 | none =>
 simp only [Option.map_none]
 cases bR L nm with
 | none=>exact dK hk _ 100 (by decide)
 | some k =>
 simp only
 cases L[k]? with
 | none=>exact EH
 | some d =>
 simp only
 cases d.mac with
 | false=>exact aDy hw hk nm d.so
 | true =>
 cases d.ps.length==0 with
 | true=>exact PH hf L k [] B hw hk fun i hi=>by cases hi
 | false=>exact dK hk _ 1 (by decide)
theorem aYb (hs:nJ f) (hf:FA f g) (L:List Dc) (env:Ev) (rest:List Sx) (B:Bk) (hw:Wf B) (hk:oC B) (he:∀ p∈env,eZ B p.2):WS (lT f L env rest) B (aBu g L (sT B env) rest):=by
 match rest with
 | [] | [_] | _::_::_::_=>exact dK hk _ 1 (by decide)
 | [h,y] =>
 unfold lT aBu;dsimp only
 cases h.lst with
 | false=>exact dK hk _ 1 (by decide)
 | true =>
 simp only [cond_true]
 cases cD h.its with
 | none=>exact dK hk _ 1 (by decide)
 | some q =>
 obtain ⟨ns,ts⟩:=q;simp only
 cases ns.any aU with
 | true=>exact dK hk _ 101 (by decide)
 | false =>
 simp only [cond_false]
 cases dbl ns with
 | true=>exact dK hk _ 4 (by decide)
 | false =>
 simp only [cond_false];refine EY (k:=fun r=>f L (env++List.zip ns r.1) y) (w:=fun bs=>g L (sT B env++List.zip ns bs) y) hw (iI hs L env ts B hw he) (DR hs hf L env ts B hw hk he) fun is B1 e1 w1 k1 hi=>?_
 have h1:=hf L (env++List.zip ns is) y B1 w1 k1 fun p hp=>by
  rcases m003.1 hp with hp | hp
  ·exact (he p hp).ext e1
  ·exact kB ns is hi p hp
 have h2:sT B1 (env++List.zip ns is)=sT B env++List.zip ns (is.map (cW B1)):=by rw [<- MU,<- PQ hw he e1];exact m038
 rw [h2] at h1;exact h1
theorem aLt (hs:nJ f) (hf:FA f g) (L:List Dc) (env:Ev) (l:List Sx) (B:Bk) (hw:Wf B) (hk:oC B) (he:∀ p∈env,eZ B p.2):WS (qN false f L env l) B (ZK g L (sT B env) l):=by
 match l with
 | []=>exact dK hk _ 1 (by decide)
 | h::rest =>
 unfold qN ZK;dsimp only
 cases h.isN with
 | false=>exact dK hk _ 101 (by decide)
 | true =>
 simp only [m025,cond_false]
 cases h.txt==KT with
 | true=>exact aYb hs hf L env rest B hw hk he
 | false =>
 simp only [cond_false]
 cases bW h.txt rest.length==0&&aU h.txt with
 | true=>exact dK hk _ 101 (by decide)
 | false =>
 simp only [cond_false]
 cases bW h.txt rest.length==0 with
 | false =>generalize bW h.txt rest.length=op;exact EY (k:=fun r σ=>pU (jN σ.1 op r.1) σ.2) (w:=fun bs=>some (KY op bs)) hw (iI hs L env rest B hw he) (DR hs hf L env rest B hw hk he) fun is B1 e1 w1 k1 hi=>aUq w1 k1 op is hi
 | true =>
 simp only [cond_true,BR]
 cases bP env h.txt with
 | some i=>exact dK hk _ 100 (by decide)
 | none =>
 cases bR L h.txt with
 | none=>exact dK hk _ 100 (by decide)
 | some k =>
 simp only [Option.map_none]
 cases L[k]? with
 | none=>exact EH
 | some d =>
 simp only
 cases d.mac with
 | false=>exact dK hk _ 100 (by decide)
 | true =>
 exact EY (k:=fun r=>fP false f L k r.1) (w:=fun bs=>tB g L k bs) hw (iI hs L env rest B hw he) (DR hs hf L env rest B hw hk he) fun is B1 e1 w1 k1 hi=>PH hf L k is B1 w1 k1 hi
theorem aRw (hs:nJ f) (hf:FA f g):FA (iG ps false f) (OJ ps g):=by
 intro L env x B hw hk he;unfold iG OJ
 cases x.lst with
 | true=>exact aLt hs hf L env x.its B hw hk he
 | false =>
 simp only [cond_false]
 cases x.kind==4 with
 | true =>
  simp only [cond_true]
  cases (ps x.txt).2 != 0 with
  | true=>exact dK hk _ 101 (by decide)
  | false =>
   simp only [cond_false];unfold CN
   cases decide (CV false (ps x.txt).1 < 0) with
   | true=>exact dK hk _ 1 (by decide)
   | false=>exact qV hw hk 4 2 (by decide) (by decide) _ _ _ _
 | false =>
 simp only [cond_false]
 cases x.kind==6 with
 | true =>
  simp only [cond_true];unfold SN
  cases LC (lG (FG x.txt) []).1 with
  | false=>exact dK hk _ 1 (by decide)
  | true=>exact qV hw hk 5 3 (by decide) (by decide) _ _ _ _
 | false =>
 simp only [cond_false]
 cases x.kind==3 with
 | true=>exact aLg hf L env x.txt B hw hk he
 | false=>exact dK hk _ 101 (by decide)
theorem bBr:∀ n,FA (T ps false n) (TA ps n):=by
 intro n
 induction n with
 | zero=>intro L env x B _ _ _;exact EH
 | succ n ih=>exact aRw (aLa ps n) ih
end
end
noncomputable section
structure DX (L L':List Dc):Prop where
 f:∀ nm k,bR L nm=some k->bR L' nm=some k
 g:∀ k d,L[k]?=some d->L'[k]?=some d/\L'.take k=L.take k
theorem DX.refl (L:List Dc):DX L L:=⟨fun _ _ h=>h,fun _ _ h=>⟨h,rfl⟩⟩
theorem UK {L:List Dc} {nm:List UInt8} (h:∀ d∈L,(d.nm==nm)=false):bR L nm=none:=by
 induction L with
 | nil=>rfl
 | cons d L ih=>simp only [bR,ih fun d hd=>h d (m005 _ hd),h d (m007 ..),cond_false]
theorem aCi:∀ {L:List Dc} {nm:List UInt8} {k:Nat},bR L nm=some k->∃ d∈L,d.nm=nm:=by
 intro L
 induction L with
 | nil=>intro nm k h;cases h
 | cons d L ih =>
  intro nm k h;simp only [bR] at h
  cases h1:bR L nm with
  | some i=>obtain ⟨c,hc,e⟩:=ih h1;exact ⟨c,m005 _ hc,e⟩
  | none =>
   rw [h1] at h
   cases h2:d.nm==nm with
   | true=>exact ⟨d,m007 ..,by simpa using h2⟩
   | false=>rw [h2] at h;cases h
theorem ZO:∀ (L E:List Dc) (nm:List UInt8) (k:Nat),bR E nm=none->bR L nm=some k->bR (L++E) nm=some k:=by
 intro L
 induction L with
 | nil=>intro E nm k _ h;cases h
 | cons d L ih =>
  intro E nm k he h;simp only [bR,List.cons_append] at h ⊢
  cases h1:bR L nm with
  | some i =>rw [h1] at h;rw [ih E nm i he h1];exact h
  | none =>
   rw [h1] at h
   have:bR (L++E) nm=none:=by
    clear ih h
    induction L with
    | nil=>exact he
    | cons c L ih =>
     simp only [bR,List.cons_append] at h1 ⊢
     cases h2:bR L nm with
     | some i=>rw [h2] at h1;cases h1
     | none =>rw [h2] at h1;rw [ih h2];exact h1
   rw [this];exact h
theorem DX.app {L E:List Dc} (h:∀ d∈E,∀ c∈L,d.nm≠c.nm):DX L (L++E):=by
 refine ⟨fun nm k hk=>ZO L E nm k (UK fun d hd=>?_) hk,fun k d hk=>?_⟩
 ·obtain ⟨c,hc,rfl⟩:=aCi hk;simpa using h d hd c hc
 ·obtain ⟨hl,_⟩:=m012.1 hk;exact ⟨by rw [m051 hl];exact hk,List.take_append_of_le_length (by omega)⟩
theorem gC {α:Type} {c:Bool} {x y x' y' r:α} (h1:x=r->x'=r) (h2:y=r->y'=r):(bif c then x else y)=r->(bif c then x' else y')=r:=by
 cases c
 ·exact h2
 ·exact h1
section
variable {ps:List UInt8->List Nat×Int} {f g:List Dc->EA->Sx->RA}
def FM (f g:List Dc->EA->Sx->RA):Prop:=∀ L L' env x a e,DX L L'->(e=0\/L=L')->f L env x=some (a,e)->g L' env x=some (a,e)
theorem UU (h:FM f g) {L L':List Dc} (hd:DX L L') (env:EA):∀ (l:List Sx) (al:List Ab) (er:Int),(er=0\/L=L')->qE f L env l=some (al,er)->qE g L' env l=some (al,er):=by
 intro l
 induction l with
 | nil=>intro al er _ e;exact e
 | cons x l ih =>
  intro al er hz0 e;simp only [qE] at e ⊢
  cases h1:f L env x with
  | none=>rw [h1] at e;cases e
  | some r =>
   obtain ⟨a,e1⟩:=r;rw [h1] at e;simp only [Option.bind_some] at e
   cases hz:(e1==0) with
   | false =>simp only [hz,cond_false,m000,m001] at e;obtain ⟨rfl,rfl⟩:=e;rw [h L L' env x a _ hd hz0 h1];simp only [Option.bind_some,hz,cond_false]
   | true =>
    have e0:e1=0:=by simpa using hz
    subst e0;simp only [hz,cond_true,m022] at e;obtain ⟨⟨q,e2⟩,h2,h3⟩:=e;simp only [m001] at h3;obtain ⟨rfl,rfl⟩:=h3;rw [h L L' env x a _ hd (.inl rfl) h1];simp only [Option.bind_some,hz,cond_true,ih q e2 hz0 h2,Option.map_some]
theorem TR {X:Prop} {c c':Option (List Ab×Int)} {w w':List Ab->RA} {a:Ab} {er:Int} (hX:er=0\/X) (hc:∀ al e,(e=0\/X)->c=some (al,e)->c'=some (al,e)) (hw:∀ al,w al=some (a,er)->w' al=some (a,er))
  (h:(c.bind fun q=>bif q.2==0 then w q.1 else some (zA,q.2))=some (a,er)):(c'.bind fun q=>bif q.2==0 then w' q.1 else some (zA,q.2))=some (a,er):=by
 cases h1:c with
 | none=>rw [h1] at h;cases h
 | some q =>
  obtain ⟨al,e⟩:=q;rw [h1] at h;simp only [Option.bind_some] at h
  cases hz:(e==0) with
  | false =>simp only [hz,cond_false,m000,m001] at h;obtain ⟨rfl,rfl⟩:=h;rw [hc al _ hX h1];simp only [Option.bind_some,hz,cond_false]
  | true =>
   have e0:e=0:=by simpa using hz
   subst e0;simp only [hz,cond_true] at h;rw [hc al _ (.inl rfl) h1];simp only [Option.bind_some,hz,cond_true,hw al h]
theorem aIi (h:FM f g) {L L':List Dc} (hd:DX L L') (k:Nat) (al:List Ab) (a:Ab) (er:Int) (e:tB f L k al=some (a,er)):tB g L' k al=some (a,er):=by
 unfold tB at e ⊢
 cases h1:L[k]? with
 | none=>rw [h1] at e;cases e
 | some d =>rw [h1] at e;obtain ⟨g1,g2⟩:=hd.g k d h1;rw [g1];revert e;refine gC (gC (fun e=>?_) id) id;rw [g2];exact h _ _ _ _ _ _ (DX.refl _) (.inr rfl) e
theorem HA {a b:Ab} {e er:Int} {X:Prop} (he:e≠0) (hz:er=0\/X) (h:some (b,e)=some (a,er)):X:=by
 simp only [m000,m001] at h;rcases hz with hz | hz
 ·rw [hz] at h;exact absurd h.2 he
 ·exact hz
theorem bGl (h:FM f g) {L L':List Dc} (hd:DX L L') (env:EA) (nm:List UInt8) (a:Ab) (er:Int) (hz:er=0\/L=L'):HI f L env nm=some (a,er)->HI g L' env nm=some (a,er):=by
 unfold HI;refine gC id (gC id ?_)
 cases uO env nm with
 | some b=>exact id
 | none =>
 cases h4:bR L nm with
 | none =>intro e;have:=HA (by decide) hz e;subst this;rw [h4];exact e
 | some k =>
 rw [hd.f nm k h4];dsimp only
 cases h5:L[k]? with
 | none=>intro e;cases e
 | some d =>
 rw [(hd.g k d h5).1];exact gC (gC (aIi h hd k [] a er) id) id
theorem bMx (h:FM f g) {L L':List Dc} (hd:DX L L') (env:EA) (rest:List Sx) (a:Ab) (er:Int) (hz:er=0\/L=L'):aBu f L env rest=some (a,er)->aBu g L' env rest=some (a,er):=by
 match rest with
 | [] | [_] | _::_::_::_=>exact id
 | [x,y] =>
 unfold aBu;refine gC ?_ id
 cases cD x.its with
 | none=>exact id
 | some q =>
 exact gC id (gC id (TR (w:=fun al=>f L (env++List.zip q.1 al) y) (w':=fun al=>g L' (env++List.zip q.1 al) y) hz (UU h hd env q.2) (fun al=>h L L' _ y a er hd hz)))
theorem bDw (h:FM f g) {L L':List Dc} (hd:DX L L') (env:EA) (l:List Sx) (a:Ab) (er:Int) (hz:er=0\/L=L'):ZK f L env l=some (a,er)->ZK g L' env l=some (a,er):=by
 match l with
 | []=>exact id
 | x::rest =>
 unfold ZK;refine gC id (gC (bMx h hd env rest a er hz) (gC id (gC ?_ (TR (w:=fun al=>some (KY (bW x.txt rest.length) al)) (w':=fun al=>some (KY (bW x.txt rest.length) al)) hz (UU h hd env rest) (fun al h=>h)))))
 cases uO env x.txt with
 | some b=>exact id
 | none =>
 cases h6:bR L x.txt with
 | none =>intro e;have:=HA (by decide) hz e;subst this;rw [h6];exact e
 | some k =>
 rw [hd.f _ k h6];dsimp only
 cases h7:L[k]? with
 | none=>intro e;cases e
 | some d =>
 rw [(hd.g k d h7).1];exact gC (TR (w:=fun al=>tB f L k al) (w':=fun al=>tB g L' k al) hz (UU h hd env rest) (fun al=>aIi h hd k al a er)) id
theorem bEv (h:FM f g):FM (OJ ps f) (OJ ps g):=fun L L' env x a er hd hz=>gC (bDw h hd env x.its a er hz) (gC id (gC id (gC (bGl h hd env x.txt a er hz) id)))
theorem bGf (ps:List UInt8->List Nat×Int):∀ n m,n<=m->FM (TA ps n) (TA ps m):=by
 intro n
 induction n with
 | zero=>intro m _ L L' env x a er _ _ e;cases e
 | succ n ih =>intro m hm;obtain ⟨m,rfl⟩:∃ k,m=k+1:=⟨m - 1,by omega⟩;exact bEv (ih m (by omega))
end
end
noncomputable section
def TA1 (L:List Dc) (x:Sx):Prop:=x.wt<=2 ^ 20/\∃ n a,TA pY n L [] x=some (a,0)/\a.so=1
theorem TA1.ext {L L':List Dc} {x:Sx} (h:TA1 L x) (hd:DX L L'):TA1 L' x:=by obtain ⟨hw,n,a,h1,h2⟩:=h;exact ⟨hw,n,a,bGf pY n n (bK n) L L' [] x a 0 hd (.inl rfl) h1,h2⟩
theorem bMl {L:List Dc} (hL:L.length < 2 ^ 60) {x:Sx} (h:TB L x):TA1 L x:=by
 obtain ⟨hw,n,r,B,M,h1,h2,h3⟩:=h;have u:=VJ pY BK (B:=[]) hL yL (fun p hp=>by cases hp) h1;obtain ⟨m,hm⟩:=(pI pY).1 u;obtain ⟨_,hr⟩:=bBr (ps:=pY) m L [] x [] yL PI (fun p hp=>by cases hp) _ _ _ hm;rcases hr with hr | ⟨a,e1,e2⟩
 ·rw [h2] at hr;exact absurd hr (by decide)
 ·refine ⟨hw,m,a,?_,?_⟩
  ·rw [h2] at e1;exact e1
  ·rw [<- e2 h2];exact h3
theorem bFg {L:List Dc} (hL:L.length < 2 ^ 60) {x:Sx} (h:TA1 L x) {B B':Bk} {M':Mm} {n:Nat} {r:Int×Int} (hw:Wf B) (hk:oC B) (hT:T pY true n L [] x (B,[])=some (r,(B',M'))):oC B'/\(r.2=2\/(r.2=0/\(cW B' r.1).so=1)):=by
 have u:=VJ pY BK hL hw (fun p hp=>by cases hp) hT;obtain ⟨m,hm⟩:=(pI pY).1 u;obtain ⟨hk',hr⟩:=bBr (ps:=pY) m L [] x B hw hk (fun p hp=>by cases hp) _ _ _ hm;refine ⟨hk',?_⟩;rcases hr with hr | ⟨a,e1,e2⟩
 ·exact .inl hr
 ·obtain ⟨_,n0,b,h1,h2⟩:=h;have e1:TA pY m L [] x=some (a,r.2):=e1;have k1:=bGf pY n0 (n0+m) (by omega) L L [] x b 0 (DX.refl L) (.inl rfl) h1;have k2:=bGf pY m (n0+m) (by omega) L L [] x a r.2 (DX.refl L) (.inr rfl) e1;rw [k1] at k2;simp only [m000,m001] at k2;obtain ⟨rfl,h0⟩:=k2;exact .inr ⟨h0.symm,by rw [e2 h0.symm];exact h2⟩
structure xK (K:Sk):Prop where
 nm:∀ d∈K.D,(K.N.getD []).contains d.nm=true
 top:∀ x∈K.X,TA1 K.D x
 lv:∀ (j:Nat) (a b:Int),K.dm[j]?=some a->K.am[j]?=some b->∀ x∈K.X.take b.toNat,TA1 (K.D.take a.toNat) x
theorem aVr:xK ⟨[],[],[],[],none⟩:=⟨fun _ h=>(by cases h),fun _ h=>(by cases h),fun j a b h=>(by simp at h)⟩
theorem xG {N:List (List UInt8)} {nm x:List UInt8} (h:N.contains x=true\/x=nm):(pR N nm).contains x=true:=by
 unfold pR;rcases h with h | rfl
 ·split
  ·exact h
  ·simp only [List.contains_eq_mem,decide_eq_true_eq,m003] at h ⊢;exact .inl h
 ·split
  ·assumption
  ·simp
theorem aBr:∀ (l:List (List UInt8)) (N:List (List UInt8)) (x:List UInt8),N.contains x=true\/x∈l->(l.foldl pR N).contains x=true:=by
 intro l
 induction l with
 | nil=>intro N x h;rcases h with h | h;exact h;cases h
 | cons a l ih =>
  intro N x h;refine ih (pR N a) x ?_;rcases h with h | h
  ·exact .inl (xG (.inl h))
  ·rcases m013.1 h with h | h
   ·exact .inl (xG (.inr h))
   ·exact .inr h
theorem aHc {K:Sk} (h:xK K) {nm:List UInt8} (hf:iH K nm=0):∀ d∈K.D,nm≠d.nm:=by
 intro d hd e;subst e;unfold iH at hf
 cases h1:aU d.nm with
 | true=>rw [h1] at hf;exact absurd (show (101:Int)=0 from hf) (by decide)
 | false=>rw [h1,h.nm d hd] at hf;exact absurd (show (4:Int)=0 from hf) (by decide)
theorem xK.addD {K:Sk} (h:xK K) (hk:AD K) {d:Dc} (hf:iH K d.nm=0):xK (oR K d).2:=by
 unfold oR;cases (K.D.length:Int)==500
 case true=>exact h
 have hd:=aHc h hf;refine ⟨fun c hc=>?_,fun x hx=>(h.top x hx).ext (DX.app fun c hc a ha=>?_),fun j a b h1 h2 x hx=>?_⟩
 ·show (pR (K.N.getD []) d.nm).contains c.nm=true;rcases m003.1 hc with hc | hc
  ·exact xG (.inl (h.nm c hc))
  ·simp only [m008] at hc;subst hc;exact xG (.inr rfl)
 ·simp only [m008] at hc;subst hc;exact hd a ha
 ·show TA1 ((K.D++[d]).take a.toNat) x;have:=(hk.d.le a (m017 h1)).2;rw [List.take_append_of_le_length (by omega)];exact h.lv j a b h1 h2 x hx
theorem xK.addX {K:Sk} (h:xK K) (hk:AD K) {y:Sx} (hy:TA1 K.D y):xK { K with X:=K.X++[y] }:=by
 refine ⟨h.nm,fun x hx=>?_,fun j a b h1 h2 x hx=>?_⟩
 ·rcases m003.1 hx with hx | hx
  ·exact h.top x hx
  ·simp only [m008] at hx;subst hx;exact hy
 ·have:=(hk.x.le b (m017 h2)).2;have hx:x∈(K.X++[y]).take b.toNat:=hx;rw [List.take_append_of_le_length (by omega)] at hx;exact h.lv j a b h1 h2 x hx
theorem xK.push {K:Sk} (h:xK K) (hk:AD K):xK (DK K):=by
 refine ⟨h.nm,h.top,fun j a b h1 h2 x hx=>?_⟩;have h1:(K.dm++[(K.D.length:Int)])[j]?=some a:=h1;have h2:(K.am++[(K.X.length:Int)])[j]?=some b:=h2;have hl:=hk.l;show TA1 (K.D.take a.toNat) x;rcases LZ j K.dm.length with hj | hj
 ·rw [m051 hj] at h1;rw [m051 (by omega)] at h2;exact h.lv j a b h1 h2 x hx
 ·rw [List.getElem?_append_right hj] at h1;rw [List.getElem?_append_right (by omega)] at h2
  have e0:j - K.dm.length=0:=by
   rcases KR (j - K.dm.length) with e | e
   ·exact e
   ·rw [List.getElem?_eq_none (by simp only [List.length_singleton];omega)] at h1;cases h1
  have e1:j - K.am.length=0:=by omega
  rw [e0] at h1;rw [e1] at h2;cases h1;cases h2;rw [Int.toNat_natCast,m045];exact h.top x (List.mem_of_mem_take hx)
theorem xK.pushN:∀ (n:Nat) {K:Sk},xK K->AD K->K.dm.length+n<=100->xK (pushN n K)
 | 0,_,h,_,_=>h
 | n+1,K,h,hk,hl=>xK.pushN n (h.push hk) (RB hk (by omega)) (by show (K.dm++[(K.D.length:Int)]).length+n<=100;simp only [m006,List.length_singleton];omega)
theorem xK.pop {K:Sk} (h:xK K) (hk:AD K) (hne:K.dm≠[]):xK (MD K):=by
 obtain ⟨ms,q,ns,r,h1,h2,q1,q2,r1,r2,hk2,hp⟩:=BE hk hne;have hl:=hk.l;rw [h1,h2] at hl;simp only [m006,List.length_singleton] at hl;have u1:=hk.d.up;have u2:=hk.x.up;rw [h1] at u1;rw [h2] at u2;rw [hp];refine ⟨fun d hd=>aBr _ _ _ (.inr (m021.2 ⟨d,hd,rfl⟩)),fun x hx=>?_,fun j a b e1 e2 x hx=>?_⟩
 ·exact h.lv ms.length q r (by rw [h1];simp) (by rw [h2,List.getElem?_append_right (by omega)];simp [show ms.length - ns.length=0 by omega]) x hx
 ·have e1:ms[j]?=some a:=e1;have e2:ns[j]?=some b:=e2;have aq:a<=q:=(List.pairwise_append.1 u1).2.2 a (m017 e1) q (by simp);have br:b<=r:=(List.pairwise_append.1 u2).2.2 b (m017 e2) r (by simp);have hx:x∈(K.X.take r.toNat).take b.toNat:=hx;rw [List.take_take,rM (by omega)] at hx;show TA1 ((K.D.take q.toNat).take a.toNat) x;rw [List.take_take,rM (by omega)];refine h.lv j a b ?_ ?_ x hx
  ·rw [h1,m051 (m012.1 e1).1];exact e1
  ·rw [h2,m051 (m012.1 e2).1];exact e2
theorem xK.popN:∀ (n:Nat) {K:Sk},xK K->AD K->n<=K.dm.length->xK (popN n K)
 | 0,_,h,_,_=>h
 | n+1,K,h,hk,hl=>by
  have hne:K.dm≠[]:=fun e=>by rw [e] at hl;simp at hl
  obtain ⟨ms,q,ns,r,h1,h2,q1,q2,r1,r2,hk2,hp⟩:=BE hk hne;exact xK.popN n (h.pop hk hne) hk2 (by rw [hp];show n<=ms.length;rw [h1] at hl;simp only [m006,List.length_singleton] at hl;omega)
theorem DoR.tt {K K':Sk} {c:Cl} {e:Int} (r:DoR K c e K') (h:xK K) (hk:BM K):xK K':=by
 rcases r.kd with ⟨_,a⟩ | ⟨_,_,rfl⟩ | ⟨_,_,rfl⟩
 ·rcases a with rfl | ⟨d,_,hf,rfl⟩ | ⟨y,_,_,hy,rfl⟩
  ·exact h
  ·exact h.addD hk.so hf
  ·exact h.addX hk.so (bMl (by have:=hk.so.ld;omega) hy)
 ·unfold sPush;cases h1:decide (c.n < 0)<;>cases h2:decide (c.n > 100 - (K.dm.length:Int))<;>simp only [cond_true,cond_false]
  ·have:=of_decide_eq_false h1;have:=of_decide_eq_false h2;exact h.pushN _ hk.so (by omega)
  all_goals exact h
 ·unfold sPop;cases h1:decide (c.n < 0)<;>cases h2:decide (c.n > (K.dm.length:Int))<;>simp only [cond_true,cond_false]
  ·have:=of_decide_eq_false h1;have:=of_decide_eq_false h2;exact h.popN _ hk.so (by omega)
  all_goals exact h
end
noncomputable section
theorem bHv:mEv.fz 47=false:=by kernel_rfl
theorem bIz (l:List AV) (id:Nat) (s:St):bt .len #[79] [.sl false l] id s=some (.int .i64 l.length,s):=by kernel_rfl
theorem aYs (a b:Int):bn .eql 34 (.int .i64 a) (.int .i64 b)=some (.bool (a==b)):=bin_eql
section
variable {p:Nat}
def sk0:Sk:=⟨[],[],[],[],none⟩
theorem aUb {s:St} (h:s.h p=some (.cells [.nils,.nils,.nils,.nils,.nilm] 88 true true)):cN s p sk0 [p]:=⟨.nils,.nils,.nils,.nils,.nilm,⟨h,LE,LE,LE,LE,.inl ⟨rfl,rfl⟩,by simp [aE]⟩,rfl⟩
theorem aWc:BM sk0:=⟨⟨⟨fun _ h=>(by cases h),.nil⟩,⟨fun _ h=>(by cases h),.nil⟩,rfl,by decide,by decide,by decide⟩,fun _ h=>(by cases h),fun _ h=>(by cases h)⟩
end
end
noncomputable section
def TmR (s:St) (B:Bk) (F:List Nat) (n:Nat) (r:AV) (e:Int):Prop :=
 (e=2/\r=.nils)\/(e=0/\∃ ids:List Int,Gw 3 1 0 s r (ids.map dE)/\ids.length=n/\(∀ i∈ids,eZ B i/\jO B i=1)/\∀ j∈aE r,j ∉ F)
def TmQ (s0:St) (ib:Nat) (F0:List Nat) (n:Nat) (r:AV) (e:Int) (s':St):Prop :=
 ∃ B F,jJ s' ib B F/\EF F0 s0 s'/\(∀ j∈F,j∈F0\/s0.nx<=j)/\TmR s' B F n r e
section
variable {p:Nat}
theorem l52 {K:Sk} (hk:BM K) (ht:xK K) {Q:aG} {ib:Nat} {s0:St} {F0:List Nat} (hQ:∀ r e s',TmQ s0 ib F0 K.X.length r e s'->Q (.tup [r,.int .i64 e]) s') :
  ∀ (k i:Nat) (s:St) (B:Bk) (F:List Nat) (ids:List Int) (y:AV),i+k=K.X.length->EF F0 s0 s->jJ s ib B F->(∀ j∈F,j∈F0\/s0.nx<=j)->Wf B->oC B->Gw 3 1 0 s y (ids.map dE)->(∀ j∈aE y,j ∉ F/\s0.nx<=j)->ids.length=i->(∀ i∈ids,eZ B i/\jO B i=1) ->
   zM Q (k+1) (.ptr ib 0) y (.sl false (K.D.map Dc.av)) (.sl false (K.X.map Sx.av)) (.int .i64 K.X.length) (.int .i64 i) s:=by
 intro k
 induction k with
 | zero =>
  intro i s B F ids y hi e hB hF hw hkb g hy hil hs;show DA Q (zM Q 0) _ _ _ _ _ _ s;have c1:decide ((i:Int) < (K.X.length:Int))=false:=by simp;omega
  simp only [DA,MS,c1,wx,wy,Z0,Z1,reduceCtorEq];exact hQ _ _ _ ⟨B,F,hB.adv,e.adv,hF,.inr ⟨rfl,ids,g.adv,by omega,hs,fun j hj=>(hy j hj).1⟩⟩
 | succ k ih =>
  intro i s B F ids y hi e hB hF hw hkb g hy hil hs;show DA Q (zM Q (k+1)) _ _ _ _ _ _ s;have c1:decide ((i:Int) < (K.X.length:Int))=true:=by simp;omega
  obtain ⟨x,hx⟩:∃ x,K.X[i]?=some x:=⟨_,m004 (by omega)⟩;have hxm:=m017 hx;have hix:=cJ rL false (l:=K.X) hx .i64;have hz:(AV.agg [.bool false,.int .i64 0,.str [],.int .i64 0,.int .i64 0,.nils]).cells=[.bool false,.int .i64 0,.str [],.int .i64 0,.int .i64 0,.nils]:=rfl;have fr:=e.fr;have lx:=hk.so.lx;have ld:=hk.so.ld;simp only [DA,c1,hix,dI,aUg,hz,wx,wy,Z0,Z1,reduceCtorEq];rw [bJ (id:=s.nx+3) (z:=6) (c:=[.bool false,.int .i64 0,.str [],.int .i64 0,.int .i64 0,.nils]) (e:=33) (ex:=true) (v:=x.av) (by rw [adv_h,aF]) rfl (iC x) (cH x)];simp only [Bnd_some];obtain ⟨S,hS⟩:∃ S,S=Ai.adv ((Ai.adv (s.set (s.nx+3) (some (.cells [.bool false,.int .i64 0,.str [],.int .i64 0,.int .i64 0,.nils] 33 true true))) 5).set (s.nx+3) (some (.cells x.av.cells 33 true true))) 9:=⟨_,rfl⟩;rw [<- hS];have nS:S.nx=s.nx+14:=by rw [hS];rfl
  have kS:∀ j,j≠s.nx+3->S.h j=s.h j:=fun j hj=>by rw [hS,adv_h,aB hj,adv_h,aB hj]
  have bS:S.h (s.nx+3)=some (.cells x.av.cells 33 true true):=by rw [hS,adv_h,aF]
  have fS:aI S:=fun j hj=>by rw [kS j (by omega)];exact fr j (by omega)
  have eS:EF [] s S:=⟨by omega,fun j hj _=>kS j (by omega),fS⟩;have hBlt:=hB.lt fr;have hBS:jJ S ib B F:=hB.keep fun j hj=>kS j (by have:=hBlt j hj;omega);have gS:Gw 3 1 0 S y (ids.map dE):=g.ext fr eS (fun _ _=>by simp);simp only [bS,dI,wx,wy,Z0,Z1,reduceCtorEq];obtain ⟨n1,⟨r,B1,M1⟩,h1⟩:=aSq pY true K.D [] x (B,[]);obtain ⟨hkb1,hr⟩:=bFg (by omega) (ht.top x hxm) hw hkb h1;obtain ⟨i1,i2,i3,i4⟩:=ZD (ps:=pY) (L0:=K.D) (env:=[]) (j:=K.D.length) (by omega) ⟨hw,fun q hq=>(by cases hq),qA pY K.D B⟩ (by rw [m045];exact h1);refine GR.callS0 (aOm EC fS hBS hw hk.dc x (hk.x x hxm).1 (by have:=(ht.top x hxm).1;omega) h1) bMj (aIq _ _ K.D x) fun s3 q3=>?_;obtain ⟨F1,m1,m2,m3⟩:=q3;simp only [zV,zO,wx,wy,Z0,Z1,reduceCtorEq];have n3:=m2.nx;have hylt:∀ j∈aE y,j < s.nx:=g.id_lt fr;have hF1:∀ j∈F1,j∈F0\/s0.nx<=j:=fun j hj=>(m3 j hj).elim (hF j) fun h=>.inr (by have:=e.nx;omega);have e3:EF F0 s0 s3:=(e.trans eS fun j hj=>by cases hj).trans m2 fun j hj=>(hF j hj).symm;obtain ⟨rv,re⟩:=r;rcases hr with hr | ⟨hr,hso⟩
  ·have hr:re=2:=hr;subst hr;have k0:((2:Int) != 0)=true:=rfl;simp only [k0,wx,wy,Z0,Z1,reduceCtorEq];exact hQ _ _ _ ⟨B1,F1,m1.adv,e3.adv,hF1,.inl ⟨rfl,rfl⟩⟩
  ·have hr:re=0:=hr;subst hr;have k0:((0:Int) != 0)=false:=rfl;have hin:eZ B1 rv:=i3 rfl;have hs1:jO B1 rv=1:=hso;have g3:Gw 3 1 0 s3 y (ids.map dE):=gS.keep fun j hj=>m2.h j (by have:=hylt j hj;omega) (hy j hj).1;have happ:=gM pQ iY (g3.adv (n:=7)) (a:=rv) (by omega) (by omega) true (s3.nx+5);have hb:kM 72 1 [(0,.int .i64 rv)]=some (.sl true [dE rv]):=dX pQ (by decide) rfl rfl;simp only [k0,hb,happ,aQa,wx,wy,Z0,Z1,reduceCtorEq]
   have yF1:∀ j∈F1,j ∉ aE y:=fun j hj hjy=>by
    rcases m3 j hj with h | h
    ·exact (hy j hjy).1 h
    ·have:=hylt j hjy;omega
   rw [cC i K.X.length (by omega) (by have:maxLen=9223372036854775807:=rfl;omega)];have F1lt:=m1.lt m2.fr;obtain ⟨T,hT⟩:∃ T,T=Ai.adv ((s3.drop (aE y)).set (s3.nx+5) (some (.cells (((ids++[rv]).map dE).flatMap AV.cells) 3 false true))) 9:=⟨_,rfl⟩;rw [<- hT];have nT:T.nx=s3.nx+9:=by rw [hT];show (s3.drop (aE y)).nx+9=_;rw [nx_drop]
   have kT:∀ j,j≠s3.nx+5->j ∉ aE y->T.h j=s3.h j:=fun j a b=>by rw [hT,adv_h,aB a,get_drop',if_neg b]
   have fT:aI T:=fun j hj=>by rw [hT,adv_h,aB (by omega),get_drop'];split;rfl;exact m2.fr j (by omega)
   have eT:EF F0 s0 T:=⟨by have:=e3.nx;omega,fun j hj hn=>by rw [kT j (by have:=e3.nx;omega) (fun hjy=>by have:=(hy j hjy).2;omega)];exact e3.h j hj hn,fT⟩;refine ih (i+1) T B1 F1 (ids++[rv]) (.ref (s3.nx+5) 0 (ids.length+1) none 3) (by omega) eT (m1.keep fun j hj=>kT j (by have:=F1lt j hj;omega) (yF1 j hj)) hF1 i1.wf hkb1 ?_ (fun j hj=>?_) (by rw [m006,List.length_singleton,hil]) (fun j hj=>?_)
   ·rw [hT];exact jL iY
   ·simp only [aE,m008] at hj;subst hj;exact ⟨fun hm=>by have:=F1lt _ hm;omega,by have:=e3.nx;omega⟩
   ·rcases m003.1 hj with h | h
    ·obtain ⟨E,rfl⟩:=i2;exact ⟨(hs j h).1.ext ⟨E,rfl⟩,by rw [vA (hs j h).1];exact (hs j h).2⟩
    ·rw [m008] at h;subst h;exact ⟨hin,hs1⟩
theorem bKa:mEv.fz 52=false:=by kernel_rfl
theorem c52 {K:Sk} {s:St} {F FB:List Nat} {ib:Nat} (fr:aI s) (h:cN s p K F) (hk:BM K) (ht:xK K) (hB:jJ s ib [] FB) {k:aG} (hK:∀ r e s',TmQ s ib FB K.X.length r e s'->k (.tup [r,.int .i64 e]) s'):aL mEv 52 [.ptr p 0,.ptr ib 0] s k:=by
 have r:=aUv (.ptr p 0) (.ptr ib 0) s (Q:=fun r s'=>∃ v e,r=.tup [v,.int .i64 e]/\TmQ s ib FB K.X.length v e s') (by
  unfold f52;refine bJh fr.adv h.adv hk fun s1 e1=>?_;have e1:=(EF.refl [] fr).adv.nil_trans e1;refine aYt e1.fr.adv (h.ext fr e1).adv hk fun s2 e2=>?_;have e2:=e1.adv.nil_trans e2;have hBlt:=hB.lt fr;simp only [CG,m002,wx,wy,Z0,Z1,reduceCtorEq]
  exact ⟨_,l52 hk ht (fun r e s' q=>⟨r,e,rfl,q⟩) K.X.length 0 s2 [] FB [] .nils (by omega) (e2.sub fun j hj=>by cases hj) (hB.keep fun j hj=>e2.h j (hBlt j hj) (by simp)) (fun j hj=>.inl hj) yL PI fG (fun j hj=>by cases hj) rfl (fun j hj=>by cases hj)⟩)
 obtain ⟨r,s',h1,v,e,rfl,h2⟩:=r;exact bQ bKa ⟨_,s',h1,hK _ _ _ h2⟩
theorem bQl {ib:Nat} {B:Bk} {r:AV} {ids:List Int} (hs:∀ i∈ids,eZ B i/\jO B i=1) (hn:ids.length<=500) {Q:aG} {ih1:AV->AV->aG} {t0 t5 t6:AV} (s0:St) :
  ∀ (k i:Nat) (s:St) (F:List Nat),i+k=ids.length->aI s->jJ s ib B F->Gw 3 1 0 s r (ids.map dE)->EF [] s0 s->(∀ s',EF [] s0 s'->tE Q ih1 t6 t0 t5 s')->zN Q ih1 (k+1) t0 t5 t6 (.ptr ib 0) r (.int .i64 i) s:=by
 intro k
 induction k with
 | zero =>
  intro i s F hi fr hB g e hQ;show CO Q ih1 (zN Q ih1 0) _ _ _ _ _ _ s;have c1:decide ((i:Int) < (ids.length:Int))=false:=by simp;omega
  simp only [CO,aJp (g.adv (n:=4)),m002,c1,wx,wy,Z0,Z1,reduceCtorEq];exact hQ _ e.adv
 | succ k ih =>
  intro i s F hi fr hB g e hQ;show CO Q ih1 (zN Q ih1 (k+1)) _ _ _ _ _ _ s;have c1:decide ((i:Int) < (ids.length:Int))=true:=by simp;omega
  obtain ⟨x,hx⟩:∃ x,ids[i]?=some x:=⟨_,m004 (by omega)⟩;obtain ⟨hin,hso⟩:=hs x (m017 hx);obtain ⟨nd,hnd⟩:=uJ hin;obtain ⟨j,g1,g2,g3⟩:=YR g (k:=i) (v:=dE x) (by rw [m047,hx];rfl);have g3:=g3 0 (by omega);have v0:(dE x).cells[0]?=some (.int .i64 x):=rfl;rw [pS,Nat.add_zero,v0] at g3;rw [pS] at g2;simp only [CO,aJp (g.adv (n:=4)),m002,c1,g2,g1,g3,wx,wy,Z0,Z1,reduceCtorEq];refine (aXo fr.adv hB.adv hin hnd).call aXa fun s1 e0=>?_;have e1:=(EF.refl [] fr).adv.nil_trans e0;have x0:aS (.tup [nd.av,.bool true]) 0=some nd.av:=rfl;have x1:aS (.tup [nd.av,.bool true]) 1=some (.bool true):=rfl;have hz:(AV.agg [.int .i64 0,.int .i64 0,.nils,.str [],.bool false,.nils,.nils]).cells=[.int .i64 0,.int .i64 0,.nils,.str [],.bool false,.nils,.nils]:=rfl;simp only [x0,x1,FV,hz,Bnd_some];rw [bJ (z:=7) (c:=[.int .i64 0,.int .i64 0,.nils,.str [],.bool false,.nils,.nils]) (e:=101) (ex:=true) (v:=nd.av) aF rfl rfl rfl];simp only [Bnd_some];have nd1:nd.av.cells[1]?=some (.int .i64 nd.so):=rfl;have hq:(nd.so != 1)=false:=by simp only [jO,hnd] at hso;simp [hso]
  simp only [aF,nd1,hq,aJm,wx,wy,Z0,Z1,reduceCtorEq];rw [cC i ids.length (by omega) (by have:maxLen=9223372036854775807:=rfl;omega)];have n1:=e1.nx;have Flt:=hB.lt fr;have e2:EF [] s (s1.set (s.nx+13) (some (.cells nd.av.cells 101 true true))):=⟨n1,fun j hj _=>by rw [aB (by omega)];exact e1.h j hj (by simp),fun j hj=>by have hj:s1.nx<=j:=hj;have h13:=e0.nx;simp only [adv_nx] at h13;rw [aB (by omega)];exact e1.fr j hj⟩;have e3:EF [] s (Ai.adv (s1.set (s.nx+13) (some (.cells nd.av.cells 101 true true))) 10):=e2.adv;exact ih (i+1) _ F (by omega) e3.fr (hB.keep fun j hj=>e3.h j (Flt j hj) (by simp)) (g.ext fr e3 fun _ _=>by simp) (e.nil_trans e3) hQ
theorem l13 (l:List Cl) (hl:∀ c∈l,ClF c) (hn:l.length<=maxLen):∀ (k i:Nat) (s:St) (F:List Nat) (K:Sk),i+k=l.length->aI s->cN s p K F->BM K->xK K->iS (fun r _=>r=.bool true) (k+1) (.sl false (l.map Cl.av)) (.ptr p 0) (.int .i64 i) s:=by
 intro k
 induction k with
 | zero =>
  intro i s F K hi fr h hk ht;show BW (fun r _=>r=.bool true) (iS (fun r _=>r=.bool true) 0) _ _ _ s;have c1:decide ((i:Int) < (l.length:Int))=false:=by simp;omega
  simp only [BW,FR,bIz,m002,c1,wx,wy,Z0,Z1,reduceCtorEq]
 | succ k ih =>
  intro i s F K hi fr h hk ht;show BW (fun r _=>r=.bool true) (iS (fun r _=>r=.bool true) (k+1)) _ _ _ s;have c1:decide ((i:Int) < (l.length:Int))=true:=by simp;omega
  obtain ⟨c,hc⟩:∃ c,l[i]?=some c:=⟨_,m004 (by omega)⟩;have hix:=bAz false l i c hc;have ld:=hk.so.ld;have lx:=hk.so.lx;have hb58:lK 58 []=some (.agg [.nils,.nilm,.nils]):=by rw [bFw];rfl
  have hc0:(AV.agg [AV.nils,AV.nilm,AV.nils]).cells=[.nils,.nilm,.nils]:=rfl;simp only [BW,bIz,m002,c1,hix,oT,wx,wy,Z0,Z1,reduceCtorEq];obtain ⟨e,K',w1,w2⟩:=c47 fr.adv h.adv hk c (hl c (m017 hc));refine w1.call bHv fun s1 q1=>?_;obtain ⟨F1,r1,e1,m1⟩:=q1;have hk':=w2.ok hk;have ht':=w2.tt ht hk;have lx':=hk'.so.lx;simp only [hb58,hc0,wx,wy,Z0,Z1,reduceCtorEq];refine ⟨rfl,?_⟩;obtain ⟨S,hS⟩:∃ S,S=Ai.adv (s1.set (s1.nx+1) (some (.cells [.nils,.nilm,.nils] 58 true true))) 11:=⟨_,rfl⟩;rw [<- hS];have nS:S.nx=s1.nx+11:=by rw [hS];rfl
  have kS:∀ j,j≠s1.nx+1->S.h j=s1.h j:=fun j hj=>by rw [hS,adv_h,aB hj]
  have bS:S.h (s1.nx+1)=some (.cells [.nils,.nilm,.nils] 58 true true):=by rw [hS,adv_h,aF]
  have fS:aI S:=fun j hj=>by rw [kS j (by omega)];exact e1.fr j (by omega)
  have eS:EF [] s1 S:=⟨by omega,fun j hj _=>kS j (by omega),fS⟩;have hB0:jJ S (s1.nx+1) [] [s1.nx+1]:=⟨.nils,.nilm,.nils,⟨bS,fG,.inl ⟨rfl,rfl⟩,fG,by simp [aE],fun n h=>(by cases h),by decide⟩,rfl⟩;have rS:=r1.ext e1.fr eS;have hFlt:=rS.lt fS;refine c52 fS rS hk' ht' hB0 fun v er s2 q2=>?_;obtain ⟨B,F2,hB,e2,hF2,hr⟩:=q2;have hF1:∀ j∈F1,j≠s1.nx+1:=fun j hj e=>by have:=r1.lt e1.fr j hj;omega
  have r2:cN s2 p K' F1:=rS.keep fun j hj=>e2.h j (hFlt j hj) (by simp only [m008];exact hF1 j hj);have n2:=e2.nx;have nxt:∀ s',EF [] s2 s'->tE (fun r _=>r=.bool true) (iS (fun r _=>r=.bool true) (k+1)) (.int .i64 i) (.sl false (l.map Cl.av)) (.ptr p 0) s':=fun s' e'=>by unfold tE;simp only [wx,wy,Z0,Z1,reduceCtorEq];rw [cC i l.length (by omega) hn];exact ih (i+1) _ F1 K' (by omega) e'.fr.adv (r2.ext e2.fr e').adv hk' ht'
  simp only [zV,zO,wx,wy,Z0,Z1,reduceCtorEq];rcases hr with ⟨rfl,rfl⟩ | ⟨rfl,ids,g,hil,hids,hdis⟩
  ·have k2:((2:Int)==2)=true:=rfl;simp only [aYs,k2,WP,wx,wy,Z0,Z1,reduceCtorEq];exact nxt _ (EF.refl [] e2.fr).adv
  ·have k2:((0:Int)==2)=false:=rfl;have k3:((0:Int) != 0)=false:=rfl;simp only [aYs,bMu,k2,k3,wx,wy,Z0,Z1,reduceCtorEq];simp only [aJp (g.adv (n:=17)),wx,wy,Z0,Z1,reduceCtorEq];refine aYt e2.fr.adv r2.adv hk' fun s3 e3=>?_;have e3:=(EF.refl [] e2.fr).adv.nil_trans e3;have hq:((K'.X.length:Int) != (K'.X.length:Int))=false:=by simp
   have Flt:=hB.lt e2.fr;simp only [CG,m002,hil,hq,wx,wy,Z0,Z1,reduceCtorEq];exact ⟨ids.length+1,bQl hids (by omega) s2 ids.length 0 _ F2 (by omega) e3.fr.adv (hB.keep fun j hj=>e3.h j (Flt j hj) (by simp)) ((g.ext e2.fr e3 fun _ _=>by simp).adv) e3.adv nxt⟩
theorem c13 (l:List Cl) (hl:∀ c∈l,ClF c) (hn:l.length<=maxLen) (ho:∀ c∈l,c.ok=true):∃ s',WideC mEv 13 [.sl false (l.map Cl.av)] St.empty (.bool true) s':=by
 have h:=aWx (.sl false (l.map Cl.av)) St.empty (Q:=fun r _=>r=.bool true) (by
  have hcl:(AV.sl false (l.map Cl.av)).closed=true:=by simp only [AV.closed];exact fA _ _ aAe
  unfold f13;refine aP aTx (by simp) ?_;simp only [wx,wy,Z0,Z1,reduceCtorEq];refine aP (bEa false l ho) (by simp [hcl]) ?_
  cases hf:bEn l with
  | false=>simp only [wx,wy,Z0,Z1,reduceCtorEq]
  | true =>
   have hb:lK 88 []=some (.agg [.nils,.nils,.nils,.nils,.nilm]):=by rw [bQc];rfl
   have hc0:(AV.agg [AV.nils,AV.nils,AV.nils,AV.nils,.nilm]).cells=[.nils,.nils,.nils,.nils,.nilm]:=rfl;simp only [hb,hc0,wx,wy,Z0,Z1,reduceCtorEq];refine ⟨rfl,?_⟩;refine ⟨l.length+1,l13 l hl hn l.length 0 _ [St.empty.nx+13] sk0 (by omega) (fun j hj=>?_) (aUb aF).adv aWc aVr⟩;have hj:St.empty.nx+16<=j:=hj;rw [adv_h,aB (by omega)]
   exact jP j (by omega))
 obtain ⟨r,s',h1,h2⟩:=h;subst h2;exact ⟨s',h1⟩
end
end
noncomputable section
section
variable {H:Type}
theorem aNv:lR Tryz.ty 67=some [9,3,4,65,33]:=by kernel_rfl
theorem aIu:lR Tryz.ty 93=some [3,3,67,33]:=by kernel_rfl
theorem HJ:lR Tryz.ty 151=some [9,3]:=by kernel_rfl
theorem bLq (n:Nat) (d:DataW H) (h:TyD Tryz.ty n 151 d):∃ p:List UInt8×Int,dAV d=lE p:=by
 obtain ⟨m,l,rfl,rfl,hl,hf⟩:=h.struct HJ
 match l,hl with
 | [d0,d1],_ =>
 obtain ⟨x,rfl,_⟩:=(hf 0 9 d0 rfl rfl).str (by kernel_rfl);obtain ⟨a,rfl,_⟩:=(hf 1 3 d1 rfl rfl).int (k:=.i64) (by kernel_rfl);exact ⟨(x,a),rfl⟩
theorem aXg {α:Type} {f:α->AV} {p:DataW H->Prop} (h:∀ d,p d->∃ a,dAV d=f a) (l:List (DataW H)) (hl:∀ d∈l,p d):∃ bs:List α,AF l=bs.map f/\bs.length=l.length:=by
 induction l with
 | nil=>exact ⟨[],rfl,rfl⟩
 | cons d l ih =>obtain ⟨a,ha⟩:=h d (hl d (m007 ..));obtain ⟨bs,h1,h2⟩:=ih fun x hx=>hl x (m005 _ hx);exact ⟨a::bs,by simp only [AF,ha,h1,m039],by simp [h2]⟩
end
end
noncomputable section
mutual
def Sx.bk:Sx->Nat
 | .mk _ _ t _ _ items=>1+t.length+Sx.bks items
def Sx.bks:List Sx->Nat
 | []=>0
 | s::l=>s.bk+Sx.bks l
end
section
variable {H:Type}
theorem aPc {T:Ty} {e t:TypeId} {n:Nat} {d:DataW H} (h:aRg T t=some e) (hd:TyD T n t d):∃ (m:Nat) (l:List (DataW H)),n=m+1/\dAV d=.sl false (AF l)/\l.length<=maxLen/\(∀ x∈l,TyD T m e x)/\Rows.uptoBulkAll l<=Rows.uptoBulk d:=by
 cases n with
 | zero=>exact hd.elim
 | succ m =>
  unfold aRg at h;unfold TyD at hd
  split at h
  ·rename_i hu;rw [hu] at hd;cases h;rcases hd with rfl | ⟨l,r,rfl,h1,h2⟩
   ·exact ⟨m,[],rfl,rfl,by simp,(fun _ h=>by cases h),by simp [Rows.uptoBulkAll]⟩
   ·exact ⟨m,l,rfl,rfl,h1,h2,by simp only [Rows.uptoBulk];omega⟩
  ·cases h
theorem XP:∀ (n:Nat) (d:DataW H),TyD Tryz.ty n 33 d->∃ s:Sx,dAV d=s.av/\s.ok=true/\s.bk<=Rows.uptoBulk d:=by
 intro n
 induction n using Nat.strongRecOn with
 | ind n ih =>
 intro d hd;obtain ⟨m,l,rfl,rfl,hl,hf⟩:=hd.struct aHz
 match l,hl with
 | [d0,d1,d2,d3],_ =>
 obtain ⟨b,rfl⟩:=(hf 0 4 d0 rfl rfl).bool (by kernel_rfl);obtain ⟨m1,l1,rfl,rfl,hl1,hf1⟩:=(hf 1 30 d1 rfl rfl).struct aKx;obtain ⟨a,rfl,ha⟩:=(hf 2 3 d2 rfl rfl).int (k:=.i64) (by kernel_rfl);obtain ⟨m2,its,hm,hv,hlen,hel,hbk⟩:=aPc (e:=33) (by kernel_rfl) (hf 3 31 d3 rfl rfl)
 match l1,hl1 with
 | [e0,e1,e2],_ =>
 obtain ⟨k,rfl,hk⟩:=(hf1 0 3 e0 rfl rfl).int (k:=.i64) (by kernel_rfl);obtain ⟨x,rfl,hx⟩:=(hf1 1 9 e1 rfl rfl).str (by kernel_rfl);obtain ⟨p,rfl,hp⟩:=(hf1 2 3 e2 rfl rfl).int (k:=.i64) (by kernel_rfl)
 have:∀ l:List (DataW H),(∀ x∈l,TyD Tryz.ty m2 33 x)->∃ is:List Sx,AF l=Sx.avs is/\is.length=l.length/\Sx.oks is=true/\Sx.bks is<=Rows.uptoBulkAll l:=by
  intro l
  induction l with
  | nil=>intro _;exact ⟨[],rfl,rfl,rfl,bK _⟩
  | cons y l ihl =>intro hy;obtain ⟨s,hs,ho,hb⟩:=ih m2 (by omega) y (hy y (m007 ..));obtain ⟨is,h1,h2,h3,h4⟩:=ihl fun x hx=>hy x (m005 _ hx);exact ⟨s::is,by simp only [AF,Sx.avs,hs,h1],by simp [h2],by simp only [Sx.oks,ho,h3,jH],by simp only [Sx.bks,Rows.uptoBulkAll];omega⟩
 obtain ⟨is,h1,h2,h3,h4⟩:=this its hel;refine ⟨.mk b k x p a is,?_,?_,?_⟩
 ·simp only [dAV,FQ,AV.cells,hv,List.cons_append,List.nil_append,m011,Sx.av,h1]
 ·simp only [Sx.ok,pK,hk,hx,hp,ha,h2,hlen,h3,decide_true,jH]
 ·simp only [Sx.bk,Rows.uptoBulk,Rows.uptoBulkAll];omega
def Dc.bk (d:Dc):Nat:=d.ps.length+d.nm.length+d.body.bk+1
theorem aYf (n:Nat) (d:DataW H) (h:TyD Tryz.ty n 151 d):1<=Rows.uptoBulk d:=by obtain ⟨m,l,rfl,rfl,hl,hf⟩:=h.struct HJ;simp only [Rows.uptoBulk];omega
theorem aVk (n:Nat) (d:DataW H) (h:TyD Tryz.ty n 67 d):∃ c:Dc,dAV d=c.av/\c.ok=true/\c.bk<=Rows.uptoBulk d:=by
 obtain ⟨m,l,rfl,rfl,hl,hf⟩:=h.struct aNv
 match l,hl with
 | [d0,d1,d2,d3,d4],_ =>
 obtain ⟨x,rfl,hx⟩:=(hf 0 9 d0 rfl rfl).str (by kernel_rfl);obtain ⟨a,rfl,ha⟩:=(hf 1 3 d1 rfl rfl).int (k:=.i64) (by kernel_rfl);obtain ⟨b,rfl⟩:=(hf 2 4 d2 rfl rfl).bool (by kernel_rfl);obtain ⟨m2,its,hm,hv,hlen,hel,hbk⟩:=aPc (e:=151) (by kernel_rfl) (hf 3 65 d3 rfl rfl);obtain ⟨s,hs,ho,hb⟩:=XP m d4 (hf 4 33 d4 rfl rfl);obtain ⟨ps,h1,h2⟩:=aXg (f:=lE) (fun d h=>bLq m2 d h) its hel
 have hlb:∀ l:List (DataW H),(∀ x∈l,TyD Tryz.ty m2 151 x)->l.length<=Rows.uptoBulkAll l:=by
  intro l
  induction l with
  | nil=>intro _;exact bK _
  | cons y l ihl =>intro hy;have h1:=aYf m2 y (hy y (m007 ..));have h2:=ihl fun x hx=>hy x (m005 _ hx);simp only [List.length_cons,Rows.uptoBulkAll];omega
 have hlb:=hlb its hel;refine ⟨⟨x,a,b,ps,s⟩,?_,?_,?_⟩
 ·simp only [dAV,FQ,AV.cells,hv,h1,hs,List.cons_append,List.nil_append,m011];rfl
 ·simp only [Dc.ok,pK,hx,ha,h2,hlen,ho,decide_true,jH]
 ·simp only [Dc.bk,Rows.uptoBulk,Rows.uptoBulkAll];omega
end
mutual
theorem SX:∀ (s:Sx),s.ok=true->s.bk<=2 ^ 20->s.fit/\s.wt<=s.bk
 | .mk b k x p a items,ho,h=>by
  simp only [Sx.bk] at h;simp only [Sx.ok,pK,cR,decide_eq_true_eq] at ho;obtain ⟨f1,f2,f3⟩:=XG items ho.2 (by omega);refine ⟨⟨?_,by omega,by omega,f1⟩,?_⟩
  ·have h1:=ho.1.1.1.1.1;simp only [Lit.wf,cR,decide_eq_true_eq] at h1;exact h1
  ·simp only [Sx.wt,Sx.bk];omega
theorem XG:∀ (l:List Sx),Sx.oks l=true->Sx.bks l<=2 ^ 20->Sx.fits l/\Sx.wts l<=Sx.bks l/\l.length<=Sx.bks l
 | [],_,_=>⟨trivial,bK _,bK _⟩
 | s::l,ho,h=>by
  simp only [Sx.bks] at h;simp only [Sx.oks,cR] at ho;obtain ⟨f1,f2⟩:=SX s ho.1 (by omega);obtain ⟨g1,g2,g3⟩:=XG l ho.2 (by omega);have hp:1<=s.bk:=by cases s;simp only [Sx.bk];omega
  exact ⟨⟨f1,g1⟩,by simp only [Sx.wts,Sx.bks];omega,by simp only [List.length_cons,Sx.bks];omega⟩
end
end
noncomputable section
section
variable {H:Type}
theorem aXi (n:Nat) (d:DataW H) (h:TyD Tryz.ty n 93 d) (hb:Rows.uptoBulk d<=2 ^ 20):∃ c:Cl,dAV d=c.av/\c.ok=true/\ClF c:=by
 obtain ⟨m,l,rfl,rfl,hl,hf⟩:=h.struct aIu
 match l,hl with
 | [d0,d1,d2,d3],_ =>
 obtain ⟨k,rfl,hk⟩:=(hf 0 3 d0 rfl rfl).int (k:=.i64) (by kernel_rfl);obtain ⟨a,rfl,ha⟩:=(hf 1 3 d1 rfl rfl).int (k:=.i64) (by kernel_rfl);obtain ⟨c,hc,hco,hcb⟩:=aVk m d2 (hf 2 67 d2 rfl rfl);obtain ⟨s,hs,ho,hsb⟩:=XP m d3 (hf 3 33 d3 rfl rfl);simp only [Rows.uptoBulk,Rows.uptoBulkAll] at hb;have hbk:c.bk=c.ps.length+c.nm.length+c.body.bk+1:=rfl;have hbo:c.body.ok=true:=by have:=hco;simp only [Dc.ok,cR] at this;exact this.2
 obtain ⟨f1,f2⟩:=SX s ho (by omega);obtain ⟨g1,g2⟩:=SX c.body hbo (by omega);refine ⟨⟨k,a,c,s⟩,?_,?_,⟨⟨g1,?_,?_,hco⟩,⟨f1,ho⟩,?_⟩⟩
 ·simp only [dAV,FQ,hc,hs,m011];rfl
 ·simp only [Cl.ok,pK,hk,ha,hco,ho,jH]
 ·show c.body.wt<=2 ^ 20;omega
 ·show c.ps.length<=2 ^ 20;omega
 ·show s.wt<=2 ^ 20;omega
theorem cls_bulk (n:Nat) (d:DataW H) (h:TyD Tryz.ty n 79 d) (hb:Rows.uptoBulk d<=2 ^ 20):∃ L:List Cl,dAV d=.sl false (L.map Cl.av)/\L.length<=maxLen/\(∀ c∈L,c.ok=true)/\∀ c∈L,ClF c:=by
 obtain ⟨m,its,hm,hv,hlen,hel,hbk⟩:=aPc (e:=93) (by kernel_rfl) h
 have:∀ l:List (DataW H),(∀ x∈l,TyD Tryz.ty m 93 x)->Rows.uptoBulkAll l<=2 ^ 20->∃ L:List Cl,AF l=L.map Cl.av/\L.length=l.length/\(∀ c∈L,c.ok=true)/\∀ c∈L,ClF c:=by
  intro l
  induction l with
  | nil=>intro _ _;exact ⟨[],rfl,rfl,(fun _ h=>by cases h),fun _ h=>by cases h⟩
  | cons y l ihl =>
   intro hy hl;simp only [Rows.uptoBulkAll] at hl;obtain ⟨c,hc,ho,hf⟩:=aXi m y (hy y (m007 ..)) (by omega);obtain ⟨L,h1,h2,h3,h4⟩:=ihl (fun x hx=>hy x (m005 _ hx)) (by omega);refine ⟨c::L,by simp only [AF,hc,h1,m039],by simp [h2],?_,?_⟩
   ·intro x hx;rcases m013.1 hx with rfl | hx
    ·exact ho
    ·exact h3 x hx
   ·intro x hx;rcases m013.1 hx with rfl | hx
    ·exact hf
    ·exact h4 x hx
 obtain ⟨L,h1,h2,h3,h4⟩:=this its hel (by omega);exact ⟨L,by rw [hv,h1],by omega,h3,h4⟩
end
end
end Go.Proofs.YtdehdahimkcakaaGreatDoor
