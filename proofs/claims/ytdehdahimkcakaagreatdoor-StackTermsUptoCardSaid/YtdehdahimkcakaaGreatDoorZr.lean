/- Texts joined by wip/tools/pack.py: Un,Uo,Uk,Fr,Bu,Tk,Tb,Tc,Ks,Td. -/
import Derived.Test.YtdehdahimkcakaaGreatDoorZq
open Nat renaming reduceAdd→Z0, reduceEqDiff→Z1
set_option linter.unusedSimpArgs false
set_option linter.unusedVariables false
set_option maxHeartbeats 4000000
set_option maxRecDepth 100000
namespace Go.Proofs.YtdehdahimkcakaaGreatDoor
open Go Ai
noncomputable section
def xJ (B B':Bk):Prop:=∃ E,B'=B++E
theorem xJ.refl (B:Bk):xJ B B:=⟨[],by simp⟩
theorem xJ.trans {A B C:Bk} (h:xJ A B) (k:xJ B C):xJ A C:=by obtain ⟨E,rfl⟩:=h;obtain ⟨F,rfl⟩:=k;exact ⟨E++F,by simp⟩
def eZ (B:Bk) (i:Int):Prop:=0<=i/\i < (B.length:Int)
theorem eZ.ext {B B':Bk} {i:Int} (h:eZ B i) (e:xJ B B'):eZ B' i:=by obtain ⟨E,rfl⟩:=e;obtain ⟨h1,h2⟩:=h;exact ⟨h1,by simp only [m006];omega⟩
def Wf (B:Bk):Prop:=B.length<=20000/\∀ n∈B,(∀ i∈n.a,eZ B i)/\(n.op=14->n.a≠[])
theorem yL:Wf []:=⟨by simp,fun n h=>by cases h⟩
theorem IG {k:List UInt8}:∀ {B:Bk} {i:Nat},gQ k B=some i->∀ E,gQ k (B++E)=some i:=by
 intro B
 induction B with
 | nil=>intro i h;cases h
 | cons m B ih =>
  intro i h E;simp only [gQ,List.cons_append] at h ⊢
  cases hk:(k==iB m) with
  | true=>rw [hk] at h;exact h
  | false =>rw [hk] at h;simp only [cond_false,m022] at h ⊢;obtain ⟨j,h1,h2⟩:=h;exact ⟨j,ih h1 E,h2⟩
theorem aLv {k:List UInt8}:∀ {B:Bk} {i:Nat},gQ k B=some i->i < B.length:=by
 intro B
 induction B with
 | nil=>intro i h;cases h
 | cons m B ih =>
  intro i h;simp only [gQ] at h
  cases hk:(k==iB m) with
  | true=>rw [hk] at h;simp only [cond_true,m000] at h;subst h;simp
  | false =>rw [hk] at h;simp only [cond_false,m022] at h;obtain ⟨j,h1,rfl⟩:=h;have:=ih h1;simp only [List.length_cons];omega
theorem ZU {n:Nd}:∀ {B:Bk},gQ (iB n) B=none->gQ (iB n) (B++[n])=some B.length:=by
 intro B
 induction B with
 | nil=>intro _;simp [gQ]
 | cons m B ih =>
  intro h;simp only [gQ,List.cons_append] at h ⊢
  cases hk:(iB n==iB m) with
  | true=>rw [hk] at h;cases h
  | false =>rw [hk] at h;simp only [cond_false,Option.map_eq_none_iff] at h ⊢;rw [ih h];simp
theorem DF {B:Bk} {i:Int} (h:eZ B i) (E:Bk):mA (B++E) i=mA B i:=by obtain ⟨h1,h2⟩:=h;simp only [mA,show ¬ (i < 0) by omega,decide_false,cond_false];exact m051 (by omega)
theorem vA {B:Bk} {i:Int} (h:eZ B i) (E:Bk):jO (B++E) i=jO B i:=by simp only [jO,DF h]
theorem QQ {B:Bk} {i:Int} (h:eZ B i) (E:Bk):UM (B++E) i=UM B i:=by simp only [UM,DF h]
theorem pZ {B:Bk} {i:Int} {n:Nd} (h:mA B i=some n):n∈B:=by
 simp only [mA] at h
 cases hc:decide (i < 0) with
 | true=>rw [hc] at h;cases h
 | false=>rw [hc] at h;exact m017 h
theorem zK {B:Bk} {i:Int} (hw:Wf B) (h:eZ B i) (E:Bk):gI (B++E) i=gI B i:=by
 simp only [gI,DF h]
 cases hn:mA B i with
 | none=>rfl
 | some n =>
  simp only
  cases ha:n.a with
  | nil=>rfl
  | cons j l=>simp only [QQ ((hw.2 n (pZ hn)).1 j (by rw [ha];exact m007 ..))]
theorem RL {B:Bk} (x:wE) (E:Bk):∀ (a:List Int) (i:Nat) (last:Int),(∀ id∈a,eZ B id)->dL (B++E) x i last a=dL B x i last a:=by
 intro a
 induction a with
 | nil=>intro i last _;rfl
 | cons id a ih =>intro i last h;simp only [dL,vA (h id (m007 ..)),ih _ _ fun j hj=>h j (m005 _ hj)]
theorem aRu {B:Bk} (hw:Wf B) (E:Bk):∀ (a:List Int),(∀ id∈a,eZ B id)->gD (B++E) a=gD B a:=by
 intro a
 induction a with
 | nil=>intro _;rfl
 | cons id a ih=>intro h;simp only [gD,zK hw (h id (m007 ..)),ih fun j hj=>h j (m005 _ hj)]
theorem KJ {B:Bk} {a:List Int}:a.any (AK B)=false↔∀ i∈a,eZ B i:=by
 simp only [List.any_eq_false,AK,eZ,GO,decide_eq_true_eq];constructor
 ·intro h i hi;have:=h i hi;omega
 ·intro h i hi;have:=h i hi;omega
theorem IY {B:Bk} (E:Bk):∀ (ps:List (List UInt8×Int)) (a:List Int),(∀ id∈a,eZ B id)->eG (B++E) ps a=eG B ps a:=by
 intro ps
 induction ps with
 | nil=>intro a _;rfl
 | cons p ps ih =>
  intro a h
  cases a with
  | nil=>rfl
  | cons i a=>simp only [eG,vA (h i (m007 ..)),ih a fun j hj=>h j (m005 _ hj)]
section
variable {α β:Type}
def Stb (ok:α->Bool) (P:α->Bk->Prop) (Q:α->Prop) (c:Sg->Option (α×Sg)) (B:Bk):Prop :=
 ∀ M r B' M',c (B,M)=some (r,(B',M'))->M'=M/\xJ B B'/\Wf B' /\
  (ok r=true->P r B'/\∀ E M2,Wf (B'++E)->c (B'++E,M2)=some (r,(B'++E,M2))) /\
  (ok r=false->Q r/\∀ M2,c (B',M2)=some (r,(B',M2)))
def PF (c:Sg->Option (α×Sg)) (ok:α->Bool) (k:α->Sg->Option (β×Sg)) (er:α->β):Sg->Option (β×Sg) :=
 fun σ=>(c σ).bind fun r=>bif ok r.1 then k r.1 r.2 else some (er r.1,r.2)
theorem uU {ok:α->Bool} {P:α->Bk->Prop} {Q:α->Prop} {ok2:β->Bool} {P2:β->Bk->Prop} {Q2:β->Prop} {c:Sg->Option (α×Sg)} {k:α->Sg->Option (β×Sg)} {er:α->β} {B:Bk}
  (hc:Stb ok P Q c B) (hk:∀ r B1,xJ B B1->Wf B1->P r B1->Stb ok2 P2 Q2 (k r) B1) (he:∀ r,ok r=false->Q r->ok2 (er r)=false/\Q2 (er r)):Stb ok2 P2 Q2 (PF c ok k er) B:=by
 intro M r' B' M' h;unfold PF at h ⊢
 cases h1:c (B,M) with
 | none=>rw [h1] at h;cases h
 | some q =>
  obtain ⟨r,B1,M1⟩:=q;obtain ⟨rfl,e1,w1,o1,n1⟩:=hc M r B1 M1 h1;rw [h1] at h;simp only [Option.bind_some] at h
  cases hr:ok r with
  | true =>
   rw [hr] at h;simp only [cond_true] at h;obtain ⟨p1,again⟩:=o1 hr;obtain ⟨rfl,e2,w2,o2,n2⟩:=hk r B1 e1 w1 p1 _ r' B' M' h;obtain ⟨E1,rfl⟩:=e2;refine ⟨rfl,e1.trans ⟨E1,rfl⟩,w2,fun ho=>?_,fun ho=>?_⟩
   ·obtain ⟨p2,again2⟩:=o2 ho;refine ⟨p2,fun E M2 hw=>?_⟩;rw [m019] at hw ⊢;rw [again (E1++E) M2 hw];simp only [Option.bind_some,hr,cond_true];rw [<- m019] at hw ⊢;exact again2 E M2 hw
   ·obtain ⟨q2,again2⟩:=n2 ho;refine ⟨q2,fun M2=>?_⟩;rw [again E1 M2 w2];simp only [Option.bind_some,hr,cond_true];exact again2 M2
  | false =>
   rw [hr] at h;simp only [cond_false,m000,m001] at h;obtain ⟨rfl,rfl,rfl⟩:=h;obtain ⟨q1,again⟩:=n1 hr;obtain ⟨h2,h3⟩:=he r hr q1;refine ⟨rfl,e1,w1,fun ho=>?_,fun _=>⟨h3,fun M2=>?_⟩⟩
   ·rw [h2] at ho;cases ho
   ·rw [again M2];simp only [Option.bind_some,hr,cond_false]
theorem FD {ok:α->Bool} {P:α->Bk->Prop} {Q:α->Prop} {B:Bk} (hw:Wf B) (r:α) (hp:ok r=true->P r B) (hq:ok r=false->Q r):Stb ok P Q (fun σ=>some (r,σ)) B:=by intro M r' B' M' h;simp only [m000,m001] at h;obtain ⟨rfl,rfl,rfl⟩:=h;exact ⟨rfl,xJ.refl _,hw,fun ho=>⟨hp ho,fun _ _ _=>rfl⟩,fun ho=>⟨hq ho,fun _=>rfl⟩⟩
theorem uZ {ok:α->Bool} {P:α->Bk->Prop} {Q:α->Prop} {B:Bk}:Stb ok P Q (fun _=>none) B:=fun M r B' M' h=>by cases h
end
abbrev okE (r:Int×Int):Bool:=r.2==0
abbrev PE (r:Int×Int) (B:Bk):Prop:=eZ B r.1
abbrev QE (r:Int×Int):Prop:=r.1=0
abbrev RI (c:Sg->Rt) (B:Bk):Prop:=Stb okE PE QE c B
theorem dZ {B:Bk} (hw:Wf B) (e:Int) (he:e≠0):RI (fun σ=>some ((0,e),σ)) B:=FD hw _ (fun h=>by simp [okE] at h;exact absurd h he) (fun _=>rfl)
theorem nL {g:Bk->(Int×Int)×Bk} {B:Bk} (h1:xJ B (g B).2) (h2:Wf (g B).2) (h3:(g B).1.2=0->eZ (g B).2 (g B).1.1/\∀ E,Wf ((g B).2++E)->g ((g B).2++E)=((g B).1,(g B).2++E))
  (h4:(g B).1.2≠0->(g B).1.1=0/\g (g B).2=g B):RI (fun σ=>pU (g σ.1) σ.2) B:=by
 intro M r B' M' h;simp only [pU,m000,m001] at h;obtain ⟨rfl,rfl,rfl⟩:=h;refine ⟨rfl,h1,h2,fun ho=>?_,fun ho=>?_⟩
 ·obtain ⟨a,b⟩:=h3 (by simpa [okE] using ho);exact ⟨a,fun E M2 hw=>by simp only [pU,b E hw]⟩
 ·obtain ⟨a,b⟩:=h4 (by simpa [okE] using ho);exact ⟨a,fun M2=>by simp only [pU,b]⟩
theorem aWw {B:Bk} {n:Nd} (hw:Wf B) (hl:B.length≠20000) (ha:∀ i∈n.a,eZ B i) (h14:n.op=14->n.a≠[]):Wf (B++[n]):=by
 refine ⟨by have:=hw.1;simp only [m006,List.length_singleton];omega,?_⟩;intro m hm;rcases m003.1 hm with hm | hm
 ·exact ⟨fun i hi=>((hw.2 m hm).1 i hi).ext ⟨[n],rfl⟩,(hw.2 m hm).2⟩
 ·simp only [m008] at hm;subst hm;exact ⟨fun i hi=>(ha i hi).ext ⟨[m],rfl⟩,h14⟩
theorem oL (B:Bk) (n:Nd):(∃ i,gQ (iB n) B=some i/\fY B n=(((i:Int),0),B))\/(gQ (iB n) B=none/\B.length=20000/\fY B n=((0,2),B))\/(gQ (iB n) B=none/\B.length≠20000/\fY B n=(((B.length:Int),0),B++[n])):=by
 unfold fY
 cases h:gQ (iB n) B with
 | some i=>exact .inl ⟨i,rfl,rfl⟩
 | none =>
  cases hb:((B.length:Int)==20000) with
  | true=>exact .inr (.inl ⟨rfl,by simp at hb;omega,by simp⟩)
  | false=>exact .inr (.inr ⟨rfl,by simp at hb;omega,by simp⟩)
theorem xS {B:Bk} {n:Nd} {i:Nat} (h:gQ (iB n) B=some i):fY B n=(((i:Int),0),B):=by unfold fY;rw [h]
theorem MI {B:Bk} {n:Nd} (hw:Wf B) (ha:∀ i∈n.a,eZ B i) (h14:n.op=14->n.a≠[]):xJ B (fY B n).2/\Wf (fY B n).2/\((fY B n).1.2=0->eZ (fY B n).2 (fY B n).1.1/\∀ E,fY ((fY B n).2++E) n=((fY B n).1,(fY B n).2++E)) /\
  ((fY B n).1.2≠0->(fY B n).1.1=0/\fY (fY B n).2 n=fY B n):=by
 rcases oL B n with ⟨i,h1,h2⟩ | ⟨h1,h2,h3⟩ | ⟨h1,h2,h3⟩
 ·rw [h2];refine ⟨xJ.refl _,hw,fun _=>⟨⟨by simp,by have:=aLv h1;simp;omega⟩,fun E=>xS (IG h1 E)⟩,fun h=>absurd rfl h⟩
 ·rw [h3];exact ⟨xJ.refl _,hw,fun h=>absurd (show (2:Int)=0 from h) (by decide),fun _=>⟨rfl,h3⟩⟩
 ·rw [h3];exact ⟨⟨[n],rfl⟩,aWw hw h2 ha h14,fun _=>⟨⟨by simp,by simp;omega⟩,fun E=>xS (IG (ZU h1) E)⟩,fun h=>absurd rfl h⟩
theorem AP {B:Bk} {n:Nd} (hw:Wf B) (ha:∀ i∈n.a,eZ B i) (h14:n.op=14->n.a≠[]):RI (fun σ=>pU (fY σ.1 n) σ.2) B:=by obtain ⟨h1,h2,h3,h4⟩:=MI hw ha h14;exact nL (g:=fun B=>fY B n) h1 h2 (fun h=>⟨(h3 h).1,fun E _=>(h3 h).2 E⟩) h4
theorem xZ {B:Bk} (hw:Wf B) (nm:List UInt8) (so:Int):RI (fun σ=>pU (lJ σ.1 nm so) σ.2) B:=by
 unfold lJ
 cases h:(decide (so < 1)||(decide (so > 3)||decide ((nm.length:Int) > 16384))) with
 | true=>exact dZ hw 1 (by decide)
 | false=>exact AP hw (fun i hi=>by cases hi) fun h=>absurd (show (1:Int)=14 from h) (by decide)
theorem JB {B:Bk} (hw:Wf B) (v:Bool):RI (fun σ=>pU (LM σ.1 v) σ.2) B:=AP hw (fun i hi=>by cases hi) fun h=>by cases v<;>exact absurd h (by decide)
theorem OH {B:Bk} (hw:Wf B) (neg:Bool) (n:List Nat):RI (fun σ=>pU (CN σ.1 neg n) σ.2) B:=by
 unfold CN
 cases h:decide (CV neg n < 0) with
 | true=>exact dZ hw 1 (by decide)
 | false=>exact AP hw (fun i hi=>by cases hi) fun h=>absurd (show (4:Int)=14 from h) (by decide)
theorem XS {B:Bk} (hw:Wf B) (s:List (Int×Int)):RI (fun σ=>pU (SN σ.1 s) σ.2) B:=by
 unfold SN
 cases h:LC s with
 | false=>exact dZ hw 1 (by decide)
 | true=>exact AP hw (fun i hi=>by cases hi) fun h=>absurd (show (5:Int)=14 from h) (by decide)
theorem XJ {B:Bk} (hw:Wf B) (op:Int) (a:List Int):RI (fun σ=>pU (jN σ.1 op a) σ.2) B:=by
 by_cases hbad:a.any (AK B)=true
 ·
  have:∃ e,e≠0/\jN B op a=((0,e),B):=by
   unfold jN
   cases h0:decide (op < 0) with
   | true=>exact ⟨101,by decide,rfl⟩
   | false =>
    simp only [cond_false]
    cases h1:gK[op.toNat]? with
    | none=>exact ⟨101,by decide,rfl⟩
    | some x =>
     simp only
     cases h2:(x.parts==0) with
     | true=>exact ⟨101,by decide,rfl⟩
     | false =>simp only [cond_false,hbad,m078,cond_true];exact ⟨1,by decide,rfl⟩
  obtain ⟨e,he,h⟩:=this;refine nL (g:=fun B=>jN B op a) ?_ ?_ ?_ ?_<;>simp only [h]
  ·exact xJ.refl _
  ·exact hw
  ·exact fun h=>absurd h he
  ·exact fun _=>⟨trivial,trivial⟩
 ·have hin:=KJ.1 (by simpa using hbad)
  have key:∀ E:Bk,jN (B++E) op a=(bif decide (op < 0) then ((0,101),B++E) else match gK[op.toNat]? with
   | none=>((0,101),B++E)
   | some x=>bif x.parts==0 then ((0,101),B++E) else
    bif decide ((a.length:Int) < x.parts)||((decide ((a.length:Int) > x.parts)&&!x.more)||decide ((a.length:Int) > 200)) then ((0,1),B++E) else
    bif dL B x 0 0 a==0 then ((0,90),B++E) else
    bif op==17&&!decide (gD B a<=1) then ((0,101),B++E) else fY (B++E) ⟨op,dL B x 0 0 a,a,[],false,[],[]⟩):=by
   intro E;have hb:a.any (AK (B++E))=false:=KJ.2 fun i hi=>(hin i hi).ext ⟨E,rfl⟩;unfold jN;simp only [hb,Bool.or_false,RL _ E a _ _ hin,aRu hw E a hin];rfl
  have key0:=key [];simp only [m011] at key0
  cases h0:decide (op < 0) with
  | true =>simp only [h0,cond_true] at key key0;exact nL (g:=fun B=>jN B op a) (by simp only [key0];exact xJ.refl _) (by simp only [key0];exact hw) (fun h=>by rw [key0] at h;exact absurd (show (101:Int)=0 from h) (by decide)) (fun _=>by simp only [key0];exact ⟨trivial,trivial⟩)
  | false =>
  simp only [h0,cond_false] at key key0
  cases h1:gK[op.toNat]? with
  | none =>simp only [h1] at key key0;exact nL (g:=fun B=>jN B op a) (by simp only [key0];exact xJ.refl _) (by simp only [key0];exact hw) (fun h=>by rw [key0] at h;exact absurd (show (101:Int)=0 from h) (by decide)) (fun _=>by simp only [key0];exact ⟨trivial,trivial⟩)
  | some x =>
  simp only [h1] at key key0
  have er:∀ e:Int,e≠0->jN B op a=((0,e),B)->RI (fun σ=>pU (jN σ.1 op a) σ.2) B:=fun e he h =>
   nL (g:=fun B=>jN B op a) (by simp only [h];exact xJ.refl _) (by simp only [h];exact hw) (fun hh=>by rw [h] at hh;exact absurd hh he) (fun _=>by simp only [h];exact ⟨trivial,trivial⟩)
  cases h2:(x.parts==0) with
  | true=>rw [h2] at key0;exact er 101 (by decide) key0
  | false =>
  rw [h2] at key0;simp only [h2,cond_false] at key key0
  cases h3:(decide ((a.length:Int) < x.parts)||((decide ((a.length:Int) > x.parts)&&!x.more)||decide ((a.length:Int) > 200))) with
  | true=>rw [h3] at key0;exact er 1 (by decide) key0
  | false =>
  simp only [h3,cond_false] at key key0
  cases h4:(dL B x 0 0 a==0) with
  | true=>rw [h4] at key0;exact er 90 (by decide) key0
  | false =>
  simp only [h4,cond_false] at key key0
  cases h5:(op==17&&!decide (gD B a<=1)) with
  | true=>rw [h5] at key0;exact er 101 (by decide) key0
  | false =>
  simp only [h5,cond_false] at key key0
  have h14:op=14->a≠[]:=fun ho ha=>by
   subst ho;subst ha;simp only [LR,decide_eq_false_iff_not] at h3;have:x.parts=1:=by have h6:gK[(14:Int).toNat]?=some ⟨1,false,2,2,2,2⟩:=rfl;rw [h1] at h6;cases h6;rfl
   rw [this] at h3;exact absurd (show (([]:List Int).length:Int) < 1 by decide) h3.1
  obtain ⟨a1,a2,a3,a4⟩:=MI (n:=⟨op,dL B x 0 0 a,a,[],false,[],[]⟩) hw hin h14;refine nL (g:=fun B=>jN B op a) (by simp only [key0];exact a1) (by simp only [key0];exact a2) (fun h=>?_) (fun h=>?_)
  ·simp only [key0] at h ⊢;obtain ⟨b1,b2⟩:=a3 h;refine ⟨b1,fun E _=>?_⟩;obtain ⟨E1,hE⟩:=a1;rw [hE,m019,key];have:=b2 E
   rwa [hE,m019] at this
  ·simp only [key0] at h ⊢;obtain ⟨b1,b2⟩:=a4 h;refine ⟨b1,?_⟩;obtain ⟨E1,hE⟩:=a1;rw [hE,key]
   rwa [hE] at b2
section
variable (ps:List UInt8->List Nat×Int)
def nJ (f:List Dc->Ev->Sx->Sg->Rt):Prop:=∀ L env x B,Wf B->(∀ p∈env,eZ B p.2)->RI (f L env x) B
abbrev okL (r:List Int×Int):Bool:=r.2==0
abbrev PL (n:Nat) (r:List Int×Int) (B:Bk):Prop:=r.1.length=n/\∀ i∈r.1,eZ B i
theorem iI {f:List Dc->Ev->Sx->Sg->Rt} (hf:nJ f) (L:List Dc) (env:Ev):∀ (l:List Sx) (B:Bk),Wf B->(∀ p∈env,eZ B p.2)->Stb okL (PL l.length) (fun r=>r.1=[]) (dS f L env l) B:=by
 intro l
 induction l with
 | nil=>intro B hw he;exact FD hw _ (fun _=>⟨rfl,fun i hi=>by cases hi⟩) (fun _=>rfl)
 | cons x l ih =>
  intro B hw he;refine uU (ok2:=okL) (Q2:=fun r:List Int×Int=>r.1=[]) (k:=fun r σ=>(dS f L env l σ).map fun q=>((bif q.1.2==0 then r.1::q.1.1 else [],q.1.2),q.2)) (er:=fun r=>([],r.2)) (hf L env x B hw he) (fun r B1 e1 w1 p1=>?_) (fun r h _=>⟨h,rfl⟩);have h2:=ih B1 w1 fun p hp=>(he p hp).ext e1;intro M q B2 M2 h;simp only [m022,m001] at h;obtain ⟨⟨⟨is,e⟩,B3,M3⟩,h3,rfl,rfl,rfl⟩:=h;obtain ⟨rfl,a1,a2,a3,a4⟩:=h2 M _ _ _ h3;refine ⟨rfl,a1,a2,fun ho=>?_,fun ho=>?_⟩
  ·have ho:(e==0)=true:=ho;obtain ⟨⟨b1,b2⟩,b3⟩:=a3 ho;refine ⟨⟨?_,?_⟩,fun E M2 hw2=>?_⟩
   ·simp only [ho,cond_true,List.length_cons];exact congrArg (·+1) b1
   ·intro i hi;simp only [ho,cond_true,m013] at hi;rcases hi with rfl | hi
    ·exact p1.ext a1
    ·exact b2 i hi
   ·simp only [b3 E M2 hw2,Option.map_some]
  ·have ho:(e==0)=false:=ho;obtain ⟨b1,b2⟩:=a4 ho;exact ⟨by simp only [ho,cond_false],fun M2=>by simp only [b2 M2,Option.map_some]⟩
theorem kB {B:Bk}:∀ (ns:List (List UInt8)) (a:List Int),(∀ i∈a,eZ B i)->∀ p∈List.zip ns a,eZ B p.2:=by intro ns a h p hp;exact h p.2 (List.of_mem_zip (a:=p.1) (b:=p.2) hp).2
theorem OM {f:List Dc->Ev->Sx->Sg->Rt} (hf:nJ f) (L:List Dc) (k:Nat) (a:List Int) (B:Bk) (hw:Wf B) (ha:∀ i∈a,eZ B i):RI (fP false f L k a) B:=by
 unfold fP
 cases L[k]? with
 | none=>exact uZ
 | some d =>
  simp only
  cases hl:(a.length==d.ps.length) with
  | false=>exact dZ hw 1 (by decide)
  | true =>
   simp only [cond_true];intro M r B' M' h
   cases hs:eG B d.ps a with
   | false =>simp only [hs,cond_false,m000,m001] at h;obtain ⟨rfl,rfl,rfl⟩:=h;exact ⟨rfl,xJ.refl _,hw,fun ho=>absurd (show false=true from ho) (by decide),fun _=>⟨rfl,fun M2=>by simp only [hs,cond_false]⟩⟩
   | true =>
    simp only [hs,cond_true,cond_false,m022,m035,m001] at h;obtain ⟨⟨q,B2,M2⟩,h1,rfl,rfl,rfl⟩:=h;obtain ⟨rfl,a1,a2,a3,a4⟩:=hf (L.take k) _ d.body B hw (kB _ a ha) M _ _ _ h1;obtain ⟨E1,rfl⟩:=a1;refine ⟨rfl,⟨E1,rfl⟩,a2,fun ho=>?_,fun ho=>?_⟩
    ·obtain ⟨b1,b2⟩:=a3 ho;refine ⟨b1,fun E M2 hw2=>?_⟩;simp only [m019,IY _ d.ps a ha,hs,cond_true,cond_false,m035];have:=b2 E M2 hw2;rw [m019] at this;rw [this];rfl
    ·obtain ⟨b1,b2⟩:=a4 ho;refine ⟨b1,fun M2=>?_⟩;simp only [IY _ d.ps a ha,hs,cond_true,cond_false,m035,b2 M2];rfl
theorem aId {B:Bk} {nm:List UInt8} {i:Int}:∀ {env:Ev},(∀ p∈env,eZ B p.2)->bP env nm=some i->eZ B i:=by
 intro env
 induction env with
 | nil=>intro _ h;cases h
 | cons p l ih =>
  intro he h;simp only [bP] at h
  cases hb:bP l nm with
  | some j=>rw [hb] at h;cases h;exact ih (fun q hq=>he q (m005 _ hq)) hb
  | none =>
   rw [hb] at h;simp only at h
   cases hn:(p.1==nm) with
   | true=>rw [hn] at h;cases h;exact he p (m007 ..)
   | false=>rw [hn] at h;cases h
theorem aJb {f:List Dc->Ev->Sx->Sg->Rt} (hf:nJ f) (L:List Dc) (env:Ev) (nm:List UInt8) (B:Bk) (hw:Wf B) (he:∀ p∈env,eZ B p.2):RI (jQ false f L env nm) B:=by
 unfold jQ
 cases nm==iV||nm==nE with
 | true=>exact JB hw _
 | false =>
 simp only [cond_false]
 cases aU nm with
 | true=>exact dZ hw 101 (by decide)
 | false =>
 simp only [cond_false]
 cases hb:bP env nm with
 | some id=>exact FD hw _ (fun _=>aId he hb) (fun h=>by cases h)
 | none =>
 simp only
 cases bR L nm with
 | none=>exact dZ hw 100 (by decide)
 | some k =>
 simp only
 cases L[k]? with
 | none=>exact uZ
 | some d =>
 simp only
 cases d.mac with
 | false=>exact xZ hw nm d.so
 | true =>
 cases d.ps.length==0 with
 | true=>exact OM hf L k [] B hw fun i hi=>by cases hi
 | false=>exact dZ hw 1 (by decide)
theorem aUo {f:List Dc->Ev->Sx->Sg->Rt} (hf:nJ f) (L:List Dc) (env:Ev) (rest:List Sx) (B:Bk) (hw:Wf B) (he:∀ p∈env,eZ B p.2):RI (lT f L env rest) B:=by
 match rest with
 | [] | [_] | _::_::_::_=>exact dZ hw 1 (by decide)
 | [h,y] =>
 unfold lT;dsimp only
 cases h.lst with
 | false=>exact dZ hw 1 (by decide)
 | true =>
 simp only [cond_true]
 cases cD h.its with
 | none=>exact dZ hw 1 (by decide)
 | some q =>
 obtain ⟨ns,ts⟩:=q;simp only
 cases ns.any aU with
 | true=>exact dZ hw 101 (by decide)
 | false =>
 simp only [cond_false]
 cases dbl ns with
 | true=>exact dZ hw 4 (by decide)
 | false =>
 simp only [cond_false];refine uU (k:=fun r=>f L (env++List.zip ns r.1) y) (er:=fun r=>(0,r.2)) (iI hf L env ts B hw he) (fun r B1 e1 w1 p1=>hf _ _ _ _ w1 fun p hp=>?_) (fun r h _=>⟨h,rfl⟩);rcases m003.1 hp with hp | hp
 ·exact (he p hp).ext e1
 ·exact kB ns r.1 p1.2 p hp
theorem aRn {f:List Dc->Ev->Sx->Sg->Rt} (hf:nJ f) (L:List Dc) (env:Ev) (l:List Sx) (B:Bk) (hw:Wf B) (he:∀ p∈env,eZ B p.2):RI (qN false f L env l) B:=by
 match l with
 | []=>exact dZ hw 1 (by decide)
 | h::rest =>
 unfold qN;dsimp only
 cases h.isN with
 | false=>exact dZ hw 101 (by decide)
 | true =>
 simp only [m025,cond_false]
 cases h.txt==KT with
 | true=>exact aUo hf L env rest B hw he
 | false =>
 simp only [cond_false]
 cases bW h.txt rest.length==0&&aU h.txt with
 | true=>exact dZ hw 101 (by decide)
 | false =>
 simp only [cond_false]
 cases bW h.txt rest.length==0 with
 | false =>generalize bW h.txt rest.length=op;show RI (PF (dS f L env rest) okL (fun r σ=>pU (jN σ.1 op r.1) σ.2) (fun r=>(0,r.2))) B;exact uU (iI hf L env rest B hw he) (fun r B1 e1 w1 p1=>XJ w1 _ _) (fun r h _=>⟨h,rfl⟩)
 | true =>
 simp only [cond_true]
 cases bP env h.txt with
 | some i=>exact dZ hw 100 (by decide)
 | none =>
 cases bR L h.txt with
 | none=>exact dZ hw 100 (by decide)
 | some k =>
 simp only
 cases L[k]? with
 | none=>exact uZ
 | some d =>
 simp only
 cases d.mac with
 | false=>exact dZ hw 100 (by decide)
 | true =>
 exact uU (k:=fun r=>fP false f L k r.1) (er:=fun r=>(0,r.2)) (iI hf L env rest B hw he) (fun r B1 e1 w1 p1=>OM hf L k _ B1 w1 p1.2) (fun r h _=>⟨h,rfl⟩)
theorem aLl {f:List Dc->Ev->Sx->Sg->Rt} (hf:nJ f):nJ (iG ps false f):=by
 intro L env x B hw he;unfold iG
 cases x.lst with
 | true=>exact aRn hf L env x.its B hw he
 | false =>
 simp only [cond_false]
 cases x.kind==4 with
 | true =>
  simp only [cond_true]
  cases (ps x.txt).2 != 0 with
  | true=>exact dZ hw 101 (by decide)
  | false=>exact OH hw _ _
 | false =>
 simp only [cond_false]
 cases x.kind==6 with
 | true=>exact XS hw _
 | false =>
 simp only [cond_false]
 cases x.kind==3 with
 | true=>exact aJb hf L env x.txt B hw he
 | false=>exact dZ hw 101 (by decide)
theorem aLa:∀ n,nJ (T ps false n):=by
 intro n
 induction n with
 | zero=>intro L env x B _ _;exact uZ
 | succ n ih=>exact aLl ps ih
end
section
variable (ps:List UInt8->List Nat×Int) {mm:Bool}
abbrev Fn:=List Dc->Ev->Sx->Sg->Rt
def kH (f g:Fn):Prop:=∀ L env x σ r,f L env x σ=some r->g L env x σ=some r
variable {f g:Fn}
theorem lC (h:kH f g) (L:List Dc) (env:Ev):∀ l σ r,dS f L env l σ=some r->dS g L env l σ=some r:=by
 intro l
 induction l with
 | nil=>intro σ r hr;exact hr
 | cons x l ih =>
  intro σ r hr;simp only [dS,m028] at hr ⊢;obtain ⟨q,h1,h2⟩:=hr;refine ⟨q,h _ _ _ _ _ h1,?_⟩
  cases he:(q.1.2==0) with
  | false=>rw [he] at h2;exact h2
  | true =>rw [he] at h2;simp only [cond_true,m022] at h2 ⊢;obtain ⟨w,h3,h4⟩:=h2;exact ⟨w,ih _ _ h3,h4⟩
theorem xP (h:kH f g) (L:List Dc) (k:Nat) (a:List Int) (σ:Sg) (r):fP mm f L k a σ=some r->fP mm g L k a σ=some r:=by
 intro hr;unfold fP at hr ⊢
 cases hk:L[k]? with
 | none=>rw [hk] at hr;exact hr
 | some d =>
  rw [hk] at hr;simp only at hr ⊢
  cases h1:(a.length==d.ps.length) with
  | false=>rw [h1] at hr;exact hr
  | true =>
   rw [h1] at hr;simp only [cond_true] at hr ⊢
   cases h2:eG σ.1 d.ps a with
   | false=>rw [h2] at hr;exact hr
   | true =>
    rw [h2] at hr;simp only [cond_true] at hr ⊢
    cases h3:(bif mm then pF (jY k a) σ.2 else none) with
    | some id=>rw [h3] at hr;exact hr
    | none =>rw [h3] at hr;simp only [m022] at hr ⊢;obtain ⟨w,h4,h5⟩:=hr;exact ⟨w,h _ _ _ _ _ h4,h5⟩
theorem aEw (h:kH f g) (L:List Dc) (env:Ev) (nm:List UInt8) (σ:Sg) (r):jQ mm f L env nm σ=some r->jQ mm g L env nm σ=some r:=by
 intro hr;unfold jQ at hr ⊢
 cases h1:(nm==iV||nm==nE) with
 | true=>rw [h1] at hr;exact hr
 | false =>
 rw [h1] at hr;simp only [cond_false] at hr ⊢
 cases h2:aU nm with
 | true=>rw [h2] at hr;exact hr
 | false =>
 rw [h2] at hr;simp only [cond_false] at hr ⊢
 cases h3:bP env nm with
 | some i=>rw [h3] at hr;exact hr
 | none =>
 rw [h3] at hr;simp only at hr ⊢
 cases h4:bR L nm with
 | none=>rw [h4] at hr;exact hr
 | some k =>
 rw [h4] at hr;simp only at hr ⊢
 cases h5:L[k]? with
 | none=>rw [h5] at hr;exact hr
 | some d =>
 rw [h5] at hr;simp only at hr ⊢
 cases h6:d.mac with
 | false=>rw [h6] at hr;exact hr
 | true =>
 rw [h6] at hr
 cases h7:(d.ps.length==0) with
 | false=>rw [h7] at hr;exact hr
 | true=>rw [h7] at hr;exact xP h L k [] σ r hr
theorem aLp (h:kH f g) (L:List Dc) (env:Ev) (rest:List Sx) (σ:Sg) (r):lT f L env rest σ=some r->lT g L env rest σ=some r:=by
 match rest with
 | [] | [_] | _::_::_::_=>exact id
 | [x,y] =>
 unfold lT;dsimp only
 cases x.lst with
 | false=>exact id
 | true =>
 simp only [cond_true]
 cases cD x.its with
 | none=>exact id
 | some q =>
 obtain ⟨ns,ts⟩:=q;simp only
 cases ns.any aU with
 | true=>exact id
 | false =>
 simp only [cond_false]
 cases dbl ns with
 | true=>exact id
 | false =>
 simp only [cond_false,m028]
 rintro ⟨q,h1,h2⟩
 refine ⟨q,lC h _ _ _ _ _ h1,?_⟩
 cases he:(q.1.2==0) with
 | false=>rw [he] at h2;exact h2
 | true=>rw [he] at h2;exact h _ _ _ _ _ h2
theorem aDt (h:kH f g) (L:List Dc) (env:Ev) (l:List Sx) (σ:Sg) (r):qN mm f L env l σ=some r->qN mm g L env l σ=some r:=by
 match l with
 | []=>exact id
 | x::rest =>
 unfold qN;dsimp only
 cases x.isN with
 | false=>exact id
 | true =>
 simp only [m025,cond_false]
 cases x.txt==KT with
 | true=>exact aLp h L env rest σ r
 | false =>
 simp only [cond_false]
 cases bW x.txt rest.length==0&&aU x.txt with
 | true=>exact id
 | false =>
 simp only [cond_false]
 cases bW x.txt rest.length==0 with
 | false =>
  simp only [cond_false,m028]
  rintro ⟨q,h1,h2⟩
  exact ⟨q,lC h _ _ _ _ _ h1,h2⟩
 | true =>
 simp only [cond_true]
 cases bP env x.txt with
 | some i=>exact id
 | none =>
 cases bR L x.txt with
 | none=>exact id
 | some k =>
 simp only
 cases L[k]? with
 | none=>exact id
 | some d =>
 simp only
 cases d.mac with
 | false=>exact id
 | true =>
 simp only [cond_true,m028]
 rintro ⟨q,h1,h2⟩
 refine ⟨q,lC h _ _ _ _ _ h1,?_⟩
 cases he:(q.1.2==0) with
 | false=>rw [he] at h2;exact h2
 | true=>rw [he] at h2;exact xP h _ _ _ _ _ h2
theorem ID (h:kH f g):kH (iG ps mm f) (iG ps mm g):=by
 intro L env x σ r;unfold iG
 cases x.lst with
 | true=>exact aDt h L env x.its σ r
 | false =>
 simp only [cond_false]
 cases x.kind==4 with
 | true=>exact id
 | false =>
 simp only [cond_false]
 cases x.kind==6 with
 | true=>exact id
 | false =>
 simp only [cond_false]
 cases x.kind==3 with
 | true=>exact aEw h L env x.txt σ r
 | false=>exact id
theorem qR:∀ n m,n<=m->kH (T ps mm n) (T ps mm m):=by
 intro n
 induction n with
 | zero=>intro m _ L env x σ r h;cases h
 | succ n ih =>intro m hm;obtain ⟨k,rfl⟩:∃ k,m=k+1:=⟨m - 1,by omega⟩;exact ID ps (ih k (by omega))
noncomputable def U (mm:Bool):Fn:=fun L env x σ=>by
 classical exact if h:∃ r n,T ps mm n L env x σ=some r then some h.choose else none
theorem pI {L:List Dc} {env:Ev} {x:Sx} {σ:Sg} {r}:U ps mm L env x σ=some r↔∃ n,T ps mm n L env x σ=some r:=by
 unfold U;constructor
 ·intro h
  split at h
  ·rename_i hh;simp only [m000] at h;obtain ⟨n,hn⟩:=hh.choose_spec;rw [h] at hn;exact ⟨n,hn⟩
  ·cases h
 ·rintro ⟨n,hn⟩
  have hh:∃ r n,T ps mm n L env x σ=some r:=⟨r,n,hn⟩;rw [dif_pos hh];obtain ⟨m,hm⟩:=hh.choose_spec;have h1:=qR ps n (max n m) (by omega) _ _ _ _ _ hn;have h2:=qR ps m (max n m) (by omega) _ _ _ _ _ hm;rw [h1] at h2;exact h2.symm
theorem T_U (n:Nat):kH (T ps mm n) (U ps mm):=fun L env x σ r h=>(pI ps).2 ⟨n,h⟩
theorem TP (L:List Dc) (env:Ev):∀ l σ r,dS (U ps mm) L env l σ=some r->∃ n,dS (T ps mm n) L env l σ=some r:=by
 intro l
 induction l with
 | nil=>intro σ r hr;exact ⟨0,hr⟩
 | cons x l ih =>
  intro σ r hr;simp only [dS,m028] at hr;obtain ⟨q,h1,h2⟩:=hr;obtain ⟨n,h1⟩:=(pI ps).1 h1
  cases he:(q.1.2==0) with
  | false =>refine ⟨n,?_⟩;rw [he] at h2;simp only [dS,h1,Option.bind_some,he];exact h2
  | true =>rw [he] at h2;simp only [cond_true,m022] at h2;obtain ⟨w,h3,h4⟩:=h2;obtain ⟨m,h3⟩:=ih _ _ h3;refine ⟨max n m,?_⟩;simp only [dS,qR ps n (max n m) (by omega) _ _ _ _ _ h1,Option.bind_some,he,cond_true,lC (qR ps m (max n m) (by omega)) _ _ _ _ _ h3,Option.map_some,h4]
theorem aQe (L:List Dc) (k:Nat) (a:List Int) (σ:Sg) (r):fP mm (U ps mm) L k a σ=some r->∃ n,fP mm (T ps mm n) L k a σ=some r:=by
 intro hr;unfold fP at hr ⊢
 cases hk:L[k]? with
 | none=>rw [hk] at hr;exact ⟨0,hr⟩
 | some d =>
  rw [hk] at hr;simp only at hr ⊢
  cases h1:(a.length==d.ps.length) with
  | false=>rw [h1] at hr;exact ⟨0,hr⟩
  | true =>
   rw [h1] at hr;simp only [cond_true] at hr ⊢
   cases h2:eG σ.1 d.ps a with
   | false=>rw [h2] at hr;exact ⟨0,hr⟩
   | true =>
    rw [h2] at hr;simp only [cond_true] at hr ⊢
    cases h3:(bif mm then pF (jY k a) σ.2 else none) with
    | some id=>rw [h3] at hr;exact ⟨0,hr⟩
    | none =>rw [h3] at hr;simp only [m022] at hr ⊢;obtain ⟨w,h4,h5⟩:=hr;obtain ⟨n,h4⟩:=(pI ps).1 h4;exact ⟨n,w,h4,h5⟩
theorem bEo (L:List Dc) (env:Ev) (nm:List UInt8) (σ:Sg) (r):jQ mm (U ps mm) L env nm σ=some r->∃ n,jQ mm (T ps mm n) L env nm σ=some r:=by
 intro hr;unfold jQ at hr ⊢
 cases h1:(nm==iV||nm==nE) with
 | true=>rw [h1] at hr;exact ⟨0,hr⟩
 | false =>
 rw [h1] at hr;simp only [cond_false] at hr ⊢
 cases h2:aU nm with
 | true=>rw [h2] at hr;exact ⟨0,hr⟩
 | false =>
 rw [h2] at hr;simp only [cond_false] at hr ⊢
 cases h3:bP env nm with
 | some i=>rw [h3] at hr;exact ⟨0,hr⟩
 | none =>
 rw [h3] at hr;simp only at hr ⊢
 cases h4:bR L nm with
 | none=>rw [h4] at hr;exact ⟨0,hr⟩
 | some k =>
 rw [h4] at hr;simp only at hr ⊢
 cases h5:L[k]? with
 | none=>rw [h5] at hr;exact ⟨0,hr⟩
 | some d =>
 rw [h5] at hr;simp only at hr ⊢
 cases h6:d.mac with
 | false=>rw [h6] at hr;exact ⟨0,hr⟩
 | true =>
 rw [h6] at hr
 cases h7:(d.ps.length==0) with
 | false=>rw [h7] at hr;exact ⟨0,hr⟩
 | true=>rw [h7] at hr;exact aQe ps L k [] σ r hr
theorem bIw (L:List Dc) (env:Ev) (rest:List Sx) (σ:Sg) (r):lT (U ps mm) L env rest σ=some r->∃ n,lT (T ps mm n) L env rest σ=some r:=by
 match rest with
 | [] | [_] | _::_::_::_=>exact fun h=>⟨0,h⟩
 | [x,y] =>
 unfold lT;dsimp only
 cases x.lst with
 | false=>exact fun h=>⟨0,h⟩
 | true =>
 simp only [cond_true]
 cases cD x.its with
 | none=>exact fun h=>⟨0,h⟩
 | some q =>
 obtain ⟨ns,ts⟩:=q;simp only
 cases ns.any aU with
 | true=>exact fun h=>⟨0,h⟩
 | false =>
 simp only [cond_false]
 cases dbl ns with
 | true=>exact fun h=>⟨0,h⟩
 | false =>
 simp only [cond_false,m028]
 rintro ⟨q,h1,h2⟩
 obtain ⟨n,h1⟩:=TP ps _ _ _ _ _ h1
 cases he:(q.1.2==0) with
 | false=>rw [he] at h2;exact ⟨n,q,h1,by rw [he];exact h2⟩
 | true =>rw [he] at h2;obtain ⟨m,h2⟩:=(pI ps).1 h2;exact ⟨max n m,q,lC (qR ps n (max n m) (by omega)) _ _ _ _ _ h1,by rw [he];exact qR ps m (max n m) (by omega) _ _ _ _ _ h2⟩
theorem bFt (L:List Dc) (env:Ev) (l:List Sx) (σ:Sg) (r):qN mm (U ps mm) L env l σ=some r->∃ n,qN mm (T ps mm n) L env l σ=some r:=by
 match l with
 | []=>exact fun h=>⟨0,h⟩
 | x::rest =>
 unfold qN;dsimp only
 cases x.isN with
 | false=>exact fun h=>⟨0,h⟩
 | true =>
 simp only [m025,cond_false]
 cases x.txt==KT with
 | true=>exact bIw ps L env rest σ r
 | false =>
 simp only [cond_false]
 cases bW x.txt rest.length==0&&aU x.txt with
 | true=>exact fun h=>⟨0,h⟩
 | false =>
 simp only [cond_false]
 cases bW x.txt rest.length==0 with
 | false =>
  simp only [cond_false,m028]
  rintro ⟨q,h1,h2⟩
  obtain ⟨n,h1⟩:=TP ps _ _ _ _ _ h1;exact ⟨n,q,h1,h2⟩
 | true =>
 simp only [cond_true]
 cases bP env x.txt with
 | some i=>exact fun h=>⟨0,h⟩
 | none =>
 cases bR L x.txt with
 | none=>exact fun h=>⟨0,h⟩
 | some k =>
 simp only
 cases L[k]? with
 | none=>exact fun h=>⟨0,h⟩
 | some d =>
 simp only
 cases d.mac with
 | false=>exact fun h=>⟨0,h⟩
 | true =>
 simp only [cond_true,m028]
 rintro ⟨q,h1,h2⟩
 obtain ⟨n,h1⟩:=TP ps _ _ _ _ _ h1
 cases he:(q.1.2==0) with
 | false=>rw [he] at h2;exact ⟨n,q,h1,by rw [he];exact h2⟩
 | true =>rw [he] at h2;obtain ⟨m,h2⟩:=aQe ps _ _ _ _ _ h2;exact ⟨max n m,q,lC (qR ps n (max n m) (by omega)) _ _ _ _ _ h1,by rw [he];exact xP (qR ps m (max n m) (by omega)) _ _ _ _ _ h2⟩
theorem bFa (L:List Dc) (env:Ev) (x:Sx) (σ:Sg) (r):iG ps mm (U ps mm) L env x σ=some r->∃ n,iG ps mm (T ps mm n) L env x σ=some r:=by
 unfold iG
 cases x.lst with
 | true=>exact bFt ps L env x.its σ r
 | false =>
 simp only [cond_false]
 cases x.kind==4 with
 | true=>exact fun h=>⟨0,h⟩
 | false =>
 simp only [cond_false]
 cases x.kind==6 with
 | true=>exact fun h=>⟨0,h⟩
 | false =>
 simp only [cond_false]
 cases x.kind==3 with
 | true=>exact bEo ps L env x.txt σ r
 | false=>exact fun h=>⟨0,h⟩
theorem aMo (L:List Dc) (env:Ev) (x:Sx) (σ:Sg):U ps mm L env x σ=iG ps mm (U ps mm) L env x σ:=by
 have key:∀ r,U ps mm L env x σ=some r↔iG ps mm (U ps mm) L env x σ=some r:=by
  intro r;constructor
  ·intro h;obtain ⟨n,hn⟩:=(pI ps).1 h
   cases n with
   | zero=>cases hn
   | succ n=>exact ID ps (T_U ps n) _ _ _ _ _ hn
  ·intro h;obtain ⟨n,hn⟩:=bFa ps _ _ _ _ _ h;exact (pI ps).2 ⟨n+1,hn⟩
 cases h:iG ps mm (U ps mm) L env x σ with
 | some r=>exact (key r).2 h
 | none =>
  cases h2:U ps mm L env x σ with
  | none=>rfl
  | some r=>rw [(key r).1 h2] at h;cases h
theorem yF:nJ (U ps false):=by intro L env x B hw he M r B' M' h;obtain ⟨n,hn⟩:=(pI ps).1 h;obtain ⟨h1,h2,h3,h4,h5⟩:=aLa ps n L env x B hw he M r B' M' hn;exact ⟨h1,h2,h3,fun ho=>⟨(h4 ho).1,fun E M2 hw2=>(pI ps).2 ⟨n,(h4 ho).2 E M2 hw2⟩⟩,fun ho=>⟨(h5 ho).1,fun M2=>(pI ps).2 ⟨n,(h5 ho).2 M2⟩⟩⟩
end
theorem aMl (k:List UInt8) (v:Int) (k':List UInt8):∀ M:Mm,pF k' (KK k v M)=bif k'==k then some v else pF k' M:=by
 intro M
 induction M with
 | nil=>simp [KK,pF]
 | cons p M ih =>
  obtain ⟨a,u⟩:=p;simp only [KK]
  cases h:(k==a) with
  | true =>
   have:k=a:=by simpa using h
   subst this;simp only [cond_true,pF];cases (k'==k)<;>rfl
  | false =>
   simp only [cond_false,pF,ih]
   cases h2:(k'==a) with
   | true =>
    have:k'=a:=by simpa using h2
    subst this
    have h3:(k'==k)=false:=by
     cases h4:(k'==k) with
     | false=>rfl
     | true =>
      have:k'=k:=by simpa using h4
      subst this;simp at h
    simp [h3]
   | false=>simp
section
abbrev DM:Prop:=∀ k a k' a',k < 2 ^ 60->k' < 2 ^ 60->(∀ i∈a,0<=i/\i < 2 ^ 60)->(∀ i∈a',0<=i/\i < 2 ^ 60)->jY k a=jY k' a'->k=k'/\a=a'
theorem wY {B:Bk} (hw:Wf B) {a:List Int} (h:∀ i∈a,eZ B i):∀ i∈a,0<=i/\i < 2 ^ 60:=fun i hi=>by obtain ⟨h1,h2⟩:=h i hi;have:=hw.1;exact ⟨h1,by omega⟩
variable (ps:List UInt8->List Nat×Int)
def nV (L0:List Dc) (B:Bk) (M:Mm):Prop:=∀ key id,pF key M=some id->∃ k d a,key=jY k a/\L0[k]?=some d/\a.length=d.ps.length/\(∀ i∈a,eZ B i)/\eZ B id /\
 U ps false (L0.take k) (List.zip (d.ps.map (·.1)) a) d.body (B,[])=some ((id,0),(B,[]))
theorem qA (L0:List Dc) (B:Bk):nV ps L0 B []:=fun key id h=>by cases h
theorem aHn {L0:List Dc} {B B':Bk} {M:Mm} (h:nV ps L0 B M) (hw:Wf B) (e:xJ B B') (hw':Wf B'):nV ps L0 B' M:=by intro key id hk;obtain ⟨k,d,a,h1,h2,h3,h4,h5,h6⟩:=h key id hk;refine ⟨k,d,a,h1,h2,h3,fun i hi=>(h4 i hi).ext e,h5.ext e,?_⟩;obtain ⟨E,rfl⟩:=e;obtain ⟨_,_,_,h7,_⟩:=yF ps (L0.take k) _ d.body B hw (kB _ a h4) [] _ _ _ h6;exact (h7 rfl).2 E [] hw'
def TrF (L0:List Dc) (f:Fn):Prop:=∀ j env x B M r B' M',Wf B->(∀ p∈env,eZ B p.2)->nV ps L0 B M->f (L0.take j) env x (B,M)=some (r,(B',M')) ->
 U ps false (L0.take j) env x (B,[])=some (r,(B',[]))/\nV ps L0 B' M'
variable {L0:List Dc} {f:Fn}
theorem SJ {L:List Dc} {env:Ev} {x:Sx} {B B':Bk} {r:Int×Int} (hw:Wf B) (he:∀ p∈env,eZ B p.2) (h:U ps false L env x (B,[])=some (r,(B',[]))):xJ B B'/\Wf B'/\(r.2=0->eZ B' r.1):=by obtain ⟨_,h1,h2,h3,_⟩:=yF ps L env x B hw he [] _ _ _ h;exact ⟨h1,h2,fun h0=>(h3 (by simpa [okE] using h0)).1⟩
theorem sG {L:List Dc} {env:Ev} {l:List Sx} {B B':Bk} {r:List Int×Int} (hw:Wf B) (he:∀ p∈env,eZ B p.2) (h:dS (U ps false) L env l (B,[])=some (r,(B',[]))):xJ B B'/\Wf B'/\(r.2=0->r.1.length=l.length/\∀ i∈r.1,eZ B' i):=by obtain ⟨_,h1,h2,h3,_⟩:=iI (yF ps) L env l B hw he [] _ _ _ h;exact ⟨h1,h2,fun h0=>(h3 (by simpa [okL] using h0)).1⟩
theorem BG (hf:TrF ps L0 f) (j:Nat) (env:Ev):∀ l B M r B' M',Wf B->(∀ p∈env,eZ B p.2)->nV ps L0 B M->dS f (L0.take j) env l (B,M)=some (r,(B',M')) ->
  dS (U ps false) (L0.take j) env l (B,[])=some (r,(B',[]))/\nV ps L0 B' M':=by
 intro l
 induction l with
 | nil =>intro B M r B' M' _ _ hm h;simp only [dS,m000,m001] at h;obtain ⟨rfl,rfl,rfl⟩:=h;exact ⟨rfl,hm⟩
 | cons x l ih =>
  intro B M r B' M' hw he hm h;simp only [dS,m028] at h ⊢;obtain ⟨⟨q,B1,M1⟩,h1,h2⟩:=h;obtain ⟨k1,m1⟩:=hf j env x B M q B1 M1 hw he hm h1;obtain ⟨e1,w1,_⟩:=SJ ps hw he k1
  cases hq:(q.2==0) with
  | false =>simp only [hq,cond_false,m000,m001] at h2;obtain ⟨rfl,rfl,rfl⟩:=h2;exact ⟨⟨_,k1,by simp only [hq,cond_false]⟩,m1⟩
  | true =>simp only [hq,cond_true,m022] at h2;obtain ⟨⟨w,B2,M2⟩,h3,h4⟩:=h2;simp only [m001] at h4;obtain ⟨rfl,rfl,rfl⟩:=h4;obtain ⟨k2,m2⟩:=ih B1 M1 w B2 M2 w1 (fun p hp=>(he p hp).ext e1) m1 h3;exact ⟨⟨_,k1,by simp only [hq,cond_true,k2,Option.map_some]⟩,m2⟩
theorem FK {α:Type} {l:List α} {j k:Nat} {d:α} (h:(l.take j)[k]?=some d):l[k]?=some d/\(l.take j).take k=l.take k:=by have hk:k < (l.take j).length:=(m012.1 h).1;simp only [m020] at hk;rw [List.getElem?_take_of_lt (by omega)] at h;exact ⟨h,by rw [List.take_take,rM (by omega)]⟩
theorem VG (hkey:DM) (hL:L0.length < 2 ^ 60) (hf:TrF ps L0 f) (j k:Nat) (a:List Int) (B M r B' M') (hw:Wf B) (ha:∀ i∈a,eZ B i) (hm:nV ps L0 B M) (h:fP true f (L0.take j) k a (B,M)=some (r,(B',M'))) :
  fP false (U ps false) (L0.take j) k a (B,[])=some (r,(B',[]))/\nV ps L0 B' M':=by
 unfold fP at h ⊢
 cases hk:(L0.take j)[k]? with
 | none=>rw [hk] at h;cases h
 | some d =>
  obtain ⟨hd,htk⟩:=FK hk;rw [hk] at h;simp only at h ⊢
  cases h1:(a.length==d.ps.length) with
  | false =>simp only [h1,cond_false,m000,m001] at h ⊢;obtain ⟨rfl,rfl,rfl⟩:=h;exact ⟨by simp,hm⟩
  | true =>
   simp only [h1,cond_true] at h ⊢
   cases h2:eG B d.ps a with
   | false =>simp only [h2,cond_false,m000,m001] at h ⊢;obtain ⟨rfl,rfl,rfl⟩:=h;exact ⟨by simp,hm⟩
   | true =>
    simp only [h2,cond_true,cond_false,m035,m031,htk] at h ⊢
    cases h3:pF (jY k a) M with
    | some id =>simp only [h3,m000,m001] at h;obtain ⟨rfl,rfl,rfl⟩:=h;obtain ⟨k',d',a',e1,e2,e3,e4,e5,e6⟩:=hm _ _ h3;have k1:=(m012.1 hd).1;have k2:=(m012.1 e2).1;obtain ⟨rfl,rfl⟩:=hkey _ _ _ _ (by omega) (by omega) (wY hw ha) (wY hw e4) e1;rw [hd] at e2;cases e2;simp only [e6,Option.map_some];exact ⟨trivial,hm⟩
    | none =>
     simp only [h3,m022] at h;obtain ⟨⟨q,B2,M2⟩,h4,h5⟩:=h;simp only [m001] at h5;obtain ⟨rfl,rfl,rfl⟩:=h5;obtain ⟨k1,m1⟩:=hf k _ d.body B M q B2 M2 hw (kB _ a ha) hm h4;simp only [k1,Option.map_some];refine ⟨trivial,?_⟩
     cases hq:(q.2==0) with
     | false=>exact m1
     | true =>
      obtain ⟨i,e⟩:=q;have he:e=0:=by simpa using hq
      subst he;obtain ⟨e1,w1,in1⟩:=SJ ps hw (kB _ a ha) k1;intro key id hkk;simp only [cond_true,aMl] at hkk
      cases hb:(key==jY k a) with
      | false=>rw [hb] at hkk;exact m1 key id hkk
      | true =>rw [hb] at hkk;simp only [cond_true,m000] at hkk;subst hkk;refine ⟨k,d,a,by simpa using hb,hd,by simpa using h1,fun i hi=>(ha i hi).ext e1,in1 rfl,?_⟩;obtain ⟨_,_,_,h7,_⟩:=yF ps (L0.take k) _ d.body B hw (kB _ a ha) [] _ _ _ k1;have:=(h7 rfl).2 [] [] (by simpa using w1);simpa using this
theorem NN {g:Bk->(Int×Int)×Bk} {B:Bk} {M:Mm} {r B' M'} (hst:RI (fun σ=>pU (g σ.1) σ.2) B) (hw:Wf B) (hm:nV ps L0 B M) (h:pU (g B) M=some (r,(B',M'))):pU (g B) []=some (r,(B',[]))/\nV ps L0 B' M':=by simp only [pU,m000,m001] at h;obtain ⟨rfl,rfl,rfl⟩:=h;obtain ⟨_,h1,h2,_⟩:=hst [] _ _ _ rfl;exact ⟨rfl,aHn ps hm hw h1 h2⟩
theorem eY {B:Bk} {M:Mm} {q r:Int×Int} {B' M'} (hm:nV ps L0 B M) (h:(some (q,(B,M)):Rt)=some (r,(B',M'))):(some (q,(B,[])):Rt)=some (r,(B',[]))/\nV ps L0 B' M':=by simp only [m000,m001] at h;obtain ⟨rfl,rfl,rfl⟩:=h;exact ⟨rfl,hm⟩
theorem aTb (hkey:DM) (hL:L0.length < 2 ^ 60) (hf:TrF ps L0 f) (j:Nat) (env:Ev) (nm:List UInt8) (B M r B' M') (hw:Wf B) (he:∀ p∈env,eZ B p.2) (hm:nV ps L0 B M) (h:jQ true f (L0.take j) env nm (B,M)=some (r,(B',M'))) :
  jQ false (U ps false) (L0.take j) env nm (B,[])=some (r,(B',[]))/\nV ps L0 B' M':=by
 unfold jQ at h ⊢
 cases h1:(nm==iV||nm==nE) with
 | true=>rw [h1] at h;exact NN ps (g:=fun B=>LM B (nm==iV)) (JB hw _) hw hm h
 | false =>
 simp only [h1,cond_false] at h ⊢
 cases h2:aU nm with
 | true=>rw [h2] at h;exact eY ps hm h
 | false =>
 simp only [h2,cond_false] at h ⊢
 cases h3:bP env nm with
 | some i=>rw [h3] at h;exact eY ps hm h
 | none =>
 simp only [h3] at h ⊢
 cases h4:bR (L0.take j) nm with
 | none=>rw [h4] at h;exact eY ps hm h
 | some k =>
 simp only [h4] at h ⊢
 cases h5:(L0.take j)[k]? with
 | none=>rw [h5] at h;cases h
 | some d =>
 simp only [h5] at h ⊢
 cases h6:d.mac with
 | false=>rw [h6] at h;exact NN ps (g:=fun B=>lJ B nm d.so) (xZ hw nm d.so) hw hm h
 | true =>
 simp only [h6,cond_true] at h ⊢
 cases h7:(d.ps.length==0) with
 | false=>rw [h7] at h;exact eY ps hm h
 | true=>rw [h7] at h;exact VG ps hkey hL hf j k [] B M r B' M' hw (fun i hi=>by cases hi) hm h
theorem bGm (hf:TrF ps L0 f) (j:Nat) (env:Ev) (rest:List Sx) (B M r B' M') (hw:Wf B) (he:∀ p∈env,eZ B p.2) (hm:nV ps L0 B M) (h:lT f (L0.take j) env rest (B,M)=some (r,(B',M'))) :
  lT (U ps false) (L0.take j) env rest (B,[])=some (r,(B',[]))/\nV ps L0 B' M':=by
 match rest,h with
 | [],h | [_],h | _::_::_::_,h=>exact eY ps hm h
 | [x,y],h =>
 unfold lT at h ⊢;dsimp only at h ⊢
 cases h1:x.lst with
 | false=>rw [h1] at h;exact eY ps hm h
 | true =>
 simp only [h1,cond_true] at h ⊢
 cases h2:cD x.its with
 | none=>rw [h2] at h;exact eY ps hm h
 | some q =>
 obtain ⟨ns,ts⟩:=q;simp only [h2] at h ⊢
 cases h3:ns.any aU with
 | true=>rw [h3] at h;exact eY ps hm h
 | false =>
 simp only [h3,cond_false] at h ⊢
 cases h4:dbl ns with
 | true=>rw [h4] at h;exact eY ps hm h
 | false =>
 simp only [h4,cond_false,m028] at h ⊢;obtain ⟨⟨q,B1,M1⟩,k1,k2⟩:=h;obtain ⟨u1,m1⟩:=BG ps hf j env ts B M q B1 M1 hw he hm k1;obtain ⟨e1,w1,in1⟩:=sG ps hw he u1
 cases hq:(q.2==0) with
 | false =>simp only [hq,cond_false] at k2;obtain ⟨u2,m2⟩:=eY ps m1 k2;exact ⟨⟨_,u1,by simp only [hq,cond_false];exact u2⟩,m2⟩
 | true =>
  simp only [hq,cond_true] at k2
  obtain ⟨u2,m2⟩:=hf j _ y B1 M1 r B' M' w1 (fun p hp=>by
   rcases m003.1 hp with hp | hp
   ·exact (he p hp).ext e1
   ·exact kB ns q.1 (in1 (by simpa using hq)).2 p hp) m1 k2
  exact ⟨⟨_,u1,by simp only [hq,cond_true];exact u2⟩,m2⟩
theorem aUi (hkey:DM) (hL:L0.length < 2 ^ 60) (hf:TrF ps L0 f) (j:Nat) (env:Ev) (l:List Sx) (B M r B' M') (hw:Wf B) (he:∀ p∈env,eZ B p.2) (hm:nV ps L0 B M) (h:qN true f (L0.take j) env l (B,M)=some (r,(B',M'))) :
  qN false (U ps false) (L0.take j) env l (B,[])=some (r,(B',[]))/\nV ps L0 B' M':=by
 match l,h with
 | [],h=>exact eY ps hm h
 | x::rest,h =>
 unfold qN at h ⊢;dsimp only at h ⊢
 cases h1:x.isN with
 | false=>rw [h1] at h;exact eY ps hm h
 | true =>
 simp only [h1,m025,cond_false] at h ⊢
 cases h2:(x.txt==KT) with
 | true=>rw [h2] at h;exact bGm ps hf j env rest B M r B' M' hw he hm h
 | false =>
 simp only [h2,cond_false] at h ⊢
 cases h3:(bW x.txt rest.length==0&&aU x.txt) with
 | true=>rw [h3] at h;exact eY ps hm h
 | false =>
 simp only [h3,cond_false] at h ⊢
 cases h4:(bW x.txt rest.length==0) with
 | false =>
  simp only [h4,cond_false,m028] at h ⊢;obtain ⟨⟨q,B1,M1⟩,k1,k2⟩:=h;obtain ⟨u1,m1⟩:=BG ps hf j env rest B M q B1 M1 hw he hm k1;obtain ⟨e1,w1,in1⟩:=sG ps hw he u1
  cases hq:(q.2==0) with
  | false =>simp only [hq,cond_false] at k2;obtain ⟨u2,m2⟩:=eY ps m1 k2;exact ⟨⟨_,u1,by simp only [hq,cond_false];exact u2⟩,m2⟩
  | true =>simp only [hq,cond_true] at k2;generalize bW x.txt rest.length=op at k2;obtain ⟨u2,m2⟩:=NN ps (g:=fun B=>jN B op q.1) (XJ w1 _ _) w1 m1 k2;exact ⟨⟨_,u1,by simp only [hq,cond_true];exact u2⟩,m2⟩
 | true =>
 simp only [h4,cond_true] at h ⊢
 cases h5:bP env x.txt with
 | some i=>rw [h5] at h;exact eY ps hm h
 | none =>
 cases h6:bR (L0.take j) x.txt with
 | none=>rw [h5,h6] at h;exact eY ps hm h
 | some k =>
 simp only [h5,h6] at h ⊢
 cases h7:(L0.take j)[k]? with
 | none=>rw [h7] at h;cases h
 | some d =>
 simp only [h7] at h ⊢
 cases h8:d.mac with
 | false=>rw [h8] at h;exact eY ps hm h
 | true =>
 simp only [h8,cond_true,m028] at h ⊢;obtain ⟨⟨q,B1,M1⟩,k1,k2⟩:=h;obtain ⟨u1,m1⟩:=BG ps hf j env rest B M q B1 M1 hw he hm k1;obtain ⟨e1,w1,in1⟩:=sG ps hw he u1
 cases hq:(q.2==0) with
 | false =>simp only [hq,cond_false] at k2;obtain ⟨u2,m2⟩:=eY ps m1 k2;exact ⟨⟨_,u1,by simp only [hq,cond_false];exact u2⟩,m2⟩
 | true =>simp only [hq,cond_true] at k2;obtain ⟨u2,m2⟩:=VG ps hkey hL hf j k q.1 B1 M1 r B' M' w1 (in1 (by simpa using hq)).2 m1 k2;exact ⟨⟨_,u1,by simp only [hq,cond_true];exact u2⟩,m2⟩
theorem aVz (hkey:DM) (hL:L0.length < 2 ^ 60) (hf:TrF ps L0 f):TrF ps L0 (iG ps true f):=by
 intro j env x B M r B' M' hw he hm h;rw [aMo];unfold iG at h ⊢
 cases h1:x.lst with
 | true=>rw [h1] at h;exact aUi ps hkey hL hf j env x.its B M r B' M' hw he hm h
 | false =>
 simp only [h1,cond_false] at h ⊢
 cases h2:(x.kind==4) with
 | true =>
  simp only [h2,cond_true] at h ⊢
  cases h3:((ps x.txt).2 != 0) with
  | true=>rw [h3] at h;exact eY ps hm h
  | false=>rw [h3] at h;exact NN ps (g:=fun B=>CN B false (ps x.txt).1) (OH hw _ _) hw hm h
 | false =>
 simp only [h2,cond_false] at h ⊢
 cases h3:(x.kind==6) with
 | true=>rw [h3] at h;exact NN ps (g:=fun B=>SN B (lG (FG x.txt) []).1) (XS hw _) hw hm h
 | false =>
 simp only [h3,cond_false] at h ⊢
 cases h4:(x.kind==3) with
 | true=>rw [h4] at h;exact aTb ps hkey hL hf j env x.txt B M r B' M' hw he hm h
 | false=>rw [h4] at h;exact eY ps hm h
theorem bGg (hkey:DM) (hL:L0.length < 2 ^ 60):∀ n,TrF ps L0 (T ps true n):=by
 intro n
 induction n with
 | zero=>intro j env x B M r B' M' _ _ _ h;cases h
 | succ n ih=>exact aVz ps hkey hL ih
theorem VJ (hkey:DM) {n:Nat} {L:List Dc} (hL:L.length < 2 ^ 60) {x:Sx} {B:Bk} {r B' M'} {env:Ev} (hw:Wf B) (he:∀ p∈env,eZ B p.2) (h:T ps true n L env x (B,[])=some (r,(B',M'))):U ps false L env x (B,[])=some (r,(B',[])):=by have:=bGg ps hkey (L0:=L) hL n L.length env x B [] r B' M' hw he (qA ps L B);rw [m045] at this;exact (this h).1
end
end
noncomputable section
section
variable (ps:List UInt8->List Nat×Int)
mutual
def Sx.wt:Sx->Nat
 | .mk _ _ _ _ _ l=>1+Sx.wts l
def Sx.wts:List Sx->Nat
 | []=>0
 | s::l=>s.wt+Sx.wts l
end
theorem VH:∀ {l:List Sx} {s:Sx},s∈l->s.wt<=Sx.wts l:=by
 intro l
 induction l with
 | nil=>intro s h;cases h
 | cons a l ih =>
  intro s h;simp only [Sx.wts];rcases m013.1 h with rfl | h
  ·omega
  ·have:=ih h;omega
theorem FY {x s:Sx} (h:s∈x.its):s.wt < x.wt:=by
 cases x with
 | mk l k t p a items =>have h:s∈items:=h;have:=VH h;simp only [Sx.wt];omega
theorem HZ:∀ {l:List Sx} {ns:List (List UInt8)} {ts:List Sx},cD l=some (ns,ts)->∀ t∈ts,∃ p∈l,t∈p.its:=by
 intro l
 induction l with
 | nil=>intro ns ts h;simp only [cD,m000,m001] at h;obtain ⟨rfl,rfl⟩:=h;intro t ht;cases ht
 | cons p l ih =>
  intro ns ts h;unfold cD at h
  split at h
  ·rename_i x y h1 h2
   cases hx:x.isN with
   | false=>rw [hx] at h;cases h
   | true =>
    rw [hx] at h;simp only [cond_true,m022] at h;obtain ⟨⟨ns',ts'⟩,h3,h4⟩:=h;simp only [m001] at h4;obtain ⟨rfl,rfl⟩:=h4;intro t ht;rcases m013.1 ht with rfl | ht
    ·exact ⟨p,m007 ..,by rw [h2];simp⟩
    ·obtain ⟨q,h5,h6⟩:=ih h3 t ht;exact ⟨q,m005 _ h5,h6⟩
  ·cases h
theorem rZ {nm:List UInt8}:∀ {L:List Dc} {k:Nat},bR L nm=some k->k < L.length:=by
 intro L
 induction L with
 | nil=>intro k h;cases h
 | cons d L ih =>
  intro k h;simp only [bR] at h
  cases h1:bR L nm with
  | some i=>rw [h1] at h;simp only [m000] at h;subst h;have:=ih h1;simp only [List.length_cons];omega
  | none =>
   rw [h1] at h;simp only at h
   cases h2:(d.nm==nm) with
   | true=>rw [h2] at h;simp only [cond_true,m000] at h;subst h;simp
   | false=>rw [h2] at h;cases h
variable {mm:Bool}
theorem aQi {f:Fn} {L:List Dc} {env:Ev}:∀ {l:List Sx},(∀ x∈l,∀ σ,∃ r,f L env x σ=some r)->∀ σ,∃ r,dS f L env l σ=some r:=by
 intro l
 induction l with
 | nil=>intro _ σ;exact ⟨_,rfl⟩
 | cons x l ih =>
  intro h σ;obtain ⟨q,hq⟩:=h x (m007 ..) σ;simp only [dS,hq,Option.bind_some]
  cases (q.1.2==0) with
  | false=>exact ⟨_,rfl⟩
  | true =>obtain ⟨w,hw⟩:=ih (fun y hy=>h y (m005 _ hy)) q.2;simp only [cond_true,hw,Option.map_some];exact ⟨_,rfl⟩
theorem OF {f:Fn} {L:List Dc} {k:Nat} {a:List Int} (hk:k < L.length) (h:∀ env x σ,∃ r,f (L.take k) env x σ=some r):∀ σ,∃ r,fP mm f L k a σ=some r:=by
 intro σ;unfold fP;obtain ⟨d,hd⟩:∃ d,L[k]?=some d:=⟨_,m004 hk⟩;rw [hd];simp only
 cases a.length==d.ps.length with
 | false=>exact ⟨_,rfl⟩
 | true =>
  simp only [cond_true]
  cases eG σ.1 d.ps a with
  | false=>exact ⟨_,rfl⟩
  | true =>
   simp only [cond_true]
   cases (bif mm then pF (jY k a) σ.2 else none) with
   | some id=>exact ⟨_,rfl⟩
   | none =>obtain ⟨w,hw⟩:=h (List.zip (d.ps.map (·.1)) a) d.body σ;simp only [hw,Option.map_some];exact ⟨_,rfl⟩
theorem ZA (L:List Dc) (env:Ev) (x:Sx) (σ:Sg) (h1:∀ y:Sx,y.wt < x.wt->∀ env σ,∃ r,U ps mm L env y σ=some r) (h2:∀ k,k < L.length->∀ env y σ,∃ r,U ps mm (L.take k) env y σ=some r):∃ r,iG ps mm (U ps mm) L env x σ=some r:=by
 have hl:∀ {l:List Sx},(∀ y∈l,y.wt < x.wt)->∀ env σ,∃ r,dS (U ps mm) L env l σ=some r:=fun hh env σ=>aQi (fun y hy σ=>h1 y (hh y hy) env σ) σ;unfold iG
 cases hx:x.lst with
 | true =>
  simp only [cond_true];have uT:∀ y∈x.its,y.wt < x.wt:=fun y hy=>FY hy;generalize x.its=l at uT
  match l with
  | []=>exact ⟨_,rfl⟩
  | y::rest =>
  unfold qN;dsimp only;have hrest:∀ z∈rest,z.wt < x.wt:=fun z hz=>uT z (m005 _ hz)
  cases y.isN with
  | false=>exact ⟨_,rfl⟩
  | true =>
  simp only [m025,cond_false]
  cases y.txt==KT with
  | true =>
   simp only [cond_true]
   match rest with
   | [] | [_] | _::_::_::_=>exact ⟨_,rfl⟩
   | [u,v] =>
   unfold lT;dsimp only
   cases u.lst with
   | false=>exact ⟨_,rfl⟩
   | true =>
   simp only [cond_true]
   cases hp:cD u.its with
   | none=>exact ⟨_,rfl⟩
   | some q =>
   obtain ⟨ns,ts⟩:=q;simp only
   cases ns.any aU with
   | true=>exact ⟨_,rfl⟩
   | false =>
   simp only [cond_false]
   cases dbl ns with
   | true=>exact ⟨_,rfl⟩
   | false =>
   simp only [cond_false]
   obtain ⟨w,hw⟩:=hl (l:=ts) (fun t ht=>by
    obtain ⟨p,hp1,hp2⟩:=HZ hp t ht;have a1:=FY hp1;have a2:=FY hp2;have a3:=hrest u (by simp)
    omega) env σ
   rw [hw];simp only [Option.bind_some]
   cases (w.1.2==0) with
   | false=>exact ⟨_,rfl⟩
   | true=>exact h1 v (hrest v (by simp)) _ _
  | false =>
  simp only [cond_false]
  cases bW y.txt rest.length==0&&aU y.txt with
  | true=>exact ⟨_,rfl⟩
  | false =>
  simp only [cond_false];obtain ⟨w,hw⟩:=hl hrest env σ
  cases bW y.txt rest.length==0 with
  | false =>
   simp only [cond_false,hw,Option.bind_some]
   cases (w.1.2==0) with
   | false=>exact ⟨_,rfl⟩
   | true=>exact ⟨_,rfl⟩
  | true =>
  simp only [cond_true]
  cases bP env y.txt with
  | some i=>exact ⟨_,rfl⟩
  | none =>
  cases hd:bR L y.txt with
  | none=>exact ⟨_,rfl⟩
  | some k =>
  obtain ⟨d,hdk⟩:∃ d,L[k]?=some d:=⟨_,m004 (rZ hd)⟩;simp only [hdk]
  cases d.mac with
  | false=>exact ⟨_,rfl⟩
  | true =>
  simp only [cond_true,hw,Option.bind_some]
  cases (w.1.2==0) with
  | false=>exact ⟨_,rfl⟩
  | true=>exact OF (rZ hd) (h2 k (rZ hd)) _
 | false =>
 simp only [cond_false]
 cases x.kind==4 with
 | true =>simp only [cond_true];cases (ps x.txt).2 != 0<;>exact ⟨_,rfl⟩
 | false =>
 simp only [cond_false]
 cases x.kind==6 with
 | true=>exact ⟨_,rfl⟩
 | false =>
 simp only [cond_false]
 cases x.kind==3 with
 | false=>exact ⟨_,rfl⟩
 | true =>
 unfold jQ;simp only [cond_true]
 cases x.txt==iV||x.txt==nE with
 | true=>exact ⟨_,rfl⟩
 | false =>
 simp only [cond_false]
 cases aU x.txt with
 | true=>exact ⟨_,rfl⟩
 | false =>
 simp only [cond_false]
 cases bP env x.txt with
 | some i=>exact ⟨_,rfl⟩
 | none =>
 simp only
 cases hd:bR L x.txt with
 | none=>exact ⟨_,rfl⟩
 | some k =>
 obtain ⟨d,hdk⟩:∃ d,L[k]?=some d:=⟨_,m004 (rZ hd)⟩;simp only [hdk]
 cases d.mac with
 | false=>exact ⟨_,rfl⟩
 | true =>
 cases d.ps.length==0 with
 | false=>exact ⟨_,rfl⟩
 | true=>exact OF (rZ hd) (h2 k (rZ hd)) _
theorem bNd:∀ (j w:Nat) (L:List Dc) (env:Ev) (x:Sx) (σ:Sg),L.length<=j->x.wt<=w->∃ r,U ps mm L env x σ=some r:=by
 intro j
 induction j with
 | zero =>
  intro w
  induction w with
  | zero=>intro L env x σ _ hx;cases x;simp only [Sx.wt] at hx;omega
  | succ w ih =>intro L env x σ hL hx;have hL0:L=[]:=List.length_eq_zero_iff.1 (by omega);subst hL0;rw [aMo];exact ZA ps [] env x σ (fun y hy env σ=>ih [] env y σ (by simp) (by omega)) fun k hk=>by simp at hk
 | succ j ihj =>
  intro w
  induction w with
  | zero=>intro L env x σ _ hx;cases x;simp only [Sx.wt] at hx;omega
  | succ w ih =>intro L env x σ hL hx;rw [aMo];exact ZA ps L env x σ (fun y hy env σ=>ih L env y σ hL (by omega)) fun k hk env y σ=>ihj y.wt (L.take k) env y σ (by simp only [m020];omega) (bK _)
theorem aSq (mm:Bool) (L:List Dc) (env:Ev) (x:Sx) (σ:Sg):∃ n r,T ps mm n L env x σ=some r:=by obtain ⟨r,h⟩:=bNd ps (mm:=mm) L.length x.wt L env x σ (bK _) (bK _);obtain ⟨n,hn⟩:=(pI ps).1 h;exact ⟨n,r,hn⟩
end
section
variable (ps:List UInt8->List Nat×Int)
end
section
variable (ps:List UInt8->List Nat×Int)
end
end
noncomputable section
def eM (c:UInt8):Bool:=decide (48<=c.toNat)&&decide (c.toNat<=57)
def pE (l:List UInt8):Nat:=l.foldl (fun a c=>10 * a+(c.toNat - 48)) 0
theorem KO {u:Nat} (h:u < 10):(UInt8.ofNat (48+u)).toNat=48+u:=by simp [UInt8.toNat_ofNat'];omega
theorem aJa:∀ (f u:Nat),∀ c∈vH f u,eM c=true:=by
 intro f
 induction f with
 | zero=>intro u c h;cases h
 | succ f ih =>
  intro u c h;simp only [vH] at h
  cases hb:Nat.blt u 10 with
  | true =>
   have hu:u < 10:=by simpa [Nat.blt_eq] using hb
   rw [hb] at h;simp only [cond_true,m008] at h;subst h;simp only [eM,KO hu,cR,decide_eq_true_eq];omega
  | false =>
   rw [hb] at h;simp only [cond_false,m003,m008] at h;rcases h with h | rfl
   ·exact ih _ c h
   ·have:u % 10 < 10:=Nat.mod_lt _ (by decide);simp only [eM,KO this,cR,decide_eq_true_eq];omega
theorem RC:∀ (f u:Nat),u < 10 ^ f->pE (vH f u)=u:=by
 intro f
 induction f with
 | zero=>intro u h;simp at h;subst h;rfl
 | succ f ih =>
  intro u h;simp only [vH]
  cases hb:Nat.blt u 10 with
  | true =>
   have hu:u < 10:=by simpa [Nat.blt_eq] using hb
   simp only [cond_true,pE,List.foldl_cons,List.foldl_nil,KO hu];omega
  | false =>
   have h1:u / 10 < 10 ^ f:=by rw [Nat.pow_succ] at h;omega
   have h2:u % 10 < 10:=Nat.mod_lt _ (by decide);simp only [cond_false,pE,List.foldl_append,List.foldl_cons,List.foldl_nil,KO h2];have:=ih _ h1;simp only [pE] at this;rw [this];omega
theorem VF (f u:Nat):vH (f+1) u≠[]:=by simp only [vH];cases Nat.blt u 10<;>simp
theorem vE {i:Int} (h:0<=i):cB i=vH 20 i.toNat:=by unfold cB;rw [if_neg (by omega)]
theorem iO {i:Int} (h:0<=i):∀ c∈cB i,eM c=true:=by rw [vE h];exact aJa _ _
theorem qB {i j:Int} (h:0<=i) (h2:i < 2 ^ 60) (k:0<=j) (k2:j < 2 ^ 60) (e:cB i=cB j):i=j:=by rw [vE h,vE k] at e;have a:=RC 20 i.toNat (by omega);have b:=RC 20 j.toNat (by omega);rw [e,b] at a;omega
theorem JG {i:Int} (h:0<=i):∃ d l,cB i=d::l/\eM d=true:=by
 cases hl:cB i with
 | nil=>rw [vE h] at hl;exact absurd hl (VF _ _)
 | cons d l=>exact ⟨d,l,rfl,iO h d (by rw [hl];exact m007 ..)⟩
theorem ND {c:UInt8}:∀ {x x' y y':List UInt8},c ∉ x->c ∉ x'->x++c::y=x'++c::y'->x=x'/\y=y':=by
 intro x
 induction x with
 | nil =>
  intro x' y y' _ h' e
  cases x' with
  | nil=>simp only [List.nil_append,m057,true_and] at e;exact ⟨rfl,e⟩
  | cons d x'=>simp only [List.nil_append,List.cons_append,m057] at e;exact absurd e.1 (fun h=>h' (by rw [h];exact m007 ..))
 | cons d x ih =>
  intro x' y y' h h' e
  cases x' with
  | nil=>simp only [List.nil_append,List.cons_append,m057] at e;exact absurd e.1 (fun hh=>h (by rw [hh];exact m007 ..))
  | cons d' x' =>simp only [List.cons_append,m057] at e;obtain ⟨a,b⟩:=ih (fun hh=>h (m005 _ hh)) (fun hh=>h' (m005 _ hh)) e.2;exact ⟨by rw [e.1,a],b⟩
theorem JV {c:UInt8} {l:List UInt8} (h:∀ d∈l,eM d=true) (hc:eM c=false):c ∉ l:=fun hm=>by rw [h c hm] at hc;cases hc
theorem sD (k:Nat) (i:Int) (a:List Int):jY k (i::a)=cB i++32::jY k a:=by simp [jY]
theorem BK:DM:=by
 intro k a k' a' hk hk' ha ha' e
 induction a generalizing a' with
 | nil =>
  cases a' with
  | nil =>simp only [jY,m042,List.nil_append,m057,true_and] at e;have:=qB (by omega) (by omega) (by omega) (by omega) e;exact ⟨by omega,rfl⟩
  | cons i a' =>obtain ⟨d,l,h1,h2⟩:=JG (ha' i (m007 ..)).1;rw [sD,h1] at e;simp only [jY,m042,List.nil_append,List.cons_append,m057] at e;rw [<- e.1] at h2;cases h2
 | cons i a ih =>
  have h1:=ha i (m007 ..)
  cases a' with
  | nil =>obtain ⟨d,l,h2,h3⟩:=JG h1.1;rw [sD,h2] at e;simp only [jY,m042,List.nil_append,List.cons_append,m057] at e;rw [e.1] at h3;cases h3
  | cons j a' =>have h2:=ha' j (m007 ..);rw [sD,sD] at e;obtain ⟨e1,e2⟩:=ND (JV (iO h1.1) rfl) (JV (iO h2.1) rfl) e;obtain ⟨e3,e4⟩:=ih a' (fun x hx=>ha x (m005 _ hx)) (fun x hx=>ha' x (m005 _ hx)) e2;exact ⟨e3,by rw [qB h1.1 h1.2 h2.1 h2.2 e1,e4]⟩
end
noncomputable section
section
variable {s s':St} {l M:List Nat}
theorem vN {i:Nat} {b0:gU} {vs:List AV} (hv:dC vs=[i]) (hi:s.h i=some b0) (hlen:(eD b0).length<=3999) (hl:∀ j∈eD b0,∀ b,s.h j=some b->j=i\/eD b=[]):∀ j,j∈rch s vs↔(j=i\/j∈eD b0):=by
 intro j;unfold rch;rw [hv];show j∈cond (dO i []) _ (match s.h i with | none=>_ | some b=>kD s.h 3999 (eD b++[]) (i::[]))↔_
 rw [hi];simp only [dO,cond_false,m011]
 have key:∀ (w:List Nat) (f:Nat) (seen:List Nat),i∈seen->(∀ j∈w,∀ b,s.h j=some b->j=i\/eD b=[])->w.length<=f->∀ j,j∈kD s.h f w seen↔(j∈w\/j∈seen):=by
  intro w
  induction w with
  | nil=>intro f seen _ _ _ j;cases f<;>simp [kD]
  | cons n w ih =>
   intro f seen hs hl hf j;obtain ⟨f,rfl⟩:∃ g,f=g+1:=⟨f - 1,by simp only [List.length_cons] at hf;omega⟩;have hf':w.length<=f:=by simp only [List.length_cons] at hf;omega
   have hl':∀ j∈w,∀ b,s.h j=some b->j=i\/eD b=[]:=fun j hj=>hl j (m005 _ hj);simp only [kD]
   cases hm:dO n seen with
   | true =>
    have:=bO.1 hm;simp only [cond_true,ih f seen hs hl' hf',m013];constructor
    ·rintro (h | h);exact .inl (.inr h);exact .inr h
    ·rintro ((rfl | h) | h);exact .inr this;exact .inl h;exact .inr h
   | false =>
    simp only [cond_false]
    have key:∀ w',w'=w->(j∈kD s.h f w' (n::seen)↔(j∈n::w\/j∈seen)):=fun w' e=>by
     subst e;rw [ih f (n::seen) (m005 _ hs) hl' hf'];simp only [m013];constructor
     ·rintro (h | rfl | h);exact .inl (.inr h);exact .inl (.inl rfl);exact .inr h
     ·rintro ((rfl | h) | h);exact .inr (.inl rfl);exact .inl h;exact .inr (.inr h)
    cases hn:s.h n with
    | none=>exact key w rfl
    | some b =>
     rcases hl n (m007 ..) b hn with rfl | hb
     ·rw [bO.2 hs] at hm;cases hm
     ·exact key _ (by rw [hb];rfl)
 rw [key _ _ _ (m008.2 rfl) hl hlen];simp only [m008];constructor
 ·rintro (h | h);exact .inr h;exact .inl h
 ·rintro (h | h);exact .inr h;exact .inl h
theorem jZ (j:Nat):(s.only l).h j=if j∈l then s.h j else none:=by
 show cond (dO j l) _ _=_
 cases hm:dO j l with
 | true=>rw [if_pos (bO.1 hm)];rfl
 | false=>rw [if_neg (fun h=>by rw [bO.2 h] at hm;cases hm)];rfl
theorem aVm:(s.only l).nx=s.nx:=rfl
theorem iA (fr:aI s):aI (s.only l):=fun j hj=>by rw [jZ];split;exact fr j hj;rfl
theorem EV (j:Nat):(jW s s' l).h j=if j∈l\/s.nx<=j then s'.h j else s.h j:=by
 show cond (dO j l||Nat.ble s.nx j) _ _=_
 cases hm:(dO j l||Nat.ble s.nx j) with
 | true =>simp only [GO,bO,Nat.ble_eq] at hm;rw [if_pos hm];rfl
 | false =>
  simp only [LR] at hm;rw [if_neg]
  ·rfl
  ·rintro (h | h)
   ·rw [bO.2 h] at hm;cases hm.1
   ·have h3:Nat.ble s.nx j=true:=by rw [Nat.ble_eq];exact h
    rw [h3] at hm;cases hm.2
theorem lO (h:EF M (s.only l) s') (hM:∀ j∈M,j∈l) {j:Nat} {b:gU} (hj:s'.h j=some b):(jW s s' l).h j=some b:=by
 rw [EV];by_cases hc:j∈l\/s.nx<=j
 ·rw [if_pos hc];exact hj
 ·exfalso;have h1:¬ j∈l:=fun h=>hc (.inl h);have h2:j < s.nx:=Nat.lt_of_not_le fun h=>hc (.inr h);have:=h.h j h2 (fun h=>h1 (hM j h));rw [jZ,if_neg h1,hj] at this;cases this
theorem lQ (h:EF M (s.only l) s') (hM:∀ j∈M,j∈l):EF M s (jW s s' l):=by
 refine ⟨h.nx,fun j hj hn=>?_,fun j hj=>?_⟩
 ·rw [EV];by_cases hc:j∈l
  ·rw [if_pos (.inl hc),h.h j hj hn,jZ,if_pos hc]
  ·rw [if_neg]
   rintro (h | h)
   ·exact hc h
   ·omega
 ·rw [EV];have hj:s'.nx<=j:=hj;have:=h.nx;rw [aVm] at this;rw [if_pos (.inr (by omega))];exact h.fr j hj
theorem rB {h:FuncId} {args:List AV} {K:aG} (hz:mEv.fz h=false) (hc:∃ r s',WideC mEv h args (s.only l) r s'/\K r (jW s s' l)):cL mEv h args l s K:=by obtain ⟨r,s',h1,h2⟩:=hc;exact .mk (by rw [hz];exact ⟨r,s',h1,h2⟩)
theorem NA {h:FuncId} {args bs:List AV} {ids:List Nat} {K:aG} (hz:mEv.fz h=true) (hq:iK mEv.P (s.only l) (mEv.se h) args=some (bs,ids)) (hc:∃ r s',WideC mEv h bs ((s.only l).drop ids) r s'/\aA (pur mEv.P s' 12 r) fun v=>K v.1 (jW s (s'.drop v.2) l)):cL mEv h args l s K:=.mk (by rw [hz,hq,cond_true,Bnd_some];exact hc)
end
end
noncomputable section
section
variable {s s':St} {i:Nat} {bs t:List UInt8} {w:Bool} {F:List Nat} {K:aG}
def Bu (s:St) (i:Nat) (bs:List UInt8) (w:Bool) (F:List Nat):Prop :=
 ∃ a x,(a=.nilp\/a=.ptr i 0)/\s.h i=some (.cells [a,x] 163 true true)/\((x=.nils/\bs=[]/\F=[i])\/∃ j,j≠i/\bs≠[]/\x=.ref j 0 bs.length none 5/\s.h j=some (.cells (bs.map IL) 5 false w)/\F=[i,j])
theorem Bu.keep (h:Bu s i bs w F) (hk:∀ j∈F,s'.h j=s.h j):Bu s' i bs w F:=by
 obtain ⟨a,x,h1,h2,h3⟩:=h;rcases h3 with ⟨rfl,rfl,rfl⟩ | ⟨j,h4,h5,rfl,h6,rfl⟩
 ·exact ⟨a,_,h1,by rw [hk i (by simp)];exact h2,.inl ⟨rfl,rfl,rfl⟩⟩
 ·exact ⟨a,_,h1,by rw [hk i (by simp)];exact h2,.inr ⟨j,h4,h5,rfl,by rw [hk j (by simp)];exact h6,rfl⟩⟩
theorem Bu.have (h:Bu s i bs w F):∀ j∈F,∃ b,s.h j=some b:=by
 obtain ⟨a,x,h1,h2,h3⟩:=h;rcases h3 with ⟨rfl,rfl,rfl⟩ | ⟨k,h4,h5,rfl,h6,rfl⟩
 ·intro j hj;rw [m008.1 hj];exact ⟨_,h2⟩
 ·intro j hj;simp only [m013,m052,or_false] at hj;rcases hj with rfl | rfl
  ·exact ⟨_,h2⟩
  ·exact ⟨_,h6⟩
theorem Bu.mem (h:Bu s i bs w F):i∈F:=by obtain ⟨a,x,h1,h2,h3⟩:=h;rcases h3 with ⟨rfl,rfl,rfl⟩ | ⟨k,h4,h5,rfl,h6,rfl⟩<;>simp
theorem aI.lt (fr:aI s) {j:Nat} {b:gU} (h:s.h j=some b):j < s.nx:=Nat.lt_of_not_le fun hc=>by rw [fr j hc] at h;cases h
theorem Bu.lt (h:Bu s i bs w F) (fr:aI s):∀ j∈F,j < s.nx:=fun j hj=>by obtain ⟨b,hb⟩:=h.have j hj;exact fr.lt hb
theorem bFh (bs:List UInt8):dC (bs.map IL)=[]:=by
 induction bs with
 | nil=>rfl
 | cons c l ih=>simp only [m039,dC,ih];rfl
theorem Bu.rch (h:Bu s i bs w F) {vs:List AV} (hv:dC vs=[i]):∀ j,j∈rch s vs↔j∈F:=by
 obtain ⟨a,x,h1,h2,h3⟩:=h;intro j;rcases h3 with ⟨rfl,rfl,rfl⟩ | ⟨k,h4,h5,rfl,h6,rfl⟩
 ·rw [vN hv h2]
  ·rcases h1 with rfl | rfl<;>simp [eD,dC,eH]
  ·rcases h1 with rfl | rfl<;>simp [eD,dC,eH]
  ·intro j hj b hb;rcases h1 with rfl | rfl
   ·simp [eD,dC,eH] at hj
   ·simp [eD,dC,eH] at hj;exact .inl hj
 ·rw [vN hv h2]
  ·rcases h1 with rfl | rfl<;>simp [eD,dC,eH]
  ·rcases h1 with rfl | rfl<;>simp [eD,dC,eH]
  ·intro j hj b hb;have hk:∀ b,s.h k=some b->eD b=[]:=fun b hb=>by rw [h6] at hb;cases hb;exact bFh bs
   rcases h1 with rfl | rfl
   ·simp [eD,dC,eH] at hj;subst hj;exact .inr (hk b hb)
   ·simp [eD,dC,eH] at hj;rcases hj with rfl | rfl
    ·exact .inl rfl
    ·exact .inr (hk b hb)
theorem LG (bs:List UInt8):(bs.map IL).flatMap AV.cells=bs.map IL:=BQ fun v hv=>by obtain ⟨c,_,rfl⟩:=m021.1 hv;rfl
theorem Bu.gw (h:Bu s i bs true F):∃ a x,(a=.nilp\/a=.ptr i 0)/\s.h i=some (.cells [a,x] 163 true true)/\Gw 5 1 0 s x (bs.map IL)/\F=i::aE x/\(∀ j∈aE x,j≠i):=by
 obtain ⟨a,x,h1,h2,h3⟩:=h;rcases h3 with ⟨rfl,rfl,rfl⟩ | ⟨k,h4,h5,rfl,h6,rfl⟩
 ·exact ⟨a,_,h1,h2,fG,rfl,fun j hj=>by cases hj⟩
 ·refine ⟨a,_,h1,h2,⟨fun v hv=>by obtain ⟨c,_,rfl⟩:=m021.1 hv;exact ⟨rfl,rfl⟩,.inr ⟨k,nC _,by rw [m002],by rw [LG];exact h6⟩⟩,rfl,fun j hj=>?_⟩;simp only [aE,m008] at hj;subst hj;exact h4
theorem aGn (x:AV) (bs:List UInt8) (id:Nat) (s:St):bt .append #[161,9] [x,.str bs] id s=bt .append #[161,161] [x,.sl false (bs.map IL)] id s:=by
 rw [aWs,pG bAv];have hall:(bs.map IL).all (fun v=>v.cells.length==1)=true:=m032.2 fun v hv=>by obtain ⟨c,_,rfl⟩:=m021.1 hv;rfl
 have hsrc:aR 1 (.sl false (bs.map IL)) s=some (bs.map IL):=by simp only [aR,hall,if_true,LG]
 rw [hsrc];rfl
theorem aOx (h:Bu s i bs true F) (fr:aI s) (hk:∀ s',Bu s' i bs true F->EF [i] s s'->K (.tup []) s'):aL mEv 202 [.ptr i 0] s K:=by
 obtain ⟨a,x,h2,h3,hx⟩:=h;have hi:=fr.lt h3;refine KQ bJi (aRt _ _ ?_);refine ⟨rfl,?_⟩;rcases h2 with rfl | rfl
 ·simp only [h3,bEu,wz,wy,Z0];rw [cv1 (a:=.nilp) (x:=x) (by simp only [adv_h];exact h3)];simp only [Bnd_some];refine KQ bKz ⟨_,_,aWl i _,?_⟩;rw [cv2 (a:=.nilp) (x:=x) (by simp only [adv_h];exact h3)];simp only [wz,wy,Z0];refine ⟨rfl,?_⟩;rw [OQ (c:=[.nilp,x]) (by simp only [adv_h];exact h3) (by simp) rfl rfl];simp only [Bnd_some];refine hk _ ⟨.ptr i 0,x,.inr rfl,by rw [aF];rfl,?_⟩ ((EF.refl _ fr).adv.set (by show i < s.nx+13;omega) (.inr (by simp)));rcases hx with hx | ⟨j,h4,h5,h6,h7,h8⟩
  ·exact .inl hx
  ·exact .inr ⟨j,h4,h5,h6,by rw [aB h4];exact h7,h8⟩
 ·simp only [h3,bEq,wz,wy,Z0];refine ⟨rfl,?_⟩;simp only [h3,bKc,wz,wy,Z0];exact hk _ ⟨.ptr i 0,x,.inr rfl,h3,hx⟩ (EF.refl _ fr).adv
theorem bCz (h:Bu s i bs true F) (fr:aI s) (ht:t≠[]) (hlen:bs.length+t.length<=2 ^ 40) :
  ∃ r s',WideC mEv 156 [.ptr i 0,.str t] s r s'/\r=.tup [.int .i64 t.length,.nili]/\∃ F',Bu s' i (bs++t) true F'/\EF F s s'/\∀ j∈F',j∈F\/s.nx<=j:=by
 refine aJi _ _ _ ?_;unfold f156;refine aOx (h.keep (s':=Ai.adv s 4) fun j _=>rfl) fr.adv fun s1 b1 e1=>?_;have hiF:=h.mem;have e1:EF F s s1:=((EF.refl F fr).adv (n:=4)).trans e1 fun j hj=>by rw [m008.1 hj];exact .inr hiF
 obtain ⟨a,x,h2,h3,h4,rfl,h5⟩:=b1.gw;have hx1:∀ j∈aE x,j < s1.nx:=h4.id_lt e1.fr;have hi:i < s1.nx:=e1.fr.lt h3;have happ:=aMw (vs:=bs.map IL) (ws:=t.map IL) bAv (h4.adv (n:=10)) (fun v hv=>by obtain ⟨c,_,rfl⟩:=m021.1 hv;exact ⟨rfl,rfl⟩) (by simpa using ht) (sH (by simp only [m002];omega) (by simp only [m002];omega)) false (s1.nx+6);refine ⟨rfl,?_⟩;simp only [h3,aGn,happ,wz,wy,Z0];refine ⟨rfl,?_⟩;have hne:i ∉ aE x:=fun hh=>h5 i hh rfl;have hni:¬ (i=s1.nx+6):=by omega
 have h3':((((Ai.adv s1 10).drop (aE x)).set (s1.nx+6) (some (.cells ((bs.map IL++t.map IL).flatMap AV.cells) 5 false true)))).h i=some (.cells [a,x] 163 true true):=by rw [get_set,if_neg hni,get_drop',if_neg hne,adv_h];exact h3
 rw [OQ (c:=[a,x]) h3' (by simp) rfl rfl];simp only [Bnd_some,bEf];refine ⟨trivial,[i,s1.nx+6],⟨a,_,h2,by rw [adv_h,aF];rfl,.inr ⟨s1.nx+6,by omega,by simp [ht],by simp,?_,rfl⟩⟩,?_,?_⟩
 ·rw [adv_h,aB (by omega),aF,<- m038,LG]
 ·have hn:=e1.nx;refine (EF.set ?_ (by simp only [set_nx,nx_drop,adv_nx];omega) (.inr hiF)).adv;refine EF.set ?_ (by simp only [nx_drop,adv_nx];omega) (.inl (by omega));exact e1.adv.drop fun j hj=>.inr (m005 _ hj)
 ·intro j hj;have hn:=e1.nx;simp only [m013,m052,or_false] at hj;rcases hj with rfl | rfl
  ·exact .inl hiF
  ·exact .inr (by omega)
theorem bGb (h:Bu s i bs w F) (fr:aI s) (hne:bs≠[]) (hlen:bs.length<=2 ^ 40):∃ r s',WideC mEv 108 [.ptr i 0] s r s'/\r=.str bs/\Bu s' i bs false F/\EF F s s':=by
 have hF:=h.mem;obtain ⟨a,x,h1,h3,h4⟩:=h;rcases h4 with ⟨_,h5,_⟩ | ⟨j,hji,_,rfl,hs,rfl⟩
 ·exact absurd h5 hne
 refine aOo _ _ ?_;refine ⟨rfl,?_⟩;have hpos:0 < bs.length:=List.length_pos_iff.2 hne;have hj:=fr.lt hs;have e1:∀ k (q:St),q.h j=some (.cells (bs.map IL) 5 false w)->bt .unsafeSliceData #[161] [.ref j 0 bs.length none 5] k q=some (.ptr j 0,q):=fun k q hq=>by simp [bL,hq,hpos]
 have e2:∀ k (q:St),bt .len #[161] [.ref j 0 bs.length none 5] k q=some (.int .i64 (bs.length:Nat),q):=fun k q=>by kernel_rfl
 have e3:∀ k (q:St),q.h j=some (.cells (bs.map IL) 5 false w)->bt .unsafeString #[220,3] [.ptr j 0,.int .i64 (bs.length:Nat)] k q=some (.str bs,q.set j (some (.cells (bs.map IL) 5 false false))):=fun k q hq=>by
  have h1:eK (bX mEv).P 220=some (.pointer 5):=by kernel_rfl
  have h2:eU (bX mEv).P 5=some (1,false):=by kernel_rfl
  have hm:(bs.length:Int)<=(most:Int):=by unfold most;omega
  have hr:((bs.map fun c=>(c.toNat:Int)).all fun n=>decide (0<=n)&&decide (n < 256))=true:=m032.2 fun n hn=>by obtain ⟨c,_,rfl⟩:=m021.1 hn;have:=c.toNat_lt;simp;omega
  have htk:(bs.map IL).take bs.length=bs.map IL:=m014 (by simp);simp only [bt,bL,h1,hq,h2,Int.toNat_natCast,m002,bK,hm,htk,u8s,Option.bind_some,hr,if_true,bGp,and_self,true_and,and_true];rw [if_pos (by omega)]
 simp only [h3,wz,wy,Z0];rw [e1 _ _ (by rw [adv_h];exact hs)];simp only [wz,wy,Z0];refine ⟨rfl,?_⟩;simp only [h3,e2,wz,wy,Z0];refine ⟨fr _ (by omega),?_⟩;rw [e3 _ (Ai.adv s 13) hs];simp only [wz,wy,Z0];exact ⟨trivial,⟨a,_,h1,by rw [aB hji.symm];exact h3,.inr ⟨j,hji,hne,rfl,aF,rfl⟩⟩,(EF.refl _ fr).adv.set (by show j < s.nx+13;omega) (.inr (by simp))⟩
theorem AX (hz:Bu s i bs true F) (fr:aI s) (ht:t≠[]) (hlen:bs.length+t.length<=2 ^ 40) (hk:∀ s' F',Bu s' i (bs++t) true F'->EF F s s'->(∀ j∈F',j∈F\/s.nx<=j)->K (.tup [.int .i64 t.length,.nili]) s'):aL mEv 156 [.ptr i 0,.str t] s K:=by obtain ⟨r,s',h1,rfl,F',h2,h3,h4⟩:=bCz hz fr ht hlen;exact KQ bAg ⟨_,s',h1,hk s' F' h2 h3 h4⟩
theorem XK {l:List Nat} {f:FuncId} (hz:Bu s i bs true F) (fr:aI s) (ht:t≠[]) (hlen:bs.length+t.length<=2 ^ 40) (hl:l=rch s [.fn f [] [],.ptr i 0,.str t]) (hk:∀ s' F',Bu s' i (bs++t) true F'->EF F s s'->(∀ j∈F',j∈F\/s.nx<=j)->K (.tup [.int .i64 t.length,.nili]) s'):cL mEv 156 [.ptr i 0,.str t] l s K:=by
 have hm:∀ j,j∈l↔j∈F:=fun j=>by rw [hl];exact hz.rch rfl j
 have hz':Bu (s.only l) i bs true F:=hz.keep fun j hj=>by rw [jZ,if_pos ((hm j).2 hj)]
 obtain ⟨r,s',h1,rfl,F',h2,h3,h4⟩:=bCz hz' (iA fr) ht hlen;refine rB bAg ⟨_,s',h1,hk _ F' ?_ (lQ h3 fun j hj=>(hm j).2 hj) h4⟩;exact h2.keep fun j hj=>by obtain ⟨b,hb⟩:=h2.have j hj;rw [hb];exact lO h3 (fun j hj=>(hm j).2 hj) hb
theorem DZ {l:List Nat} {f:FuncId} (hz:Bu s i bs w F) (fr:aI s) (hne:bs≠[]) (hlen:bs.length<=2 ^ 40) (hl:l=rch s [.fn f [] [],.ptr i 0]) (hk:∀ s',Bu s' i bs false F->EF F s s'->K (.str bs) s'):cL mEv 108 [.ptr i 0] l s K:=by
 have hm:∀ j,j∈l↔j∈F:=fun j=>by rw [hl];exact hz.rch rfl j
 have hz':Bu (s.only l) i bs w F:=hz.keep fun j hj=>by rw [jZ,if_pos ((hm j).2 hj)]
 obtain ⟨r,s',h1,rfl,h2,h3⟩:=bGb hz' (iA fr) hne hlen;refine rB bOy ⟨_,s',h1,hk _ ?_ (lQ h3 fun j hj=>(hm j).2 hj)⟩;exact h2.keep fun j hj=>by obtain ⟨b,hb⟩:=h2.have j hj;rw [hb];exact lO h3 (fun j hj=>(hm j).2 hj) hb
end
end
noncomputable section
def Nd.av (n:Nd):AV:=.agg [.int .i64 n.op,.int .i64 n.so,.sl false (n.a.map dE),.str n.nm,.bool n.neg,fZ n.num,.sl false (n.str.map kZ)]
def i64 (n:Int):Prop:=-9223372036854775808<=n/\n<=9223372036854775807
structure Nd.ok (n:Nd):Prop where
 op:i64 n.op
 so:i64 n.so
 a:∀ i∈n.a,i64 i
 al:n.a.length<=2 ^ 20
 nm:n.nm.length<=2 ^ 20
 num:cI n.num
 nl:n.num.length<=2 ^ 20
 str:∀ r∈n.str,i64 r.1/\i64 r.2
 sl:n.str.length<=2 ^ 20
theorem aXy {a:List Nat} (h:cI a) (hl:a.length<=2 ^ 20):(DO a).length<=2 ^ 26:=by
 have h1:=QS (val a) (2 * (bU a).length) (bU a) [] (fH h) (nY h).1 (YC _ (fH h));have h2:=uX a;unfold DO;have h3:∀ w:List UInt8,(w.dropWhile (·==48)).length<=w.length:=fun w=>(List.dropWhile_sublist _).length_le;have h4:=h3 (nD (val a) (bU a) []);simp only [List.length_nil] at h1;show (if (nD (val a) (bU a) []).dropWhile (·==48)=[] then [48] else (nD (val a) (bU a) []).dropWhile (·==48)).length<=2 ^ 26
 split
 ·simp
 ·omega
theorem tU (l:List Int):(AV.sl false (l.map dE)).closed=true:=gV _ _ fun _ _=>rfl
theorem tO (l:List (Int×Int)):(AV.sl false (l.map kZ)).closed=true:=gV _ _ fun _ _=>rfl
theorem yV (n:Nd):n.av.closed=true:=by have h1:=tU n.a;have h2:=tO n.str;have h3:=dG n.num;simp only [Nd.av,AV.closed,aW] at h1 h2 h3 ⊢;simp only [h1,h2,h3,jH]
theorem aUf (i:Int):cB i≠[]:=by
 unfold cB
 split
 ·simp
 ·exact VF _ _
section
variable {s:St} {b p:Nat} {F:List Nat} {bs:List UInt8} {n:Nd} {Q:aG}
def Ky (s:St) (b p:Nat) (bs:List UInt8) (n:Nd) (F:List Nat):Prop:=Bu s b bs true F/\aI s/\s.h p=some (.cells n.av.cells 101 true true)/\p ∉ F
theorem Ky.adv (h:Ky s b p bs n F) (k:Nat):Ky (Ai.adv s k) b p bs n F:=⟨h.1.keep fun _ _=>rfl,h.2.1.adv,h.2.2.1,h.2.2.2⟩
theorem Ky.step {s':St} {bs':List UInt8} {F':List Nat} (h:Ky s b p bs n F) (h1:Bu s' b bs' true F') (h2:EF F s s') (h3:∀ j∈F',j∈F\/s.nx<=j):Ky s' b p bs' n F':=by
 have hp:=h.2.1.lt h.2.2.1;refine ⟨h1,h2.fr,by rw [h2.h p hp h.2.2.2];exact h.2.2.1,fun hm=>?_⟩;rcases h3 p hm with h3 | h3
 ·exact h.2.2.2 h3
 ·omega
theorem lI (n:Nd):n.av.cells=[.int .i64 n.op,.int .i64 n.so,.sl false (n.a.map dE),.str n.nm,.bool n.neg,fZ n.num,.sl false (n.str.map kZ)]:=rfl
theorem bJv (h:Ky s b p bs n F) (hne:bs≠[]) (ho:n.ok) (hlen:bs.length<=2 ^ 36) (hQ:∀ s,Q (.str (bs++61::n.nm)) s):yY Q (.ptr b 0) (.ptr p 0) s:=by
 have h0:=h;obtain ⟨h1,h2,h3,h4⟩:=h.adv 6;unfold yY;refine DZ h1 h2 hne (by omega) rfl fun s' h5 h6=>?_;have hp:=h2.lt h3;have h7:s'.h p=some (.cells n.av.cells 101 true true):=by rw [h6.h p hp h4];exact h3
 rw [gZ (y:=[61]) (by simp only [List.length_cons,List.length_nil];omega)];simp only [wx,wy,Z0,Z1,reduceCtorEq];refine ⟨?_,?_⟩
 ·have hn:p ∉ rch (Ai.adv s 6) [.fn 108 [] [],.ptr b 0]:=fun hm=>h4 ((h1.rch rfl p).1 hm)
  have hmb:dO p (rch (Ai.adv s 6) [.fn 108 [] [],.ptr b 0])=false:=by
   cases hc:dO p (rch (Ai.adv s 6) [.fn 108 [] [],.ptr b 0]) with
   | false=>rfl
   | true=>exact absurd (bO.1 hc) hn
  have hlt:Nat.blt p (Ai.adv s 6).nx=true:=by simpa [Nat.blt_eq] using hp
  have hdj:lY (rch (Ai.adv s 6) [.fn 108 [] [],.ptr b 0]) [p]=true:=by
   have:∀ l:List Nat,(∀ x∈l,x≠p)->lY l [p]=true:=by
    intro l
    induction l with
    | nil=>intro _;rfl
    | cons x l ih =>
     intro hx
     have h1:Nat.beq x p=false:=by
      cases hb:Nat.beq x p with
      | false=>rfl
      | true=>exact absurd (iN hb) (hx x (m007 ..))
     simp only [lY,dO,h1,cond_false,Bool.or_self,m027,m031,ih fun y hy=>hx y (m005 _ hy)]
   exact this _ fun x hx he=>hn (by rw [<- he];exact hx)
  simp [clear,eA.apart,tM,bN,aE,lY,hmb,hlt,hdj];exact hp
 ·simp only [h7,lI,wx,wy,Z0,Z1,reduceCtorEq];rw [gZ (by have:=ho.nm;simp only [m006,List.length_cons,List.length_nil];omega)];simp only [Bnd_some,m019,List.cons_append,List.nil_append];exact hQ _
theorem bIf (ho:n.ok) (r:List UInt8) (hQ:∀ s,Q (.str r) s):∀ (m i:Nat) (bs:List UInt8) (s:St) (F:List Nat),i+m=n.str.length->Ky s b p bs n F->bs≠[]->bs.length+64 * m<=2 ^ 36->r=bs++(n.str.drop i).flatMap (fun r=>32::cB r.1++42::cB r.2)++61::n.nm ->
  rP Q (m+1) (.ptr p 0) (.ptr b 0) (.sl false (n.str.map kZ)) (.int .i64 n.str.length) (.int .i64 i) s:=by
 intro m
 induction m with
 | zero =>
  intro i bs s F hi h hne hlen hr;show vG Q (rP Q 0) _ _ _ _ _ s;have c1:decide ((i:Int) < (n.str.length:Int))=false:=by simp;omega
  rw [m037 (by omega)] at hr;simp only [vG,c1,wx,wy,Z0,Z1,reduceCtorEq];refine bJv (h.adv 1) hne ho (by omega) fun s=>?_;rw [show bs++61::n.nm=r by rw [hr];simp];exact hQ s
 | succ m ih =>
  intro i bs s F hi h hne hlen hr;show vG Q (rP Q (m+1)) _ _ _ _ _ s;have c1:decide ((i:Int) < (n.str.length:Int))=true:=by simp;omega
  obtain ⟨q,hq⟩:∃ q,n.str[i]?=some q:=⟨_,m004 (by omega)⟩;rw [cE _ i q hq,m024] at hr;have hq2:=ho.str q (m017 hq);have hix:=cJ qF false hq .i64;have w1:IntKind.i64.wrap ((i:Int)+1)=((i+1:Nat):Int):=by have:=ho.sl;rw [IntWalk.i64_in _ (by omega)];rfl
  have hst:∀ (q':St) (k c:Nat),dU 2 (.ptr k 0) (kZ q) (Ai.adv (q'.set k (some (.cells (AV.agg [.int .i64 0,.int .i64 0]).cells 109 true true))) c)=some (Ai.adv (q'.set k (some (.cells (kZ q).cells 109 true true))) c):=fun q' k c=>by rw [bJ (z:=2) (by rw [adv_h,aF]) rfl rfl rfl,adv_set,set_set]
  have hb:=h.2.1.lt (h.1.have b h.1.mem).choose_spec;have hp:=h.2.1.lt h.2.2.1;have hF:=h.1.lt h.2.1;simp only [vG,c1,hix,VB,aYm,hst,wx,wy,Z0,Z1,reduceCtorEq]
  have h1:Ky (Ai.adv (s.set (s.nx+3) (some (.cells (kZ q).cells 109 true true))) 15) b p bs n F :=
   ⟨h.1.keep fun j hj=>by rw [adv_h,aB (by have:=hF j hj;omega)],cA h.2.1 15 (by omega),by rw [adv_h,aB (by omega)];exact h.2.2.1,h.2.2.2⟩
  have e0:(kZ q).cells[0]?=some (.int .i64 q.1):=rfl;have e1:(kZ q).cells[1]?=some (.int .i64 q.2):=rfl;simp only [e0,e1,aF,wx,wy,Z0,Z1,reduceCtorEq];refine oX (RJ q.1 hq2.1.1 hq2.1.2) (by simp [AV.closed]) ?_;have l1:=gN q.1;have l2:=gN q.2;rw [gZ (x:=[32]) (by simp only [List.length_cons,List.length_nil];omega)];simp only [Bnd_some];rw [gZ (y:=[42]) (by simp only [m006,List.length_cons,List.length_nil];omega)];simp only [e1,wx,wy,Z0,Z1,reduceCtorEq];refine oX (RJ q.2 hq2.2.1 hq2.2.2) (by simp [AV.closed]) ?_;rw [gZ (by simp only [m006,List.length_cons,List.length_nil];omega)];simp only [Bnd_some];refine XK h1.1 h1.2.1 (by simp) (by simp only [m006,List.length_cons,List.length_nil];omega) rfl fun s' F' g1 g2 g3=>?_;simp only [UY,w1,wx,wy,Z0,Z1,reduceCtorEq];exact ih (i+1) _ _ F' (by omega) ((h1.step g1 g2 g3).adv 2) (by simp) (by simp only [m006,List.length_cons,List.length_nil];omega) (by rw [hr];simp)
theorem bHy (h:Ky s b p bs n F) (hne:bs≠[]) (ho:n.ok) (hlen:bs.length<=2 ^ 30) (hQ:∀ s,Q (.str (bs++35::DO n.num++n.str.flatMap (fun r=>32::cB r.1++42::cB r.2)++61::n.nm)) s):yU Q (.ptr p 0) (.ptr b 0) s:=by
 have htx:=aXy ho.num ho.nl;unfold yU;obtain ⟨h1,h2,h3,h4⟩:=h.adv 6;simp only [h.2.2.1,lI,wx,wy,Z0,Z1,reduceCtorEq];refine aP (c59 n.num ho.num (by have:=ho.nl;omega)) (by simp [dG]) ?_;rw [gZ (x:=[35]) (by simp only [List.length_cons,List.length_nil];omega)];simp only [Bnd_some];refine AX h1 h2 (by simp) (by simp only [m006,List.length_cons,List.length_nil];omega) fun s' F' g1 g2 g3=>?_;have h5:=(h.adv 6).step g1 g2 g3;have hl:∀ id s,bt .len #[25] [.sl false (n.str.map kZ)] id s=some (.int .i64 n.str.length,s):=fun id s=>by rw [bCp,m002]
 simp only [h5.2.2.1,lI,hl,wx,wy,Z0,Z1,reduceCtorEq];exact ⟨_,bIf ho _ hQ n.str.length 0 _ _ F' (by omega) (h5.adv 4) (by simp) (by have:=ho.sl;simp only [m006,List.length_cons,List.length_nil];omega) (by simp)⟩
theorem bLl (ho:n.ok) (r:List UInt8) (hQ:∀ s,Q (.str r) s):∀ (m i:Nat) (bs:List UInt8) (s:St) (F:List Nat),i+m=n.a.length->Ky s b p bs n F->bs≠[]->bs.length+22 * m<=2 ^ 30->r=bs++(n.a.drop i).flatMap (fun i=>32::cB i)++35::DO n.num++n.str.flatMap (fun r=>32::cB r.1++42::cB r.2)++61::n.nm ->
  rQ Q (m+1) (.ptr p 0) (.ptr b 0) (.sl false (n.a.map dE)) (.int .i64 n.a.length) (.int .i64 i) s:=by
 intro m
 induction m with
 | zero =>
  intro i bs s F hi h hne hlen hr;show wA Q (rQ Q 0) _ _ _ _ _ s;have c1:decide ((i:Int) < (n.a.length:Int))=false:=by simp;omega
  rw [m037 (by omega)] at hr;simp only [wA,c1,wx,wy,Z0,Z1,reduceCtorEq];refine bHy (h.adv 1) hne ho (by omega) fun s=>?_;rw [m042,m011] at hr;rw [<- hr];exact hQ s
 | succ m ih =>
  intro i bs s F hi h hne hlen hr;show wA Q (rQ Q (m+1)) _ _ _ _ _ s;have c1:decide ((i:Int) < (n.a.length:Int))=true:=by simp;omega
  obtain ⟨q,hq⟩:∃ q,n.a[i]?=some q:=⟨_,m004 (by omega)⟩;rw [cE _ i q hq,m024] at hr;have hq2:=ho.a q (m017 hq);have hix:=cJ iY false hq .i64;have w1:IntKind.i64.wrap ((i:Int)+1)=((i+1:Nat):Int):=by have:=ho.al;rw [IntWalk.i64_in _ (by omega)];rfl
  have e0:(dE q).cells[0]?=some (.int .i64 q):=rfl;simp only [wA,c1,hix,e0,wx,wy,Z0,Z1,reduceCtorEq];refine aP (RJ q hq2.1 hq2.2) (by simp [AV.closed]) ?_;have l1:=gN q;rw [gZ (x:=[32]) (by simp only [List.length_cons,List.length_nil];omega)];simp only [Bnd_some];obtain ⟨h1,h2,_⟩:=h.adv 8;refine AX h1 h2 (by simp) (by simp only [m006,List.length_cons,List.length_nil];omega) fun s' F' g1 g2 g3=>?_;simp only [SQ,w1,wx,wy,Z0,Z1,reduceCtorEq];exact ih (i+1) _ _ F' (by omega) (((h.adv 8).step g1 g2 g3).adv 2) (by simp) (by simp only [m006,List.length_cons,List.length_nil];omega) (by rw [hr];simp)
end
theorem bRw (n:Nd) (ho:n.ok):bE mEv 183 [n.av] (.str (iB n)):=by
 refine dA (aLi _ _ ?_);unfold f183;refine ⟨rfl,?_⟩;have hl:∀ id s,bt .len #[72] [.sl false (n.a.map dE)] id s=some (.int .i64 n.a.length,s):=fun id s=>by rw [QD,m002]
 have l1:=gN n.op;have l2:=gN n.so;have hz:(AV.agg [.nilp,.nils]).cells=[.nilp,.nils]:=rfl;simp only [aZg,lI,hz,wx,wy,Z0,Z1,reduceCtorEq];refine oX (RJ n.op ho.op.1 ho.op.2) (by simp [AV.closed]) ?_;rw [gZ (y:=[58]) (by simp only [List.length_cons,List.length_nil];omega)];simp only [lI,wx,wy,Z0,Z1,reduceCtorEq];refine oX (RJ n.so ho.so.1 ho.so.2) (by simp [AV.closed]) ?_;rw [gZ (by simp only [m006,List.length_cons,List.length_nil];omega)];simp only [Bnd_some]
 have h0:Ky (Ai.adv ((Ai.adv ((Ai.adv St.empty 2).set St.empty.nx (some (.cells n.av.cells 101 true true))) 1).set (St.empty.nx+2) (some (.cells [.nilp,.nils] 163 true true))) 9) 2 0 [] n [2] :=
  ⟨⟨.nilp,.nils,.inl rfl,rfl,.inl ⟨rfl,rfl,rfl⟩⟩,(((jP.adv.set (by decide)).adv).set (by show 2 < 3;decide)).adv,rfl,by decide⟩
 refine XK h0.1 h0.2.1 (by simp [aUf]) (by simp only [m006,List.length_cons,List.length_nil];omega) rfl fun s' F' g1 g2 g3=>?_;have h5:=h0.step g1 g2 g3;have hp:s'.h St.empty.nx=some (.cells n.av.cells 101 true true):=h5.2.2.1;simp only [hp,lI,hl,wx,wy,Z0,Z1,reduceCtorEq];refine ⟨_,bLl ho (iB n) (fun s=>aX rfl) n.a.length 0 _ _ F' (by omega) (h5.adv 4) (by simp) (by have:=ho.al;simp only [m006,List.length_cons,List.length_nil];omega) ?_⟩;simp [iB]
end
noncomputable section
def mD (x:List UInt8):AV:=.str x
theorem tC:QP mD 1:=⟨fun _=>rfl,fun _=>rfl⟩
theorem aZj:QP Nd.av 7:=⟨fun _=>rfl,fun _=>rfl⟩
def gY:Nat->List (List UInt8)->List (AV×AV)
 | _,[]=>[]
 | i,k::l=>(.str k,.int .i64 i)::gY (i+1) l
theorem aOy (l:List (List UInt8)) (k:List UInt8):∀ i,gY i (l++[k])=gY i l++[(.str k,.int .i64 ((i+l.length:Nat):Int))]:=by
 induction l with
 | nil=>intro i;rfl
 | cons a l ih=>intro i;simp only [List.cons_append,gY,ih,List.length_cons,show i+1+l.length=i+(l.length+1) by omega]
def uG (k:List UInt8):List (List UInt8)->Option Nat
 | []=>none
 | a::l=>bif k==a then some 0 else (uG k l).map (·+1)
theorem GV (k:List UInt8) (B:Bk):uG k (B.map iB)=gQ k B:=by
 induction B with
 | nil=>rfl
 | cons n B ih=>simp only [m039,uG,gQ,ih]
theorem HV (k:List UInt8):∀ (l:List (List UInt8)) (i:Nat),find (.str k) (gY i l)=some ((uG k l).map fun j=>.int .i64 ((i+j:Nat):Int)):=by
 intro l
 induction l with
 | nil=>intro i;rfl
 | cons a l ih =>
  intro i;simp only [gY,find,gR,uG]
  cases h:(k==a) with
  | true=>simp
  | false =>simp only [ih,cond_false,Option.map_map];congr 2;funext j;simp only [Function.comp,show i+1+j=i+(j+1) by omega]
theorem aGy (k:List UInt8) (v:AV):∀ (l:List (List UInt8)) (i:Nat),uG k l=none->fX (.str k) v (gY i l)=gY i l++[(.str k,v)]:=by
 intro l
 induction l with
 | nil=>intro i _;rfl
 | cons a l ih =>
  intro i h;simp only [uG] at h
  cases hb:(k==a) with
  | true=>rw [hb] at h;cases h
  | false =>rw [hb] at h;simp only [cond_false,Option.map_eq_none_iff] at h;simp only [gY,fX,gR,hb,ih (i+1) h,List.cons_append];rfl
section
variable {s s':St} {i:Nat} {F:List Nat} {K:aG}
def MpR (s:St) (m:AV) (l:List (List UInt8)):Prop:=(m=.nilm/\l=[])\/∃ j,m=.map j/\s.h j=some (.map (gY 0 l))
def BkC (s:St) (i:Nat) (B:Bk) (xl m xn:AV):Prop :=
 s.h i=some (.cells [xl,m,xn] 58 true true)/\Gw 9 1 0 s xl ((B.map iB).map mD)/\MpR s m (B.map iB)/\Gw 101 7 0 s xn (B.map Nd.av)/\(i::(aE xl++aE m++aE xn)).Nodup/\(∀ n∈B,n.ok)/\B.length<=20000
def jJ (s:St) (i:Nat) (B:Bk) (F:List Nat):Prop:=∃ xl m xn,BkC s i B xl m xn/\F=i::(aE xl++aE m++aE xn)
theorem MpR.keep {m:AV} {l:List (List UInt8)} (h:MpR s m l) (hk:∀ j∈aE m,s'.h j=s.h j):MpR s' m l:=by
 rcases h with h | ⟨j,rfl,h⟩
 ·exact .inl h
 ·exact .inr ⟨j,rfl,by rw [hk j (by simp [aE])];exact h⟩
theorem jJ.keep {B:Bk} (h:jJ s i B F) (hk:∀ j∈F,s'.h j=s.h j):jJ s' i B F:=by obtain ⟨xl,m,xn,⟨h1,h2,h3,h4,h5⟩,rfl⟩:=h;exact ⟨xl,m,xn,⟨by rw [hk i (by simp)];exact h1,h2.keep fun j hj=>hk j (by simp [hj]),h3.keep fun j hj=>hk j (by simp [hj]),h4.keep fun j hj=>hk j (by simp [hj]),h5⟩,rfl⟩
theorem Gw.has {e:TypeId} {z:Nat} {x:AV} {vs:List AV} (g:Gw e z 0 s x vs):∀ j∈aE x,s.h j=some (.cells (vs.flatMap AV.cells) e false true):=by
 obtain ⟨_,⟨rfl,rfl⟩ | ⟨id,_,rfl,h⟩⟩:=g
 ·intro j hj;cases hj
 ·intro j hj;simp only [aE,m008] at hj;subst hj;exact h
theorem MpR.has {m:AV} {l:List (List UInt8)} (h:MpR s m l):∀ j∈aE m,s.h j=some (.map (gY 0 l)):=by
 rcases h with ⟨rfl,_⟩ | ⟨k,rfl,h⟩
 ·intro j hj;cases hj
 ·intro j hj;simp only [aE,m008] at hj;subst hj;exact h
theorem jJ.have {B:Bk} (h:jJ s i B F):∀ j∈F,∃ b,s.h j=some b:=by
 obtain ⟨xl,m,xn,⟨h1,h2,h3,h4,h5⟩,rfl⟩:=h;intro j hj;simp only [m013,m003] at hj;rcases hj with rfl | (hj | hj) | hj
 ·exact ⟨_,h1⟩
 ·exact ⟨_,h2.has j hj⟩
 ·exact ⟨_,h3.has j hj⟩
 ·exact ⟨_,h4.has j hj⟩
theorem jJ.lt {B:Bk} (h:jJ s i B F) (fr:aI s):∀ j∈F,j < s.nx:=fun j hj=>by obtain ⟨b,hb⟩:=h.have j hj;exact fr.lt hb
theorem jJ.mem {B:Bk} (h:jJ s i B F):i∈F:=by obtain ⟨xl,m,xn,_,rfl⟩:=h;simp
theorem jJ.adv {B:Bk} {n:Nat} (h:jJ s i B F):jJ (Ai.adv s n) i B F:=h.keep fun _ _=>rfl
theorem jR {l:List AV} (h:aW l=true):dC l=[]:=by
 have key:(∀ v:AV,v.closed=true->eH v=[])/\∀ l:List AV,aW l=true->dC l=[]:=by
  constructor
  ·intro v
   exact AV.rec (motive_1:=fun v=>v.closed=true->eH v=[]) (motive_2:=fun l=>aW l=true->dC l=[])
    (fun _=>rfl) (fun _ _=>rfl) (fun _ _ _=>rfl) (fun _ _=>rfl) (fun _=>rfl) (fun _ _ h=>by cases h) (fun cs _ ih h=>by simp only [AV.closed] at h;simp only [eH,ih h])
    (fun _=>rfl) (fun h=>by cases h) (fun ex l ih h=>by simp only [AV.closed,cR] at h;simp only [eH,ih h.2]) (fun _ _ _ _ _ h=>by cases h) (fun _=>rfl) (fun _ h=>by cases h) (fun _=>rfl) (fun _ h=>by cases h) (fun _=>rfl)
    (fun _ a b iha ihb h=>by simp only [AV.closed,cR] at h;simp only [eH,iha h.1,ihb h.2,m011]) (fun _=>rfl) (fun _ _ _ h=>by cases h) (fun cs ih h=>by simp only [AV.closed] at h;simp only [eH,ih h]) (fun cs ih h=>by simp only [AV.closed] at h;simp only [eH,ih h])
    (fun _=>rfl) (fun v l ih1 ih2 h=>by simp only [aW,cR] at h;simp only [dC,ih1 h.1,ih2 h.2,m011]) v
  ·intro l
   exact AV.rec_1 (motive_1:=fun v=>v.closed=true->eH v=[]) (motive_2:=fun l=>aW l=true->dC l=[])
    (fun _=>rfl) (fun _ _=>rfl) (fun _ _ _=>rfl) (fun _ _=>rfl) (fun _=>rfl) (fun _ _ h=>by cases h) (fun cs _ ih h=>by simp only [AV.closed] at h;simp only [eH,ih h])
    (fun _=>rfl) (fun h=>by cases h) (fun ex l ih h=>by simp only [AV.closed,cR] at h;simp only [eH,ih h.2]) (fun _ _ _ _ _ h=>by cases h) (fun _=>rfl) (fun _ h=>by cases h) (fun _=>rfl) (fun _ h=>by cases h) (fun _=>rfl)
    (fun _ a b iha ihb h=>by simp only [AV.closed,cR] at h;simp only [eH,iha h.1,ihb h.2,m011]) (fun _=>rfl) (fun _ _ _ h=>by cases h) (fun cs ih h=>by simp only [AV.closed] at h;simp only [eH,ih h]) (fun cs ih h=>by simp only [AV.closed] at h;simp only [eH,ih h])
    (fun _=>rfl) (fun v l ih1 ih2 h=>by simp only [aW,cR] at h;simp only [dC,ih1 h.1,ih2 h.2,m011]) l
 exact key.2 l h
theorem aLs (l:List (List UInt8)):∀ i,dC ((gY i l).map (·.2))=[]:=by
 induction l with
 | nil=>intro i;rfl
 | cons a l ih=>intro i;simp only [gY,m039,dC,ih];rfl
theorem CI {vs:List AV} (h:∀ v∈vs,v.closed=true):dC (vs.flatMap AV.cells)=[]:=jR (mO h)
theorem DP {x:AV} (h:(∃ e z vs,Gw e z 0 s x vs)\/∃ l,MpR s x l):eH x=aE x:=by rcases h with ⟨e,z,vs,_,⟨rfl,rfl⟩ | ⟨id,_,rfl,_⟩⟩ | ⟨l,⟨rfl,_⟩ | ⟨k,rfl,_⟩⟩<;>rfl
theorem jJ.rch {B:Bk} (h:jJ s i B F) {vs:List AV} (hv:dC vs=[i]):∀ j,j∈rch s vs↔j∈F:=by
 obtain ⟨xl,m,xn,⟨h1,h2,h3,h4,h5⟩,rfl⟩:=h;have hb:eD (.cells [xl,m,xn] 58 true true)=aE xl++aE m++aE xn:=by simp only [eD,dC,DP (s:=s) (.inl ⟨_,_,_,h2⟩),DP (s:=s) (.inr ⟨_,h3⟩),DP (s:=s) (.inl ⟨_,_,_,h4⟩),m011,m019]
 intro j;rw [vN hv h1]
 ·rw [hb];simp
 ·rw [hb];have hl:∀ x:AV,(aE x).length<=1:=fun x=>by cases x<;>simp [aE]
  have a:=hl xl;have b:=hl m;have c:=hl xn;simp only [m006];omega
 ·rw [hb];intro j hj b hb2;right;simp only [m003] at hj;rcases hj with (hj | hj) | hj
  ·rw [h2.has j hj] at hb2;cases hb2;exact CI fun v hv=>by obtain ⟨c,_,rfl⟩:=m021.1 hv;rfl
  ·rw [h3.has j hj] at hb2;cases hb2;exact aLs _ _
  ·rw [h4.has j hj] at hb2;cases hb2;exact CI fun v hv=>by obtain ⟨c,_,rfl⟩:=m021.1 hv;exact yV c
theorem aOe {B:Bk} {x:AV} (g:Gw 101 7 0 s x (B.map Nd.av)) (id:Nat):bt .len #[56] [x] id s=some (.int .i64 B.length,s):=by
 have:=bJm g id
 rwa [m002] at this
theorem bAf {B:Bk} (h:jJ s i B F) (hK:K (.int .i64 B.length) (Ai.adv s 9)):aL mEv 31 [.ptr i 0] s K:=by obtain ⟨xl,m,xn,⟨h1,h2,h3,h4,h5⟩,rfl⟩:=h;refine bQ (by kernel_rfl) (aVx _ _ ?_);unfold f31;simp only [aMh,h1,wx,wy,Z0,Z1,reduceCtorEq];refine ⟨rfl,?_⟩;simp only [h1,aOe (h4.adv),wx,wy,Z0,Z1,reduceCtorEq];exact hK
theorem YF:eK Tryz.ty 53=some (.map 9 3):=by kernel_rfl
theorem aOc {m:AV} {l:List (List UInt8)} (h:MpR s m l) (k:List UInt8):eE Tryz.ty 53 m (.str k) true s=some (.tup [.int .i64 (((uG k l).getD 0:Nat):Int),.bool (uG k l).isSome]):=by
 have h9:eK Tryz.ty 9=some .string:=by kernel_rfl
 have hz:zero Tryz.ty 3=some (.int .i64 0):=by kernel_rfl
 have he:jV m (.str k) s=some ((uG k l).map fun j=>.int .i64 (j:Int)):=by
  rcases h with ⟨rfl,rfl⟩ | ⟨j,rfl,hj⟩
  ·rfl
  ·simp only [jV,hj,HV,m023]
 simp only [eE,YF,h9,Option.bind_some,uQ,if_true,hz,he,Option.map_some];cases uG k l<;>rfl
theorem bEi {xl m xn:AV} {l:List (List UInt8)} (h1:s.h i=some (.cells [xl,m,xn] 58 true true)) (h:MpR s m l) (k:List UInt8) (hK:K (.tup [.int .i64 (((uG k l).getD 0:Nat):Int),.bool (uG k l).isSome]) (Ai.adv s 19)):aL mEv 184 [.ptr i 0,.str k] s K:=by
 refine bQ (by kernel_rfl) (aQp _ _ _ ?_);unfold f184;have e1:bn .eql 277 (.ptr i 0) .nilp=some (.bool false):=by kernel_rfl
 simp only [e1,wx,wy,Z0,Z1,reduceCtorEq];refine ⟨rfl,?_⟩;simp only [h1,aOc (s:=Ai.adv s 15) (h.keep fun _ _=>rfl),wx,wy,Z0,Z1,reduceCtorEq];exact hK
theorem bOf {j:Nat} {l:List (List UInt8)} {S:St} (h:S.h j=some (.map (gY 0 l))) (k:List UInt8) (hk:uG k l=none) (v:AV):eN Tryz.ty 53 (.map j) (.str k) v S=some (S.set j (some (.map (gY 0 l++[(.str k,v)])))):=by
 have h9:eK Tryz.ty 9=some .string:=by kernel_rfl
 simp only [eN,YF,h9,Option.bind_some,h,uQ,if_true,HV,hk,aGy k v l 0 hk,Option.map_none,Option.map_some]
theorem uH {x:AV} {l:List (List UInt8)} (g:Gw 9 1 0 s x (l.map mD)) (id:Nat):bt .len #[52] [x] id s=some (.int .i64 l.length,s):=by
 have:=bHe g id
 rwa [m002] at this
theorem bDz {xl m xn:AV} {l:List (List UInt8)} (fr:aI s) (h1:s.h i=some (.cells [xl,m,xn] 58 true true)) (h2:Gw 9 1 0 s xl (l.map mD)) (h:MpR s m l) (hd:(i::(aE xl++aE m)).Nodup) (k:List UInt8) (hk:uG k l=none) (hl:l.length<=20000) :
  ∃ r s',WideC mEv 185 [.ptr i 0,.str k] s r s'/\r=.tup [.int .i64 l.length,.bool true]/\∃ j' n',s'.h i=some (.cells [.ref n' 0 (l.length+1) none 9,.map j',xn] 58 true true)/\Gw 9 1 0 s' (.ref n' 0 (l.length+1) none 9) ((l++[k]).map mD) /\
   s'.h j'=some (.map (gY 0 (l++[k])))/\EF (i::(aE xl++aE m)) s s'/\s.nx<=n'/\(j'∈aE m\/s.nx<=j')/\j'≠n':=by
 refine aSk _ _ _ ?_;have e1:bn .eql 277 (.ptr i 0) .nilp=some (.bool false):=by kernel_rfl
 have hi:=fr.lt h1;have wl:IntKind.i64.wrap (((l.length:Nat):Int)+1 - 1)=(l.length:Int):=by rw [IntWalk.i64_in _ (by omega)];omega
 have bs:kM 52 1 [(0,.str k)]=some (.sl true [mD k]):=dX FN (by decide) rfl rfl
 have key:∀ (Q:aG) (S:St) (j:Nat),S.h i=some (.cells [xl,.map j,xn] 58 true true)->Gw 9 1 0 S xl (l.map mD)->S.h j=some (.map (gY 0 l))->j ∉ i::aE xl->EF (i::(aE xl++aE m)) s S->(j∈aE m\/s.nx<=j) ->
   (∀ s',(∃ j' n',s'.h i=some (.cells [.ref n' 0 (l.length+1) none 9,.map j',xn] 58 true true)/\Gw 9 1 0 s' (.ref n' 0 (l.length+1) none 9) ((l++[k]).map mD) /\
   s'.h j'=some (.map (gY 0 (l++[k])))/\EF (i::(aE xl++aE m)) s s'/\s.nx<=n'/\(j'∈aE m\/s.nx<=j')/\j'≠n')->Q (.tup [.int .i64 l.length,.bool true]) s')->CY Q (.ptr i 0) (.str k) S:=by
  intro Q S j g1 g2 g3 g4 g5 g6 hQ;have hj:=g5.fr.lt g3;have hi2:=g5.fr.lt g1;have hxl:∀ y∈aE xl,y < S.nx:=fun y hy=>g5.fr.lt (g2.has y hy);have hji:j≠i:=fun hh=>g4 (by simp [hh]);have hjx:j ∉ aE xl:=fun hh=>g4 (by simp [hh]);have hix:i ∉ aE xl:=fun hh=>by simp only [m036,m003] at hd;exact hd.1 (.inl hh)
  have hn:=g5.nx;unfold CY;refine ⟨rfl,?_⟩;simp only [g1,wx,wy,Z0,Z1,reduceCtorEq];refine ⟨rfl,?_⟩;simp only [g1,uH g2.adv,wx,wy,Z0,Z1,reduceCtorEq];refine ⟨g5.fr _ (by omega),?_⟩;rw [bOf (S:=Ai.adv S 11) g3 k hk];simp only [Bnd_some];refine ⟨rfl,?_⟩;have g1':(S.set j (some (.map (gY 0 l++[(.str k,.int .i64 l.length)])))).h i=some (.cells [xl,.map j,xn] 58 true true):=by rw [aB hji.symm];exact g1
  have g2':Gw 9 1 0 (S.set j (some (.map (gY 0 l++[(.str k,.int .i64 l.length)])))) xl (l.map mD):=g2.keep fun y hy=>aB fun hh=>hjx (by rw [<- hh];exact hy);have happ:=gM FN tC (g2'.adv (n:=22)) (by omega) (by omega) k true (S.nx+18);simp only [g1',bs,happ,wx,wy,Z0,Z1,reduceCtorEq];refine ⟨rfl,?_⟩;obtain ⟨M,hM⟩:∃ M,M=(some (gU.map (gY 0 l++[(AV.str k,AV.int .i64 l.length)])):Option gU):=⟨_,rfl⟩;obtain ⟨C,hC⟩:∃ C,C=(some (gU.cells (((l++[k]).map mD).flatMap AV.cells) 9 false true):Option gU):=⟨_,rfl⟩;rw [<- hM,<- hC];rw [<- hM] at g1';have z1:(Ai.adv (((S.set j M).drop (aE xl)).set (S.nx+18) C) 22).h i=some (.cells [xl,.map j,xn] 58 true true):=by rw [adv_h,get_set,if_neg (by omega),get_drop',if_neg hix];exact g1'
  rw [eB (c:=[xl,.map j,xn]) z1 (by simp) rfl rfl];simp only [wx,wy,Z0,Z1,reduceCtorEq];refine ⟨rfl,?_⟩;have z2:(Ai.adv ((((S.set j M).drop (aE xl)).set (S.nx+18) C).set i (some (.cells [.ref (S.nx+18) 0 (l.length+1) none 9,.map j,xn] 58 true true))) 22).h i=some (.cells [.ref (S.nx+18) 0 (l.length+1) none 9,.map j,xn] 58 true true):=by rw [adv_h,aF]
  simp only [List.set_cons_zero,if_true,bBs,wx,wy,Z0,Z1,reduceCtorEq];have wl2:IntKind.i64.wrap (((l.length+1:Nat):Int) - 1)=(l.length:Int):=by rw [IntWalk.i64_in _ (by omega)];omega
  rw [wl2];refine hQ _ ⟨j,S.nx+18,by rw [adv_h,aF],?_,?_,?_,by omega,g6,by omega⟩
  ·have:=jL (l:=l) (a:=k) tC (e:=9) (id:=S.nx+18) (n:=30) (s0:=S);refine this.keep fun y hy=>?_;simp only [aE,m008] at hy;subst hy;rw [adv_h,aB (by omega),aF,adv_h,aF,hC]
  ·rw [adv_h,aB hji,aB (by omega),get_drop',if_neg hjx,aF,hM,aOy,m023]
  ·refine ⟨by simp only [adv_nx,set_nx,nx_drop];omega,fun y hy hn2=>?_,fun y hy=>?_⟩
   ·simp only [m013,m003,not_or] at hn2;have hyj:y≠j:=fun hh=>g6.elim (fun h=>hn2.2.2 (by rw [hh];exact h)) fun h=>by omega
    rw [adv_h,get_set,if_neg hn2.1,get_set,if_neg (by omega),get_drop',if_neg hn2.2.1,get_set,if_neg hyj];exact g5.h y hy (by simp only [m013,m003,not_or];exact hn2)
   ·have hy:S.nx+22+8<=y:=by simp only [adv_nx,set_nx,nx_drop] at hy;omega
    rw [adv_h,get_set,if_neg (by omega),get_set,if_neg (by omega),get_drop']
    split
    ·rfl
    ·rw [get_set,if_neg (by omega)];exact g5.fr y (by omega)
 unfold f185;simp only [e1,wx,wy,Z0,Z1,reduceCtorEq];refine ⟨rfl,?_⟩;simp only [h1,aOc (s:=Ai.adv s 15) (h.keep fun _ _=>rfl),hk,Option.isSome_none,wx,wy,Z0,Z1,reduceCtorEq];refine ⟨rfl,?_⟩;have hdx:i ∉ aE xl/\i ∉ aE m/\∀ y∈aE m,y ∉ aE xl:=by simp only [m036,m003,not_or,m063] at hd;exact ⟨hd.1.1,hd.1.2,fun y hy hx=>hd.2.2.2 y hx y hy rfl⟩
 rcases h with ⟨rfl,rfl⟩ | ⟨j,rfl,hj⟩
 ·have e2:bn .eql 53 .nilm .nilm=some (.bool true):=by kernel_rfl
  simp only [h1,e2,wx,wy,Z0,Z1,reduceCtorEq];refine ⟨rfl,?_⟩;rw [eB (c:=[xl,.nilm,xn]) (by rw [adv_h,aB (by omega)];exact h1) (by simp) rfl rfl];simp only [wx,wy,Z0,Z1,reduceCtorEq];refine key _ _ (s.nx+22) (by rw [adv_h,aF];rfl) ?_ (by rw [adv_h,aB (by omega),aF];rfl) ?_ ?_ (.inr (by omega)) fun s' hs'=>⟨rfl,hs'⟩
  ·refine h2.keep fun y hy=>?_;have:=fr.lt (h2.has y hy);rw [adv_h,aB (fun hh=>hdx.1 (by rw [<- hh];exact hy)),aB (by omega)]
  ·intro hm;rcases m013.1 hm with hm | hm
   ·omega
   ·have:=fr.lt (h2.has _ hm);omega
  ·refine ⟨by simp only [adv_nx,set_nx];omega,fun y hy hn2=>?_,fun y hy=>?_⟩
   ·simp only [m013,m003,not_or] at hn2;rw [adv_h,get_set,if_neg hn2.1,get_set,if_neg (by omega)]
   ·have hy:s.nx+26<=y:=hy;rw [adv_h,get_set,if_neg (by omega),get_set,if_neg (by omega)];exact fr y (by omega)
 ·have e2:bn .eql 53 (.map j) .nilm=some (.bool false):=by kernel_rfl
  simp only [h1,e2,wx,wy,Z0,Z1,reduceCtorEq];refine key _ _ j h1 (h2.keep fun y _=>rfl) hj ?_ (EF.refl _ fr).adv (.inl (by simp [aE])) fun s' hs'=>⟨rfl,hs'⟩;intro hm;rcases m013.1 hm with hm | hm
  ·exact hdx.2.1 (by simp [aE,hm])
  ·exact hdx.2.2 j (by simp [aE]) hm
end
end
noncomputable section
section
variable {α:Type} {f:α->AV} {t e z b:Nat} {ag:Bool}
theorem HW (h:eR t e z ag b) (he:QP f z) (l:List α) (hne:l≠[]) (hb:l.length * b<=2 ^ 40) (hl:l.length<=2 ^ 40) (s:St) :
  ∃ s',cK Tryz.ty e [.sl false (l.map f)] s=some (.ref (s.nx+5) 0 l.length none e,s')/\Gw e z 0 s' (.ref (s.nx+5) 0 l.length none e) (l.map f):=by
 obtain ⟨a,l',rfl⟩:∃ a l',l=a::l':=by
  cases l with
  | nil=>exact absurd rfl hne
  | cons a l'=>exact ⟨a,l',rfl⟩
 have hw:=sB (l:=a::l') he.len he.ones;have hlen:=dP hw;rw [m002] at hlen;have hall:((a::l').map f).all (fun v=>v.cells.length==z)=true:=m032.2 fun v hv=>by simp [(hw v hv).1]
 have hone:(((a::l').map f).flatMap AV.cells).all AV.one=true:=m032.2 fun c hc=>by obtain ⟨v,hv,hc⟩:=List.mem_flatMap.1 hc;exact m032.1 (hw v hv).2 c hc
 have hem:(((a::l').map f).flatMap AV.cells).isEmpty=false:=by
  cases hc:((a::l').map f).flatMap AV.cells with
  | nil =>rw [hc] at hlen;have hp:=h.pos;have:=Nat.mul_pos (show 0 < (a::l').length by simp) hp;simp only [List.length_nil] at hlen;omega
  | cons x y=>rfl
 have hdiv:(((a::l').map f).flatMap AV.cells).length / z=(a::l').length:=by rw [hlen];exact CW _ h.pos
 refine ⟨St.set ⟨s.h,s.nx+7⟩ (s.nx+5) (some (.cells (((a::l').map f).flatMap AV.cells) e false true)),?_,?_⟩
 ·unfold cK;simp only [h.l,h.b];show cond (mP (.sl false (f a::l'.map f))) ((aR z (.sl false ((a::l').map f)) s).bind fun c=>bM e z b (.sl true []) c (s.nx+5) ⟨s.h,s.nx+7⟩) none=_;simp only [mP,cond_true,aR,hall,if_true,Option.bind_some];unfold bM;simp only [hem,hone,m025,m015,if_false,List.all_nil,if_true,m042,List.nil_append,dR,hdiv,sH hb hl,kG]
 ·exact ⟨hw,.inr ⟨_,nC _,by rw [m002],aF⟩⟩
theorem MW {k:FuncId} (h:eR t e 1 false b) (he:QP f 1) (hp:mEv.prim k=some (cK Tryz.ty e)) (l:List α) (hb:l.length * b<=2 ^ 40) (hl:l.length<=2 ^ 40) (h1:∀ a∈l,(f a).closed=true) (h2:∀ a∈l,iQ (f a)=true):bE mEv k [.sl false (l.map f)] (.sl false (l.map f)):=by
 by_cases hne:l=[]
 ·subst hne;refine dA ⟨_,_,nB hp (r:=.sl false []) (s':=⟨St.empty.h,St.empty.nx+7⟩) ?_,aX rfl⟩;unfold cK;simp only [h.l,h.b];rfl
 ·obtain ⟨s',h3,h4⟩:=HW h he l hne hb hl St.empty;exact dA ⟨_,_,nB hp h3,FX (rV h h4 h1 h2 11)⟩
theorem PJ {k:FuncId} (h:eR t e z true b) (he:QP f z) (hp:mEv.prim k=some (cK Tryz.ty e)) (l:List α) (hb:l.length * b<=2 ^ 40) (hl:l.length<=2 ^ 40) (h1:∀ a∈l,(f a).closed=true) (h2:∀ a∈l,f a=.agg (f a).cells):bE mEv k [.sl false (l.map f)] (.sl false (l.map f)):=by
 by_cases hne:l=[]
 ·subst hne;refine dA ⟨_,_,nB hp (r:=.sl false []) (s':=⟨St.empty.h,St.empty.nx+7⟩) ?_,aX rfl⟩;unfold cK;simp only [h.l,h.b];rfl
 ·obtain ⟨s',h3,h4⟩:=HW h he l hne hb hl St.empty;exact dA ⟨_,_,nB hp h3,FX (KG h h4 h1 h2 11)⟩
end
theorem aOu {s s':St} (h:∀ m,s.h m=s'.h m) (hn:s.nx=s'.nx):s=s':=by cases s;cases s';simp only at h hn;subst hn;congr 1;exact funext h
theorem aOw {q:St} {a b:Nat} {x y w:Option gU} (h:a≠b):((q.set a x).set b y).set a w=(q.set a w).set b y:=by
 refine aOu (fun m=>?_) rfl;simp only [get_set];by_cases h1:m=a
 ·subst h1;simp [h]
 ·simp [h1]
theorem bTe (l:List Int) (hl:l.length<=2 ^ 30):bE mEv 152 [.sl false (l.map dE)] (.sl false (l.map dE)):=MW pQ iY (by kernel_rfl) l (by omega) (by omega) (fun _ _=>rfl) (fun _ _=>rfl)
theorem bSe (l:List Nat) (hl:l.length<=2 ^ 30):bE mEv 153 [fZ l] (fZ l):=MW (f:=lP) EM RT (by kernel_rfl) l (by omega) (by omega) (fun _ _=>rfl) (fun _ _=>rfl)
theorem bSo (l:List (Int×Int)) (hl:l.length<=2 ^ 30):bE mEv 154 [.sl false (l.map kZ)] (.sl false (l.map kZ)):=PJ aIn qF (by kernel_rfl) l (by omega) (by omega) (fun _ _=>rfl) (fun _ _=>rfl)
theorem YP (n:Nd):Ai.part 7 true 0 n.av.cells=some n.av:=rfl
theorem bJe (n:Nd) (ho:n.ok):bE mEv 104 [n.av] n.av:=by
 refine dA (aIx _ _ ?_);unfold f104;refine ⟨rfl,?_⟩;have h1:=ho.al;have h2:=ho.nl;have h3:=ho.sl
 have hset:∀ (C:List AV) (c k off:Nat) (v:AV) (q:St),off < C.length->v.cells=[v]->v.one=true->dU 1 (.ptr k off) v (Ai.adv ((q.set k (some (.cells C 101 true true))).set (k+1) (some (.cells [.int .i64 0,.int .i64 0,.nils,.str [],.bool false,.nils,.nils] 101 true true))) c) =
   some (Ai.adv ((q.set k (some (.cells (C.set off v) 101 true true))).set (k+1) (some (.cells [.int .i64 0,.int .i64 0,.nils,.str [],.bool false,.nils,.nils] 101 true true))) c):=fun C c k off v q ho hv hone=>by
  rw [eB (c:=C) (by rw [adv_h,aB (by omega),aF]) ho hv hone,adv_set,aOw (by omega)]
 have hz:(AV.agg [.int .i64 0,.int .i64 0,.nils,.str [],.bool false,.nils,.nils]).cells=[.int .i64 0,.int .i64 0,.nils,.str [],.bool false,.nils,.nils]:=rfl;have e0:St.empty.nx=0:=rfl;simp only [FV,lI,hz,wx,wy,Z0,Z1,reduceCtorEq];refine aP (bTe n.a (by omega)) (by simp [tU]) ?_;rw [hset _ _ _ 2 _ _ (by simp) rfl rfl];simp only [List.set_cons_succ,List.set_cons_zero,wx,wy,Z0,Z1,reduceCtorEq];refine aP (bSe n.num (by omega)) (by simp [dG]) ?_;rw [hset _ _ _ 5 _ _ (by simp) rfl rfl];simp only [List.set_cons_succ,List.set_cons_zero,wx,wy,Z0,Z1,reduceCtorEq];refine aP (bSo n.str (by omega)) (by simp [tO]) ?_;rw [hset _ _ _ 6 _ _ (by simp) rfl rfl];have hp:Ai.part 7 true 0 [AV.int .i64 n.op,.int .i64 n.so,.sl false (n.a.map dE),.str n.nm,.bool n.neg,fZ n.num,.sl false (n.str.map kZ)]=some n.av:=rfl;simp only [List.set_cons_succ,List.set_cons_zero,hp,wx,wy,Z0,Z1,reduceCtorEq];rw [bJ (z:=7) (by rw [adv_h,aF]) rfl rfl rfl];simp only [YP,wx,wy,Z0,Z1,reduceCtorEq];exact aX (yV n)
structure Raw (v:AV) (n:Nd):Prop where
 ones:v.cells.all AV.one=true
 part:Ai.part 7 true 0 v.cells=some v
 pur:∀ S,Ai.pur mEv.P S 12 v=some (n.av,[])
theorem Raw.purl {v:AV} {n:Nd} (h:Raw v n) (S:St):dN (Ai.pur mEv.P S 12) [v]=some ([n.av],[]):=by simp only [dN,h.pur,m011]
theorem aUk {B:Bk} {n:Nd} (h:gQ (iB n) B=none) (hl:B.length≠20000):fY B n=(((B.length:Int),0),B++[n]):=by
 rcases oL B n with ⟨i,h1,_⟩ | ⟨_,h2,_⟩ | ⟨_,_,h3⟩
 ·rw [h] at h1;cases h1
 ·exact absurd h2 hl
 ·exact h3
theorem bKm {s:St} {i:Nat} {B:Bk} {F:List Nat} {v:AV} {n:Nd} (fr:aI s) (hB:jJ s i B F) (ho:n.ok) (hv:Raw v n) :
  ∃ r s',WideC mEv 131 [.ptr i 0,v] s r s'/\r=.tup [.int .i64 (fY B n).1.1,.int .i64 (fY B n).1.2]/\∃ F',jJ s' i (fY B n).2 F'/\EF F s s'/\∀ j∈F',j∈F\/s.nx<=j:=by
 have hF:=hB.lt fr;obtain ⟨xl,m,xn,⟨h1,h2,h3,h4,h5,h6,h7⟩,rfl⟩:=hB;have hi:=fr.lt h1;refine aRh _ _ _ ?_;unfold f131;refine ⟨hv.ones,?_⟩;simp only [aMh,hv.part,wx,wy,Z0,Z1,reduceCtorEq];refine BJ (hv.purl _) (bRw n ho) rfl ?_;refine ⟨rfl,?_⟩;have hne:∀ y∈i::(aE xl++aE m++aE xn),y≠s.nx:=fun y hy=>by have:=hF y hy;omega
 have hh:∀ (k y:Nat) (C:Option gU),y∈i::(aE xl++aE m++aE xn)->(Ai.adv (s.set s.nx C) k).h y=s.h y:=fun k y C hy=>by rw [adv_h,aB (hne y hy)]
 have hE:∀ (k:Nat) (C:Option gU),0 < k->EF (i::(aE xl++aE m++aE xn)) s (Ai.adv (s.set s.nx C) k):=fun k C hk=>⟨by simp only [adv_nx,set_nx];omega,fun j hj _=>by rw [adv_h,aB (by omega)],cA fr k (by omega)⟩;simp only [wx,wy,Z0,Z1,reduceCtorEq];refine bEi (xl:=xl) (m:=m) (xn:=xn) (l:=B.map iB) (by rw [hh _ _ _ (by simp)];exact h1) (h3.keep fun j hj=>hh _ _ _ (by simp [hj])) (iB n) ?_;simp only [GV,wx,wy,Z0,Z1,reduceCtorEq]
 cases hf:gQ (iB n) B with
 | some k =>rw [xS hf];simp only [Option.isSome_some,Option.getD_some,wx,wy,Z0,Z1,reduceCtorEq];refine ⟨_,⟨xl,m,xn,⟨by rw [hh _ _ _ (by simp)];exact h1,h2.keep fun j hj=>hh _ _ _ (by simp [hj]),h3.keep fun j hj=>hh _ _ _ (by simp [hj]),h4.keep fun j hj=>hh _ _ _ (by simp [hj]),h5,h6,h7⟩,rfl⟩,hE _ _ (by omega),fun j hj=>.inl hj⟩
 | none =>
  simp only [Option.isSome_none,Option.getD_none,wx,wy,Z0,Z1,reduceCtorEq];refine ⟨rfl,?_⟩;have hx:∀ k C id,bt .len #[56] [xn] id (Ai.adv (s.set s.nx C) k)=some (.int .i64 B.length,Ai.adv (s.set s.nx C) k):=fun k C id=>aOe (h4.keep fun j hj=>hh _ _ _ (by simp [hj])) id;have hi0:¬ (i=s.nx):=by omega
  simp only [h1,hi0,hx,if_false,wx,wy,Z0,Z1,reduceCtorEq];by_cases hl:B.length=20000
  ·have:fY B n=((0,2),B):=by
    rcases oL B n with ⟨i,h1,_⟩ | ⟨_,_,h3⟩ | ⟨_,h2,_⟩
    ·rw [hf] at h1;cases h1
    ·exact h3
    ·exact absurd hl h2
   rw [this];simp only [hl,show (((20000:Nat):Int)==20000)=true from rfl,wx,wy,Z0,Z1,reduceCtorEq];refine ⟨_,⟨xl,m,xn,⟨by rw [hh _ _ _ (by simp)];exact h1,h2.keep fun j hj=>hh _ _ _ (by simp [hj]),h3.keep fun j hj=>hh _ _ _ (by simp [hj]),h4.keep fun j hj=>hh _ _ _ (by simp [hj]),h5,h6,h7⟩,rfl⟩,hE _ _ (by omega),fun j hj=>.inl hj⟩
  ·have hb:((B.length:Int)==20000)=false:=by simp;omega
   rw [aUk hf hl];simp only [hb,wx,wy,Z0,Z1,reduceCtorEq];refine ⟨rfl,?_⟩;have hnd:=h5;simp only [m036,m003,not_or,m063] at hnd;obtain ⟨⟨⟨ni1,ni2⟩,ni3⟩,⟨nd1,nd2,nd3⟩,nd4,nd5⟩:=hnd;obtain ⟨S0,hS0⟩:∃ S0,S0=Ai.adv (s.set s.nx (some (.cells v.cells 101 true true))) 54:=⟨_,rfl⟩;rw [<- hS0];have k1:∀ y∈i::(aE xl++aE m++aE xn),S0.h y=s.h y:=fun y hy=>by rw [hS0];exact hh _ _ _ hy
   have k2:S0.nx=s.nx+54:=by rw [hS0];rfl
   have k3:S0.h s.nx=some (.cells v.cells 101 true true):=by rw [hS0,adv_h,aF]
   have k4:aI S0:=by rw [hS0];exact cA fr 54 (by omega)
   obtain ⟨r,s3,g0,rfl,j',n',g1,g2,g3,g4,g5,g6,g7⟩:=bDz (s:=S0) (xl:=xl) (m:=m) (xn:=xn) (l:=B.map iB) k4 (by rw [k1 i (by simp)];exact h1) (h2.keep fun j hj=>k1 j (by simp [hj])) (h3.keep fun j hj=>k1 j (by simp [hj]))
    (by simp only [m036,m003,not_or,m063];exact ⟨⟨ni1,ni2⟩,nd1,nd2,nd3⟩) (iB n) (by rw [GV];exact hf) (by rw [m002];exact h7)
   rw [m002] at g0 g1 g2;refine bQ (by kernel_rfl) ⟨_,s3,g0,?_⟩;have k5:=g4.nx;have hsM:s.nx ∉ i::(aE xl++aE m):=fun hm=>by have:=hF s.nx (by simp only [m013,m003] at hm ⊢;rcases hm with hm | hm;exact .inl hm;exact .inr (.inl hm));omega
   have k6:s3.h s.nx=some (.cells v.cells 101 true true):=by rw [g4.h s.nx (by omega) hsM];exact k3
   have hxn:∀ y∈aE xn,y < s.nx/\y≠i/\y ∉ aE xl/\y ∉ aE m:=fun y hy=>⟨hF y (by simp [hy]),fun e=>ni3 (by rw [<- e];exact hy),fun e=>nd5 y (.inl e) y hy rfl,fun e=>nd5 y (.inr e) y hy rfl⟩;have k7:Gw 101 7 0 s3 xn (B.map Nd.av):=h4.keep fun y hy=>by obtain ⟨a1,a2,a3,a4⟩:=hxn y hy;rw [g4.h y (by omega) (by simp [a2,a3,a4]),k1 y (by simp [hy])]
   have hn':n' < s3.nx:=g4.fr.lt (g2.has n' (by simp [aE]));have hj':j' < s3.nx:=g4.fr.lt g3
   have k8:j' ∉ aE xn/\j'≠i:=by
    rcases g6 with g6 | g6
    ·exact ⟨fun e=>(hxn j' e).2.2.2 g6,fun e=>ni2 (by rw [<- e];exact g6)⟩
    ·exact ⟨fun e=>by have:=(hxn j' e).1;omega,by omega⟩
   have k9:n' ∉ aE xn/\n'≠i:=⟨fun e=>by have:=(hxn n' e).1;omega,by omega⟩;have bs:kM 56 1 [(0,n.av)]=some (.sl true [n.av]):=dX bNe (by decide) rfl rfl;simp only [g1,k6,hv.part,wx,wy,Z0,Z1,reduceCtorEq];refine ⟨rfl,?_⟩;refine .mk [n.av] [] n.av (hv.purl _) (bJe n ho) rfl ?_;have happ:=gM bNe aZj (k7.adv (n:=12)) (a:=n) (by omega) (by omega) true (s3.nx+8);simp only [bs,wx,wy,Z0,Z1,reduceCtorEq];refine ⟨g4.fr _ (by omega),?_⟩;rw [happ];simp only [wx,wy,Z0,Z1,reduceCtorEq];refine ⟨rfl,?_,?_⟩
   ·split
    ·rfl
    ·exact g4.fr _ (by omega)
   obtain ⟨C,hC⟩:∃ C,C=(some (gU.cells (((B++[n]).map Nd.av).flatMap AV.cells) 101 false true):Option gU):=⟨_,rfl⟩;rw [<- hC];have z1:(Ai.adv ((s3.drop (aE xn)).set (s3.nx+8) C) 12).h i=some (.cells [.ref n' 0 (B.length+1) none 9,.map j',xn] 58 true true):=by rw [adv_h,get_set,if_neg (by omega),get_drop',if_neg ni3];exact g1
   rw [eB (c:=[.ref n' 0 (B.length+1) none 9,.map j',xn]) z1 (by simp) rfl rfl];simp only [List.set_cons_succ,List.set_cons_zero,wx,wy,Z0,Z1,reduceCtorEq];have get:∀ y,y≠i->y≠s3.nx+8->y ∉ aE xn->(Ai.adv (((s3.drop (aE xn)).set (s3.nx+8) C).set i (some (.cells [.ref n' 0 (B.length+1) none 9,.map j',.ref (s3.nx+8) 0 (B.length+1) none 101] 58 true true))) 15).h y=s3.h y:=fun y a b c=>by rw [adv_h,get_set,if_neg a,get_set,if_neg b,get_drop',if_neg c]
   refine ⟨[i,n',j',s3.nx+8],⟨_,_,_,⟨by rw [adv_h,aF],?_,?_,?_,?_,?_,?_⟩,rfl⟩,?_,?_⟩
   ·rw [m038];exact g2.keep fun y hy=>by simp only [aE,m008] at hy;subst hy;exact get _ k9.2 (by omega) k9.1
   ·rw [m038];exact .inr ⟨j',rfl,by rw [get _ k8.2 (by omega) k8.1];exact g3⟩
   ·have:=jL (l:=B) (a:=n) aZj (e:=101) (id:=s3.nx+8) (n:=15) (s0:=s3);exact this.keep fun y hy=>by simp only [aE,m008] at hy;subst hy;rw [adv_h,aB (by omega),aF,adv_h,aF,hC]
   ·show [i,n',j',s3.nx+8].Nodup;simp only [m036,m013,m052,or_false,not_or,m073,not_false_eq_true,List.nodup_nil,and_true];exact ⟨⟨fun e=>k9.2 e.symm,fun e=>k8.2 e.symm,by omega⟩,⟨fun e=>g7 e.symm,by omega⟩,by omega⟩
   ·intro x hx;rcases m003.1 hx with hx | hx
    ·exact h6 x hx
    ·rw [m008.1 hx];exact ho
   ·simp only [m006,List.length_singleton];omega
   ·refine ⟨by simp only [adv_nx,set_nx,nx_drop];omega,fun y hy hn2=>?_,fun y hy=>?_⟩
    ·simp only [m013,m003,not_or] at hn2;obtain ⟨a1,⟨a2,a3⟩,a4⟩:=hn2;rw [get y a1 (by omega) a4,g4.h y (by omega) (by simp [a1,a2,a3]),hS0,adv_h,aB (by omega)]
    ·have hy:s3.nx+15<=y:=by simp only [adv_nx,set_nx,nx_drop] at hy;exact hy
     rw [adv_h,get_set,if_neg (by omega),get_set,if_neg (by omega),get_drop']
     split
     ·rfl
     ·exact g4.fr y (by omega)
   ·intro y hy;simp only [m013,m052,or_false] at hy;rcases hy with rfl | rfl | rfl | rfl
    ·exact .inl (by simp)
    ·exact .inr (by omega)
    ·rcases g6 with g6 | g6
     ·exact .inl (by simp [g6])
     ·exact .inr (by omega)
    ·exact .inr (by omega)
end
noncomputable section
def EvA (z:Nat) (v:AV):Prop:=v.cells.length=z/\v.cells.all AV.one=true/\v.closed=true
def Jw (e:TypeId) (z:Nat) (s:St) (x:AV) (vs:List AV):Prop :=
 (∀ v∈vs,EvA z v)/\((x=.nils/\vs=[])\/∃ id junk m,x=.ref id 0 vs.length none e/\s.h id=some (.cells (vs.flatMap AV.cells++junk) e false true)/\junk.length=m * z/\dC junk=[])
theorem WW {l:List Nat}:∀ {s:St} {j:Nat},j ∉ l->(s.drop l).h j=s.h j:=by
 induction l with
 | nil=>intro s j _;rfl
 | cons n l ih =>intro s j h;simp only [m013,not_or] at h;show ((s.set n none).drop l).h j=_;rw [ih h.2,aB h.1]
theorem wZ {l:List Nat}:∀ {s:St} {j:Nat},s.h j=none->(s.drop l).h j=none:=by
 induction l with
 | nil=>intro s j h;exact h
 | cons n l ih =>
  intro s j h;refine ih ?_;by_cases hj:j=n
  ·subst hj;exact aF
  ·rw [aB hj];exact h
theorem aTz {l:List Nat}:∀ {s:St} {j:Nat},j∈l->(s.drop l).h j=none:=by
 induction l with
 | nil=>intro s j h;cases h
 | cons n l ih =>
  intro s j h;rcases m013.1 h with rfl | h
  ·exact wZ (s:=s.set j none) aF
  ·exact ih h
theorem qY (l:List Nat) (s:St):(s.drop l).nx=s.nx:=by
 induction l generalizing s with
 | nil=>rfl
 | cons n l ih=>show ((s.set n none).drop l).nx=_;rw [ih];rfl
theorem vI (a b:List AV):dC (a++b)=dC a++dC b:=by
 induction a with
 | nil=>rfl
 | cons x a ih=>simp only [List.cons_append,dC,ih,m019]
theorem aDa {l:List AV} (h:dC l=[]) (n:Nat):dC (l.drop n)=[]:=by have:=vI (l.take n) (l.drop n);rw [List.take_append_drop,h] at this;exact (List.append_eq_nil_iff.1 this.symm).2
section
variable {t e:TypeId} {z b:Nat} {ag:Bool} {s s':St} {x:AV} {vs:List AV}
theorem Jw.keep (g:Jw e z s x vs) (hk:∀ j∈aE x,s'.h j=s.h j):Jw e z s' x vs:=by
 obtain ⟨h1,h2 | ⟨id,junk,m,rfl,h2,h3⟩⟩:=g
 ·exact ⟨h1,.inl h2⟩
 ·exact ⟨h1,.inr ⟨id,junk,m,rfl,by rw [hk id (by simp [aE])];exact h2,h3⟩⟩
theorem Jw.one (g:Jw e z s x vs):x.cells=[x]/\x.one=true:=by obtain ⟨h1,⟨rfl,rfl⟩ | ⟨i,_,_,rfl,hs⟩⟩:=g<;>exact ⟨rfl,rfl⟩
theorem Jw.has (g:Jw e z s x vs):∀ j∈aE x,∃ c,s.h j=some (.cells c e false true)/\dC c=[]:=by
 obtain ⟨h1,⟨rfl,rfl⟩ | ⟨i,junk,m,rfl,hs,_,hc⟩⟩:=g
 ·intro j hj;cases hj
 ·intro j hj;simp only [aE,m008] at hj;subst hj;exact ⟨_,hs,by rw [vI,CI fun v hv=>(h1 v hv).2.2,hc];rfl⟩
theorem Jw.two (g:Jw e z s x vs):∀ v∈vs,v.cells.length=z/\v.cells.all AV.one=true:=fun v hv=>⟨(g.1 v hv).1,(g.1 v hv).2.1⟩
theorem LE:Jw e z s .nils []:=⟨fun v hv=>(by cases hv),.inl ⟨rfl,rfl⟩⟩
theorem aNf (h:eR t e z ag b) (g:Jw e z s x vs) {v:AV} (hv:v.cells.length=z) (ho:v.cells.all AV.one=true) (hb:(vs.length+1) * b<=2 ^ 40) (hl:vs.length+1<=2 ^ 40) (ex:Bool) (id:Nat) (hid:s.h id=none) :
  ∃ i junk m S',bt .append #[t,t] [x,.sl ex [v]] id s=some (.ref i 0 (vs.length+1) none e,S')/\S'.h i=some (.cells (vs.flatMap AV.cells++(v.cells++junk)) e false true)/\junk.length=m * z/\dC junk=[]/\S'.nx=s.nx/\(∀ y,y≠id->y ∉ aE x->S'.h y=s.h y)/\(i=id\/i∈aE x)/\(∀ j∈aE x,j=i\/S'.h j=none):=by
 have g0:=g;have hfm:(vs++[v]).flatMap AV.cells=vs.flatMap AV.cells++v.cells:=by simp
 have grow:Gw e z 0 s x vs->∃ i junk m S',bt .append #[t,t] [x,.sl ex [v]] id s=some (.ref i 0 (vs.length+1) none e,S')/\S'.h i=some (.cells (vs.flatMap AV.cells++(v.cells++junk)) e false true)/\junk.length=m * z/\dC junk=[]/\S'.nx=s.nx/\(∀ y,y≠id->y ∉ aE x->S'.h y=s.h y)/\(i=id\/i∈aE x)/\(∀ j∈aE x,j=i\/S'.h j=none):=fun gw=>by
  refine ⟨id,[],0,_,XA h gw hv ho (sH hb hl) ex id,?_,by simp,rfl,qY _ _,fun y h1 h2=>?_,.inl rfl,fun j hj=>.inr ?_⟩
  ·rw [hfm,m011];exact aF
  ·rw [aB h1,WW h2]
  ·have hne:j≠id:=fun e=>by
    obtain ⟨c,hc,_⟩:=g0.has j hj;rw [e,hid] at hc;cases hc
   rw [aB hne];exact aTz hj
 obtain ⟨h1,⟨rfl,rfl⟩ | ⟨i,junk,m,rfl,h2,h3,h4⟩⟩:=g
 ·exact grow fG
 ·cases m with
  | zero =>rw [Nat.zero_mul] at h3;have:junk=[]:=List.length_eq_zero_iff.1 h3;subst this;rw [m011] at h2;exact grow ⟨g0.two,.inr ⟨i,nC _,rfl,h2⟩⟩
  | succ m =>
   obtain ⟨S',e1,e2,e3,e4⟩:=bDt h (vs:=vs) (ws:=[v]) (junk:=junk) g0.two (fun w hw=>by rw [m008] at hw;subst hw;exact ⟨hv,ho⟩) h2 (by rw [h3,List.length_singleton,GH,pV];omega) ex id;refine ⟨i,junk.drop (1 * z),m,S',e1,?_,?_,aDa h4 _,e2,fun y h1 h2=>e4 y (by simpa [aE] using h2),.inr (by simp [aE]),fun j hj=>.inl (by simpa [aE] using hj)⟩
   ·rw [e3,hfm,m019];rfl
   ·rw [m058,h3,GH,pV];omega
theorem TT (h:eR t e z ag b) (g:Jw e z s x vs) {v:AV} (hv:EvA z v) (hb:(vs.length+1) * b<=2 ^ 40) (hl:vs.length+1<=2 ^ 40) (ex:Bool) (id:Nat) (hid:s.h id=none) :
  ∃ x' S',bt .append #[t,t] [x,.sl ex [v]] id s=some (x',S')/\Jw e z S' x' (vs++[v])/\S'.nx=s.nx/\(∀ y,y≠id->y ∉ aE x->S'.h y=s.h y)/\(∀ j∈aE x',j=id\/j∈aE x)/\(∀ j∈aE x,j∈aE x'\/S'.h j=none):=by
 have hall:∀ w∈vs++[v],EvA z w:=fun w hw=>(m003.1 hw).elim (g.1 w) fun h=>by rw [m008] at h;subst h;exact hv
 have hfm:(vs++[v]).flatMap AV.cells=vs.flatMap AV.cells++v.cells:=by simp
 obtain ⟨i,junk,m,S',e1,e2,e3,e4,e5,e6,e7,e8⟩:=aNf h g hv.1 hv.2.1 hb hl ex id hid;refine ⟨_,S',e1,⟨hall,.inr ⟨i,junk,m,by rw [m006];rfl,by rw [hfm,m019];exact e2,e3,e4⟩⟩,e5,e6,fun j hj=>?_,fun j hj=>?_⟩
 ·simp only [aE,m008] at hj;subst hj;exact e7
 ·rcases e8 j hj with rfl | h
  ·exact .inl (by simp [aE])
  ·exact .inr h
theorem bEe (h:eR t e z ag b) (g:Jw e z s x vs) {v0 v:AV} (hv0:v0.cells.length=z) (ho0:v0.cells.all AV.one=true) (hv:EvA z v) (hb:(vs.length+1) * b<=2 ^ 40) (hl:vs.length+1<=2 ^ 40) (ex:Bool) (id:Nat) (hid:s.h id=none) :
  ∃ i S' S2,bt .append #[t,t] [x,.sl ex [v0]] id s=some (.ref i 0 (vs.length+1) none e,S')/\cQ z (.ref i 0 (vs.length+1) none e) (.int .i64 (vs.length:Int))=some (.ptr i (vs.length * z))/\dU z (.ptr i (vs.length * z)) v S'=some S2/\Jw e z S2 (.ref i 0 (vs.length+1) none e) (vs++[v])/\S'.nx=s.nx/\S2.nx=s.nx/\(∀ y,y≠id->y ∉ aE x->S'.h y=s.h y)/\(∀ y,y≠i->S2.h y=S'.h y)/\(i=id\/i∈aE x):=by
 have hall:∀ w∈vs++[v],EvA z w:=fun w hw=>(m003.1 hw).elim (g.1 w) fun h=>by rw [m008] at h;subst h;exact hv
 have hfm:(vs++[v]).flatMap AV.cells=vs.flatMap AV.cells++v.cells:=by simp
 obtain ⟨i,junk,m,S',e1,e2,e3,e4,e5,e6,e7,e8⟩:=aNf h g hv0 ho0 hb hl ex id hid;have hfl:=dP g.two;have hlt:vs.length < vs.length+1:=by omega
 have hst:dU z (.ptr i (vs.length * z)) v S'=some (S'.set i (some (.cells (vs.flatMap AV.cells++(v.cells++junk)) e false true))):=by show Ai.store z _ _ _=_;unfold Ai.store;simp only [e2];rw [if_pos ⟨hv.1,by rw [m006,hfl,m006,hv0];omega,hv.2.1⟩];have:=AY v.cells (vs.flatMap AV.cells) (v0.cells++junk) (by rw [hv.1,m006,hv0];omega);rw [hfl] at this;rw [this,hv.1,<- hv0,List.drop_left,m019]
 have hix:=oZ (e:=e) (z:=z) (id:=i) (off:=0) (c:=none) hlt .i64;rw [m023] at hix;refine ⟨i,S',_,e1,hix,hst,⟨hall,.inr ⟨i,junk,m,by rw [m006];rfl,by rw [hfm,m019];exact aF,e3,e4⟩⟩,e5,e5,e6,fun y hy=>aB hy,e7⟩
theorem KM (h:eR t e z ag b) {v:AV} (g:Jw e z s x (vs++[v])) {w:AV} (hw:w.cells.length=z/\w.cells.all AV.one=true/\dC w.cells=[]) :
  ∃ i,aE x=[i]/\x=.ref i 0 (vs.length+1) none e/\(∃ c,s.h i=some (.cells c e false true)/\vs.length * z+z<=c.length/\(c.drop (vs.length * z)).take z=v.cells) /\
   ∃ S',dU z (.ptr i (vs.length * z)) w s=some S'/\S'.nx=s.nx/\(∀ j,j≠i->S'.h j=s.h j)/\(∃ c e',S'.h i=some (.cells c e' false true)/\vs.length * z+z<=c.length)/\∀ S:St,S.h i=S'.h i->mF t x none (some (.int .i64 (vs.length:Int))) none S=some (.ref i 0 vs.length none e)/\Jw e z S (.ref i 0 vs.length none e) vs:=by
 obtain ⟨h1,⟨rfl,h2⟩ | ⟨i,junk,m,rfl,h2,h3,h4⟩⟩:=g
 ·exact absurd h2 (by simp)
 ·have hv:=h1 v (m049 _ (m008.2 rfl));have h1':∀ u∈vs,EvA z u:=fun u hu=>h1 u (m041 _ hu);have hfl:=dP (vs:=vs) (fun u hu=>⟨(h1' u hu).1,(h1' u hu).2.1⟩);have hc:(vs++[v]).flatMap AV.cells++junk=vs.flatMap AV.cells++(v.cells++junk):=by simp
  rw [hc] at h2;have hln:(v.cells++junk).length=z+m * z:=by rw [m006,hv.1,h3]
  refine ⟨i,rfl,by rw [m006];rfl,⟨_,h2,by rw [m006,hfl,hln];omega,?_⟩,s.set i (some (.cells (vs.flatMap AV.cells++(w.cells++junk)) e false true)),?_,rfl,fun j hj=>aB hj,⟨_,e,aF,by rw [m006,hfl,m006,hw.1];omega⟩,fun S hS=>?_⟩
  ·rw [<- hfl,List.drop_left,List.take_append_of_le_length (by rw [hv.1];omega),m014 (by rw [hv.1];omega)]
  ·show Ai.store z _ _ _=_;unfold Ai.store;simp only [h2];rw [if_pos ⟨hw.1,by rw [m006,hfl,hln];omega,hw.2.1⟩];have:=AY w.cells (vs.flatMap AV.cells) (v.cells++junk) (by rw [hw.1,hln];omega);rw [hfl] at this;rw [this,hw.1,<- hv.1,List.drop_left,m019]
  ·have hS:S.h i=some (.cells (vs.flatMap AV.cells++(w.cells++junk)) e false true):=by rw [hS];exact aF
   have hlen:(vs.flatMap AV.cells++(w.cells++junk)).length=vs.length * z+(z+m * z):=by rw [m006,m006,hfl,hw.1,h3]
   refine ⟨DD h hS (by rw [hlen,m006,List.length_singleton,pC,GH];omega) ?_ .i64,h1',.inr ⟨i,w.cells++junk,m+1,rfl,hS,by rw [m006,hw.1,h3,pV];omega,by rw [vI,hw.2.2,h4];rfl⟩⟩;rw [Nat.le_div_iff_mul_le h.pos,hlen];omega
end
end
noncomputable section
def mE (r:Int×Int):AV:=.tup [.int .i64 r.1,.int .i64 r.2]
def Em (x:AV) (l:List AV):Prop:=x=.sl false l\/(x=.nils/\l=[])
theorem gA:Em .nils []:=.inr ⟨rfl,rfl⟩
theorem UA {x:AV} {l:List AV} (h:Em x l) (hc:aW l=true) (S:St) (k:Nat):pur mEv.P S (k+1) x=some (.sl false l,[]):=by
 rcases h with rfl | ⟨rfl,rfl⟩
 ·exact dF _ (IK hc)
 ·rfl
theorem EQ {x:AV} {l:List AV} (h:Em x l):x.one=true/\x.cells=[x]:=by rcases h with rfl | ⟨rfl,rfl⟩<;>exact ⟨rfl,rfl⟩
def GE (n:Nd) (xa xn xs:AV):AV:=.agg [.int .i64 n.op,.int .i64 n.so,xa,.str n.nm,.bool n.neg,xn,xs]
theorem tY (n:Nd) {xa xn xs:AV} (ha:Em xa (n.a.map dE)) (hn:Em xn (n.num.map lP)) (hs:Em xs (n.str.map kZ)):Raw (GE n xa xn xs) n:=by
 refine ⟨?_,rfl,fun S=>?_⟩
 ·simp only [GE,AV.cells,List.all_cons,(EQ ha).1,(EQ hn).1,(EQ hs).1,List.all_nil,m059];rfl
 ·have p1:=fun S=>UA ha (fA dE n.a fun _=>rfl) S 10;have p2:=fun S=>UA hn (HB n.num) S 10;have p3:=fun S=>UA hs (fA kZ n.str fun _=>rfl) S 10;by_cases hc:(GE n xa xn xs).closed=true
  ·rw [dF 12 hc];congr 2;simp only [GE,AV.closed,aW,cR] at hc
   have fin:∀ {x:AV} {l:List AV},Em x l->x.closed=true->x=.sl false l:=fun h hx=>by
    rcases h with rfl | ⟨rfl,rfl⟩
    ·rfl
    ·cases hx
   rw [GE,fin ha hc.2.2.1,fin hn hc.2.2.2.2.2.1,fin hs hc.2.2.2.2.2.2.1];rfl
  ·unfold pur;rw [if_neg hc];show (dN (pur mEv.P S 11) [.int .i64 n.op,.int .i64 n.so,xa,.str n.nm,.bool n.neg,xn,xs]).map (fun r=>(AV.agg r.1,r.2))=_;have q:∀ v:AV,v.closed=true->pur mEv.P S 11 v=some (v,[]):=fun v hv=>dF 11 hv;simp only [dN,p1,p2,p3,q (.int .i64 n.op) rfl,q (.int .i64 n.so) rfl,q (.str n.nm) rfl,q (.bool n.neg) rfl,m011,Option.map_some];rfl
theorem VV {op so:Int} {a:List Int} {nm:List UInt8} {neg:Bool} {num:List Nat} {str:List (Int×Int)} (h1:i64 op) (h2:i64 so) (h3:∀ i∈a,i64 i) (h4:a.length<=2 ^ 20) (h5:nm.length<=2 ^ 20) (h6:cI num) (h7:num.length<=2 ^ 20) (h8:∀ r∈str,i64 r.1/\i64 r.2) (h9:str.length<=2 ^ 20):Nd.ok ⟨op,so,a,nm,neg,num,str⟩:=⟨h1,h2,h3,h4,h5,h6,h7,h8,h9⟩
theorem aPi {op so:Int} {nm:List UInt8} (h1:i64 op) (h2:i64 so) (h5:nm.length<=2 ^ 20):Nd.ok ⟨op,so,[],nm,false,[],[]⟩:=VV h1 h2 (fun _ h=>by cases h) (by simp) h5 (fun _ h=>by cases h) (by simp) (fun _ h=>by cases h) (by simp)
theorem aNy:∀ (l:List (Int×Int)) (left:Int) (p:Option Int),0<=left->left<=2 ^ 40->FU left p l=true->∀ r∈l,i64 r.1/\i64 r.2:=by
 intro l
 induction l with
 | nil=>intro _ _ _ _ _ r h;cases h
 | cons q l ih =>
  intro left p h0 h1 h;simp only [FU] at h
  cases hc:(decide (q.1 < 0)||(decide (q.1 > 196607)||(decide (q.2 < 1)||(decide (q.2 > left)||p==some q.1)))) with
  | true=>rw [hc] at h;cases h
  | false =>
   rw [hc] at h;simp only [LR,decide_eq_false_iff_not] at hc;obtain ⟨a,b,c,d,_⟩:=hc;intro r hr;rcases m013.1 hr with rfl | hr
   ·exact ⟨⟨by omega,by omega⟩,⟨by omega,by omega⟩⟩
   ·exact ih (left - q.2) (some q.1) (by omega) (by omega) h r hr
theorem aVc {l:List (Int×Int)} (h:LC l=true):(∀ r∈l,i64 r.1/\i64 r.2)/\l.length<=65536:=by simp only [LC,cR,decide_eq_true_eq] at h;exact ⟨aNy l _ none (by decide) (by decide) h.2,h.1⟩
section
variable {s:St} {i:Nat} {B:Bk} {F:List Nat} {K:aG}
def yZ (s:St) (i:Nat) (F:List Nat) (B':Bk) (s':St):Prop:=∃ F',jJ s' i B' F'/\EF F s s'/\∀ j∈F',j∈F\/s.nx<=j
def GR (f:FuncId) (args:List AV) (s:St) (i:Nat) (F:List Nat) (r:(Int×Int)×Bk):Prop:=∃ v s',WideC mEv f args s v s'/\v=mE r.1/\yZ s i F r.2 s'
theorem yZ.from {B':Bk} {s1 s':St} (h:yZ s1 i F B' s') (e:EF [] s s1):yZ s i F B' s':=by obtain ⟨F',h1,h2,h3⟩:=h;have:=e.nx;exact ⟨F',h1,(e.sub (M':=F) fun j hj=>by cases hj).trans h2 fun j hj=>.inr hj,fun j hj=>(h3 j hj).imp_right fun h=>by omega⟩
theorem yZ.same {s1:St} (h:jJ s i B F) (fr:aI s) (e:EF [] s s1):yZ s i F B s1:=by have hF:=h.lt fr;exact ⟨F,h.keep fun j hj=>e.h j (hF j hj) (by simp),(e.sub fun j hj=>by cases hj),fun j hj=>.inl hj⟩
theorem jK {s1:St} (h:jJ s i B F) (fr:aI s) (e:EF [] s s1):jJ s1 i B F:=by have hF:=h.lt fr;exact h.keep fun j hj=>e.h j (hF j hj) (by simp)
theorem CJ {v:AV} {n:Nd} (fr:aI s) (hB:jJ s i B F) (ho:n.ok) (hv:Raw v n):GR 131 [.ptr i 0,v] s i F (fY B n):=by obtain ⟨r,s',h1,h2,F',h3⟩:=bKm fr hB ho hv;exact ⟨r,s',h1,h2,F',h3⟩
theorem GR.call {f:FuncId} {args:List AV} {r:(Int×Int)×Bk} (h:GR f args s i F r) (hz:mEv.fz f=false) (hk:∀ s',yZ s i F r.2 s'->K (mE r.1) s'):aL mEv f args s K:=by obtain ⟨v,s',h1,rfl,h2⟩:=h;exact bQ hz ⟨_,s',h1,hk s' h2⟩
theorem GA (r:Int×Int):(mE r).closed=true:=rfl
theorem GR.callS {f:FuncId} {args bs:List AV} {ids:List Nat} {r:(Int×Int)×Bk} (h:GR f bs (s.drop ids) i F r) (hz:mEv.fz f=true) (hq:iK mEv.P s (mEv.se f) args=some (bs,ids)) (hk:∀ s',yZ (s.drop ids) i F r.2 s'->K (mE r.1) s'):aL mEv f args s K:=by obtain ⟨v,s',h1,rfl,h2⟩:=h;refine aTv hz hq ⟨_,s',h1,?_⟩;rw [dF 12 (GA r.1),Bnd_some];exact hk s' h2
theorem GR.callS0 {f:FuncId} {args bs:List AV} {r:(Int×Int)×Bk} (h:GR f bs s i F r) (hz:mEv.fz f=true) (hq:iK mEv.P s (mEv.se f) args=some (bs,[])) (hk:∀ s',yZ s i F r.2 s'->K (mE r.1) s'):aL mEv f args s K:=GR.callS (ids:=[]) h hz hq hk
theorem FS:mEv.fz 131=false:=by kernel_rfl
theorem zV (r:Int×Int):aS (mE r) 0=some (.int .i64 r.1):=rfl
theorem zO (r:Int×Int):aS (mE r) 1=some (.int .i64 r.2):=rfl
theorem eW {n:Int} (h:0<=n) (h2:n<=1000):i64 n:=⟨by omega,by omega⟩
theorem WU (fr:aI s) (hB:jJ s i B F) (nm:List UInt8) (so:Int):GR 77 [.ptr i 0,.str nm,.int .i64 so] s i F (lJ B nm so):=by
 refine aXd _ _ _ _ ?_;unfold f77;have e0:=(EF.refl [] fr);have hl:∀ (id:Nat) (s:St),bt .len #[9] [.str nm] id s=some (.int .i64 nm.length,s):=bEf nm;unfold lJ
 cases h1:decide (so < 1) with
 | true =>simp only [h1,m033,wx,wy,Z0,Z1,reduceCtorEq];exact ⟨rfl,yZ.same hB fr e0.adv⟩
 | false =>
 cases h2:decide (so > 3) with
 | true =>simp only [h1,h2,m033,m026,wx,wy,Z0,Z1,reduceCtorEq];exact ⟨rfl,yZ.same hB fr e0.adv⟩
 | false =>
 cases h3:decide ((nm.length:Int) > 16384) with
 | true =>simp only [h1,h2,h3,hl,m026,wx,wy,Z0,Z1,reduceCtorEq];exact ⟨rfl,yZ.same hB fr e0.adv⟩
 | false =>
  have o1:=of_decide_eq_false h1;have o2:=of_decide_eq_false h2;have o3:=of_decide_eq_false h3;have hb:lK 101 [(0,.int .i64 1),(1,.int .i64 so),(3,.str nm)]=some (GE ⟨1,so,[],nm,false,[],[]⟩ .nils .nils .nils):=by rw [QK];rfl
  have ho:Nd.ok ⟨1,so,[],nm,false,[],[]⟩:=aPi (eW (by decide) (by decide)) (eW (by omega) (by omega)) (by omega);simp only [h1,h2,h3,hl,hb,Bool.or_self,wx,wy,Z0,Z1,reduceCtorEq];refine (CJ fr.adv hB.adv ho (tY _ gA gA gA)).call FS fun s' hs=>?_;simp only [zV,zO,wx,wy,Z0,Z1,reduceCtorEq];exact ⟨rfl,hs.from e0.adv⟩
theorem aVe (fr:aI s) (hB:jJ s i B F) (v:Bool):GR 78 [.ptr i 0,.bool v] s i F (LM B v):=by
 refine aWm _ _ _ ?_;unfold f78;have e0:=(EF.refl [] fr);have hb:∀ k:Int,lK 101 [(0,.int .i64 k),(1,.int .i64 1)]=some (GE ⟨k,1,[],[],false,[],[]⟩ .nils .nils .nils):=fun k=>by rw [QK];rfl
 have ho:∀ k:Int,0<=k->k<=1000->Nd.ok ⟨k,1,[],[],false,[],[]⟩:=fun k h0 h1=>aPi (eW h0 h1) (eW (by decide) (by decide)) (by simp)
 cases v with
 | true =>simp only [hb,wx,wy,Z0,Z1,reduceCtorEq];refine (CJ fr.adv hB.adv (ho 2 (by decide) (by decide)) (tY _ gA gA gA)).call FS fun s' hs=>?_;simp only [zV,zO,wx,wy,Z0,Z1,reduceCtorEq];exact ⟨rfl,hs.from e0.adv⟩
 | false =>simp only [hb,wx,wy,Z0,Z1,reduceCtorEq];refine (CJ fr.adv hB.adv (ho 3 (by decide) (by decide)) (tY _ gA gA gA)).call FS fun s' hs=>?_;simp only [zV,zO,wx,wy,Z0,Z1,reduceCtorEq];exact ⟨rfl,hs.from e0.adv⟩
theorem bMp (fr:aI s) (hB:jJ s i B F) (l:List (Int×Int)) (hl:l.length<=2 ^ 40):GR 80 [.ptr i 0,.sl false (l.map kZ)] s i F (SN B l):=by
 refine aVt _ _ _ ?_;unfold f80;have e0:=(EF.refl [] fr);refine aP (c60 false l hl) (by simp [tO]) ?_;unfold SN
 cases h:LC l with
 | false =>simp only [h,wx,wy,Z0,Z1,reduceCtorEq];exact ⟨rfl,yZ.same hB fr e0.adv⟩
 | true =>
  have hb:lK 101 [(0,.int .i64 5),(1,.int .i64 3),(5,.sl false (l.map kZ))]=some (GE ⟨5,3,[],[],false,[],l⟩ .nils .nils (.sl false (l.map kZ))):=by rw [QK];rfl
  have hm:(∀ r∈l,i64 r.1/\i64 r.2)/\l.length<=65536:=aVc h;have ho:Nd.ok ⟨5,3,[],[],false,[],l⟩:=VV (eW (by decide) (by decide)) (eW (by decide) (by decide)) (fun _ h=>by cases h) (by simp) (by simp) (fun _ h=>by cases h) (by simp) hm.1 (by omega);simp only [hb,wx,wy,Z0,Z1,reduceCtorEq];refine (CJ fr.adv hB.adv ho (tY _ gA gA (.inl rfl))).call FS fun s' hs=>?_;simp only [zV,zO,wx,wy,Z0,Z1,reduceCtorEq];exact ⟨rfl,hs.from e0.adv⟩
theorem bMb (fr:aI s) (hB:jJ s i B F) (neg:Bool) (n:List Nat) (hl:cI n) (hn:n.length<=2 ^ 20):GR 79 [.ptr i 0,GQ neg n] s i F (CN B neg n):=by
 refine aWb _ _ _ ?_;unfold f79;refine ⟨rfl,?_⟩;have e0:∀ (k:Nat) (C:Option gU),0 < k->EF [] s (Ai.adv (s.set s.nx C) k):=fun k C hk=>⟨by simp only [adv_nx,set_nx];omega,fun j hj _=>by rw [adv_h,aB (by omega)],cA fr k (by omega)⟩;simp only [AZ,wx,wy,Z0,Z1,reduceCtorEq];refine aP (c20 neg n (by omega)) (by simp [kY]) ?_;unfold CN
 cases h:decide (CV neg n < 0) with
 | true =>simp only [h,wx,wy,Z0,Z1,reduceCtorEq];exact ⟨rfl,yZ.same hB fr (e0 _ _ (by omega))⟩
 | false =>
  simp only [h,AZ,wx,wy,Z0,Z1,reduceCtorEq];refine aP (c69 neg n (by omega)) (by simp [kY]) ?_;have hb:lK 101 [(0,.int .i64 4),(1,.int .i64 2),(4,GQ (mN neg n).1 (mN neg n).2)]=some (GE ⟨4,2,[],[],(mN neg n).1,(mN neg n).2,[]⟩ .nils (fZ (mN neg n).2) .nils):=by rw [QK];rfl
  have hl2:cI (mN neg n).2:=fH hl;have hn2:(mN neg n).2.length<=2 ^ 20:=GN (uX n) hn;simp only [hb,wx,wy,Z0,Z1,reduceCtorEq];refine (CJ (e0 _ _ (by omega)).fr (jK hB fr (e0 _ _ (by omega))) (VV (eW (by decide) (by decide)) (eW (by decide) (by decide)) (fun _ h=>by cases h) (by simp) (by simp) hl2 hn2 (fun _ h=>by cases h) (by simp)) (tY _ gA (.inl rfl) gA)).call FS fun s' hs=>?_;simp only [zV,zO,wx,wy,Z0,Z1,reduceCtorEq];exact ⟨rfl,hs.from (e0 _ _ (by omega))⟩
def LF (f:FuncId) (args:List AV) (s:St) (v:AV):Prop:=∃ r s',WideC mEv f args s r s'/\r=v/\EF [] s s'
theorem LF.call {f:FuncId} {args:List AV} {v:AV} (h:LF f args s v) (hz:mEv.fz f=false) (hk:∀ s',EF [] s s'->K v s'):aL mEv f args s K:=by obtain ⟨r,s',h1,rfl,h2⟩:=h;exact bQ hz ⟨_,s',h1,hk s' h2⟩
theorem YQ {x:AV} (g:Gw 101 7 0 s x (B.map Nd.av)) {id:Int} {n:Nd} (h:mA B id=some n):∃ j,s.h j=some (.cells ((B.map Nd.av).flatMap AV.cells) 101 false true)/\cQ 7 x (.int .i64 id)=some (.ptr j (id.toNat * 7))/\(∀ o,o < 7->((B.map Nd.av).flatMap AV.cells)[id.toNat * 7+o]?=n.av.cells[o]?)/\Ai.part 7 true (id.toNat * 7) ((B.map Nd.av).flatMap AV.cells)=some n.av:=by
 simp only [mA] at h
 cases hc:decide (id < 0) with
 | true=>rw [hc] at h;cases h
 | false =>
  rw [hc] at h;have hc:=of_decide_eq_false hc;have h:B[id.toNat]?=some n:=h;have hv:(B.map Nd.av)[id.toNat]?=some n.av:=by rw [m047,h];rfl
  have hlt:=(m012.1 hv).1;obtain ⟨g1,⟨rfl,g2⟩ | ⟨j,_,rfl,g3⟩⟩:=g
  ·rw [g2] at hlt;simp at hlt
  ·have hlen:∀ v∈B.map Nd.av,v.cells.length=7:=fun v hv=>(g1 v hv).1;have hix:=oZ (e:=101) (z:=7) (id:=j) (off:=0) (c:=none) hlt .i64;rw [show ((id.toNat:Nat):Int)=id by omega,m023] at hix;obtain ⟨d1,d2⟩:=sS hlen hv;refine ⟨j,g3,hix,fun o ho=>fD hlen hv ho,?_⟩;rw [DQ,if_pos d2,d1];rfl
theorem uJ {id:Int} (h:eZ B id):∃ n,mA B id=some n:=by obtain ⟨h1,h2⟩:=h;simp only [mA,show ¬ (id < 0) by omega,decide_false,cond_false];exact ⟨_,m004 (by omega)⟩
theorem eq3 (a b:Int):bn .eql 3 (.int .i64 a) (.int .i64 b)=some (.bool (a==b)):=bin_eql
theorem aCs (fr:aI s) (hB:jJ s i B F) (hw:Wf B) {id:Int} (hid:eZ B id):LF 187 [.ptr i 0,.int .i64 id] s (.bool (gI B id)):=by
 obtain ⟨n,hn⟩:=uJ hid;have hF:=hB.lt fr;obtain ⟨xl,m,xn,⟨h1,h2,h3,h4,h5,h6,h7⟩,rfl⟩:=hB;obtain ⟨j,j1,j2,j3,j4⟩:=YQ h4 hn;have hi:=fr.lt h1;have hj:=fr.lt j1;refine aJy _ _ _ ?_;unfold f187;refine ⟨rfl,?_⟩;have hst:∀ (q:St) (k c:Nat),dU 7 (.ptr k 0) n.av (Ai.adv (q.set k (some (.cells (AV.agg [.int .i64 0,.int .i64 0,.nils,.str [],.bool false,.nils,.nils]).cells 101 true true))) c)=some (Ai.adv (q.set k (some (.cells n.av.cells 101 true true))) c):=fun q k c=>by rw [bJ (z:=7) (by rw [adv_h,aF]) rfl rfl rfl,adv_set,set_set]
 have e0:EF [] s (Ai.adv (s.set (s.nx+8) (some (.cells n.av.cells 101 true true))) 33):=⟨by simp only [adv_nx,set_nx];omega,fun y hy _=>by rw [adv_h,aB (by omega)],cA fr 33 (by omega)⟩;have o0:n.av.cells[0]?=some (.int .i64 n.op):=rfl;have o2:n.av.cells[2]?=some (.sl false (n.a.map dE)):=rfl;have ne1:¬ (i=s.nx+8):=by omega
 simp only [h1,j1,j2,j4,FV,hst,o0,wx,wy,Z0,Z1,reduceCtorEq];unfold gI;rw [hn]
 cases hop:(n.op==4) with
 | true =>simp only [wx,wy,Z0,Z1,reduceCtorEq];exact ⟨by rw [hop,m033],e0⟩
 | false =>
  simp only [o0,m026,wx,wy,Z0,Z1,reduceCtorEq]
  cases hop2:(n.op==14) with
  | false =>simp only [wx,wy,Z0,Z1,reduceCtorEq];exact ⟨by rw [hop],e0⟩
  | true =>
   have hop2:n.op=14:=by simpa using hop2
   obtain ⟨w1,w2⟩:=hw.2 n (pZ hn)
   obtain ⟨q,l,hql⟩:∃ q l,n.a=q::l:=by
    cases hql:n.a with
    | nil=>exact absurd hql (w2 hop2)
    | cons q l=>exact ⟨q,l,rfl⟩
   obtain ⟨n2,hn2⟩:=uJ (w1 q (by rw [hql];simp));obtain ⟨j',i1,i2,i3,i4⟩:=YQ h4 hn2;have hj':=fr.lt i1;have ne2:¬ (j'=s.nx+8):=by omega
   have hix:cQ 1 (.sl false ((q::l).map dE)) (.int .i64 0)=some (.pel (dE q).cells 0):=cJ iY false (i:=0) (a:=q) rfl .i64;have hq0:(dE q).cells[0]?=some (.int .i64 q):=rfl;have i30:=i3 0 (by decide);rw [Nat.add_zero] at i30;have i31:n2.av.cells[0]?=some (.int .i64 n2.op):=rfl;simp only [ne1,h1,o2,hql,hix,hq0,i1,i2,i30,i31,ne2,if_false,wx,wy,Z0,Z1,reduceCtorEq];refine ⟨rfl,?_⟩;exact ⟨by rw [hop];simp only [UM,hn2,m026],e0⟩
end
end
end Go.Proofs.YtdehdahimkcakaaGreatDoor
