/- Texts joined by wip/tools/pack.py: Un,Uo,Uk,Fr,Bu,Tk,Tb,Tc,Ks,Td,Te. -/
import Derived.Test.YtdehdahimkcakaaGreatDoorYq
open Nat (reduceAdd reduceEqDiff)
set_option linter.unusedSimpArgs false
set_option linter.unusedVariables false
set_option maxHeartbeats 4000000
set_option maxRecDepth 100000
namespace Go.Proofs.YtdehdahimkcakaaGreatDoor
open Go Ai
noncomputable section
def zZ (B B':Bk):Prop:=∃ E,B'=B++E
theorem zZ.refl (B:Bk):zZ B B:=⟨[],by simp⟩
theorem zZ.trans {A B C:Bk} (h:zZ A B) (k:zZ B C):zZ A C:=by obtain ⟨E,rfl⟩:=h;obtain ⟨F,rfl⟩:=k;exact ⟨E++F,by simp⟩
def hY (B:Bk) (i:Int):Prop:=0<=i/\i < (B.length:Int)
theorem hY.ext {B B':Bk} {i:Int} (h:hY B i) (e:zZ B B'):hY B' i:=by obtain ⟨E,rfl⟩:=e;obtain ⟨h1,h2⟩:=h;exact ⟨h1,by simp only [m006];omega⟩
def Wf (B:Bk):Prop:=B.length<=20000/\∀ n∈B,(∀ i∈n.a,hY B i)/\(n.op=14->n.a≠[])
theorem SA:Wf []:=⟨by simp,fun n h=>by cases h⟩
theorem GC {k:List UInt8}:∀ {B:Bk} {i:Nat},hO k B=some i->∀ E,hO k (B++E)=some i:=by
 intro B
 induction B with
 | nil=>intro i h;cases h
 | cons m B ih =>
  intro i h E;simp only [hO,List.cons_append] at h ⊢
  cases hk:(k==jH m) with
  | true=>rw [hk] at h;exact h
  | false =>rw [hk] at h;simp only [cond_false,m022] at h ⊢;obtain ⟨j,h1,h2⟩:=h;exact ⟨j,ih h1 E,h2⟩
theorem aNj {k:List UInt8}:∀ {B:Bk} {i:Nat},hO k B=some i->i < B.length:=by
 intro B
 induction B with
 | nil=>intro i h;cases h
 | cons m B ih =>
  intro i h;simp only [hO] at h
  cases hk:(k==jH m) with
  | true=>rw [hk] at h;simp only [cond_true,m000] at h;subst h;simp
  | false =>rw [hk] at h;simp only [cond_false,m022] at h;obtain ⟨j,h1,rfl⟩:=h;have:=ih h1;simp only [List.length_cons];omega
theorem XY {n:Nd}:∀ {B:Bk},hO (jH n) B=none->hO (jH n) (B++[n])=some B.length:=by
 intro B
 induction B with
 | nil=>intro _;simp [hO]
 | cons m B ih =>
  intro h;simp only [hO,List.cons_append] at h ⊢
  cases hk:(jH n==jH m) with
  | true=>rw [hk] at h;cases h
  | false =>rw [hk] at h;simp only [cond_false,Option.map_eq_none_iff] at h ⊢;rw [ih h];simp
theorem CX {B:Bk} {i:Int} (h:hY B i) (E:Bk):qV (B++E) i=qV B i:=by obtain ⟨h1,h2⟩:=h;simp only [qV,show ¬ (i < 0) by omega,decide_false,cond_false];exact m051 (by omega)
theorem PM {B:Bk} {i:Int} (h:hY B i) (E:Bk):sU (B++E) i=sU B i:=by simp only [sU,CX h]
theorem aIh {B:Bk} {i:Int} (h:hY B i) (E:Bk):aMn (B++E) i=aMn B i:=by simp only [aMn,CX h]
theorem uU {B:Bk} {i:Int} {n:Nd} (h:qV B i=some n):n∈B:=by
 simp only [qV] at h
 cases hc:decide (i < 0) with
 | true=>rw [hc] at h;cases h
 | false=>rw [hc] at h;exact m017 h
theorem PA {B:Bk} {i:Int} (hw:Wf B) (h:hY B i) (E:Bk):iB (B++E) i=iB B i:=by
 simp only [iB,CX h]
 cases hn:qV B i with
 | none=>rfl
 | some n =>
  simp only
  cases ha:n.a with
  | nil=>rfl
  | cons j l=>simp only [aIh ((hw.2 n (uU hn)).1 j (by rw [ha];exact m007 ..))]
theorem SH {B:Bk} (x:zT) (E:Bk):∀ (a:List Int) (i:Nat) (last:Int),(∀ id∈a,hY B id)->eR (B++E) x i last a=eR B x i last a:=by
 intro a
 induction a with
 | nil=>intro i last _;rfl
 | cons id a ih =>intro i last h;simp only [eR,PM (h id (m007 ..)),ih _ _ fun j hj=>h j (m005 _ hj)]
theorem aKq {B:Bk} (hw:Wf B) (E:Bk):∀ (a:List Int),(∀ id∈a,hY B id)->gH (B++E) a=gH B a:=by
 intro a
 induction a with
 | nil=>intro _;rfl
 | cons id a ih=>intro h;simp only [gH,PA hw (h id (m007 ..)),ih fun j hj=>h j (m005 _ hj)]
theorem SX {B:Bk} {a:List Int}:a.any (zR B)=false↔∀ i∈a,hY B i:=by
 simp only [List.any_eq_false,zR,hY,FI,decide_eq_true_eq];constructor
 ·intro h i hi;have:=h i hi;omega
 ·intro h i hi;have:=h i hi;omega
theorem IM {B:Bk} (E:Bk):∀ (ps:List (List UInt8×Int)) (a:List Int),(∀ id∈a,hY B id)->eQ (B++E) ps a=eQ B ps a:=by
 intro ps
 induction ps with
 | nil=>intro a _;rfl
 | cons p ps ih =>
  intro a h
  cases a with
  | nil=>rfl
  | cons i a=>simp only [eQ,PM (h i (m007 ..)),ih a fun j hj=>h j (m005 _ hj)]
section
variable {α β:Type}
def Stb (ok:α->Bool) (P:α->Bk->Prop) (Q:α->Prop) (c:Sg->Option (α×Sg)) (B:Bk):Prop :=
 ∀ M r B' M',c (B,M)=some (r,(B',M'))->M'=M/\zZ B B'/\Wf B' /\
  (ok r=true->P r B'/\∀ E M2,Wf (B'++E)->c (B'++E,M2)=some (r,(B'++E,M2))) /\
  (ok r=false->Q r/\∀ M2,c (B',M2)=some (r,(B',M2)))
def aMu (c:Sg->Option (α×Sg)) (ok:α->Bool) (k:α->Sg->Option (β×Sg)) (er:α->β):Sg->Option (β×Sg) :=
 fun σ=>(c σ).bind fun r=>bif ok r.1 then k r.1 r.2 else some (er r.1,r.2)
theorem uT {ok:α->Bool} {P:α->Bk->Prop} {Q:α->Prop} {ok2:β->Bool} {P2:β->Bk->Prop} {Q2:β->Prop} {c:Sg->Option (α×Sg)} {k:α->Sg->Option (β×Sg)} {er:α->β} {B:Bk}
  (hc:Stb ok P Q c B) (hk:∀ r B1,zZ B B1->Wf B1->P r B1->Stb ok2 P2 Q2 (k r) B1) (he:∀ r,ok r=false->Q r->ok2 (er r)=false/\Q2 (er r)):Stb ok2 P2 Q2 (aMu c ok k er) B:=by
 intro M r' B' M' h;unfold aMu at h ⊢
 cases h1:c (B,M) with
 | none=>rw [h1] at h;cases h
 | some q =>
  obtain ⟨r,B1,M1⟩:=q;obtain ⟨rfl,e1,w1,o1,n1⟩:=hc M r B1 M1 h1;rw [h1] at h;simp only [Option.bind_some] at h
  cases hr:ok r with
  | true =>
   rw [hr] at h;simp only [cond_true] at h;obtain ⟨p1,again⟩:=o1 hr;obtain ⟨rfl,e2,w2,o2,n2⟩:=hk r B1 e1 w1 p1 _ r' B' M' h;obtain ⟨E1,rfl⟩:=e2;refine ⟨rfl,e1.trans ⟨E1,rfl⟩,w2,fun ho=>?_,fun ho=>?_⟩
   ·obtain ⟨p2,again2⟩:=o2 ho;refine ⟨p2,fun E M2 hw=>?_⟩;rw [m019] at hw ⊢;rw [again (E1++E) M2 hw];simp only [Option.bind_some,hr,cond_true];rw [<- m019] at hw ⊢;exact again2 E M2 hw
   ·obtain ⟨q2,again2⟩:=n2 ho;refine ⟨q2,fun M2=>?_⟩;rw [again E1 M2 w2];simp only [Option.bind_some,hr,cond_true];exact again2 M2
  | false =>
   rw [hr] at h;simp only [cond_false,m000,m001] at h;obtain ⟨rfl,rfl,rfl⟩:=h;obtain ⟨q1,again⟩:=n1 hr;obtain ⟨h2,h3⟩:=he r hr q1;refine ⟨rfl,e1,w1,fun ho=>?_,fun _=>⟨h3,fun M2=>?_⟩⟩
   ·rw [h2] at ho;cases ho
   ·rw [again M2];simp only [Option.bind_some,hr,cond_false]
theorem DA {ok:α->Bool} {P:α->Bk->Prop} {Q:α->Prop} {B:Bk} (hw:Wf B) (r:α) (hp:ok r=true->P r B) (hq:ok r=false->Q r):Stb ok P Q (fun σ=>some (r,σ)) B:=by intro M r' B' M' h;simp only [m000,m001] at h;obtain ⟨rfl,rfl,rfl⟩:=h;exact ⟨rfl,zZ.refl _,hw,fun ho=>⟨hp ho,fun _ _ _=>rfl⟩,fun ho=>⟨hq ho,fun _=>rfl⟩⟩
theorem uR {ok:α->Bool} {P:α->Bk->Prop} {Q:α->Prop} {B:Bk}:Stb ok P Q (fun _=>none) B:=fun M r B' M' h=>by cases h
end
abbrev okE (r:Int×Int):Bool:=r.2==0
abbrev PE (r:Int×Int) (B:Bk):Prop:=hY B r.1
abbrev QE (r:Int×Int):Prop:=r.1=0
abbrev QD (c:Sg->Rt) (B:Bk):Prop:=Stb okE PE QE c B
theorem dS {B:Bk} (hw:Wf B) (e:Int) (he:e≠0):QD (fun σ=>some ((0,e),σ)) B:=DA hw _ (fun h=>by simp [okE] at h;exact absurd h he) (fun _=>rfl)
theorem nG {g:Bk->(Int×Int)×Bk} {B:Bk} (h1:zZ B (g B).2) (h2:Wf (g B).2) (h3:(g B).1.2=0->hY (g B).2 (g B).1.1/\∀ E,Wf ((g B).2++E)->g ((g B).2++E)=((g B).1,(g B).2++E))
  (h4:(g B).1.2≠0->(g B).1.1=0/\g (g B).2=g B):QD (fun σ=>wS (g σ.1) σ.2) B:=by
 intro M r B' M' h;simp only [wS,m000,m001] at h;obtain ⟨rfl,rfl,rfl⟩:=h;refine ⟨rfl,h1,h2,fun ho=>?_,fun ho=>?_⟩
 ·obtain ⟨a,b⟩:=h3 (by simpa [okE] using ho);exact ⟨a,fun E M2 hw=>by simp only [wS,b E hw]⟩
 ·obtain ⟨a,b⟩:=h4 (by simpa [okE] using ho);exact ⟨a,fun M2=>by simp only [wS,b]⟩
theorem aUk {B:Bk} {n:Nd} (hw:Wf B) (hl:B.length≠20000) (ha:∀ i∈n.a,hY B i) (h14:n.op=14->n.a≠[]):Wf (B++[n]):=by
 refine ⟨by have:=hw.1;simp only [m006,List.length_singleton];omega,?_⟩;intro m hm;rcases m003.1 hm with hm | hm
 ·exact ⟨fun i hi=>((hw.2 m hm).1 i hi).ext ⟨[n],rfl⟩,(hw.2 m hm).2⟩
 ·simp only [m008] at hm;subst hm;exact ⟨fun i hi=>(ha i hi).ext ⟨[m],rfl⟩,h14⟩
theorem sQ (B:Bk) (n:Nd):(∃ i,hO (jH n) B=some i/\gF B n=(((i:Int),0),B))\/(hO (jH n) B=none/\B.length=20000/\gF B n=((0,2),B))\/(hO (jH n) B=none/\B.length≠20000/\gF B n=(((B.length:Int),0),B++[n])):=by
 unfold gF
 cases h:hO (jH n) B with
 | some i=>exact .inl ⟨i,rfl,rfl⟩
 | none =>
  cases hb:((B.length:Int)==20000) with
  | true=>exact .inr (.inl ⟨rfl,by simp at hb;omega,by simp⟩)
  | false=>exact .inr (.inr ⟨rfl,by simp at hb;omega,by simp⟩)
theorem xX {B:Bk} {n:Nd} {i:Nat} (h:hO (jH n) B=some i):gF B n=(((i:Int),0),B):=by unfold gF;rw [h]
theorem OS {B:Bk} {n:Nd} (hw:Wf B) (ha:∀ i∈n.a,hY B i) (h14:n.op=14->n.a≠[]):zZ B (gF B n).2/\Wf (gF B n).2/\((gF B n).1.2=0->hY (gF B n).2 (gF B n).1.1/\∀ E,gF ((gF B n).2++E) n=((gF B n).1,(gF B n).2++E)) /\
  ((gF B n).1.2≠0->(gF B n).1.1=0/\gF (gF B n).2 n=gF B n):=by
 rcases sQ B n with ⟨i,h1,h2⟩ | ⟨h1,h2,h3⟩ | ⟨h1,h2,h3⟩
 ·rw [h2];refine ⟨zZ.refl _,hw,fun _=>⟨⟨by simp,by have:=aNj h1;simp;omega⟩,fun E=>xX (GC h1 E)⟩,fun h=>absurd rfl h⟩
 ·rw [h3];exact ⟨zZ.refl _,hw,fun h=>absurd (show (2:Int)=0 from h) (by decide),fun _=>⟨rfl,h3⟩⟩
 ·rw [h3];exact ⟨⟨[n],rfl⟩,aUk hw h2 ha h14,fun _=>⟨⟨by simp,by simp;omega⟩,fun E=>xX (GC (XY h1) E)⟩,fun h=>absurd rfl h⟩
theorem AT {B:Bk} {n:Nd} (hw:Wf B) (ha:∀ i∈n.a,hY B i) (h14:n.op=14->n.a≠[]):QD (fun σ=>wS (gF σ.1 n) σ.2) B:=by obtain ⟨h1,h2,h3,h4⟩:=OS hw ha h14;exact nG (g:=fun B=>gF B n) h1 h2 (fun h=>⟨(h3 h).1,fun E _=>(h3 h).2 E⟩) h4
theorem yA {B:Bk} (hw:Wf B) (nm:List UInt8) (so:Int):QD (fun σ=>wS (oR σ.1 nm so) σ.2) B:=by
 unfold oR
 cases h:(decide (so < 1)||(decide (so > 3)||decide ((nm.length:Int) > 16384))) with
 | true=>exact dS hw 1 (by decide)
 | false=>exact AT hw (fun i hi=>by cases hi) fun h=>absurd (show (1:Int)=14 from h) (by decide)
theorem HP {B:Bk} (hw:Wf B) (v:Bool):QD (fun σ=>wS (IW σ.1 v) σ.2) B:=AT hw (fun i hi=>by cases hi) fun h=>by cases v<;>exact absurd h (by decide)
theorem LQ {B:Bk} (hw:Wf B) (neg:Bool) (n:List Nat):QD (fun σ=>wS (HL σ.1 neg n) σ.2) B:=by
 unfold HL
 cases h:decide (LP neg n < 0) with
 | true=>exact dS hw 1 (by decide)
 | false=>exact AT hw (fun i hi=>by cases hi) fun h=>absurd (show (4:Int)=14 from h) (by decide)
theorem WQ {B:Bk} (hw:Wf B) (s:List (Int×Int)):QD (fun σ=>wS (aBl σ.1 s) σ.2) B:=by
 unfold aBl
 cases h:SR s with
 | false=>exact dS hw 1 (by decide)
 | true=>exact AT hw (fun i hi=>by cases hi) fun h=>absurd (show (5:Int)=14 from h) (by decide)
theorem VS {B:Bk} (hw:Wf B) (op:Int) (a:List Int):QD (fun σ=>wS (oO σ.1 op a) σ.2) B:=by
 by_cases hbad:a.any (zR B)=true
 ·
  have:∃ e,e≠0/\oO B op a=((0,e),B):=by
   unfold oO
   cases h0:decide (op < 0) with
   | true=>exact ⟨101,by decide,rfl⟩
   | false =>
    simp only [cond_false]
    cases h1:jU[op.toNat]? with
    | none=>exact ⟨101,by decide,rfl⟩
    | some x =>
     simp only
     cases h2:(x.parts==0) with
     | true=>exact ⟨101,by decide,rfl⟩
     | false =>simp only [cond_false,hbad,m078,cond_true];exact ⟨1,by decide,rfl⟩
  obtain ⟨e,he,h⟩:=this;refine nG (g:=fun B=>oO B op a) ?_ ?_ ?_ ?_<;>simp only [h]
  ·exact zZ.refl _
  ·exact hw
  ·exact fun h=>absurd h he
  ·exact fun _=>⟨trivial,trivial⟩
 ·have hin:=SX.1 (by simpa using hbad)
  have key:∀ E:Bk,oO (B++E) op a=(bif decide (op < 0) then ((0,101),B++E) else match jU[op.toNat]? with
   | none=>((0,101),B++E)
   | some x=>bif x.parts==0 then ((0,101),B++E) else
    bif decide ((a.length:Int) < x.parts)||((decide ((a.length:Int) > x.parts)&&!x.more)||decide ((a.length:Int) > 200)) then ((0,1),B++E) else
    bif eR B x 0 0 a==0 then ((0,90),B++E) else
    bif op==17&&!decide (gH B a<=1) then ((0,101),B++E) else gF (B++E) ⟨op,eR B x 0 0 a,a,[],false,[],[]⟩):=by
   intro E;have hb:a.any (zR (B++E))=false:=SX.2 fun i hi=>(hin i hi).ext ⟨E,rfl⟩;unfold oO;simp only [hb,Bool.or_false,SH _ E a _ _ hin,aKq hw E a hin];rfl
  have key0:=key [];simp only [m011] at key0
  cases h0:decide (op < 0) with
  | true =>simp only [h0,cond_true] at key key0;exact nG (g:=fun B=>oO B op a) (by simp only [key0];exact zZ.refl _) (by simp only [key0];exact hw) (fun h=>by rw [key0] at h;exact absurd (show (101:Int)=0 from h) (by decide)) (fun _=>by simp only [key0];exact ⟨trivial,trivial⟩)
  | false =>
  simp only [h0,cond_false] at key key0
  cases h1:jU[op.toNat]? with
  | none =>simp only [h1] at key key0;exact nG (g:=fun B=>oO B op a) (by simp only [key0];exact zZ.refl _) (by simp only [key0];exact hw) (fun h=>by rw [key0] at h;exact absurd (show (101:Int)=0 from h) (by decide)) (fun _=>by simp only [key0];exact ⟨trivial,trivial⟩)
  | some x =>
  simp only [h1] at key key0
  have er:∀ e:Int,e≠0->oO B op a=((0,e),B)->QD (fun σ=>wS (oO σ.1 op a) σ.2) B:=fun e he h =>
   nG (g:=fun B=>oO B op a) (by simp only [h];exact zZ.refl _) (by simp only [h];exact hw) (fun hh=>by rw [h] at hh;exact absurd hh he) (fun _=>by simp only [h];exact ⟨trivial,trivial⟩)
  cases h2:(x.parts==0) with
  | true=>rw [h2] at key0;exact er 101 (by decide) key0
  | false =>
  rw [h2] at key0;simp only [h2,cond_false] at key key0
  cases h3:(decide ((a.length:Int) < x.parts)||((decide ((a.length:Int) > x.parts)&&!x.more)||decide ((a.length:Int) > 200))) with
  | true=>rw [h3] at key0;exact er 1 (by decide) key0
  | false =>
  simp only [h3,cond_false] at key key0
  cases h4:(eR B x 0 0 a==0) with
  | true=>rw [h4] at key0;exact er 90 (by decide) key0
  | false =>
  simp only [h4,cond_false] at key key0
  cases h5:(op==17&&!decide (gH B a<=1)) with
  | true=>rw [h5] at key0;exact er 101 (by decide) key0
  | false =>
  simp only [h5,cond_false] at key key0
  have h14:op=14->a≠[]:=fun ho ha=>by
   subst ho;subst ha;simp only [NJ,decide_eq_false_iff_not] at h3;have:x.parts=1:=by have h6:jU[(14:Int).toNat]?=some ⟨1,false,2,2,2,2⟩:=rfl;rw [h1] at h6;cases h6;rfl
   rw [this] at h3;exact absurd (show (([]:List Int).length:Int) < 1 by decide) h3.1
  obtain ⟨a1,a2,a3,a4⟩:=OS (n:=⟨op,eR B x 0 0 a,a,[],false,[],[]⟩) hw hin h14;refine nG (g:=fun B=>oO B op a) (by simp only [key0];exact a1) (by simp only [key0];exact a2) (fun h=>?_) (fun h=>?_)
  ·simp only [key0] at h ⊢;obtain ⟨b1,b2⟩:=a3 h;refine ⟨b1,fun E _=>?_⟩;obtain ⟨E1,hE⟩:=a1;rw [hE,m019,key];have:=b2 E
   rwa [hE,m019] at this
  ·simp only [key0] at h ⊢;obtain ⟨b1,b2⟩:=a4 h;refine ⟨b1,?_⟩;obtain ⟨E1,hE⟩:=a1;rw [hE,key]
   rwa [hE] at b2
section
variable (ps:List UInt8->List Nat×Int)
def wH (f:List Dc->Ev->Sx->Sg->Rt):Prop:=∀ L env x B,Wf B->(∀ p∈env,hY B p.2)->QD (f L env x) B
abbrev okL (r:List Int×Int):Bool:=r.2==0
abbrev PL (n:Nat) (r:List Int×Int) (B:Bk):Prop:=r.1.length=n/\∀ i∈r.1,hY B i
theorem pK {f:List Dc->Ev->Sx->Sg->Rt} (hf:wH f) (L:List Dc) (env:Ev):∀ (l:List Sx) (B:Bk),Wf B->(∀ p∈env,hY B p.2)->Stb okL (PL l.length) (fun r=>r.1=[]) (eE f L env l) B:=by
 intro l
 induction l with
 | nil=>intro B hw he;exact DA hw _ (fun _=>⟨rfl,fun i hi=>by cases hi⟩) (fun _=>rfl)
 | cons x l ih =>
  intro B hw he;refine uT (ok2:=okL) (Q2:=fun r:List Int×Int=>r.1=[]) (k:=fun r σ=>(eE f L env l σ).map fun q=>((bif q.1.2==0 then r.1::q.1.1 else [],q.1.2),q.2)) (er:=fun r=>([],r.2)) (hf L env x B hw he) (fun r B1 e1 w1 p1=>?_) (fun r h _=>⟨h,rfl⟩);have h2:=ih B1 w1 fun p hp=>(he p hp).ext e1;intro M q B2 M2 h;simp only [m022,m001] at h;obtain ⟨⟨⟨is,e⟩,B3,M3⟩,h3,rfl,rfl,rfl⟩:=h;obtain ⟨rfl,a1,a2,a3,a4⟩:=h2 M _ _ _ h3;refine ⟨rfl,a1,a2,fun ho=>?_,fun ho=>?_⟩
  ·have ho:(e==0)=true:=ho;obtain ⟨⟨b1,b2⟩,b3⟩:=a3 ho;refine ⟨⟨?_,?_⟩,fun E M2 hw2=>?_⟩
   ·simp only [ho,cond_true,List.length_cons];exact congrArg (·+1) b1
   ·intro i hi;simp only [ho,cond_true,m013] at hi;rcases hi with rfl | hi
    ·exact p1.ext a1
    ·exact b2 i hi
   ·simp only [b3 E M2 hw2,Option.map_some]
  ·have ho:(e==0)=false:=ho;obtain ⟨b1,b2⟩:=a4 ho;exact ⟨by simp only [ho,cond_false],fun M2=>by simp only [b2 M2,Option.map_some]⟩
theorem mU {B:Bk}:∀ (ns:List (List UInt8)) (a:List Int),(∀ i∈a,hY B i)->∀ p∈List.zip ns a,hY B p.2:=by intro ns a h p hp;exact h p.2 (List.of_mem_zip (a:=p.1) (b:=p.2) hp).2
theorem PS {f:List Dc->Ev->Sx->Sg->Rt} (hf:wH f) (L:List Dc) (k:Nat) (a:List Int) (B:Bk) (hw:Wf B) (ha:∀ i∈a,hY B i):QD (gJ false f L k a) B:=by
 unfold gJ
 cases L[k]? with
 | none=>exact uR
 | some d =>
  simp only
  cases hl:(a.length==d.ps.length) with
  | false=>exact dS hw 1 (by decide)
  | true =>
   simp only [cond_true];intro M r B' M' h
   cases hs:eQ B d.ps a with
   | false =>simp only [hs,cond_false,m000,m001] at h;obtain ⟨rfl,rfl,rfl⟩:=h;exact ⟨rfl,zZ.refl _,hw,fun ho=>absurd (show false=true from ho) (by decide),fun _=>⟨rfl,fun M2=>by simp only [hs,cond_false]⟩⟩
   | true =>
    simp only [hs,cond_true,cond_false,m022,m035,m001] at h;obtain ⟨⟨q,B2,M2⟩,h1,rfl,rfl,rfl⟩:=h;obtain ⟨rfl,a1,a2,a3,a4⟩:=hf (L.take k) _ d.body B hw (mU _ a ha) M _ _ _ h1;obtain ⟨E1,rfl⟩:=a1;refine ⟨rfl,⟨E1,rfl⟩,a2,fun ho=>?_,fun ho=>?_⟩
    ·obtain ⟨b1,b2⟩:=a3 ho;refine ⟨b1,fun E M2 hw2=>?_⟩;simp only [m019,IM _ d.ps a ha,hs,cond_true,cond_false,m035];have:=b2 E M2 hw2;rw [m019] at this;rw [this];rfl
    ·obtain ⟨b1,b2⟩:=a4 ho;refine ⟨b1,fun M2=>?_⟩;simp only [IM _ d.ps a ha,hs,cond_true,cond_false,m035,b2 M2];rfl
theorem aIm {B:Bk} {nm:List UInt8} {i:Int}:∀ {env:Ev},(∀ p∈env,hY B p.2)->bY env nm=some i->hY B i:=by
 intro env
 induction env with
 | nil=>intro _ h;cases h
 | cons p l ih =>
  intro he h;simp only [bY] at h
  cases hb:bY l nm with
  | some j=>rw [hb] at h;cases h;exact ih (fun q hq=>he q (m005 _ hq)) hb
  | none =>
   rw [hb] at h;simp only at h
   cases hn:(p.1==nm) with
   | true=>rw [hn] at h;cases h;exact he p (m007 ..)
   | false=>rw [hn] at h;cases h
theorem aFg {f:List Dc->Ev->Sx->Sg->Rt} (hf:wH f) (L:List Dc) (env:Ev) (nm:List UInt8) (B:Bk) (hw:Wf B) (he:∀ p∈env,hY B p.2):QD (kW false f L env nm) B:=by
 unfold kW
 cases nm==lQ||nm==qX with
 | true=>exact HP hw _
 | false =>
 simp only [cond_false]
 cases bC nm with
 | true=>exact dS hw 101 (by decide)
 | false =>
 simp only [cond_false]
 cases hb:bY env nm with
 | some id=>exact DA hw _ (fun _=>aIm he hb) (fun h=>by cases h)
 | none =>
 simp only
 cases dQ L nm with
 | none=>exact dS hw 100 (by decide)
 | some k =>
 simp only
 cases L[k]? with
 | none=>exact uR
 | some d =>
 simp only
 cases d.mac with
 | false=>exact yA hw nm d.so
 | true =>
 cases d.ps.length==0 with
 | true=>exact PS hf L k [] B hw fun i hi=>by cases hi
 | false=>exact dS hw 1 (by decide)
theorem aTc {f:List Dc->Ev->Sx->Sg->Rt} (hf:wH f) (L:List Dc) (env:Ev) (rest:List Sx) (B:Bk) (hw:Wf B) (he:∀ p∈env,hY B p.2):QD (mQ f L env rest) B:=by
 match rest with
 | [] | [_] | _::_::_::_=>exact dS hw 1 (by decide)
 | [h,y] =>
 unfold mQ;dsimp only
 cases h.lst with
 | false=>exact dS hw 1 (by decide)
 | true =>
 simp only [cond_true]
 cases cF h.its with
 | none=>exact dS hw 1 (by decide)
 | some q =>
 obtain ⟨ns,ts⟩:=q;simp only
 cases ns.any bC with
 | true=>exact dS hw 101 (by decide)
 | false =>
 simp only [cond_false]
 cases dbl ns with
 | true=>exact dS hw 4 (by decide)
 | false =>
 simp only [cond_false];refine uT (k:=fun r=>f L (env++List.zip ns r.1) y) (er:=fun r=>(0,r.2)) (pK hf L env ts B hw he) (fun r B1 e1 w1 p1=>hf _ _ _ _ w1 fun p hp=>?_) (fun r h _=>⟨h,rfl⟩);rcases m003.1 hp with hp | hp
 ·exact (he p hp).ext e1
 ·exact mU ns r.1 p1.2 p hp
theorem aOs {f:List Dc->Ev->Sx->Sg->Rt} (hf:wH f) (L:List Dc) (env:Ev) (l:List Sx) (B:Bk) (hw:Wf B) (he:∀ p∈env,hY B p.2):QD (sW false f L env l) B:=by
 match l with
 | []=>exact dS hw 1 (by decide)
 | h::rest =>
 unfold sW;dsimp only
 cases h.isN with
 | false=>exact dS hw 101 (by decide)
 | true =>
 simp only [m025,cond_false]
 cases h.txt==RL with
 | true=>exact aTc hf L env rest B hw he
 | false =>
 simp only [cond_false]
 cases cD h.txt rest.length==0&&bC h.txt with
 | true=>exact dS hw 101 (by decide)
 | false =>
 simp only [cond_false]
 cases cD h.txt rest.length==0 with
 | false =>generalize cD h.txt rest.length=op;show QD (aMu (eE f L env rest) okL (fun r σ=>wS (oO σ.1 op r.1) σ.2) (fun r=>(0,r.2))) B;exact uT (pK hf L env rest B hw he) (fun r B1 e1 w1 p1=>VS w1 _ _) (fun r h _=>⟨h,rfl⟩)
 | true =>
 simp only [cond_true]
 cases bY env h.txt with
 | some i=>exact dS hw 100 (by decide)
 | none =>
 cases dQ L h.txt with
 | none=>exact dS hw 100 (by decide)
 | some k =>
 simp only
 cases L[k]? with
 | none=>exact uR
 | some d =>
 simp only
 cases d.mac with
 | false=>exact dS hw 100 (by decide)
 | true =>
 exact uT (k:=fun r=>gJ false f L k r.1) (er:=fun r=>(0,r.2)) (pK hf L env rest B hw he) (fun r B1 e1 w1 p1=>PS hf L k _ B1 w1 p1.2) (fun r h _=>⟨h,rfl⟩)
theorem aLf {f:List Dc->Ev->Sx->Sg->Rt} (hf:wH f):wH (iJ ps false f):=by
 intro L env x B hw he;unfold iJ
 cases x.lst with
 | true=>exact aOs hf L env x.its B hw he
 | false =>
 simp only [cond_false]
 cases x.kind==4 with
 | true =>
  simp only [cond_true]
  cases (ps x.txt).2 != 0 with
  | true=>exact dS hw 101 (by decide)
  | false=>exact LQ hw _ _
 | false =>
 simp only [cond_false]
 cases x.kind==6 with
 | true=>exact WQ hw _
 | false =>
 simp only [cond_false]
 cases x.kind==3 with
 | true=>exact aFg hf L env x.txt B hw he
 | false=>exact dS hw 101 (by decide)
theorem bEf:∀ n,wH (T ps false n):=by
 intro n
 induction n with
 | zero=>intro L env x B _ _;exact uR
 | succ n ih=>exact aLf ps ih
end
section
variable (ps:List UInt8->List Nat×Int) {mm:Bool}
abbrev Fn:=List Dc->Ev->Sx->Sg->Rt
def jS (f g:Fn):Prop:=∀ L env x σ r,f L env x σ=some r->g L env x σ=some r
variable {f g:Fn}
theorem kM (h:jS f g) (L:List Dc) (env:Ev):∀ l σ r,eE f L env l σ=some r->eE g L env l σ=some r:=by
 intro l
 induction l with
 | nil=>intro σ r hr;exact hr
 | cons x l ih =>
  intro σ r hr;simp only [eE,m028] at hr ⊢;obtain ⟨q,h1,h2⟩:=hr;refine ⟨q,h _ _ _ _ _ h1,?_⟩
  cases he:(q.1.2==0) with
  | false=>rw [he] at h2;exact h2
  | true =>rw [he] at h2;simp only [cond_true,m022] at h2 ⊢;obtain ⟨w,h3,h4⟩:=h2;exact ⟨w,ih _ _ h3,h4⟩
theorem xC (h:jS f g) (L:List Dc) (k:Nat) (a:List Int) (σ:Sg) (r):gJ mm f L k a σ=some r->gJ mm g L k a σ=some r:=by
 intro hr;unfold gJ at hr ⊢
 cases hk:L[k]? with
 | none=>rw [hk] at hr;exact hr
 | some d =>
  rw [hk] at hr;simp only at hr ⊢
  cases h1:(a.length==d.ps.length) with
  | false=>rw [h1] at hr;exact hr
  | true =>
   rw [h1] at hr;simp only [cond_true] at hr ⊢
   cases h2:eQ σ.1 d.ps a with
   | false=>rw [h2] at hr;exact hr
   | true =>
    rw [h2] at hr;simp only [cond_true] at hr ⊢
    cases h3:(bif mm then oB (jL k a) σ.2 else none) with
    | some id=>rw [h3] at hr;exact hr
    | none =>rw [h3] at hr;simp only [m022] at hr ⊢;obtain ⟨w,h4,h5⟩:=hr;exact ⟨w,h _ _ _ _ _ h4,h5⟩
theorem aBt (h:jS f g) (L:List Dc) (env:Ev) (nm:List UInt8) (σ:Sg) (r):kW mm f L env nm σ=some r->kW mm g L env nm σ=some r:=by
 intro hr;unfold kW at hr ⊢
 cases h1:(nm==lQ||nm==qX) with
 | true=>rw [h1] at hr;exact hr
 | false =>
 rw [h1] at hr;simp only [cond_false] at hr ⊢
 cases h2:bC nm with
 | true=>rw [h2] at hr;exact hr
 | false =>
 rw [h2] at hr;simp only [cond_false] at hr ⊢
 cases h3:bY env nm with
 | some i=>rw [h3] at hr;exact hr
 | none =>
 rw [h3] at hr;simp only at hr ⊢
 cases h4:dQ L nm with
 | none=>rw [h4] at hr;exact hr
 | some k =>
 rw [h4] at hr;simp only at hr ⊢
 cases h5:L[k]? with
 | none=>rw [h5] at hr;exact hr
 | some d =>
 rw [h5] at hr;simp only at hr ⊢
 cases h6:d.mac with
 | false=>rw [h6] at hr;exact hr
 | true =>
 rw [h6] at hr
 cases h7:(d.ps.length==0) with
 | false=>rw [h7] at hr;exact hr
 | true=>rw [h7] at hr;exact xC h L k [] σ r hr
theorem aMh (h:jS f g) (L:List Dc) (env:Ev) (rest:List Sx) (σ:Sg) (r):mQ f L env rest σ=some r->mQ g L env rest σ=some r:=by
 match rest with
 | [] | [_] | _::_::_::_=>exact id
 | [x,y] =>
 unfold mQ;dsimp only
 cases x.lst with
 | false=>exact id
 | true =>
 simp only [cond_true]
 cases cF x.its with
 | none=>exact id
 | some q =>
 obtain ⟨ns,ts⟩:=q;simp only
 cases ns.any bC with
 | true=>exact id
 | false =>
 simp only [cond_false]
 cases dbl ns with
 | true=>exact id
 | false =>
 simp only [cond_false,m028]
 rintro ⟨q,h1,h2⟩
 refine ⟨q,kM h _ _ _ _ _ h1,?_⟩
 cases he:(q.1.2==0) with
 | false=>rw [he] at h2;exact h2
 | true=>rw [he] at h2;exact h _ _ _ _ _ h2
theorem aDt (h:jS f g) (L:List Dc) (env:Ev) (l:List Sx) (σ:Sg) (r):sW mm f L env l σ=some r->sW mm g L env l σ=some r:=by
 match l with
 | []=>exact id
 | x::rest =>
 unfold sW;dsimp only
 cases x.isN with
 | false=>exact id
 | true =>
 simp only [m025,cond_false]
 cases x.txt==RL with
 | true=>exact aMh h L env rest σ r
 | false =>
 simp only [cond_false]
 cases cD x.txt rest.length==0&&bC x.txt with
 | true=>exact id
 | false =>
 simp only [cond_false]
 cases cD x.txt rest.length==0 with
 | false =>
  simp only [cond_false,m028]
  rintro ⟨q,h1,h2⟩
  exact ⟨q,kM h _ _ _ _ _ h1,h2⟩
 | true =>
 simp only [cond_true]
 cases bY env x.txt with
 | some i=>exact id
 | none =>
 cases dQ L x.txt with
 | none=>exact id
 | some k =>
 simp only
 cases L[k]? with
 | none=>exact id
 | some d =>
 simp only
 cases d.mac with
 | false=>exact id
 | true =>
 simp only [cond_true,m028]
 rintro ⟨q,h1,h2⟩
 refine ⟨q,kM h _ _ _ _ _ h1,?_⟩
 cases he:(q.1.2==0) with
 | false=>rw [he] at h2;exact h2
 | true=>rw [he] at h2;exact xC h _ _ _ _ _ h2
theorem GJ (h:jS f g):jS (iJ ps mm f) (iJ ps mm g):=by
 intro L env x σ r;unfold iJ
 cases x.lst with
 | true=>exact aDt h L env x.its σ r
 | false =>
 simp only [cond_false]
 cases x.kind==4 with
 | true=>exact id
 | false =>
 simp only [cond_false]
 cases x.kind==6 with
 | true=>exact id
 | false =>
 simp only [cond_false]
 cases x.kind==3 with
 | true=>exact aBt h L env x.txt σ r
 | false=>exact id
theorem qY:∀ n m,n<=m->jS (T ps mm n) (T ps mm m):=by
 intro n
 induction n with
 | zero=>intro m _ L env x σ r h;cases h
 | succ n ih =>intro m hm;obtain ⟨k,rfl⟩:∃ k,m=k+1:=⟨m - 1,by omega⟩;exact GJ ps (ih k (by omega))
noncomputable def U (mm:Bool):Fn:=fun L env x σ=>by
 classical exact if h:∃ r n,T ps mm n L env x σ=some r then some h.choose else none
theorem sG {L:List Dc} {env:Ev} {x:Sx} {σ:Sg} {r}:U ps mm L env x σ=some r↔∃ n,T ps mm n L env x σ=some r:=by
 unfold U;constructor
 ·intro h
  split at h
  ·rename_i hh;simp only [m000] at h;obtain ⟨n,hn⟩:=hh.choose_spec;rw [h] at hn;exact ⟨n,hn⟩
  ·cases h
 ·rintro ⟨n,hn⟩
  have hh:∃ r n,T ps mm n L env x σ=some r:=⟨r,n,hn⟩;rw [dif_pos hh];obtain ⟨m,hm⟩:=hh.choose_spec;have h1:=qY ps n (max n m) (by omega) _ _ _ _ _ hn;have h2:=qY ps m (max n m) (by omega) _ _ _ _ _ hm;rw [h1] at h2;exact h2.symm
theorem T_U (n:Nat):jS (T ps mm n) (U ps mm):=fun L env x σ r h=>(sG ps).2 ⟨n,h⟩
theorem RM (L:List Dc) (env:Ev):∀ l σ r,eE (U ps mm) L env l σ=some r->∃ n,eE (T ps mm n) L env l σ=some r:=by
 intro l
 induction l with
 | nil=>intro σ r hr;exact ⟨0,hr⟩
 | cons x l ih =>
  intro σ r hr;simp only [eE,m028] at hr;obtain ⟨q,h1,h2⟩:=hr;obtain ⟨n,h1⟩:=(sG ps).1 h1
  cases he:(q.1.2==0) with
  | false =>refine ⟨n,?_⟩;rw [he] at h2;simp only [eE,h1,Option.bind_some,he];exact h2
  | true =>rw [he] at h2;simp only [cond_true,m022] at h2;obtain ⟨w,h3,h4⟩:=h2;obtain ⟨m,h3⟩:=ih _ _ h3;refine ⟨max n m,?_⟩;simp only [eE,qY ps n (max n m) (by omega) _ _ _ _ _ h1,Option.bind_some,he,cond_true,kM (qY ps m (max n m) (by omega)) _ _ _ _ _ h3,Option.map_some,h4]
theorem aGv (L:List Dc) (k:Nat) (a:List Int) (σ:Sg) (r):gJ mm (U ps mm) L k a σ=some r->∃ n,gJ mm (T ps mm n) L k a σ=some r:=by
 intro hr;unfold gJ at hr ⊢
 cases hk:L[k]? with
 | none=>rw [hk] at hr;exact ⟨0,hr⟩
 | some d =>
  rw [hk] at hr;simp only at hr ⊢
  cases h1:(a.length==d.ps.length) with
  | false=>rw [h1] at hr;exact ⟨0,hr⟩
  | true =>
   rw [h1] at hr;simp only [cond_true] at hr ⊢
   cases h2:eQ σ.1 d.ps a with
   | false=>rw [h2] at hr;exact ⟨0,hr⟩
   | true =>
    rw [h2] at hr;simp only [cond_true] at hr ⊢
    cases h3:(bif mm then oB (jL k a) σ.2 else none) with
    | some id=>rw [h3] at hr;exact ⟨0,hr⟩
    | none =>rw [h3] at hr;simp only [m022] at hr ⊢;obtain ⟨w,h4,h5⟩:=hr;obtain ⟨n,h4⟩:=(sG ps).1 h4;exact ⟨n,w,h4,h5⟩
theorem bCh (L:List Dc) (env:Ev) (nm:List UInt8) (σ:Sg) (r):kW mm (U ps mm) L env nm σ=some r->∃ n,kW mm (T ps mm n) L env nm σ=some r:=by
 intro hr;unfold kW at hr ⊢
 cases h1:(nm==lQ||nm==qX) with
 | true=>rw [h1] at hr;exact ⟨0,hr⟩
 | false =>
 rw [h1] at hr;simp only [cond_false] at hr ⊢
 cases h2:bC nm with
 | true=>rw [h2] at hr;exact ⟨0,hr⟩
 | false =>
 rw [h2] at hr;simp only [cond_false] at hr ⊢
 cases h3:bY env nm with
 | some i=>rw [h3] at hr;exact ⟨0,hr⟩
 | none =>
 rw [h3] at hr;simp only at hr ⊢
 cases h4:dQ L nm with
 | none=>rw [h4] at hr;exact ⟨0,hr⟩
 | some k =>
 rw [h4] at hr;simp only at hr ⊢
 cases h5:L[k]? with
 | none=>rw [h5] at hr;exact ⟨0,hr⟩
 | some d =>
 rw [h5] at hr;simp only at hr ⊢
 cases h6:d.mac with
 | false=>rw [h6] at hr;exact ⟨0,hr⟩
 | true =>
 rw [h6] at hr
 cases h7:(d.ps.length==0) with
 | false=>rw [h7] at hr;exact ⟨0,hr⟩
 | true=>rw [h7] at hr;exact aGv ps L k [] σ r hr
theorem bNh (L:List Dc) (env:Ev) (rest:List Sx) (σ:Sg) (r):mQ (U ps mm) L env rest σ=some r->∃ n,mQ (T ps mm n) L env rest σ=some r:=by
 match rest with
 | [] | [_] | _::_::_::_=>exact fun h=>⟨0,h⟩
 | [x,y] =>
 unfold mQ;dsimp only
 cases x.lst with
 | false=>exact fun h=>⟨0,h⟩
 | true =>
 simp only [cond_true]
 cases cF x.its with
 | none=>exact fun h=>⟨0,h⟩
 | some q =>
 obtain ⟨ns,ts⟩:=q;simp only
 cases ns.any bC with
 | true=>exact fun h=>⟨0,h⟩
 | false =>
 simp only [cond_false]
 cases dbl ns with
 | true=>exact fun h=>⟨0,h⟩
 | false =>
 simp only [cond_false,m028]
 rintro ⟨q,h1,h2⟩
 obtain ⟨n,h1⟩:=RM ps _ _ _ _ _ h1
 cases he:(q.1.2==0) with
 | false=>rw [he] at h2;exact ⟨n,q,h1,by rw [he];exact h2⟩
 | true =>rw [he] at h2;obtain ⟨m,h2⟩:=(sG ps).1 h2;exact ⟨max n m,q,kM (qY ps n (max n m) (by omega)) _ _ _ _ _ h1,by rw [he];exact qY ps m (max n m) (by omega) _ _ _ _ _ h2⟩
theorem bEa (L:List Dc) (env:Ev) (l:List Sx) (σ:Sg) (r):sW mm (U ps mm) L env l σ=some r->∃ n,sW mm (T ps mm n) L env l σ=some r:=by
 match l with
 | []=>exact fun h=>⟨0,h⟩
 | x::rest =>
 unfold sW;dsimp only
 cases x.isN with
 | false=>exact fun h=>⟨0,h⟩
 | true =>
 simp only [m025,cond_false]
 cases x.txt==RL with
 | true=>exact bNh ps L env rest σ r
 | false =>
 simp only [cond_false]
 cases cD x.txt rest.length==0&&bC x.txt with
 | true=>exact fun h=>⟨0,h⟩
 | false =>
 simp only [cond_false]
 cases cD x.txt rest.length==0 with
 | false =>
  simp only [cond_false,m028]
  rintro ⟨q,h1,h2⟩
  obtain ⟨n,h1⟩:=RM ps _ _ _ _ _ h1;exact ⟨n,q,h1,h2⟩
 | true =>
 simp only [cond_true]
 cases bY env x.txt with
 | some i=>exact fun h=>⟨0,h⟩
 | none =>
 cases dQ L x.txt with
 | none=>exact fun h=>⟨0,h⟩
 | some k =>
 simp only
 cases L[k]? with
 | none=>exact fun h=>⟨0,h⟩
 | some d =>
 simp only
 cases d.mac with
 | false=>exact fun h=>⟨0,h⟩
 | true =>
 simp only [cond_true,m028]
 rintro ⟨q,h1,h2⟩
 obtain ⟨n,h1⟩:=RM ps _ _ _ _ _ h1
 cases he:(q.1.2==0) with
 | false=>rw [he] at h2;exact ⟨n,q,h1,by rw [he];exact h2⟩
 | true =>rw [he] at h2;obtain ⟨m,h2⟩:=aGv ps _ _ _ _ _ h2;exact ⟨max n m,q,kM (qY ps n (max n m) (by omega)) _ _ _ _ _ h1,by rw [he];exact xC (qY ps m (max n m) (by omega)) _ _ _ _ _ h2⟩
theorem bEb (L:List Dc) (env:Ev) (x:Sx) (σ:Sg) (r):iJ ps mm (U ps mm) L env x σ=some r->∃ n,iJ ps mm (T ps mm n) L env x σ=some r:=by
 unfold iJ
 cases x.lst with
 | true=>exact bEa ps L env x.its σ r
 | false =>
 simp only [cond_false]
 cases x.kind==4 with
 | true=>exact fun h=>⟨0,h⟩
 | false =>
 simp only [cond_false]
 cases x.kind==6 with
 | true=>exact fun h=>⟨0,h⟩
 | false =>
 simp only [cond_false]
 cases x.kind==3 with
 | true=>exact bCh ps L env x.txt σ r
 | false=>exact fun h=>⟨0,h⟩
theorem aGa (L:List Dc) (env:Ev) (x:Sx) (σ:Sg):U ps mm L env x σ=iJ ps mm (U ps mm) L env x σ:=by
 have key:∀ r,U ps mm L env x σ=some r↔iJ ps mm (U ps mm) L env x σ=some r:=by
  intro r;constructor
  ·intro h;obtain ⟨n,hn⟩:=(sG ps).1 h
   cases n with
   | zero=>cases hn
   | succ n=>exact GJ ps (T_U ps n) _ _ _ _ _ hn
  ·intro h;obtain ⟨n,hn⟩:=bEb ps _ _ _ _ _ h;exact (sG ps).2 ⟨n+1,hn⟩
 cases h:iJ ps mm (U ps mm) L env x σ with
 | some r=>exact (key r).2 h
 | none =>
  cases h2:U ps mm L env x σ with
  | none=>rfl
  | some r=>rw [(key r).1 h2] at h;cases h
theorem xR:wH (U ps false):=by intro L env x B hw he M r B' M' h;obtain ⟨n,hn⟩:=(sG ps).1 h;obtain ⟨h1,h2,h3,h4,h5⟩:=bEf ps n L env x B hw he M r B' M' hn;exact ⟨h1,h2,h3,fun ho=>⟨(h4 ho).1,fun E M2 hw2=>(sG ps).2 ⟨n,(h4 ho).2 E M2 hw2⟩⟩,fun ho=>⟨(h5 ho).1,fun M2=>(sG ps).2 ⟨n,(h5 ho).2 M2⟩⟩⟩
end
theorem aKx (k:List UInt8) (v:Int) (k':List UInt8):∀ M:Mm,oB k' (IX k v M)=bif k'==k then some v else oB k' M:=by
 intro M
 induction M with
 | nil=>simp [IX,oB]
 | cons p M ih =>
  obtain ⟨a,u⟩:=p;simp only [IX]
  cases h:(k==a) with
  | true =>
   have:k=a:=by simpa using h
   subst this;simp only [cond_true,oB];cases (k'==k)<;>rfl
  | false =>
   simp only [cond_false,oB,ih]
   cases h2:(k'==a) with
   | true =>
    have:k'=a:=by simpa using h2
    subst this
    have h3:(k'==k)=false:=by
     cases h4:(k'==k) with
     | false=>rfl
     | true =>
      have:k'=k:=by simpa using h4
      subst this;simp at h
    simp [h3]
   | false=>simp
section
abbrev GR:Prop:=∀ k a k' a',k < 2 ^ 60->k' < 2 ^ 60->(∀ i∈a,0<=i/\i < 2 ^ 60)->(∀ i∈a',0<=i/\i < 2 ^ 60)->jL k a=jL k' a'->k=k'/\a=a'
theorem LI {B:Bk} (hw:Wf B) {a:List Int} (h:∀ i∈a,hY B i):∀ i∈a,0<=i/\i < 2 ^ 60:=fun i hi=>by obtain ⟨h1,h2⟩:=h i hi;have:=hw.1;exact ⟨h1,by omega⟩
variable (ps:List UInt8->List Nat×Int)
def nC (L0:List Dc) (B:Bk) (M:Mm):Prop:=∀ key id,oB key M=some id->∃ k d a,key=jL k a/\L0[k]?=some d/\a.length=d.ps.length/\(∀ i∈a,hY B i)/\hY B id /\
 U ps false (L0.take k) (List.zip (d.ps.map (·.1)) a) d.body (B,[])=some ((id,0),(B,[]))
theorem DB (L0:List Dc) (B:Bk):nC ps L0 B []:=fun key id h=>by cases h
theorem aNl {L0:List Dc} {B B':Bk} {M:Mm} (h:nC ps L0 B M) (hw:Wf B) (e:zZ B B') (hw':Wf B'):nC ps L0 B' M:=by intro key id hk;obtain ⟨k,d,a,h1,h2,h3,h4,h5,h6⟩:=h key id hk;refine ⟨k,d,a,h1,h2,h3,fun i hi=>(h4 i hi).ext e,h5.ext e,?_⟩;obtain ⟨E,rfl⟩:=e;obtain ⟨_,_,_,h7,_⟩:=xR ps (L0.take k) _ d.body B hw (mU _ a h4) [] _ _ _ h6;exact (h7 rfl).2 E [] hw'
def TrF (L0:List Dc) (f:Fn):Prop:=∀ j env x B M r B' M',Wf B->(∀ p∈env,hY B p.2)->nC ps L0 B M->f (L0.take j) env x (B,M)=some (r,(B',M')) ->
 U ps false (L0.take j) env x (B,[])=some (r,(B',[]))/\nC ps L0 B' M'
variable {L0:List Dc} {f:Fn}
theorem QZ {L:List Dc} {env:Ev} {x:Sx} {B B':Bk} {r:Int×Int} (hw:Wf B) (he:∀ p∈env,hY B p.2) (h:U ps false L env x (B,[])=some (r,(B',[]))):zZ B B'/\Wf B'/\(r.2=0->hY B' r.1):=by obtain ⟨_,h1,h2,h3,_⟩:=xR ps L env x B hw he [] _ _ _ h;exact ⟨h1,h2,fun h0=>(h3 (by simpa [okE] using h0)).1⟩
theorem rT {L:List Dc} {env:Ev} {l:List Sx} {B B':Bk} {r:List Int×Int} (hw:Wf B) (he:∀ p∈env,hY B p.2) (h:eE (U ps false) L env l (B,[])=some (r,(B',[]))):zZ B B'/\Wf B'/\(r.2=0->r.1.length=l.length/\∀ i∈r.1,hY B' i):=by obtain ⟨_,h1,h2,h3,_⟩:=pK (xR ps) L env l B hw he [] _ _ _ h;exact ⟨h1,h2,fun h0=>(h3 (by simpa [okL] using h0)).1⟩
theorem AE (hf:TrF ps L0 f) (j:Nat) (env:Ev):∀ l B M r B' M',Wf B->(∀ p∈env,hY B p.2)->nC ps L0 B M->eE f (L0.take j) env l (B,M)=some (r,(B',M')) ->
  eE (U ps false) (L0.take j) env l (B,[])=some (r,(B',[]))/\nC ps L0 B' M':=by
 intro l
 induction l with
 | nil =>intro B M r B' M' _ _ hm h;simp only [eE,m000,m001] at h;obtain ⟨rfl,rfl,rfl⟩:=h;exact ⟨rfl,hm⟩
 | cons x l ih =>
  intro B M r B' M' hw he hm h;simp only [eE,m028] at h ⊢;obtain ⟨⟨q,B1,M1⟩,h1,h2⟩:=h;obtain ⟨k1,m1⟩:=hf j env x B M q B1 M1 hw he hm h1;obtain ⟨e1,w1,_⟩:=QZ ps hw he k1
  cases hq:(q.2==0) with
  | false =>simp only [hq,cond_false,m000,m001] at h2;obtain ⟨rfl,rfl,rfl⟩:=h2;exact ⟨⟨_,k1,by simp only [hq,cond_false]⟩,m1⟩
  | true =>simp only [hq,cond_true,m022] at h2;obtain ⟨⟨w,B2,M2⟩,h3,h4⟩:=h2;simp only [m001] at h4;obtain ⟨rfl,rfl,rfl⟩:=h4;obtain ⟨k2,m2⟩:=ih B1 M1 w B2 M2 w1 (fun p hp=>(he p hp).ext e1) m1 h3;exact ⟨⟨_,k1,by simp only [hq,cond_true,k2,Option.map_some]⟩,m2⟩
theorem DM {α:Type} {l:List α} {j k:Nat} {d:α} (h:(l.take j)[k]?=some d):l[k]?=some d/\(l.take j).take k=l.take k:=by have hk:k < (l.take j).length:=(m012.1 h).1;simp only [m020] at hk;rw [List.getElem?_take_of_lt (by omega)] at h;exact ⟨h,by rw [List.take_take,qJ (by omega)]⟩
theorem WH (hkey:GR) (hL:L0.length < 2 ^ 60) (hf:TrF ps L0 f) (j k:Nat) (a:List Int) (B M r B' M') (hw:Wf B) (ha:∀ i∈a,hY B i) (hm:nC ps L0 B M) (h:gJ true f (L0.take j) k a (B,M)=some (r,(B',M'))) :
  gJ false (U ps false) (L0.take j) k a (B,[])=some (r,(B',[]))/\nC ps L0 B' M':=by
 unfold gJ at h ⊢
 cases hk:(L0.take j)[k]? with
 | none=>rw [hk] at h;cases h
 | some d =>
  obtain ⟨hd,htk⟩:=DM hk;rw [hk] at h;simp only at h ⊢
  cases h1:(a.length==d.ps.length) with
  | false =>simp only [h1,cond_false,m000,m001] at h ⊢;obtain ⟨rfl,rfl,rfl⟩:=h;exact ⟨by simp,hm⟩
  | true =>
   simp only [h1,cond_true] at h ⊢
   cases h2:eQ B d.ps a with
   | false =>simp only [h2,cond_false,m000,m001] at h ⊢;obtain ⟨rfl,rfl,rfl⟩:=h;exact ⟨by simp,hm⟩
   | true =>
    simp only [h2,cond_true,cond_false,m035,m031,htk] at h ⊢
    cases h3:oB (jL k a) M with
    | some id =>simp only [h3,m000,m001] at h;obtain ⟨rfl,rfl,rfl⟩:=h;obtain ⟨k',d',a',e1,e2,e3,e4,e5,e6⟩:=hm _ _ h3;have k1:=(m012.1 hd).1;have k2:=(m012.1 e2).1;obtain ⟨rfl,rfl⟩:=hkey _ _ _ _ (by omega) (by omega) (LI hw ha) (LI hw e4) e1;rw [hd] at e2;cases e2;simp only [e6,Option.map_some];exact ⟨trivial,hm⟩
    | none =>
     simp only [h3,m022] at h;obtain ⟨⟨q,B2,M2⟩,h4,h5⟩:=h;simp only [m001] at h5;obtain ⟨rfl,rfl,rfl⟩:=h5;obtain ⟨k1,m1⟩:=hf k _ d.body B M q B2 M2 hw (mU _ a ha) hm h4;simp only [k1,Option.map_some];refine ⟨trivial,?_⟩
     cases hq:(q.2==0) with
     | false=>exact m1
     | true =>
      obtain ⟨i,e⟩:=q;have he:e=0:=by simpa using hq
      subst he;obtain ⟨e1,w1,in1⟩:=QZ ps hw (mU _ a ha) k1;intro key id hkk;simp only [cond_true,aKx] at hkk
      cases hb:(key==jL k a) with
      | false=>rw [hb] at hkk;exact m1 key id hkk
      | true =>rw [hb] at hkk;simp only [cond_true,m000] at hkk;subst hkk;refine ⟨k,d,a,by simpa using hb,hd,by simpa using h1,fun i hi=>(ha i hi).ext e1,in1 rfl,?_⟩;obtain ⟨_,_,_,h7,_⟩:=xR ps (L0.take k) _ d.body B hw (mU _ a ha) [] _ _ _ k1;have:=(h7 rfl).2 [] [] (by simpa using w1);simpa using this
theorem OE {g:Bk->(Int×Int)×Bk} {B:Bk} {M:Mm} {r B' M'} (hst:QD (fun σ=>wS (g σ.1) σ.2) B) (hw:Wf B) (hm:nC ps L0 B M) (h:wS (g B) M=some (r,(B',M'))):wS (g B) []=some (r,(B',[]))/\nC ps L0 B' M':=by simp only [wS,m000,m001] at h;obtain ⟨rfl,rfl,rfl⟩:=h;obtain ⟨_,h1,h2,_⟩:=hst [] _ _ _ rfl;exact ⟨rfl,aNl ps hm hw h1 h2⟩
theorem eW {B:Bk} {M:Mm} {q r:Int×Int} {B' M'} (hm:nC ps L0 B M) (h:(some (q,(B,M)):Rt)=some (r,(B',M'))):(some (q,(B,[])):Rt)=some (r,(B',[]))/\nC ps L0 B' M':=by simp only [m000,m001] at h;obtain ⟨rfl,rfl,rfl⟩:=h;exact ⟨rfl,hm⟩
theorem aWd (hkey:GR) (hL:L0.length < 2 ^ 60) (hf:TrF ps L0 f) (j:Nat) (env:Ev) (nm:List UInt8) (B M r B' M') (hw:Wf B) (he:∀ p∈env,hY B p.2) (hm:nC ps L0 B M) (h:kW true f (L0.take j) env nm (B,M)=some (r,(B',M'))) :
  kW false (U ps false) (L0.take j) env nm (B,[])=some (r,(B',[]))/\nC ps L0 B' M':=by
 unfold kW at h ⊢
 cases h1:(nm==lQ||nm==qX) with
 | true=>rw [h1] at h;exact OE ps (g:=fun B=>IW B (nm==lQ)) (HP hw _) hw hm h
 | false =>
 simp only [h1,cond_false] at h ⊢
 cases h2:bC nm with
 | true=>rw [h2] at h;exact eW ps hm h
 | false =>
 simp only [h2,cond_false] at h ⊢
 cases h3:bY env nm with
 | some i=>rw [h3] at h;exact eW ps hm h
 | none =>
 simp only [h3] at h ⊢
 cases h4:dQ (L0.take j) nm with
 | none=>rw [h4] at h;exact eW ps hm h
 | some k =>
 simp only [h4] at h ⊢
 cases h5:(L0.take j)[k]? with
 | none=>rw [h5] at h;cases h
 | some d =>
 simp only [h5] at h ⊢
 cases h6:d.mac with
 | false=>rw [h6] at h;exact OE ps (g:=fun B=>oR B nm d.so) (yA hw nm d.so) hw hm h
 | true =>
 simp only [h6,cond_true] at h ⊢
 cases h7:(d.ps.length==0) with
 | false=>rw [h7] at h;exact eW ps hm h
 | true=>rw [h7] at h;exact WH ps hkey hL hf j k [] B M r B' M' hw (fun i hi=>by cases hi) hm h
theorem bEc (hf:TrF ps L0 f) (j:Nat) (env:Ev) (rest:List Sx) (B M r B' M') (hw:Wf B) (he:∀ p∈env,hY B p.2) (hm:nC ps L0 B M) (h:mQ f (L0.take j) env rest (B,M)=some (r,(B',M'))) :
  mQ (U ps false) (L0.take j) env rest (B,[])=some (r,(B',[]))/\nC ps L0 B' M':=by
 match rest,h with
 | [],h | [_],h | _::_::_::_,h=>exact eW ps hm h
 | [x,y],h =>
 unfold mQ at h ⊢;dsimp only at h ⊢
 cases h1:x.lst with
 | false=>rw [h1] at h;exact eW ps hm h
 | true =>
 simp only [h1,cond_true] at h ⊢
 cases h2:cF x.its with
 | none=>rw [h2] at h;exact eW ps hm h
 | some q =>
 obtain ⟨ns,ts⟩:=q;simp only [h2] at h ⊢
 cases h3:ns.any bC with
 | true=>rw [h3] at h;exact eW ps hm h
 | false =>
 simp only [h3,cond_false] at h ⊢
 cases h4:dbl ns with
 | true=>rw [h4] at h;exact eW ps hm h
 | false =>
 simp only [h4,cond_false,m028] at h ⊢;obtain ⟨⟨q,B1,M1⟩,k1,k2⟩:=h;obtain ⟨u1,m1⟩:=AE ps hf j env ts B M q B1 M1 hw he hm k1;obtain ⟨e1,w1,in1⟩:=rT ps hw he u1
 cases hq:(q.2==0) with
 | false =>simp only [hq,cond_false] at k2;obtain ⟨u2,m2⟩:=eW ps m1 k2;exact ⟨⟨_,u1,by simp only [hq,cond_false];exact u2⟩,m2⟩
 | true =>
  simp only [hq,cond_true] at k2
  obtain ⟨u2,m2⟩:=hf j _ y B1 M1 r B' M' w1 (fun p hp=>by
   rcases m003.1 hp with hp | hp
   ·exact (he p hp).ext e1
   ·exact mU ns q.1 (in1 (by simpa using hq)).2 p hp) m1 k2
  exact ⟨⟨_,u1,by simp only [hq,cond_true];exact u2⟩,m2⟩
theorem aSw (hkey:GR) (hL:L0.length < 2 ^ 60) (hf:TrF ps L0 f) (j:Nat) (env:Ev) (l:List Sx) (B M r B' M') (hw:Wf B) (he:∀ p∈env,hY B p.2) (hm:nC ps L0 B M) (h:sW true f (L0.take j) env l (B,M)=some (r,(B',M'))) :
  sW false (U ps false) (L0.take j) env l (B,[])=some (r,(B',[]))/\nC ps L0 B' M':=by
 match l,h with
 | [],h=>exact eW ps hm h
 | x::rest,h =>
 unfold sW at h ⊢;dsimp only at h ⊢
 cases h1:x.isN with
 | false=>rw [h1] at h;exact eW ps hm h
 | true =>
 simp only [h1,m025,cond_false] at h ⊢
 cases h2:(x.txt==RL) with
 | true=>rw [h2] at h;exact bEc ps hf j env rest B M r B' M' hw he hm h
 | false =>
 simp only [h2,cond_false] at h ⊢
 cases h3:(cD x.txt rest.length==0&&bC x.txt) with
 | true=>rw [h3] at h;exact eW ps hm h
 | false =>
 simp only [h3,cond_false] at h ⊢
 cases h4:(cD x.txt rest.length==0) with
 | false =>
  simp only [h4,cond_false,m028] at h ⊢;obtain ⟨⟨q,B1,M1⟩,k1,k2⟩:=h;obtain ⟨u1,m1⟩:=AE ps hf j env rest B M q B1 M1 hw he hm k1;obtain ⟨e1,w1,in1⟩:=rT ps hw he u1
  cases hq:(q.2==0) with
  | false =>simp only [hq,cond_false] at k2;obtain ⟨u2,m2⟩:=eW ps m1 k2;exact ⟨⟨_,u1,by simp only [hq,cond_false];exact u2⟩,m2⟩
  | true =>simp only [hq,cond_true] at k2;generalize cD x.txt rest.length=op at k2;obtain ⟨u2,m2⟩:=OE ps (g:=fun B=>oO B op q.1) (VS w1 _ _) w1 m1 k2;exact ⟨⟨_,u1,by simp only [hq,cond_true];exact u2⟩,m2⟩
 | true =>
 simp only [h4,cond_true] at h ⊢
 cases h5:bY env x.txt with
 | some i=>rw [h5] at h;exact eW ps hm h
 | none =>
 cases h6:dQ (L0.take j) x.txt with
 | none=>rw [h5,h6] at h;exact eW ps hm h
 | some k =>
 simp only [h5,h6] at h ⊢
 cases h7:(L0.take j)[k]? with
 | none=>rw [h7] at h;cases h
 | some d =>
 simp only [h7] at h ⊢
 cases h8:d.mac with
 | false=>rw [h8] at h;exact eW ps hm h
 | true =>
 simp only [h8,cond_true,m028] at h ⊢;obtain ⟨⟨q,B1,M1⟩,k1,k2⟩:=h;obtain ⟨u1,m1⟩:=AE ps hf j env rest B M q B1 M1 hw he hm k1;obtain ⟨e1,w1,in1⟩:=rT ps hw he u1
 cases hq:(q.2==0) with
 | false =>simp only [hq,cond_false] at k2;obtain ⟨u2,m2⟩:=eW ps m1 k2;exact ⟨⟨_,u1,by simp only [hq,cond_false];exact u2⟩,m2⟩
 | true =>simp only [hq,cond_true] at k2;obtain ⟨u2,m2⟩:=WH ps hkey hL hf j k q.1 B1 M1 r B' M' w1 (in1 (by simpa using hq)).2 m1 k2;exact ⟨⟨_,u1,by simp only [hq,cond_true];exact u2⟩,m2⟩
theorem aWu (hkey:GR) (hL:L0.length < 2 ^ 60) (hf:TrF ps L0 f):TrF ps L0 (iJ ps true f):=by
 intro j env x B M r B' M' hw he hm h;rw [aGa];unfold iJ at h ⊢
 cases h1:x.lst with
 | true=>rw [h1] at h;exact aSw ps hkey hL hf j env x.its B M r B' M' hw he hm h
 | false =>
 simp only [h1,cond_false] at h ⊢
 cases h2:(x.kind==4) with
 | true =>
  simp only [h2,cond_true] at h ⊢
  cases h3:((ps x.txt).2 != 0) with
  | true=>rw [h3] at h;exact eW ps hm h
  | false=>rw [h3] at h;exact OE ps (g:=fun B=>HL B false (ps x.txt).1) (LQ hw _ _) hw hm h
 | false =>
 simp only [h2,cond_false] at h ⊢
 cases h3:(x.kind==6) with
 | true=>rw [h3] at h;exact OE ps (g:=fun B=>aBl B (nQ (KG x.txt) []).1) (WQ hw _) hw hm h
 | false =>
 simp only [h3,cond_false] at h ⊢
 cases h4:(x.kind==3) with
 | true=>rw [h4] at h;exact aWd ps hkey hL hf j env x.txt B M r B' M' hw he hm h
 | false=>rw [h4] at h;exact eW ps hm h
theorem bHm (hkey:GR) (hL:L0.length < 2 ^ 60):∀ n,TrF ps L0 (T ps true n):=by
 intro n
 induction n with
 | zero=>intro j env x B M r B' M' _ _ _ h;cases h
 | succ n ih=>exact aWu ps hkey hL ih
end
end
noncomputable section
section
variable (ps:List UInt8->List Nat×Int)
mutual
def Sx.wt:Sx->Nat
 | .mk _ _ _ _ _ l=>1+Sx.wts l
def Sx.wts:List Sx->Nat
 | []=>0
 | s::l=>s.wt+Sx.wts l
end
theorem XB:∀ {l:List Sx} {s:Sx},s∈l->s.wt<=Sx.wts l:=by
 intro l
 induction l with
 | nil=>intro s h;cases h
 | cons a l ih =>
  intro s h;simp only [Sx.wts];rcases m013.1 h with rfl | h
  ·omega
  ·have:=ih h;omega
theorem DR {x s:Sx} (h:s∈x.its):s.wt < x.wt:=by
 cases x with
 | mk l k t p a items =>have h:s∈items:=h;have:=XB h;simp only [Sx.wt];omega
theorem IH:∀ {l:List Sx} {ns:List (List UInt8)} {ts:List Sx},cF l=some (ns,ts)->∀ t∈ts,∃ p∈l,t∈p.its:=by
 intro l
 induction l with
 | nil=>intro ns ts h;simp only [cF,m000,m001] at h;obtain ⟨rfl,rfl⟩:=h;intro t ht;cases ht
 | cons p l ih =>
  intro ns ts h;unfold cF at h
  split at h
  ·rename_i x y h1 h2
   cases hx:x.isN with
   | false=>rw [hx] at h;cases h
   | true =>
    rw [hx] at h;simp only [cond_true,m022] at h;obtain ⟨⟨ns',ts'⟩,h3,h4⟩:=h;simp only [m001] at h4;obtain ⟨rfl,rfl⟩:=h4;intro t ht;rcases m013.1 ht with rfl | ht
    ·exact ⟨p,m007 ..,by rw [h2];simp⟩
    ·obtain ⟨q,h5,h6⟩:=ih h3 t ht;exact ⟨q,m005 _ h5,h6⟩
  ·cases h
theorem rX {nm:List UInt8}:∀ {L:List Dc} {k:Nat},dQ L nm=some k->k < L.length:=by
 intro L
 induction L with
 | nil=>intro k h;cases h
 | cons d L ih =>
  intro k h;simp only [dQ] at h
  cases h1:dQ L nm with
  | some i=>rw [h1] at h;simp only [m000] at h;subst h;have:=ih h1;simp only [List.length_cons];omega
  | none =>
   rw [h1] at h;simp only at h
   cases h2:(d.nm==nm) with
   | true=>rw [h2] at h;simp only [cond_true,m000] at h;subst h;simp
   | false=>rw [h2] at h;cases h
variable {mm:Bool}
theorem aMv {f:Fn} {L:List Dc} {env:Ev}:∀ {l:List Sx},(∀ x∈l,∀ σ,∃ r,f L env x σ=some r)->∀ σ,∃ r,eE f L env l σ=some r:=by
 intro l
 induction l with
 | nil=>intro _ σ;exact ⟨_,rfl⟩
 | cons x l ih =>
  intro h σ;obtain ⟨q,hq⟩:=h x (m007 ..) σ;simp only [eE,hq,Option.bind_some]
  cases (q.1.2==0) with
  | false=>exact ⟨_,rfl⟩
  | true =>obtain ⟨w,hw⟩:=ih (fun y hy=>h y (m005 _ hy)) q.2;simp only [cond_true,hw,Option.map_some];exact ⟨_,rfl⟩
theorem MK {f:Fn} {L:List Dc} {k:Nat} {a:List Int} (hk:k < L.length) (h:∀ env x σ,∃ r,f (L.take k) env x σ=some r):∀ σ,∃ r,gJ mm f L k a σ=some r:=by
 intro σ;unfold gJ;obtain ⟨d,hd⟩:∃ d,L[k]?=some d:=⟨_,m004 hk⟩;rw [hd];simp only
 cases a.length==d.ps.length with
 | false=>exact ⟨_,rfl⟩
 | true =>
  simp only [cond_true]
  cases eQ σ.1 d.ps a with
  | false=>exact ⟨_,rfl⟩
  | true =>
   simp only [cond_true]
   cases (bif mm then oB (jL k a) σ.2 else none) with
   | some id=>exact ⟨_,rfl⟩
   | none =>obtain ⟨w,hw⟩:=h (List.zip (d.ps.map (·.1)) a) d.body σ;simp only [hw,Option.map_some];exact ⟨_,rfl⟩
theorem WK (L:List Dc) (env:Ev) (x:Sx) (σ:Sg) (h1:∀ y:Sx,y.wt < x.wt->∀ env σ,∃ r,U ps mm L env y σ=some r) (h2:∀ k,k < L.length->∀ env y σ,∃ r,U ps mm (L.take k) env y σ=some r):∃ r,iJ ps mm (U ps mm) L env x σ=some r:=by
 have hl:∀ {l:List Sx},(∀ y∈l,y.wt < x.wt)->∀ env σ,∃ r,eE (U ps mm) L env l σ=some r:=fun hh env σ=>aMv (fun y hy σ=>h1 y (hh y hy) env σ) σ;unfold iJ
 cases hx:x.lst with
 | true =>
  simp only [cond_true];have uC:∀ y∈x.its,y.wt < x.wt:=fun y hy=>DR hy;generalize x.its=l at uC
  match l with
  | []=>exact ⟨_,rfl⟩
  | y::rest =>
  unfold sW;dsimp only;have hrest:∀ z∈rest,z.wt < x.wt:=fun z hz=>uC z (m005 _ hz)
  cases y.isN with
  | false=>exact ⟨_,rfl⟩
  | true =>
  simp only [m025,cond_false]
  cases y.txt==RL with
  | true =>
   simp only [cond_true]
   match rest with
   | [] | [_] | _::_::_::_=>exact ⟨_,rfl⟩
   | [u,v] =>
   unfold mQ;dsimp only
   cases u.lst with
   | false=>exact ⟨_,rfl⟩
   | true =>
   simp only [cond_true]
   cases hp:cF u.its with
   | none=>exact ⟨_,rfl⟩
   | some q =>
   obtain ⟨ns,ts⟩:=q;simp only
   cases ns.any bC with
   | true=>exact ⟨_,rfl⟩
   | false =>
   simp only [cond_false]
   cases dbl ns with
   | true=>exact ⟨_,rfl⟩
   | false =>
   simp only [cond_false]
   obtain ⟨w,hw⟩:=hl (l:=ts) (fun t ht=>by
    obtain ⟨p,hp1,hp2⟩:=IH hp t ht;have a1:=DR hp1;have a2:=DR hp2;have a3:=hrest u (by simp)
    omega) env σ
   rw [hw];simp only [Option.bind_some]
   cases (w.1.2==0) with
   | false=>exact ⟨_,rfl⟩
   | true=>exact h1 v (hrest v (by simp)) _ _
  | false =>
  simp only [cond_false]
  cases cD y.txt rest.length==0&&bC y.txt with
  | true=>exact ⟨_,rfl⟩
  | false =>
  simp only [cond_false];obtain ⟨w,hw⟩:=hl hrest env σ
  cases cD y.txt rest.length==0 with
  | false =>
   simp only [cond_false,hw,Option.bind_some]
   cases (w.1.2==0) with
   | false=>exact ⟨_,rfl⟩
   | true=>exact ⟨_,rfl⟩
  | true =>
  simp only [cond_true]
  cases bY env y.txt with
  | some i=>exact ⟨_,rfl⟩
  | none =>
  cases hd:dQ L y.txt with
  | none=>exact ⟨_,rfl⟩
  | some k =>
  obtain ⟨d,hdk⟩:∃ d,L[k]?=some d:=⟨_,m004 (rX hd)⟩;simp only [hdk]
  cases d.mac with
  | false=>exact ⟨_,rfl⟩
  | true =>
  simp only [cond_true,hw,Option.bind_some]
  cases (w.1.2==0) with
  | false=>exact ⟨_,rfl⟩
  | true=>exact MK (rX hd) (h2 k (rX hd)) _
 | false =>
 simp only [cond_false]
 cases x.kind==4 with
 | true =>simp only [cond_true];cases (ps x.txt).2 != 0<;>exact ⟨_,rfl⟩
 | false =>
 simp only [cond_false]
 cases x.kind==6 with
 | true=>exact ⟨_,rfl⟩
 | false =>
 simp only [cond_false]
 cases x.kind==3 with
 | false=>exact ⟨_,rfl⟩
 | true =>
 unfold kW;simp only [cond_true]
 cases x.txt==lQ||x.txt==qX with
 | true=>exact ⟨_,rfl⟩
 | false =>
 simp only [cond_false]
 cases bC x.txt with
 | true=>exact ⟨_,rfl⟩
 | false =>
 simp only [cond_false]
 cases bY env x.txt with
 | some i=>exact ⟨_,rfl⟩
 | none =>
 simp only
 cases hd:dQ L x.txt with
 | none=>exact ⟨_,rfl⟩
 | some k =>
 obtain ⟨d,hdk⟩:∃ d,L[k]?=some d:=⟨_,m004 (rX hd)⟩;simp only [hdk]
 cases d.mac with
 | false=>exact ⟨_,rfl⟩
 | true =>
 cases d.ps.length==0 with
 | false=>exact ⟨_,rfl⟩
 | true=>exact MK (rX hd) (h2 k (rX hd)) _
theorem bHl:∀ (j w:Nat) (L:List Dc) (env:Ev) (x:Sx) (σ:Sg),L.length<=j->x.wt<=w->∃ r,U ps mm L env x σ=some r:=by
 intro j
 induction j with
 | zero =>
  intro w
  induction w with
  | zero=>intro L env x σ _ hx;cases x;simp only [Sx.wt] at hx;omega
  | succ w ih =>intro L env x σ hL hx;have hL0:L=[]:=List.length_eq_zero_iff.1 (by omega);subst hL0;rw [aGa];exact WK ps [] env x σ (fun y hy env σ=>ih [] env y σ (by simp) (by omega)) fun k hk=>by simp at hk
 | succ j ihj =>
  intro w
  induction w with
  | zero=>intro L env x σ _ hx;cases x;simp only [Sx.wt] at hx;omega
  | succ w ih =>intro L env x σ hL hx;rw [aGa];exact WK ps L env x σ (fun y hy env σ=>ih L env y σ hL (by omega)) fun k hk env y σ=>ihj y.wt (L.take k) env y σ (by simp only [m020];omega) (bJ _)
theorem bAu (mm:Bool) (L:List Dc) (env:Ev) (x:Sx) (σ:Sg):∃ n r,T ps mm n L env x σ=some r:=by obtain ⟨r,h⟩:=bHl ps (mm:=mm) L.length x.wt L env x σ (bJ _) (bJ _);obtain ⟨n,hn⟩:=(sG ps).1 h;exact ⟨n,r,hn⟩
end
section
variable (ps:List UInt8->List Nat×Int)
end
section
variable (ps:List UInt8->List Nat×Int)
end
end
noncomputable section
def fG (c:UInt8):Bool:=decide (48<=c.toNat)&&decide (c.toNat<=57)
def oT (l:List UInt8):Nat:=l.foldl (fun a c=>10 * a+(c.toNat - 48)) 0
theorem KQ {u:Nat} (h:u < 10):(UInt8.ofNat (48+u)).toNat=48+u:=by simp [UInt8.toNat_ofNat'];omega
theorem aQk:∀ (f u:Nat),∀ c∈wF f u,fG c=true:=by
 intro f
 induction f with
 | zero=>intro u c h;cases h
 | succ f ih =>
  intro u c h;simp only [wF] at h
  cases hb:Nat.blt u 10 with
  | true =>
   have hu:u < 10:=by simpa [Nat.blt_eq] using hb
   rw [hb] at h;simp only [cond_true,m008] at h;subst h;simp only [fG,KQ hu,cQ,decide_eq_true_eq];omega
  | false =>
   rw [hb] at h;simp only [cond_false,m003,m008] at h;rcases h with h | rfl
   ·exact ih _ c h
   ·have:u % 10 < 10:=Nat.mod_lt _ (by decide);simp only [fG,KQ this,cQ,decide_eq_true_eq];omega
theorem MV:∀ (f u:Nat),u < 10 ^ f->oT (wF f u)=u:=by
 intro f
 induction f with
 | zero=>intro u h;simp at h;subst h;rfl
 | succ f ih =>
  intro u h;simp only [wF]
  cases hb:Nat.blt u 10 with
  | true =>
   have hu:u < 10:=by simpa [Nat.blt_eq] using hb
   simp only [cond_true,oT,List.foldl_cons,List.foldl_nil,KQ hu];omega
  | false =>
   have h1:u / 10 < 10 ^ f:=by rw [Nat.pow_succ] at h;omega
   have h2:u % 10 < 10:=Nat.mod_lt _ (by decide);simp only [cond_false,oT,List.foldl_append,List.foldl_cons,List.foldl_nil,KQ h2];have:=ih _ h1;simp only [oT] at this;rw [this];omega
theorem XE (f u:Nat):wF (f+1) u≠[]:=by simp only [wF];cases Nat.blt u 10<;>simp
theorem wB {i:Int} (h:0<=i):cK i=wF 20 i.toNat:=by unfold cK;rw [if_neg (by omega)]
theorem CK {i:Int} (h:0<=i):∀ c∈cK i,fG c=true:=by rw [wB h];exact aQk _ _
theorem MC {i j:Int} (h:0<=i) (h2:i < 2 ^ 60) (k:0<=j) (k2:j < 2 ^ 60) (e:cK i=cK j):i=j:=by rw [wB h,wB k] at e;have a:=MV 20 i.toNat (by omega);have b:=MV 20 j.toNat (by omega);rw [e,b] at a;omega
theorem HH {i:Int} (h:0<=i):∃ d l,cK i=d::l/\fG d=true:=by
 cases hl:cK i with
 | nil=>rw [wB h] at hl;exact absurd hl (XE _ _)
 | cons d l=>exact ⟨d,l,rfl,CK h d (by rw [hl];exact m007 ..)⟩
theorem aFj {c:UInt8}:∀ {x x' y y':List UInt8},c ∉ x->c ∉ x'->x++c::y=x'++c::y'->x=x'/\y=y':=by
 intro x
 induction x with
 | nil =>
  intro x' y y' _ h' e
  cases x' with
  | nil=>simp only [List.nil_append,m057,true_and] at e;exact ⟨rfl,e⟩
  | cons d x'=>simp only [List.nil_append,List.cons_append,m057] at e;exact absurd e.1 (fun h=>h' (by rw [h];exact m007 ..))
 | cons d x ih =>
  intro x' y y' h h' e
  cases x' with
  | nil=>simp only [List.nil_append,List.cons_append,m057] at e;exact absurd e.1 (fun hh=>h (by rw [hh];exact m007 ..))
  | cons d' x' =>simp only [List.cons_append,m057] at e;obtain ⟨a,b⟩:=ih (fun hh=>h (m005 _ hh)) (fun hh=>h' (m005 _ hh)) e.2;exact ⟨by rw [e.1,a],b⟩
theorem aJe {c:UInt8} {l:List UInt8} (h:∀ d∈l,fG d=true) (hc:fG c=false):c ∉ l:=fun hm=>by rw [h c hm] at hc;cases hc
theorem rH (k:Nat) (i:Int) (a:List Int):jL k (i::a)=cK i++32::jL k a:=by simp [jL]
theorem WX:GR:=by
 intro k a k' a' hk hk' ha ha' e
 induction a generalizing a' with
 | nil =>
  cases a' with
  | nil =>simp only [jL,m042,List.nil_append,m057,true_and] at e;have:=MC (by omega) (by omega) (by omega) (by omega) e;exact ⟨by omega,rfl⟩
  | cons i a' =>obtain ⟨d,l,h1,h2⟩:=HH (ha' i (m007 ..)).1;rw [rH,h1] at e;simp only [jL,m042,List.nil_append,List.cons_append,m057] at e;rw [<- e.1] at h2;cases h2
 | cons i a ih =>
  have h1:=ha i (m007 ..)
  cases a' with
  | nil =>obtain ⟨d,l,h2,h3⟩:=HH h1.1;rw [rH,h2] at e;simp only [jL,m042,List.nil_append,List.cons_append,m057] at e;rw [e.1] at h3;cases h3
  | cons j a' =>have h2:=ha' j (m007 ..);rw [rH,rH] at e;obtain ⟨e1,e2⟩:=aFj (aJe (CK h1.1) rfl) (aJe (CK h2.1) rfl) e;obtain ⟨e3,e4⟩:=ih a' (fun x hx=>ha x (m005 _ hx)) (fun x hx=>ha' x (m005 _ hx)) e2;exact ⟨e3,by rw [MC h1.1 h1.2 h2.1 h2.2 e1,e4]⟩
end
noncomputable section
section
variable {s s':St} {l M:List Nat}
theorem vU {i:Nat} {b0:gL} {vs:List AV} (hv:dA vs=[i]) (hi:s.h i=some b0) (hlen:(dZ b0).length<=3999) (hl:∀ j∈dZ b0,∀ b,s.h j=some b->j=i\/dZ b=[]):∀ j,j∈rch s vs↔(j=i\/j∈dZ b0):=by
 intro j;unfold rch;rw [hv];show j∈cond (dK i []) _ (match s.h i with | none=>_ | some b=>jT s.h 3999 (dZ b++[]) (i::[]))↔_
 rw [hi];simp only [dK,cond_false,m011]
 have key:∀ (w:List Nat) (f:Nat) (seen:List Nat),i∈seen->(∀ j∈w,∀ b,s.h j=some b->j=i\/dZ b=[])->w.length<=f->∀ j,j∈jT s.h f w seen↔(j∈w\/j∈seen):=by
  intro w
  induction w with
  | nil=>intro f seen _ _ _ j;cases f<;>simp [jT]
  | cons n w ih =>
   intro f seen hs hl hf j;obtain ⟨f,rfl⟩:∃ g,f=g+1:=⟨f - 1,by simp only [List.length_cons] at hf;omega⟩;have hf':w.length<=f:=by simp only [List.length_cons] at hf;omega
   have hl':∀ j∈w,∀ b,s.h j=some b->j=i\/dZ b=[]:=fun j hj=>hl j (m005 _ hj);simp only [jT]
   cases hm:dK n seen with
   | true =>
    have:=bM.1 hm;simp only [cond_true,ih f seen hs hl' hf',m013];constructor
    ·rintro (h | h);exact .inl (.inr h);exact .inr h
    ·rintro ((rfl | h) | h);exact .inr this;exact .inl h;exact .inr h
   | false =>
    simp only [cond_false]
    have key:∀ w',w'=w->(j∈jT s.h f w' (n::seen)↔(j∈n::w\/j∈seen)):=fun w' e=>by
     subst e;rw [ih f (n::seen) (m005 _ hs) hl' hf'];simp only [m013];constructor
     ·rintro (h | rfl | h);exact .inl (.inr h);exact .inl (.inl rfl);exact .inr h
     ·rintro ((rfl | h) | h);exact .inr (.inl rfl);exact .inl h;exact .inr (.inr h)
    cases hn:s.h n with
    | none=>exact key w rfl
    | some b =>
     rcases hl n (m007 ..) b hn with rfl | hb
     ·rw [bM.2 hs] at hm;cases hm
     ·exact key _ (by rw [hb];rfl)
 rw [key _ _ _ (m008.2 rfl) hl hlen];simp only [m008];constructor
 ·rintro (h | h);exact .inr h;exact .inl h
 ·rintro (h | h);exact .inr h;exact .inl h
theorem jI (j:Nat):(s.only l).h j=if j∈l then s.h j else none:=by
 show cond (dK j l) _ _=_
 cases hm:dK j l with
 | true=>rw [if_pos (bM.1 hm)];rfl
 | false=>rw [if_neg (fun h=>by rw [bM.2 h] at hm;cases hm)];rfl
theorem aSl:(s.only l).nx=s.nx:=rfl
theorem gY (fr:aI s):aI (s.only l):=fun j hj=>by rw [jI];split;exact fr j hj;rfl
theorem AY (j:Nat):(jO s s' l).h j=if j∈l\/s.nx<=j then s'.h j else s.h j:=by
 show cond (dK j l||Nat.ble s.nx j) _ _=_
 cases hm:(dK j l||Nat.ble s.nx j) with
 | true =>simp only [FI,bM,Nat.ble_eq] at hm;rw [if_pos hm];rfl
 | false =>
  simp only [NJ] at hm;rw [if_neg]
  ·rfl
  ·rintro (h | h)
   ·rw [bM.2 h] at hm;cases hm.1
   ·have h3:Nat.ble s.nx j=true:=by rw [Nat.ble_eq];exact h
    rw [h3] at hm;cases hm.2
theorem kZ (h:EF M (s.only l) s') (hM:∀ j∈M,j∈l) {j:Nat} {b:gL} (hj:s'.h j=some b):(jO s s' l).h j=some b:=by
 rw [AY];by_cases hc:j∈l\/s.nx<=j
 ·rw [if_pos hc];exact hj
 ·exfalso;have h1:¬ j∈l:=fun h=>hc (.inl h);have h2:j < s.nx:=Nat.lt_of_not_le fun h=>hc (.inr h);have:=h.h j h2 (fun h=>h1 (hM j h));rw [jI,if_neg h1,hj] at this;cases this
theorem lP (h:EF M (s.only l) s') (hM:∀ j∈M,j∈l):EF M s (jO s s' l):=by
 refine ⟨h.nx,fun j hj hn=>?_,fun j hj=>?_⟩
 ·rw [AY];by_cases hc:j∈l
  ·rw [if_pos (.inl hc),h.h j hj hn,jI,if_pos hc]
  ·rw [if_neg]
   rintro (h | h)
   ·exact hc h
   ·omega
 ·rw [AY];have hj:s'.nx<=j:=hj;have:=h.nx;rw [aSl] at this;rw [if_pos (.inr (by omega))];exact h.fr j hj
theorem pY {h:FuncId} {args:List AV} {K:aE} (hz:mEv.fz h=false) (hc:∃ r s',WideC mEv h args (s.only l) r s'/\K r (jO s s' l)):cH mEv h args l s K:=by obtain ⟨r,s',h1,h2⟩:=hc;exact .mk (by rw [hz];exact ⟨r,s',h1,h2⟩)
theorem PF {h:FuncId} {args bs:List AV} {ids:List Nat} {K:aE} (hz:mEv.fz h=true) (hq:jR mEv.P (s.only l) (mEv.se h) args=some (bs,ids)) (hc:∃ r s',WideC mEv h bs ((s.only l).drop ids) r s'/\aA (pur mEv.P s' 12 r) fun v=>K v.1 (jO s (s'.drop v.2) l)):cH mEv h args l s K:=.mk (by rw [hz,hq,cond_true,Bnd_some];exact hc)
end
end
noncomputable section
section
variable {s s':St} {i:Nat} {bs t:List UInt8} {w:Bool} {F:List Nat} {K:aE}
def Bu (s:St) (i:Nat) (bs:List UInt8) (w:Bool) (F:List Nat):Prop :=
 ∃ a x,(a=.nilp\/a=.ptr i 0)/\s.h i=some (.cells [a,x] 163 true true)/\((x=.nils/\bs=[]/\F=[i])\/∃ j,j≠i/\bs≠[]/\x=.ref j 0 bs.length none 5/\s.h j=some (.cells (bs.map IG) 5 false w)/\F=[i,j])
theorem Bu.keep (h:Bu s i bs w F) (hk:∀ j∈F,s'.h j=s.h j):Bu s' i bs w F:=by
 obtain ⟨a,x,h1,h2,h3⟩:=h;rcases h3 with ⟨rfl,rfl,rfl⟩ | ⟨j,h4,h5,rfl,h6,rfl⟩
 ·exact ⟨a,_,h1,by rw [hk i (by simp)];exact h2,.inl ⟨rfl,rfl,rfl⟩⟩
 ·exact ⟨a,_,h1,by rw [hk i (by simp)];exact h2,.inr ⟨j,h4,h5,rfl,by rw [hk j (by simp)];exact h6,rfl⟩⟩
theorem Bu.have (h:Bu s i bs w F):∀ j∈F,∃ b,s.h j=some b:=by
 obtain ⟨a,x,h1,h2,h3⟩:=h;rcases h3 with ⟨rfl,rfl,rfl⟩ | ⟨k,h4,h5,rfl,h6,rfl⟩
 ·intro j hj;rw [m008.1 hj];exact ⟨_,h2⟩
 ·intro j hj;simp only [m013,m052,or_false] at hj;rcases hj with rfl | rfl
  ·exact ⟨_,h2⟩
  ·exact ⟨_,h6⟩
theorem Bu.mem (h:Bu s i bs w F):i∈F:=by obtain ⟨a,x,h1,h2,h3⟩:=h;rcases h3 with ⟨rfl,rfl,rfl⟩ | ⟨k,h4,h5,rfl,h6,rfl⟩<;>simp
theorem aI.lt (fr:aI s) {j:Nat} {b:gL} (h:s.h j=some b):j < s.nx:=Nat.lt_of_not_le fun hc=>by rw [fr j hc] at h;cases h
theorem Bu.lt (h:Bu s i bs w F) (fr:aI s):∀ j∈F,j < s.nx:=fun j hj=>by obtain ⟨b,hb⟩:=h.have j hj;exact fr.lt hb
theorem bDq (bs:List UInt8):dA (bs.map IG)=[]:=by
 induction bs with
 | nil=>rfl
 | cons c l ih=>simp only [m039,dA,ih];rfl
theorem Bu.rch (h:Bu s i bs w F) {vs:List AV} (hv:dA vs=[i]):∀ j,j∈rch s vs↔j∈F:=by
 obtain ⟨a,x,h1,h2,h3⟩:=h;intro j;rcases h3 with ⟨rfl,rfl,rfl⟩ | ⟨k,h4,h5,rfl,h6,rfl⟩
 ·rw [vU hv h2]
  ·rcases h1 with rfl | rfl<;>simp [dZ,dA,eD]
  ·rcases h1 with rfl | rfl<;>simp [dZ,dA,eD]
  ·intro j hj b hb;rcases h1 with rfl | rfl
   ·simp [dZ,dA,eD] at hj
   ·simp [dZ,dA,eD] at hj;exact .inl hj
 ·rw [vU hv h2]
  ·rcases h1 with rfl | rfl<;>simp [dZ,dA,eD]
  ·rcases h1 with rfl | rfl<;>simp [dZ,dA,eD]
  ·intro j hj b hb;have hk:∀ b,s.h k=some b->dZ b=[]:=fun b hb=>by rw [h6] at hb;cases hb;exact bDq bs
   rcases h1 with rfl | rfl
   ·simp [dZ,dA,eD] at hj;subst hj;exact .inr (hk b hb)
   ·simp [dZ,dA,eD] at hj;rcases hj with rfl | rfl
    ·exact .inl rfl
    ·exact .inr (hk b hb)
theorem KA (bs:List UInt8):(bs.map IG).flatMap AV.cells=bs.map IG:=BD fun v hv=>by obtain ⟨c,_,rfl⟩:=m021.1 hv;rfl
theorem Bu.gw (h:Bu s i bs true F):∃ a x,(a=.nilp\/a=.ptr i 0)/\s.h i=some (.cells [a,x] 163 true true)/\Gw 5 1 0 s x (bs.map IG)/\F=i::aF x/\(∀ j∈aF x,j≠i):=by
 obtain ⟨a,x,h1,h2,h3⟩:=h;rcases h3 with ⟨rfl,rfl,rfl⟩ | ⟨k,h4,h5,rfl,h6,rfl⟩
 ·exact ⟨a,_,h1,h2,gK,rfl,fun j hj=>by cases hj⟩
 ·refine ⟨a,_,h1,h2,⟨fun v hv=>by obtain ⟨c,_,rfl⟩:=m021.1 hv;exact ⟨rfl,rfl⟩,.inr ⟨k,mM _,by rw [m002],by rw [KA];exact h6⟩⟩,rfl,fun j hj=>?_⟩;simp only [aF,m008] at hj;subst hj;exact h4
theorem aGm (x:AV) (bs:List UInt8) (id:Nat) (s:St):bt .append #[161,9] [x,.str bs] id s=bt .append #[161,161] [x,.sl false (bs.map IG)] id s:=by
 rw [aRx,oL bAx];have hall:(bs.map IG).all (fun v=>v.cells.length==1)=true:=m032.2 fun v hv=>by obtain ⟨c,_,rfl⟩:=m021.1 hv;rfl
 have hsrc:aR 1 (.sl false (bs.map IG)) s=some (bs.map IG):=by simp only [aR,hall,if_true,KA]
 rw [hsrc];rfl
theorem aOp (h:Bu s i bs true F) (fr:aI s) (hk:∀ s',Bu s' i bs true F->EF [i] s s'->K (.tup []) s'):aL mEv 202 [.ptr i 0] s K:=by
 obtain ⟨a,x,h2,h3,hx⟩:=h;have hi:=fr.lt h3;refine JR bKz (aEp _ _ ?_);refine ⟨rfl,?_⟩;rcases h2 with rfl | rfl
 ·simp only [h3,bEd,wz,wy,reduceAdd];rw [cv1 (a:=.nilp) (x:=x) (by simp only [adv_h];exact h3)];simp only [Bnd_some];refine JR bHx ⟨_,_,aTg i _,?_⟩;rw [cv2 (a:=.nilp) (x:=x) (by simp only [adv_h];exact h3)];simp only [wz,wy,reduceAdd];refine ⟨rfl,?_⟩;rw [OB (c:=[.nilp,x]) (by simp only [adv_h];exact h3) (by simp) rfl rfl];simp only [Bnd_some];refine hk _ ⟨.ptr i 0,x,.inr rfl,by rw [aG];rfl,?_⟩ ((EF.refl _ fr).adv.set (by show i < s.nx+13;omega) (.inr (by simp)));rcases hx with hx | ⟨j,h4,h5,h6,h7,h8⟩
  ·exact .inl hx
  ·exact .inr ⟨j,h4,h5,h6,by rw [aB h4];exact h7,h8⟩
 ·simp only [h3,bFc,wz,wy,reduceAdd];refine ⟨rfl,?_⟩;simp only [h3,bLn,wz,wy,reduceAdd];exact hk _ ⟨.ptr i 0,x,.inr rfl,h3,hx⟩ (EF.refl _ fr).adv
theorem aXd (h:Bu s i bs true F) (fr:aI s) (ht:t≠[]) (hlen:bs.length+t.length<=2 ^ 40) :
  ∃ r s',WideC mEv 156 [.ptr i 0,.str t] s r s'/\r=.tup [.int .i64 t.length,.nili]/\∃ F',Bu s' i (bs++t) true F'/\EF F s s'/\∀ j∈F',j∈F\/s.nx<=j:=by
 refine aJd _ _ _ ?_;unfold f156;refine aOp (h.keep (s':=Ai.adv s 4) fun j _=>rfl) fr.adv fun s1 b1 e1=>?_;have hiF:=h.mem;have e1:EF F s s1:=((EF.refl F fr).adv (n:=4)).trans e1 fun j hj=>by rw [m008.1 hj];exact .inr hiF
 obtain ⟨a,x,h2,h3,h4,rfl,h5⟩:=b1.gw;have hx1:∀ j∈aF x,j < s1.nx:=h4.id_lt e1.fr;have hi:i < s1.nx:=e1.fr.lt h3;have happ:=aEq (vs:=bs.map IG) (ws:=t.map IG) bAx (h4.adv (n:=10)) (fun v hv=>by obtain ⟨c,_,rfl⟩:=m021.1 hv;exact ⟨rfl,rfl⟩) (by simpa using ht) (rI (by simp only [m002];omega) (by simp only [m002];omega)) false (s1.nx+6);refine ⟨rfl,?_⟩;simp only [h3,aGm,happ,wz,wy,reduceAdd];refine ⟨rfl,?_⟩;have hne:i ∉ aF x:=fun hh=>h5 i hh rfl;have hni:¬ (i=s1.nx+6):=by omega
 have h3':((((Ai.adv s1 10).drop (aF x)).set (s1.nx+6) (some (.cells ((bs.map IG++t.map IG).flatMap AV.cells) 5 false true)))).h i=some (.cells [a,x] 163 true true):=by rw [get_set,if_neg hni,get_drop',if_neg hne,adv_h];exact h3
 rw [OB (c:=[a,x]) h3' (by simp) rfl rfl];simp only [Bnd_some,bCx];refine ⟨trivial,[i,s1.nx+6],⟨a,_,h2,by rw [adv_h,aG];rfl,.inr ⟨s1.nx+6,by omega,by simp [ht],by simp,?_,rfl⟩⟩,?_,?_⟩
 ·rw [adv_h,aB (by omega),aG,<- m038,KA]
 ·have hn:=e1.nx;refine (EF.set ?_ (by simp only [set_nx,nx_drop,adv_nx];omega) (.inr hiF)).adv;refine EF.set ?_ (by simp only [nx_drop,adv_nx];omega) (.inl (by omega));exact e1.adv.drop fun j hj=>.inr (m005 _ hj)
 ·intro j hj;have hn:=e1.nx;simp only [m013,m052,or_false] at hj;rcases hj with rfl | rfl
  ·exact .inl hiF
  ·exact .inr (by omega)
theorem bCq (h:Bu s i bs w F) (fr:aI s) (hne:bs≠[]) (hlen:bs.length<=2 ^ 40):∃ r s',WideC mEv 108 [.ptr i 0] s r s'/\r=.str bs/\Bu s' i bs false F/\EF F s s':=by
 have hF:=h.mem;obtain ⟨a,x,h1,h3,h4⟩:=h;rcases h4 with ⟨_,h5,_⟩ | ⟨j,hji,_,rfl,hs,rfl⟩
 ·exact absurd h5 hne
 refine aLz _ _ ?_;refine ⟨rfl,?_⟩;have hpos:0 < bs.length:=List.length_pos_iff.2 hne;have hj:=fr.lt hs;have e1:∀ k (q:St),q.h j=some (.cells (bs.map IG) 5 false w)->bt .unsafeSliceData #[161] [.ref j 0 bs.length none 5] k q=some (.ptr j 0,q):=fun k q hq=>by simp [bK,hq,hpos]
 have e2:∀ k (q:St),bt .len #[161] [.ref j 0 bs.length none 5] k q=some (.int .i64 (bs.length:Nat),q):=fun k q=>by kernel_rfl
 have e3:∀ k (q:St),q.h j=some (.cells (bs.map IG) 5 false w)->bt .unsafeString #[220,3] [.ptr j 0,.int .i64 (bs.length:Nat)] k q=some (.str bs,q.set j (some (.cells (bs.map IG) 5 false false))):=fun k q hq=>by
  have h1:eH (bX mEv).P 220=some (.pointer 5):=by kernel_rfl
  have h2:eP (bX mEv).P 5=some (1,false):=by kernel_rfl
  have hm:(bs.length:Int)<=(most:Int):=by unfold most;omega
  have hr:((bs.map fun c=>(c.toNat:Int)).all fun n=>decide (0<=n)&&decide (n < 256))=true:=m032.2 fun n hn=>by obtain ⟨c,_,rfl⟩:=m021.1 hn;have:=c.toNat_lt;simp;omega
  have htk:(bs.map IG).take bs.length=bs.map IG:=m014 (by simp);simp only [bt,bK,h1,hq,h2,Int.toNat_natCast,m002,bJ,hm,htk,u8s,Option.bind_some,hr,if_true,bDd,and_self,true_and,and_true];rw [if_pos (by omega)]
 simp only [h3,wz,wy,reduceAdd];rw [e1 _ _ (by rw [adv_h];exact hs)];simp only [wz,wy,reduceAdd];refine ⟨rfl,?_⟩;simp only [h3,e2,wz,wy,reduceAdd];refine ⟨fr _ (by omega),?_⟩;rw [e3 _ (Ai.adv s 13) hs];simp only [wz,wy,reduceAdd];exact ⟨trivial,⟨a,_,h1,by rw [aB hji.symm];exact h3,.inr ⟨j,hji,hne,rfl,aG,rfl⟩⟩,(EF.refl _ fr).adv.set (by show j < s.nx+13;omega) (.inr (by simp))⟩
theorem AM (hz:Bu s i bs true F) (fr:aI s) (ht:t≠[]) (hlen:bs.length+t.length<=2 ^ 40) (hk:∀ s' F',Bu s' i (bs++t) true F'->EF F s s'->(∀ j∈F',j∈F\/s.nx<=j)->K (.tup [.int .i64 t.length,.nili]) s'):aL mEv 156 [.ptr i 0,.str t] s K:=by obtain ⟨r,s',h1,rfl,F',h2,h3,h4⟩:=aXd hz fr ht hlen;exact JR aZp ⟨_,s',h1,hk s' F' h2 h3 h4⟩
theorem TV {l:List Nat} {f:FuncId} (hz:Bu s i bs true F) (fr:aI s) (ht:t≠[]) (hlen:bs.length+t.length<=2 ^ 40) (hl:l=rch s [.fn f [] [],.ptr i 0,.str t]) (hk:∀ s' F',Bu s' i (bs++t) true F'->EF F s s'->(∀ j∈F',j∈F\/s.nx<=j)->K (.tup [.int .i64 t.length,.nili]) s'):cH mEv 156 [.ptr i 0,.str t] l s K:=by
 have hm:∀ j,j∈l↔j∈F:=fun j=>by rw [hl];exact hz.rch rfl j
 have hz':Bu (s.only l) i bs true F:=hz.keep fun j hj=>by rw [jI,if_pos ((hm j).2 hj)]
 obtain ⟨r,s',h1,rfl,F',h2,h3,h4⟩:=aXd hz' (gY fr) ht hlen;refine pY aZp ⟨_,s',h1,hk _ F' ?_ (lP h3 fun j hj=>(hm j).2 hj) h4⟩;exact h2.keep fun j hj=>by obtain ⟨b,hb⟩:=h2.have j hj;rw [hb];exact kZ h3 (fun j hj=>(hm j).2 hj) hb
theorem DF {l:List Nat} {f:FuncId} (hz:Bu s i bs w F) (fr:aI s) (hne:bs≠[]) (hlen:bs.length<=2 ^ 40) (hl:l=rch s [.fn f [] [],.ptr i 0]) (hk:∀ s',Bu s' i bs false F->EF F s s'->K (.str bs) s'):cH mEv 108 [.ptr i 0] l s K:=by
 have hm:∀ j,j∈l↔j∈F:=fun j=>by rw [hl];exact hz.rch rfl j
 have hz':Bu (s.only l) i bs w F:=hz.keep fun j hj=>by rw [jI,if_pos ((hm j).2 hj)]
 obtain ⟨r,s',h1,rfl,h2,h3⟩:=bCq hz' (gY fr) hne hlen;refine pY bGw ⟨_,s',h1,hk _ ?_ (lP h3 fun j hj=>(hm j).2 hj)⟩;exact h2.keep fun j hj=>by obtain ⟨b,hb⟩:=h2.have j hj;rw [hb];exact kZ h3 (fun j hj=>(hm j).2 hj) hb
end
end
noncomputable section
def Nd.av (n:Nd):AV:=.agg [.int .i64 n.op,.int .i64 n.so,.sl false (n.a.map dT),.str n.nm,.bool n.neg,fX n.num,.sl false (n.str.map kQ)]
def i64 (n:Int):Prop:=-9223372036854775808<=n/\n<=9223372036854775807
structure Nd.ok (n:Nd):Prop where
 op:i64 n.op
 so:i64 n.so
 a:∀ i∈n.a,i64 i
 al:n.a.length<=2 ^ 20
 nm:n.nm.length<=2 ^ 20
 num:cG n.num
 nl:n.num.length<=2 ^ 20
 str:∀ r∈n.str,i64 r.1/\i64 r.2
 sl:n.str.length<=2 ^ 20
theorem aTz {a:List Nat} (h:cG a) (hl:a.length<=2 ^ 20):(GA a).length<=2 ^ 26:=by
 have h1:=NN (val a) (2 * (bP a).length) (bP a) [] (fE h) (nI h).1 (VX _ (fE h));have h2:=wQ a;unfold GA;have h3:∀ w:List UInt8,(w.dropWhile (·==48)).length<=w.length:=fun w=>(List.dropWhile_sublist _).length_le;have h4:=h3 (mX (val a) (bP a) []);simp only [List.length_nil] at h1;show (if (mX (val a) (bP a) []).dropWhile (·==48)=[] then [48] else (mX (val a) (bP a) []).dropWhile (·==48)).length<=2 ^ 26
 split
 ·simp
 ·omega
theorem sV (l:List Int):(AV.sl false (l.map dT)).closed=true:=gP _ _ fun _ _=>rfl
theorem sY (l:List (Int×Int)):(AV.sl false (l.map kQ)).closed=true:=gP _ _ fun _ _=>rfl
theorem xO (n:Nd):n.av.closed=true:=by have h1:=sV n.a;have h2:=sY n.str;have h3:=dB n.num;simp only [Nd.av,AV.closed,aX] at h1 h2 h3 ⊢;simp only [h1,h2,h3,iR]
theorem aSx (i:Int):cK i≠[]:=by
 unfold cK
 split
 ·simp
 ·exact XE _ _
section
variable {s:St} {b p:Nat} {F:List Nat} {bs:List UInt8} {n:Nd} {Q:aE}
def Ky (s:St) (b p:Nat) (bs:List UInt8) (n:Nd) (F:List Nat):Prop:=Bu s b bs true F/\aI s/\s.h p=some (.cells n.av.cells 101 true true)/\p ∉ F
theorem Ky.adv (h:Ky s b p bs n F) (k:Nat):Ky (Ai.adv s k) b p bs n F:=⟨h.1.keep fun _ _=>rfl,h.2.1.adv,h.2.2.1,h.2.2.2⟩
theorem Ky.step {s':St} {bs':List UInt8} {F':List Nat} (h:Ky s b p bs n F) (h1:Bu s' b bs' true F') (h2:EF F s s') (h3:∀ j∈F',j∈F\/s.nx<=j):Ky s' b p bs' n F':=by
 have hp:=h.2.1.lt h.2.2.1;refine ⟨h1,h2.fr,by rw [h2.h p hp h.2.2.2];exact h.2.2.1,fun hm=>?_⟩;rcases h3 p hm with h3 | h3
 ·exact h.2.2.2 h3
 ·omega
theorem lM (n:Nd):n.av.cells=[.int .i64 n.op,.int .i64 n.so,.sl false (n.a.map dT),.str n.nm,.bool n.neg,fX n.num,.sl false (n.str.map kQ)]:=rfl
theorem bKx (h:Ky s b p bs n F) (hne:bs≠[]) (ho:n.ok) (hlen:bs.length<=2 ^ 36) (hQ:∀ s,Q (.str (bs++61::n.nm)) s):xW Q (.ptr b 0) (.ptr p 0) s:=by
 have h0:=h;obtain ⟨h1,h2,h3,h4⟩:=h.adv 6;unfold xW;refine DF h1 h2 hne (by omega) rfl fun s' h5 h6=>?_;have hp:=h2.lt h3;have h7:s'.h p=some (.cells n.av.cells 101 true true):=by rw [h6.h p hp h4];exact h3
 rw [gR (y:=[61]) (by simp only [List.length_cons,List.length_nil];omega)];simp only [wx,wy,reduceAdd,reduceEqDiff,reduceCtorEq];refine ⟨?_,?_⟩
 ·have hn:p ∉ rch (Ai.adv s 6) [.fn 108 [] [],.ptr b 0]:=fun hm=>h4 ((h1.rch rfl p).1 hm)
  have hmb:dK p (rch (Ai.adv s 6) [.fn 108 [] [],.ptr b 0])=false:=by
   cases hc:dK p (rch (Ai.adv s 6) [.fn 108 [] [],.ptr b 0]) with
   | false=>rfl
   | true=>exact absurd (bM.1 hc) hn
  have hlt:Nat.blt p (Ai.adv s 6).nx=true:=by simpa [Nat.blt_eq] using hp
  have hdj:lG (rch (Ai.adv s 6) [.fn 108 [] [],.ptr b 0]) [p]=true:=by
   have:∀ l:List Nat,(∀ x∈l,x≠p)->lG l [p]=true:=by
    intro l
    induction l with
    | nil=>intro _;rfl
    | cons x l ih =>
     intro hx
     have h1:Nat.beq x p=false:=by
      cases hb:Nat.beq x p with
      | false=>rfl
      | true=>exact absurd (iC hb) (hx x (m007 ..))
     simp only [lG,dK,h1,cond_false,Bool.or_self,m027,m031,ih fun y hy=>hx y (m005 _ hy)]
   exact this _ fun x hx he=>hn (by rw [<- he];exact hx)
  simp [clear,dV.apart,tH,bN,aF,lG,hmb,hlt,hdj];exact hp
 ·simp only [h7,lM,wx,wy,reduceAdd,reduceEqDiff,reduceCtorEq];rw [gR (by have:=ho.nm;simp only [m006,List.length_cons,List.length_nil];omega)];simp only [Bnd_some,m019,List.cons_append,List.nil_append];exact hQ _
theorem bGq (ho:n.ok) (r:List UInt8) (hQ:∀ s,Q (.str r) s):∀ (m i:Nat) (bs:List UInt8) (s:St) (F:List Nat),i+m=n.str.length->Ky s b p bs n F->bs≠[]->bs.length+64 * m<=2 ^ 36->r=bs++(n.str.drop i).flatMap (fun r=>32::cK r.1++42::cK r.2)++61::n.nm ->
  pN Q (m+1) (.ptr p 0) (.ptr b 0) (.sl false (n.str.map kQ)) (.int .i64 n.str.length) (.int .i64 i) s:=by
 intro m
 induction m with
 | zero =>
  intro i bs s F hi h hne hlen hr;show wO Q (pN Q 0) _ _ _ _ _ s;have c1:decide ((i:Int) < (n.str.length:Int))=false:=by simp;omega
  rw [m037 (by omega)] at hr;simp only [wO,c1,wx,wy,reduceAdd,reduceEqDiff,reduceCtorEq];refine bKx (h.adv 1) hne ho (by omega) fun s=>?_;rw [show bs++61::n.nm=r by rw [hr];simp];exact hQ s
 | succ m ih =>
  intro i bs s F hi h hne hlen hr;show wO Q (pN Q (m+1)) _ _ _ _ _ s;have c1:decide ((i:Int) < (n.str.length:Int))=true:=by simp;omega
  obtain ⟨q,hq⟩:∃ q,n.str[i]?=some q:=⟨_,m004 (by omega)⟩;rw [bZ _ i q hq,m024] at hr;have hq2:=ho.str q (m017 hq);have hix:=cM pO false hq .i64;have w1:IntKind.i64.wrap ((i:Int)+1)=((i+1:Nat):Int):=by have:=ho.sl;rw [IntWalk.i64_in _ (by omega)];rfl
  have hst:∀ (q':St) (k c:Nat),dN 2 (.ptr k 0) (kQ q) (Ai.adv (q'.set k (some (.cells (AV.agg [.int .i64 0,.int .i64 0]).cells 109 true true))) c)=some (Ai.adv (q'.set k (some (.cells (kQ q).cells 109 true true))) c):=fun q' k c=>by rw [bI (z:=2) (by rw [adv_h,aG]) rfl rfl rfl,adv_set,set_set]
  have hb:=h.2.1.lt (h.1.have b h.1.mem).choose_spec;have hp:=h.2.1.lt h.2.2.1;have hF:=h.1.lt h.2.1;simp only [wO,c1,hix,VW,aZi,hst,wx,wy,reduceAdd,reduceEqDiff,reduceCtorEq]
  have h1:Ky (Ai.adv (s.set (s.nx+3) (some (.cells (kQ q).cells 109 true true))) 15) b p bs n F :=
   ⟨h.1.keep fun j hj=>by rw [adv_h,aB (by have:=hF j hj;omega)],bW h.2.1 15 (by omega),by rw [adv_h,aB (by omega)];exact h.2.2.1,h.2.2.2⟩
  have e0:(kQ q).cells[0]?=some (.int .i64 q.1):=rfl;have e1:(kQ q).cells[1]?=some (.int .i64 q.2):=rfl;simp only [e0,e1,aG,wx,wy,reduceAdd,reduceEqDiff,reduceCtorEq];refine kB (SK q.1 hq2.1.1 hq2.1.2) (by simp [AV.closed]) ?_;have l1:=gE q.1;have l2:=gE q.2;rw [gR (x:=[32]) (by simp only [List.length_cons,List.length_nil];omega)];simp only [Bnd_some];rw [gR (y:=[42]) (by simp only [m006,List.length_cons,List.length_nil];omega)];simp only [e1,wx,wy,reduceAdd,reduceEqDiff,reduceCtorEq];refine kB (SK q.2 hq2.2.1 hq2.2.2) (by simp [AV.closed]) ?_;rw [gR (by simp only [m006,List.length_cons,List.length_nil];omega)];simp only [Bnd_some];refine TV h1.1 h1.2.1 (by simp) (by simp only [m006,List.length_cons,List.length_nil];omega) rfl fun s' F' g1 g2 g3=>?_;simp only [SP,w1,wx,wy,reduceAdd,reduceEqDiff,reduceCtorEq];exact ih (i+1) _ _ F' (by omega) ((h1.step g1 g2 g3).adv 2) (by simp) (by simp only [m006,List.length_cons,List.length_nil];omega) (by rw [hr];simp)
theorem bJy (h:Ky s b p bs n F) (hne:bs≠[]) (ho:n.ok) (hlen:bs.length<=2 ^ 30) (hQ:∀ s,Q (.str (bs++35::GA n.num++n.str.flatMap (fun r=>32::cK r.1++42::cK r.2)++61::n.nm)) s):xL Q (.ptr p 0) (.ptr b 0) s:=by
 have htx:=aTz ho.num ho.nl;unfold xL;obtain ⟨h1,h2,h3,h4⟩:=h.adv 6;simp only [h.2.2.1,lM,wx,wy,reduceAdd,reduceEqDiff,reduceCtorEq];refine aP (c59 n.num ho.num (by have:=ho.nl;omega)) (by simp [dB]) ?_;rw [gR (x:=[35]) (by simp only [List.length_cons,List.length_nil];omega)];simp only [Bnd_some];refine AM h1 h2 (by simp) (by simp only [m006,List.length_cons,List.length_nil];omega) fun s' F' g1 g2 g3=>?_;have h5:=(h.adv 6).step g1 g2 g3;have hl:∀ id s,bt .len #[25] [.sl false (n.str.map kQ)] id s=some (.int .i64 n.str.length,s):=fun id s=>by rw [bBt,m002]
 simp only [h5.2.2.1,lM,hl,wx,wy,reduceAdd,reduceEqDiff,reduceCtorEq];exact ⟨_,bGq ho _ hQ n.str.length 0 _ _ F' (by omega) (h5.adv 4) (by simp) (by have:=ho.sl;simp only [m006,List.length_cons,List.length_nil];omega) (by simp)⟩
theorem bGa (ho:n.ok) (r:List UInt8) (hQ:∀ s,Q (.str r) s):∀ (m i:Nat) (bs:List UInt8) (s:St) (F:List Nat),i+m=n.a.length->Ky s b p bs n F->bs≠[]->bs.length+22 * m<=2 ^ 30->r=bs++(n.a.drop i).flatMap (fun i=>32::cK i)++35::GA n.num++n.str.flatMap (fun r=>32::cK r.1++42::cK r.2)++61::n.nm ->
  qA Q (m+1) (.ptr p 0) (.ptr b 0) (.sl false (n.a.map dT)) (.int .i64 n.a.length) (.int .i64 i) s:=by
 intro m
 induction m with
 | zero =>
  intro i bs s F hi h hne hlen hr;show uL Q (qA Q 0) _ _ _ _ _ s;have c1:decide ((i:Int) < (n.a.length:Int))=false:=by simp;omega
  rw [m037 (by omega)] at hr;simp only [uL,c1,wx,wy,reduceAdd,reduceEqDiff,reduceCtorEq];refine bJy (h.adv 1) hne ho (by omega) fun s=>?_;rw [m042,m011] at hr;rw [<- hr];exact hQ s
 | succ m ih =>
  intro i bs s F hi h hne hlen hr;show uL Q (qA Q (m+1)) _ _ _ _ _ s;have c1:decide ((i:Int) < (n.a.length:Int))=true:=by simp;omega
  obtain ⟨q,hq⟩:∃ q,n.a[i]?=some q:=⟨_,m004 (by omega)⟩;rw [bZ _ i q hq,m024] at hr;have hq2:=ho.a q (m017 hq);have hix:=cM jP false hq .i64;have w1:IntKind.i64.wrap ((i:Int)+1)=((i+1:Nat):Int):=by have:=ho.al;rw [IntWalk.i64_in _ (by omega)];rfl
  have e0:(dT q).cells[0]?=some (.int .i64 q):=rfl;simp only [uL,c1,hix,e0,wx,wy,reduceAdd,reduceEqDiff,reduceCtorEq];refine aP (SK q hq2.1 hq2.2) (by simp [AV.closed]) ?_;have l1:=gE q;rw [gR (x:=[32]) (by simp only [List.length_cons,List.length_nil];omega)];simp only [Bnd_some];obtain ⟨h1,h2,_⟩:=h.adv 8;refine AM h1 h2 (by simp) (by simp only [m006,List.length_cons,List.length_nil];omega) fun s' F' g1 g2 g3=>?_;simp only [TH,w1,wx,wy,reduceAdd,reduceEqDiff,reduceCtorEq];exact ih (i+1) _ _ F' (by omega) (((h.adv 8).step g1 g2 g3).adv 2) (by simp) (by simp only [m006,List.length_cons,List.length_nil];omega) (by rw [hr];simp)
end
theorem bOh (n:Nd) (ho:n.ok):bA mEv 183 [n.av] (.str (jH n)):=by
 refine cR (aNq _ _ ?_);unfold f183;refine ⟨rfl,?_⟩;have hl:∀ id s,bt .len #[72] [.sl false (n.a.map dT)] id s=some (.int .i64 n.a.length,s):=fun id s=>by rw [LT,m002]
 have l1:=gE n.op;have l2:=gE n.so;have hz:(AV.agg [.nilp,.nils]).cells=[.nilp,.nils]:=rfl;simp only [aXu,lM,hz,wx,wy,reduceAdd,reduceEqDiff,reduceCtorEq];refine kB (SK n.op ho.op.1 ho.op.2) (by simp [AV.closed]) ?_;rw [gR (y:=[58]) (by simp only [List.length_cons,List.length_nil];omega)];simp only [lM,wx,wy,reduceAdd,reduceEqDiff,reduceCtorEq];refine kB (SK n.so ho.so.1 ho.so.2) (by simp [AV.closed]) ?_;rw [gR (by simp only [m006,List.length_cons,List.length_nil];omega)];simp only [Bnd_some]
 have h0:Ky (Ai.adv ((Ai.adv ((Ai.adv St.empty 2).set St.empty.nx (some (.cells n.av.cells 101 true true))) 1).set (St.empty.nx+2) (some (.cells [.nilp,.nils] 163 true true))) 9) 2 0 [] n [2] :=
  ⟨⟨.nilp,.nils,.inl rfl,rfl,.inl ⟨rfl,rfl,rfl⟩⟩,(((jF.adv.set (by decide)).adv).set (by show 2 < 3;decide)).adv,rfl,by decide⟩
 refine TV h0.1 h0.2.1 (by simp [aSx]) (by simp only [m006,List.length_cons,List.length_nil];omega) rfl fun s' F' g1 g2 g3=>?_;have h5:=h0.step g1 g2 g3;have hp:s'.h St.empty.nx=some (.cells n.av.cells 101 true true):=h5.2.2.1;simp only [hp,lM,hl,wx,wy,reduceAdd,reduceEqDiff,reduceCtorEq];refine ⟨_,bGa ho (jH n) (fun s=>aT rfl) n.a.length 0 _ _ F' (by omega) (h5.adv 4) (by simp) (by have:=ho.al;simp only [m006,List.length_cons,List.length_nil];omega) ?_⟩;simp [jH]
end
noncomputable section
def lS (x:List UInt8):AV:=.str x
theorem sF:PB lS 1:=⟨fun _=>rfl,fun _=>rfl⟩
theorem aXj:PB Nd.av 7:=⟨fun _=>rfl,fun _=>rfl⟩
def gM:Nat->List (List UInt8)->List (AV×AV)
 | _,[]=>[]
 | i,k::l=>(.str k,.int .i64 i)::gM (i+1) l
theorem aQn (l:List (List UInt8)) (k:List UInt8):∀ i,gM i (l++[k])=gM i l++[(.str k,.int .i64 ((i+l.length:Nat):Int))]:=by
 induction l with
 | nil=>intro i;rfl
 | cons a l ih=>intro i;simp only [List.cons_append,gM,ih,List.length_cons,show i+1+l.length=i+(l.length+1) by omega]
def tI (k:List UInt8):List (List UInt8)->Option Nat
 | []=>none
 | a::l=>bif k==a then some 0 else (tI k l).map (·+1)
theorem HM (k:List UInt8) (B:Bk):tI k (B.map jH)=hO k B:=by
 induction B with
 | nil=>rfl
 | cons n B ih=>simp only [m039,tI,hO,ih]
theorem IE (k:List UInt8):∀ (l:List (List UInt8)) (i:Nat),find (.str k) (gM i l)=some ((tI k l).map fun j=>.int .i64 ((i+j:Nat):Int)):=by
 intro l
 induction l with
 | nil=>intro i;rfl
 | cons a l ih =>
  intro i;simp only [gM,find,fZ,tI]
  cases h:(k==a) with
  | true=>simp
  | false =>simp only [ih,cond_false,Option.map_map];congr 2;funext j;simp only [Function.comp,show i+1+j=i+(j+1) by omega]
theorem aJy (k:List UInt8) (v:AV):∀ (l:List (List UInt8)) (i:Nat),tI k l=none->fQ (.str k) v (gM i l)=gM i l++[(.str k,v)]:=by
 intro l
 induction l with
 | nil=>intro i _;rfl
 | cons a l ih =>
  intro i h;simp only [tI] at h
  cases hb:(k==a) with
  | true=>rw [hb] at h;cases h
  | false =>rw [hb] at h;simp only [cond_false,Option.map_eq_none_iff] at h;simp only [gM,fQ,fZ,hb,ih (i+1) h,List.cons_append];rfl
section
variable {s s':St} {i:Nat} {F:List Nat} {K:aE}
def MpR (s:St) (m:AV) (l:List (List UInt8)):Prop:=(m=.nilm/\l=[])\/∃ j,m=.map j/\s.h j=some (.map (gM 0 l))
def BkC (s:St) (i:Nat) (B:Bk) (xl m xn:AV):Prop :=
 s.h i=some (.cells [xl,m,xn] 58 true true)/\Gw 9 1 0 s xl ((B.map jH).map lS)/\MpR s m (B.map jH)/\Gw 101 7 0 s xn (B.map Nd.av)/\(i::(aF xl++aF m++aF xn)).Nodup/\(∀ n∈B,n.ok)/\B.length<=20000
def kK (s:St) (i:Nat) (B:Bk) (F:List Nat):Prop:=∃ xl m xn,BkC s i B xl m xn/\F=i::(aF xl++aF m++aF xn)
theorem MpR.keep {m:AV} {l:List (List UInt8)} (h:MpR s m l) (hk:∀ j∈aF m,s'.h j=s.h j):MpR s' m l:=by
 rcases h with h | ⟨j,rfl,h⟩
 ·exact .inl h
 ·exact .inr ⟨j,rfl,by rw [hk j (by simp [aF])];exact h⟩
theorem kK.keep {B:Bk} (h:kK s i B F) (hk:∀ j∈F,s'.h j=s.h j):kK s' i B F:=by obtain ⟨xl,m,xn,⟨h1,h2,h3,h4,h5⟩,rfl⟩:=h;exact ⟨xl,m,xn,⟨by rw [hk i (by simp)];exact h1,h2.keep fun j hj=>hk j (by simp [hj]),h3.keep fun j hj=>hk j (by simp [hj]),h4.keep fun j hj=>hk j (by simp [hj]),h5⟩,rfl⟩
theorem Gw.has {e:TypeId} {z:Nat} {x:AV} {vs:List AV} (g:Gw e z 0 s x vs):∀ j∈aF x,s.h j=some (.cells (vs.flatMap AV.cells) e false true):=by
 obtain ⟨_,⟨rfl,rfl⟩ | ⟨id,_,rfl,h⟩⟩:=g
 ·intro j hj;cases hj
 ·intro j hj;simp only [aF,m008] at hj;subst hj;exact h
theorem MpR.has {m:AV} {l:List (List UInt8)} (h:MpR s m l):∀ j∈aF m,s.h j=some (.map (gM 0 l)):=by
 rcases h with ⟨rfl,_⟩ | ⟨k,rfl,h⟩
 ·intro j hj;cases hj
 ·intro j hj;simp only [aF,m008] at hj;subst hj;exact h
theorem kK.have {B:Bk} (h:kK s i B F):∀ j∈F,∃ b,s.h j=some b:=by
 obtain ⟨xl,m,xn,⟨h1,h2,h3,h4,h5⟩,rfl⟩:=h;intro j hj;simp only [m013,m003] at hj;rcases hj with rfl | (hj | hj) | hj
 ·exact ⟨_,h1⟩
 ·exact ⟨_,h2.has j hj⟩
 ·exact ⟨_,h3.has j hj⟩
 ·exact ⟨_,h4.has j hj⟩
theorem kK.lt {B:Bk} (h:kK s i B F) (fr:aI s):∀ j∈F,j < s.nx:=fun j hj=>by obtain ⟨b,hb⟩:=h.have j hj;exact fr.lt hb
theorem kK.mem {B:Bk} (h:kK s i B F):i∈F:=by obtain ⟨xl,m,xn,_,rfl⟩:=h;simp
theorem kK.adv {B:Bk} {n:Nat} (h:kK s i B F):kK (Ai.adv s n) i B F:=h.keep fun _ _=>rfl
theorem jB {l:List AV} (h:aX l=true):dA l=[]:=by
 have key:(∀ v:AV,v.closed=true->eD v=[])/\∀ l:List AV,aX l=true->dA l=[]:=by
  constructor
  ·intro v
   exact AV.rec (motive_1:=fun v=>v.closed=true->eD v=[]) (motive_2:=fun l=>aX l=true->dA l=[])
    (fun _=>rfl) (fun _ _=>rfl) (fun _ _ _=>rfl) (fun _ _=>rfl) (fun _=>rfl) (fun _ _ h=>by cases h) (fun cs _ ih h=>by simp only [AV.closed] at h;simp only [eD,ih h])
    (fun _=>rfl) (fun h=>by cases h) (fun ex l ih h=>by simp only [AV.closed,cQ] at h;simp only [eD,ih h.2]) (fun _ _ _ _ _ h=>by cases h) (fun _=>rfl) (fun _ h=>by cases h) (fun _=>rfl) (fun _ h=>by cases h) (fun _=>rfl)
    (fun _ a b iha ihb h=>by simp only [AV.closed,cQ] at h;simp only [eD,iha h.1,ihb h.2,m011]) (fun _=>rfl) (fun _ _ _ h=>by cases h) (fun cs ih h=>by simp only [AV.closed] at h;simp only [eD,ih h]) (fun cs ih h=>by simp only [AV.closed] at h;simp only [eD,ih h])
    (fun _=>rfl) (fun v l ih1 ih2 h=>by simp only [aX,cQ] at h;simp only [dA,ih1 h.1,ih2 h.2,m011]) v
  ·intro l
   exact AV.rec_1 (motive_1:=fun v=>v.closed=true->eD v=[]) (motive_2:=fun l=>aX l=true->dA l=[])
    (fun _=>rfl) (fun _ _=>rfl) (fun _ _ _=>rfl) (fun _ _=>rfl) (fun _=>rfl) (fun _ _ h=>by cases h) (fun cs _ ih h=>by simp only [AV.closed] at h;simp only [eD,ih h])
    (fun _=>rfl) (fun h=>by cases h) (fun ex l ih h=>by simp only [AV.closed,cQ] at h;simp only [eD,ih h.2]) (fun _ _ _ _ _ h=>by cases h) (fun _=>rfl) (fun _ h=>by cases h) (fun _=>rfl) (fun _ h=>by cases h) (fun _=>rfl)
    (fun _ a b iha ihb h=>by simp only [AV.closed,cQ] at h;simp only [eD,iha h.1,ihb h.2,m011]) (fun _=>rfl) (fun _ _ _ h=>by cases h) (fun cs ih h=>by simp only [AV.closed] at h;simp only [eD,ih h]) (fun cs ih h=>by simp only [AV.closed] at h;simp only [eD,ih h])
    (fun _=>rfl) (fun v l ih1 ih2 h=>by simp only [aX,cQ] at h;simp only [dA,ih1 h.1,ih2 h.2,m011]) l
 exact key.2 l h
theorem aJr (l:List (List UInt8)):∀ i,dA ((gM i l).map (·.2))=[]:=by
 induction l with
 | nil=>intro i;rfl
 | cons a l ih=>intro i;simp only [gM,m039,dA,ih];rfl
theorem BR {vs:List AV} (h:∀ v∈vs,v.closed=true):dA (vs.flatMap AV.cells)=[]:=jB (mI h)
theorem BJ {x:AV} (h:(∃ e z vs,Gw e z 0 s x vs)\/∃ l,MpR s x l):eD x=aF x:=by rcases h with ⟨e,z,vs,_,⟨rfl,rfl⟩ | ⟨id,_,rfl,_⟩⟩ | ⟨l,⟨rfl,_⟩ | ⟨k,rfl,_⟩⟩<;>rfl
theorem kK.rch {B:Bk} (h:kK s i B F) {vs:List AV} (hv:dA vs=[i]):∀ j,j∈rch s vs↔j∈F:=by
 obtain ⟨xl,m,xn,⟨h1,h2,h3,h4,h5⟩,rfl⟩:=h;have hb:dZ (.cells [xl,m,xn] 58 true true)=aF xl++aF m++aF xn:=by simp only [dZ,dA,BJ (s:=s) (.inl ⟨_,_,_,h2⟩),BJ (s:=s) (.inr ⟨_,h3⟩),BJ (s:=s) (.inl ⟨_,_,_,h4⟩),m011,m019]
 intro j;rw [vU hv h1]
 ·rw [hb];simp
 ·rw [hb];have hl:∀ x:AV,(aF x).length<=1:=fun x=>by cases x<;>simp [aF]
  have a:=hl xl;have b:=hl m;have c:=hl xn;simp only [m006];omega
 ·rw [hb];intro j hj b hb2;right;simp only [m003] at hj;rcases hj with (hj | hj) | hj
  ·rw [h2.has j hj] at hb2;cases hb2;exact BR fun v hv=>by obtain ⟨c,_,rfl⟩:=m021.1 hv;rfl
  ·rw [h3.has j hj] at hb2;cases hb2;exact aJr _ _
  ·rw [h4.has j hj] at hb2;cases hb2;exact BR fun v hv=>by obtain ⟨c,_,rfl⟩:=m021.1 hv;exact xO c
theorem aMj {B:Bk} {x:AV} (g:Gw 101 7 0 s x (B.map Nd.av)) (id:Nat):bt .len #[56] [x] id s=some (.int .i64 B.length,s):=by
 have:=bFy g id
 rwa [m002] at this
theorem aZs {B:Bk} (h:kK s i B F) (hK:K (.int .i64 B.length) (Ai.adv s 9)):aL mEv 31 [.ptr i 0] s K:=by obtain ⟨xl,m,xn,⟨h1,h2,h3,h4,h5⟩,rfl⟩:=h;refine bO (by kernel_rfl) (aWv _ _ ?_);unfold f31;simp only [aKi,h1,wx,wy,reduceAdd,reduceEqDiff,reduceCtorEq];refine ⟨rfl,?_⟩;simp only [h1,aMj (h4.adv),wx,wy,reduceAdd,reduceEqDiff,reduceCtorEq];exact hK
theorem UQ:eH Tryz.ty 53=some (.map 9 3):=by kernel_rfl
theorem aPl {m:AV} {l:List (List UInt8)} (h:MpR s m l) (k:List UInt8):eA Tryz.ty 53 m (.str k) true s=some (.tup [.int .i64 (((tI k l).getD 0:Nat):Int),.bool (tI k l).isSome]):=by
 have h9:eH Tryz.ty 9=some .string:=by kernel_rfl
 have hz:zero Tryz.ty 3=some (.int .i64 0):=by kernel_rfl
 have he:jK m (.str k) s=some ((tI k l).map fun j=>.int .i64 (j:Int)):=by
  rcases h with ⟨rfl,rfl⟩ | ⟨j,rfl,hj⟩
  ·rfl
  ·simp only [jK,hj,IE,m023]
 simp only [eA,UQ,h9,Option.bind_some,tF,if_true,hz,he,Option.map_some];cases tI k l<;>rfl
theorem bFd {xl m xn:AV} {l:List (List UInt8)} (h1:s.h i=some (.cells [xl,m,xn] 58 true true)) (h:MpR s m l) (k:List UInt8) (hK:K (.tup [.int .i64 (((tI k l).getD 0:Nat):Int),.bool (tI k l).isSome]) (Ai.adv s 19)):aL mEv 184 [.ptr i 0,.str k] s K:=by
 refine bO (by kernel_rfl) (aPm _ _ _ ?_);unfold f184;have e1:bn .eql 277 (.ptr i 0) .nilp=some (.bool false):=by kernel_rfl
 simp only [e1,wx,wy,reduceAdd,reduceEqDiff,reduceCtorEq];refine ⟨rfl,?_⟩;simp only [h1,aPl (s:=Ai.adv s 15) (h.keep fun _ _=>rfl),wx,wy,reduceAdd,reduceEqDiff,reduceCtorEq];exact hK
theorem bMn {j:Nat} {l:List (List UInt8)} {S:St} (h:S.h j=some (.map (gM 0 l))) (k:List UInt8) (hk:tI k l=none) (v:AV):eI Tryz.ty 53 (.map j) (.str k) v S=some (S.set j (some (.map (gM 0 l++[(.str k,v)])))):=by
 have h9:eH Tryz.ty 9=some .string:=by kernel_rfl
 simp only [eI,UQ,h9,Option.bind_some,h,tF,if_true,IE,hk,aJy k v l 0 hk,Option.map_none,Option.map_some]
theorem sR {x:AV} {l:List (List UInt8)} (g:Gw 9 1 0 s x (l.map lS)) (id:Nat):bt .len #[52] [x] id s=some (.int .i64 l.length,s):=by
 have:=bHe g id
 rwa [m002] at this
theorem bDz {xl m xn:AV} {l:List (List UInt8)} (fr:aI s) (h1:s.h i=some (.cells [xl,m,xn] 58 true true)) (h2:Gw 9 1 0 s xl (l.map lS)) (h:MpR s m l) (hd:(i::(aF xl++aF m)).Nodup) (k:List UInt8) (hk:tI k l=none) (hl:l.length<=20000) :
  ∃ r s',WideC mEv 185 [.ptr i 0,.str k] s r s'/\r=.tup [.int .i64 l.length,.bool true]/\∃ j' n',s'.h i=some (.cells [.ref n' 0 (l.length+1) none 9,.map j',xn] 58 true true)/\Gw 9 1 0 s' (.ref n' 0 (l.length+1) none 9) ((l++[k]).map lS) /\
   s'.h j'=some (.map (gM 0 (l++[k])))/\EF (i::(aF xl++aF m)) s s'/\s.nx<=n'/\(j'∈aF m\/s.nx<=j')/\j'≠n':=by
 refine aNp _ _ _ ?_;have e1:bn .eql 277 (.ptr i 0) .nilp=some (.bool false):=by kernel_rfl
 have hi:=fr.lt h1;have wl:IntKind.i64.wrap (((l.length:Nat):Int)+1 - 1)=(l.length:Int):=by rw [IntWalk.i64_in _ (by omega)];omega
 have bs:lE 52 1 [(0,.str k)]=some (.sl true [lS k]):=eB AZ (by decide) rfl rfl
 have key:∀ (Q:aE) (S:St) (j:Nat),S.h i=some (.cells [xl,.map j,xn] 58 true true)->Gw 9 1 0 S xl (l.map lS)->S.h j=some (.map (gM 0 l))->j ∉ i::aF xl->EF (i::(aF xl++aF m)) s S->(j∈aF m\/s.nx<=j) ->
   (∀ s',(∃ j' n',s'.h i=some (.cells [.ref n' 0 (l.length+1) none 9,.map j',xn] 58 true true)/\Gw 9 1 0 s' (.ref n' 0 (l.length+1) none 9) ((l++[k]).map lS) /\
   s'.h j'=some (.map (gM 0 (l++[k])))/\EF (i::(aF xl++aF m)) s s'/\s.nx<=n'/\(j'∈aF m\/s.nx<=j')/\j'≠n')->Q (.tup [.int .i64 l.length,.bool true]) s')->BG Q (.ptr i 0) (.str k) S:=by
  intro Q S j g1 g2 g3 g4 g5 g6 hQ;have hj:=g5.fr.lt g3;have hi2:=g5.fr.lt g1;have hxl:∀ y∈aF xl,y < S.nx:=fun y hy=>g5.fr.lt (g2.has y hy);have hji:j≠i:=fun hh=>g4 (by simp [hh]);have hjx:j ∉ aF xl:=fun hh=>g4 (by simp [hh]);have hix:i ∉ aF xl:=fun hh=>by simp only [m036,m003] at hd;exact hd.1 (.inl hh)
  have hn:=g5.nx;unfold BG;refine ⟨rfl,?_⟩;simp only [g1,wx,wy,reduceAdd,reduceEqDiff,reduceCtorEq];refine ⟨rfl,?_⟩;simp only [g1,sR g2.adv,wx,wy,reduceAdd,reduceEqDiff,reduceCtorEq];refine ⟨g5.fr _ (by omega),?_⟩;rw [bMn (S:=Ai.adv S 11) g3 k hk];simp only [Bnd_some];refine ⟨rfl,?_⟩;have g1':(S.set j (some (.map (gM 0 l++[(.str k,.int .i64 l.length)])))).h i=some (.cells [xl,.map j,xn] 58 true true):=by rw [aB hji.symm];exact g1
  have g2':Gw 9 1 0 (S.set j (some (.map (gM 0 l++[(.str k,.int .i64 l.length)])))) xl (l.map lS):=g2.keep fun y hy=>aB fun hh=>hjx (by rw [<- hh];exact hy);have happ:=gQ AZ sF (g2'.adv (n:=22)) (by omega) (by omega) k true (S.nx+18);simp only [g1',bs,happ,wx,wy,reduceAdd,reduceEqDiff,reduceCtorEq];refine ⟨rfl,?_⟩;obtain ⟨M,hM⟩:∃ M,M=(some (gL.map (gM 0 l++[(AV.str k,AV.int .i64 l.length)])):Option gL):=⟨_,rfl⟩;obtain ⟨C,hC⟩:∃ C,C=(some (gL.cells (((l++[k]).map lS).flatMap AV.cells) 9 false true):Option gL):=⟨_,rfl⟩;rw [<- hM,<- hC];rw [<- hM] at g1';have z1:(Ai.adv (((S.set j M).drop (aF xl)).set (S.nx+18) C) 22).h i=some (.cells [xl,.map j,xn] 58 true true):=by rw [adv_h,get_set,if_neg (by omega),get_drop',if_neg hix];exact g1'
  rw [dW (c:=[xl,.map j,xn]) z1 (by simp) rfl rfl];simp only [wx,wy,reduceAdd,reduceEqDiff,reduceCtorEq];refine ⟨rfl,?_⟩;have z2:(Ai.adv ((((S.set j M).drop (aF xl)).set (S.nx+18) C).set i (some (.cells [.ref (S.nx+18) 0 (l.length+1) none 9,.map j,xn] 58 true true))) 22).h i=some (.cells [.ref (S.nx+18) 0 (l.length+1) none 9,.map j,xn] 58 true true):=by rw [adv_h,aG]
  simp only [List.set_cons_zero,if_true,aZy,wx,wy,reduceAdd,reduceEqDiff,reduceCtorEq];have wl2:IntKind.i64.wrap (((l.length+1:Nat):Int) - 1)=(l.length:Int):=by rw [IntWalk.i64_in _ (by omega)];omega
  rw [wl2];refine hQ _ ⟨j,S.nx+18,by rw [adv_h,aG],?_,?_,?_,by omega,g6,by omega⟩
  ·have:=jW (l:=l) (a:=k) sF (e:=9) (id:=S.nx+18) (n:=30) (s0:=S);refine this.keep fun y hy=>?_;simp only [aF,m008] at hy;subst hy;rw [adv_h,aB (by omega),aG,adv_h,aG,hC]
  ·rw [adv_h,aB hji,aB (by omega),get_drop',if_neg hjx,aG,hM,aQn,m023]
  ·refine ⟨by simp only [adv_nx,set_nx,nx_drop];omega,fun y hy hn2=>?_,fun y hy=>?_⟩
   ·simp only [m013,m003,not_or] at hn2;have hyj:y≠j:=fun hh=>g6.elim (fun h=>hn2.2.2 (by rw [hh];exact h)) fun h=>by omega
    rw [adv_h,get_set,if_neg hn2.1,get_set,if_neg (by omega),get_drop',if_neg hn2.2.1,get_set,if_neg hyj];exact g5.h y hy (by simp only [m013,m003,not_or];exact hn2)
   ·have hy:S.nx+22+8<=y:=by simp only [adv_nx,set_nx,nx_drop] at hy;omega
    rw [adv_h,get_set,if_neg (by omega),get_set,if_neg (by omega),get_drop']
    split
    ·rfl
    ·rw [get_set,if_neg (by omega)];exact g5.fr y (by omega)
 unfold f185;simp only [e1,wx,wy,reduceAdd,reduceEqDiff,reduceCtorEq];refine ⟨rfl,?_⟩;simp only [h1,aPl (s:=Ai.adv s 15) (h.keep fun _ _=>rfl),hk,Option.isSome_none,wx,wy,reduceAdd,reduceEqDiff,reduceCtorEq];refine ⟨rfl,?_⟩;have hdx:i ∉ aF xl/\i ∉ aF m/\∀ y∈aF m,y ∉ aF xl:=by simp only [m036,m003,not_or,m063] at hd;exact ⟨hd.1.1,hd.1.2,fun y hy hx=>hd.2.2.2 y hx y hy rfl⟩
 rcases h with ⟨rfl,rfl⟩ | ⟨j,rfl,hj⟩
 ·have e2:bn .eql 53 .nilm .nilm=some (.bool true):=by kernel_rfl
  simp only [h1,e2,wx,wy,reduceAdd,reduceEqDiff,reduceCtorEq];refine ⟨rfl,?_⟩;rw [dW (c:=[xl,.nilm,xn]) (by rw [adv_h,aB (by omega)];exact h1) (by simp) rfl rfl];simp only [wx,wy,reduceAdd,reduceEqDiff,reduceCtorEq];refine key _ _ (s.nx+22) (by rw [adv_h,aG];rfl) ?_ (by rw [adv_h,aB (by omega),aG];rfl) ?_ ?_ (.inr (by omega)) fun s' hs'=>⟨rfl,hs'⟩
  ·refine h2.keep fun y hy=>?_;have:=fr.lt (h2.has y hy);rw [adv_h,aB (fun hh=>hdx.1 (by rw [<- hh];exact hy)),aB (by omega)]
  ·intro hm;rcases m013.1 hm with hm | hm
   ·omega
   ·have:=fr.lt (h2.has _ hm);omega
  ·refine ⟨by simp only [adv_nx,set_nx];omega,fun y hy hn2=>?_,fun y hy=>?_⟩
   ·simp only [m013,m003,not_or] at hn2;rw [adv_h,get_set,if_neg hn2.1,get_set,if_neg (by omega)]
   ·have hy:s.nx+26<=y:=hy;rw [adv_h,get_set,if_neg (by omega),get_set,if_neg (by omega)];exact fr y (by omega)
 ·have e2:bn .eql 53 (.map j) .nilm=some (.bool false):=by kernel_rfl
  simp only [h1,e2,wx,wy,reduceAdd,reduceEqDiff,reduceCtorEq];refine key _ _ j h1 (h2.keep fun y _=>rfl) hj ?_ (EF.refl _ fr).adv (.inl (by simp [aF])) fun s' hs'=>⟨rfl,hs'⟩;intro hm;rcases m013.1 hm with hm | hm
  ·exact hdx.2.1 (by simp [aF,hm])
  ·exact hdx.2.2 j (by simp [aF]) hm
end
end
noncomputable section
section
variable {α:Type} {f:α->AV} {t e z b:Nat} {ag:Bool}
theorem GG (h:eO t e z ag b) (he:PB f z) (l:List α) (hne:l≠[]) (hb:l.length * b<=2 ^ 40) (hl:l.length<=2 ^ 40) (s:St) :
  ∃ s',cE Tryz.ty e [.sl false (l.map f)] s=some (.ref (s.nx+5) 0 l.length none e,s')/\Gw e z 0 s' (.ref (s.nx+5) 0 l.length none e) (l.map f):=by
 obtain ⟨a,l',rfl⟩:∃ a l',l=a::l':=by
  cases l with
  | nil=>exact absurd rfl hne
  | cons a l'=>exact ⟨a,l',rfl⟩
 have hw:=rF (l:=a::l') he.len he.ones;have hlen:=dJ hw;rw [m002] at hlen;have hall:((a::l').map f).all (fun v=>v.cells.length==z)=true:=m032.2 fun v hv=>by simp [(hw v hv).1]
 have hone:(((a::l').map f).flatMap AV.cells).all AV.one=true:=m032.2 fun c hc=>by obtain ⟨v,hv,hc⟩:=List.mem_flatMap.1 hc;exact m032.1 (hw v hv).2 c hc
 have hem:(((a::l').map f).flatMap AV.cells).isEmpty=false:=by
  cases hc:((a::l').map f).flatMap AV.cells with
  | nil =>rw [hc] at hlen;have hp:=h.pos;have:=Nat.mul_pos (show 0 < (a::l').length by simp) hp;simp only [List.length_nil] at hlen;omega
  | cons x y=>rfl
 have hdiv:(((a::l').map f).flatMap AV.cells).length / z=(a::l').length:=by rw [hlen];exact EB _ h.pos
 refine ⟨St.set ⟨s.h,s.nx+7⟩ (s.nx+5) (some (.cells (((a::l').map f).flatMap AV.cells) e false true)),?_,?_⟩
 ·unfold cE;simp only [h.l,h.b];show cond (mE (.sl false (f a::l'.map f))) ((aR z (.sl false ((a::l').map f)) s).bind fun c=>bL e z b (.sl true []) c (s.nx+5) ⟨s.h,s.nx+7⟩) none=_;simp only [mE,cond_true,aR,hall,if_true,Option.bind_some];unfold bL;simp only [hem,hone,m025,m015,if_false,List.all_nil,if_true,m042,List.nil_append,dM,hdiv,rI hb hl,jV]
 ·exact ⟨hw,.inr ⟨_,mM _,by rw [m002],aG⟩⟩
theorem LK {k:FuncId} (h:eO t e 1 false b) (he:PB f 1) (hp:mEv.prim k=some (cE Tryz.ty e)) (l:List α) (hb:l.length * b<=2 ^ 40) (hl:l.length<=2 ^ 40) (h1:∀ a∈l,(f a).closed=true) (h2:∀ a∈l,iG (f a)=true):bA mEv k [.sl false (l.map f)] (.sl false (l.map f)):=by
 by_cases hne:l=[]
 ·subst hne;refine cR ⟨_,_,mV hp (r:=.sl false []) (s':=⟨St.empty.h,St.empty.nx+7⟩) ?_,aT rfl⟩;unfold cE;simp only [h.l,h.b];rfl
 ·obtain ⟨s',h3,h4⟩:=GG h he l hne hb hl St.empty;exact cR ⟨_,_,mV hp h3,CC (qK h h4 h1 h2 11)⟩
theorem MP {k:FuncId} (h:eO t e z true b) (he:PB f z) (hp:mEv.prim k=some (cE Tryz.ty e)) (l:List α) (hb:l.length * b<=2 ^ 40) (hl:l.length<=2 ^ 40) (h1:∀ a∈l,(f a).closed=true) (h2:∀ a∈l,f a=.agg (f a).cells):bA mEv k [.sl false (l.map f)] (.sl false (l.map f)):=by
 by_cases hne:l=[]
 ·subst hne;refine cR ⟨_,_,mV hp (r:=.sl false []) (s':=⟨St.empty.h,St.empty.nx+7⟩) ?_,aT rfl⟩;unfold cE;simp only [h.l,h.b];rfl
 ·obtain ⟨s',h3,h4⟩:=GG h he l hne hb hl St.empty;exact cR ⟨_,_,mV hp h3,CC (IZ h h4 h1 h2 11)⟩
end
theorem aRf {s s':St} (h:∀ m,s.h m=s'.h m) (hn:s.nx=s'.nx):s=s':=by cases s;cases s';simp only at h hn;subst hn;congr 1;exact funext h
theorem aEu {q:St} {a b:Nat} {x y w:Option gL} (h:a≠b):((q.set a x).set b y).set a w=(q.set a w).set b y:=by
 refine aRf (fun m=>?_) rfl;simp only [get_set];by_cases h1:m=a
 ·subst h1;simp [h]
 ·simp [h1]
theorem bPz (l:List Int) (hl:l.length<=2 ^ 30):bA mEv 152 [.sl false (l.map dT)] (.sl false (l.map dT)):=LK sB jP (by kernel_rfl) l (by omega) (by omega) (fun _ _=>rfl) (fun _ _=>rfl)
theorem bQi (l:List Nat) (hl:l.length<=2 ^ 30):bA mEv 153 [fX l] (fX l):=LK (f:=kX) ET QI (by kernel_rfl) l (by omega) (by omega) (fun _ _=>rfl) (fun _ _=>rfl)
theorem bOx (l:List (Int×Int)) (hl:l.length<=2 ^ 30):bA mEv 154 [.sl false (l.map kQ)] (.sl false (l.map kQ)):=MP aRm pO (by kernel_rfl) l (by omega) (by omega) (fun _ _=>rfl) (fun _ _=>rfl)
theorem WB (n:Nd):Ai.part 7 true 0 n.av.cells=some n.av:=rfl
theorem bKq (n:Nd) (ho:n.ok):bA mEv 104 [n.av] n.av:=by
 refine cR (aLs _ _ ?_);unfold f104;refine ⟨rfl,?_⟩;have h1:=ho.al;have h2:=ho.nl;have h3:=ho.sl
 have hset:∀ (C:List AV) (c k off:Nat) (v:AV) (q:St),off < C.length->v.cells=[v]->v.one=true->dN 1 (.ptr k off) v (Ai.adv ((q.set k (some (.cells C 101 true true))).set (k+1) (some (.cells [.int .i64 0,.int .i64 0,.nils,.str [],.bool false,.nils,.nils] 101 true true))) c) =
   some (Ai.adv ((q.set k (some (.cells (C.set off v) 101 true true))).set (k+1) (some (.cells [.int .i64 0,.int .i64 0,.nils,.str [],.bool false,.nils,.nils] 101 true true))) c):=fun C c k off v q ho hv hone=>by
  rw [dW (c:=C) (by rw [adv_h,aB (by omega),aG]) ho hv hone,adv_set,aEu (by omega)]
 have hz:(AV.agg [.int .i64 0,.int .i64 0,.nils,.str [],.bool false,.nils,.nils]).cells=[.int .i64 0,.int .i64 0,.nils,.str [],.bool false,.nils,.nils]:=rfl;have e0:St.empty.nx=0:=rfl;simp only [IF,lM,hz,wx,wy,reduceAdd,reduceEqDiff,reduceCtorEq];refine aP (bPz n.a (by omega)) (by simp [sV]) ?_;rw [hset _ _ _ 2 _ _ (by simp) rfl rfl];simp only [List.set_cons_succ,List.set_cons_zero,wx,wy,reduceAdd,reduceEqDiff,reduceCtorEq];refine aP (bQi n.num (by omega)) (by simp [dB]) ?_;rw [hset _ _ _ 5 _ _ (by simp) rfl rfl];simp only [List.set_cons_succ,List.set_cons_zero,wx,wy,reduceAdd,reduceEqDiff,reduceCtorEq];refine aP (bOx n.str (by omega)) (by simp [sY]) ?_;rw [hset _ _ _ 6 _ _ (by simp) rfl rfl];have hp:Ai.part 7 true 0 [AV.int .i64 n.op,.int .i64 n.so,.sl false (n.a.map dT),.str n.nm,.bool n.neg,fX n.num,.sl false (n.str.map kQ)]=some n.av:=rfl;simp only [List.set_cons_succ,List.set_cons_zero,hp,wx,wy,reduceAdd,reduceEqDiff,reduceCtorEq];rw [bI (z:=7) (by rw [adv_h,aG]) rfl rfl rfl];simp only [WB,wx,wy,reduceAdd,reduceEqDiff,reduceCtorEq];exact aT (xO n)
structure Raw (v:AV) (n:Nd):Prop where
 ones:v.cells.all AV.one=true
 part:Ai.part 7 true 0 v.cells=some v
 pur:∀ S,Ai.pur mEv.P S 12 v=some (n.av,[])
theorem Raw.purl {v:AV} {n:Nd} (h:Raw v n) (S:St):dH (Ai.pur mEv.P S 12) [v]=some ([n.av],[]):=by simp only [dH,h.pur,m011]
theorem aSk {B:Bk} {n:Nd} (h:hO (jH n) B=none) (hl:B.length≠20000):gF B n=(((B.length:Int),0),B++[n]):=by
 rcases sQ B n with ⟨i,h1,_⟩ | ⟨_,h2,_⟩ | ⟨_,_,h3⟩
 ·rw [h] at h1;cases h1
 ·exact absurd h2 hl
 ·exact h3
theorem bMq {s:St} {i:Nat} {B:Bk} {F:List Nat} {v:AV} {n:Nd} (fr:aI s) (hB:kK s i B F) (ho:n.ok) (hv:Raw v n) :
  ∃ r s',WideC mEv 131 [.ptr i 0,v] s r s'/\r=.tup [.int .i64 (gF B n).1.1,.int .i64 (gF B n).1.2]/\∃ F',kK s' i (gF B n).2 F'/\EF F s s'/\∀ j∈F',j∈F\/s.nx<=j:=by
 have hF:=hB.lt fr;obtain ⟨xl,m,xn,⟨h1,h2,h3,h4,h5,h6,h7⟩,rfl⟩:=hB;have hi:=fr.lt h1;refine aOc _ _ _ ?_;unfold f131;refine ⟨hv.ones,?_⟩;simp only [aKi,hv.part,wx,wy,reduceAdd,reduceEqDiff,reduceCtorEq];refine AR (hv.purl _) (bOh n ho) rfl ?_;refine ⟨rfl,?_⟩;have hne:∀ y∈i::(aF xl++aF m++aF xn),y≠s.nx:=fun y hy=>by have:=hF y hy;omega
 have hh:∀ (k y:Nat) (C:Option gL),y∈i::(aF xl++aF m++aF xn)->(Ai.adv (s.set s.nx C) k).h y=s.h y:=fun k y C hy=>by rw [adv_h,aB (hne y hy)]
 have hE:∀ (k:Nat) (C:Option gL),0 < k->EF (i::(aF xl++aF m++aF xn)) s (Ai.adv (s.set s.nx C) k):=fun k C hk=>⟨by simp only [adv_nx,set_nx];omega,fun j hj _=>by rw [adv_h,aB (by omega)],bW fr k (by omega)⟩;simp only [wx,wy,reduceAdd,reduceEqDiff,reduceCtorEq];refine bFd (xl:=xl) (m:=m) (xn:=xn) (l:=B.map jH) (by rw [hh _ _ _ (by simp)];exact h1) (h3.keep fun j hj=>hh _ _ _ (by simp [hj])) (jH n) ?_;simp only [HM,wx,wy,reduceAdd,reduceEqDiff,reduceCtorEq]
 cases hf:hO (jH n) B with
 | some k =>rw [xX hf];simp only [Option.isSome_some,Option.getD_some,wx,wy,reduceAdd,reduceEqDiff,reduceCtorEq];refine ⟨_,⟨xl,m,xn,⟨by rw [hh _ _ _ (by simp)];exact h1,h2.keep fun j hj=>hh _ _ _ (by simp [hj]),h3.keep fun j hj=>hh _ _ _ (by simp [hj]),h4.keep fun j hj=>hh _ _ _ (by simp [hj]),h5,h6,h7⟩,rfl⟩,hE _ _ (by omega),fun j hj=>.inl hj⟩
 | none =>
  simp only [Option.isSome_none,Option.getD_none,wx,wy,reduceAdd,reduceEqDiff,reduceCtorEq];refine ⟨rfl,?_⟩;have hx:∀ k C id,bt .len #[56] [xn] id (Ai.adv (s.set s.nx C) k)=some (.int .i64 B.length,Ai.adv (s.set s.nx C) k):=fun k C id=>aMj (h4.keep fun j hj=>hh _ _ _ (by simp [hj])) id;have hi0:¬ (i=s.nx):=by omega
  simp only [h1,hi0,hx,if_false,wx,wy,reduceAdd,reduceEqDiff,reduceCtorEq];by_cases hl:B.length=20000
  ·have:gF B n=((0,2),B):=by
    rcases sQ B n with ⟨i,h1,_⟩ | ⟨_,_,h3⟩ | ⟨_,h2,_⟩
    ·rw [hf] at h1;cases h1
    ·exact h3
    ·exact absurd hl h2
   rw [this];simp only [hl,show (((20000:Nat):Int)==20000)=true from rfl,wx,wy,reduceAdd,reduceEqDiff,reduceCtorEq];refine ⟨_,⟨xl,m,xn,⟨by rw [hh _ _ _ (by simp)];exact h1,h2.keep fun j hj=>hh _ _ _ (by simp [hj]),h3.keep fun j hj=>hh _ _ _ (by simp [hj]),h4.keep fun j hj=>hh _ _ _ (by simp [hj]),h5,h6,h7⟩,rfl⟩,hE _ _ (by omega),fun j hj=>.inl hj⟩
  ·have hb:((B.length:Int)==20000)=false:=by simp;omega
   rw [aSk hf hl];simp only [hb,wx,wy,reduceAdd,reduceEqDiff,reduceCtorEq];refine ⟨rfl,?_⟩;have hnd:=h5;simp only [m036,m003,not_or,m063] at hnd;obtain ⟨⟨⟨ni1,ni2⟩,ni3⟩,⟨nd1,nd2,nd3⟩,nd4,nd5⟩:=hnd;obtain ⟨S0,hS0⟩:∃ S0,S0=Ai.adv (s.set s.nx (some (.cells v.cells 101 true true))) 54:=⟨_,rfl⟩;rw [<- hS0];have k1:∀ y∈i::(aF xl++aF m++aF xn),S0.h y=s.h y:=fun y hy=>by rw [hS0];exact hh _ _ _ hy
   have k2:S0.nx=s.nx+54:=by rw [hS0];rfl
   have k3:S0.h s.nx=some (.cells v.cells 101 true true):=by rw [hS0,adv_h,aG]
   have k4:aI S0:=by rw [hS0];exact bW fr 54 (by omega)
   obtain ⟨r,s3,g0,rfl,j',n',g1,g2,g3,g4,g5,g6,g7⟩:=bDz (s:=S0) (xl:=xl) (m:=m) (xn:=xn) (l:=B.map jH) k4 (by rw [k1 i (by simp)];exact h1) (h2.keep fun j hj=>k1 j (by simp [hj])) (h3.keep fun j hj=>k1 j (by simp [hj]))
    (by simp only [m036,m003,not_or,m063];exact ⟨⟨ni1,ni2⟩,nd1,nd2,nd3⟩) (jH n) (by rw [HM];exact hf) (by rw [m002];exact h7)
   rw [m002] at g0 g1 g2;refine bO (by kernel_rfl) ⟨_,s3,g0,?_⟩;have k5:=g4.nx;have hsM:s.nx ∉ i::(aF xl++aF m):=fun hm=>by have:=hF s.nx (by simp only [m013,m003] at hm ⊢;rcases hm with hm | hm;exact .inl hm;exact .inr (.inl hm));omega
   have k6:s3.h s.nx=some (.cells v.cells 101 true true):=by rw [g4.h s.nx (by omega) hsM];exact k3
   have hxn:∀ y∈aF xn,y < s.nx/\y≠i/\y ∉ aF xl/\y ∉ aF m:=fun y hy=>⟨hF y (by simp [hy]),fun e=>ni3 (by rw [<- e];exact hy),fun e=>nd5 y (.inl e) y hy rfl,fun e=>nd5 y (.inr e) y hy rfl⟩;have k7:Gw 101 7 0 s3 xn (B.map Nd.av):=h4.keep fun y hy=>by obtain ⟨a1,a2,a3,a4⟩:=hxn y hy;rw [g4.h y (by omega) (by simp [a2,a3,a4]),k1 y (by simp [hy])]
   have hn':n' < s3.nx:=g4.fr.lt (g2.has n' (by simp [aF]));have hj':j' < s3.nx:=g4.fr.lt g3
   have k8:j' ∉ aF xn/\j'≠i:=by
    rcases g6 with g6 | g6
    ·exact ⟨fun e=>(hxn j' e).2.2.2 g6,fun e=>ni2 (by rw [<- e];exact g6)⟩
    ·exact ⟨fun e=>by have:=(hxn j' e).1;omega,by omega⟩
   have k9:n' ∉ aF xn/\n'≠i:=⟨fun e=>by have:=(hxn n' e).1;omega,by omega⟩;have bs:lE 56 1 [(0,n.av)]=some (.sl true [n.av]):=eB bHj (by decide) rfl rfl;simp only [g1,k6,hv.part,wx,wy,reduceAdd,reduceEqDiff,reduceCtorEq];refine ⟨rfl,?_⟩;refine .mk [n.av] [] n.av (hv.purl _) (bKq n ho) rfl ?_;have happ:=gQ bHj aXj (k7.adv (n:=12)) (a:=n) (by omega) (by omega) true (s3.nx+8);simp only [bs,wx,wy,reduceAdd,reduceEqDiff,reduceCtorEq];refine ⟨g4.fr _ (by omega),?_⟩;rw [happ];simp only [wx,wy,reduceAdd,reduceEqDiff,reduceCtorEq];refine ⟨rfl,?_,?_⟩
   ·split
    ·rfl
    ·exact g4.fr _ (by omega)
   obtain ⟨C,hC⟩:∃ C,C=(some (gL.cells (((B++[n]).map Nd.av).flatMap AV.cells) 101 false true):Option gL):=⟨_,rfl⟩;rw [<- hC];have z1:(Ai.adv ((s3.drop (aF xn)).set (s3.nx+8) C) 12).h i=some (.cells [.ref n' 0 (B.length+1) none 9,.map j',xn] 58 true true):=by rw [adv_h,get_set,if_neg (by omega),get_drop',if_neg ni3];exact g1
   rw [dW (c:=[.ref n' 0 (B.length+1) none 9,.map j',xn]) z1 (by simp) rfl rfl];simp only [List.set_cons_succ,List.set_cons_zero,wx,wy,reduceAdd,reduceEqDiff,reduceCtorEq];have get:∀ y,y≠i->y≠s3.nx+8->y ∉ aF xn->(Ai.adv (((s3.drop (aF xn)).set (s3.nx+8) C).set i (some (.cells [.ref n' 0 (B.length+1) none 9,.map j',.ref (s3.nx+8) 0 (B.length+1) none 101] 58 true true))) 15).h y=s3.h y:=fun y a b c=>by rw [adv_h,get_set,if_neg a,get_set,if_neg b,get_drop',if_neg c]
   refine ⟨[i,n',j',s3.nx+8],⟨_,_,_,⟨by rw [adv_h,aG],?_,?_,?_,?_,?_,?_⟩,rfl⟩,?_,?_⟩
   ·rw [m038];exact g2.keep fun y hy=>by simp only [aF,m008] at hy;subst hy;exact get _ k9.2 (by omega) k9.1
   ·rw [m038];exact .inr ⟨j',rfl,by rw [get _ k8.2 (by omega) k8.1];exact g3⟩
   ·have:=jW (l:=B) (a:=n) aXj (e:=101) (id:=s3.nx+8) (n:=15) (s0:=s3);exact this.keep fun y hy=>by simp only [aF,m008] at hy;subst hy;rw [adv_h,aB (by omega),aG,adv_h,aG,hC]
   ·show [i,n',j',s3.nx+8].Nodup;simp only [m036,m013,m052,or_false,not_or,m073,not_false_eq_true,List.nodup_nil,and_true];exact ⟨⟨fun e=>k9.2 e.symm,fun e=>k8.2 e.symm,by omega⟩,⟨fun e=>g7 e.symm,by omega⟩,by omega⟩
   ·intro x hx;rcases m003.1 hx with hx | hx
    ·exact h6 x hx
    ·rw [m008.1 hx];exact ho
   ·simp only [m006,List.length_singleton];omega
   ·refine ⟨by simp only [adv_nx,set_nx,nx_drop];omega,fun y hy hn2=>?_,fun y hy=>?_⟩
    ·simp only [m013,m003,not_or] at hn2;obtain ⟨a1,⟨a2,a3⟩,a4⟩:=hn2;rw [get y a1 (by omega) a4,g4.h y (by omega) (by simp [a1,a2,a3]),hS0,adv_h,aB (by omega)]
    ·have hy:s3.nx+15<=y:=by simp only [adv_nx,set_nx,nx_drop] at hy;exact hy
     rw [adv_h,get_set,if_neg (by omega),get_set,if_neg (by omega),get_drop']
     split
     ·rfl
     ·exact g4.fr y (by omega)
   ·intro y hy;simp only [m013,m052,or_false] at hy;rcases hy with rfl | rfl | rfl | rfl
    ·exact .inl (by simp)
    ·exact .inr (by omega)
    ·rcases g6 with g6 | g6
     ·exact .inl (by simp [g6])
     ·exact .inr (by omega)
    ·exact .inr (by omega)
end
noncomputable section
def EvA (z:Nat) (v:AV):Prop:=v.cells.length=z/\v.cells.all AV.one=true/\v.closed=true
def Jw (e:TypeId) (z:Nat) (s:St) (x:AV) (vs:List AV):Prop :=
 (∀ v∈vs,EvA z v)/\((x=.nils/\vs=[])\/∃ id junk m,x=.ref id 0 vs.length none e/\s.h id=some (.cells (vs.flatMap AV.cells++junk) e false true)/\junk.length=m * z/\dA junk=[])
theorem WV {l:List Nat}:∀ {s:St} {j:Nat},j ∉ l->(s.drop l).h j=s.h j:=by
 induction l with
 | nil=>intro s j _;rfl
 | cons n l ih =>intro s j h;simp only [m013,not_or] at h;show ((s.set n none).drop l).h j=_;rw [ih h.2,aB h.1]
theorem wI {l:List Nat}:∀ {s:St} {j:Nat},s.h j=none->(s.drop l).h j=none:=by
 induction l with
 | nil=>intro s j h;exact h
 | cons n l ih =>
  intro s j h;refine ih ?_;by_cases hj:j=n
  ·subst hj;exact aG
  ·rw [aB hj];exact h
theorem aVi {l:List Nat}:∀ {s:St} {j:Nat},j∈l->(s.drop l).h j=none:=by
 induction l with
 | nil=>intro s j h;cases h
 | cons n l ih =>
  intro s j h;rcases m013.1 h with rfl | h
  ·exact wI (s:=s.set j none) aG
  ·exact ih h
theorem qP (l:List Nat) (s:St):(s.drop l).nx=s.nx:=by
 induction l generalizing s with
 | nil=>rfl
 | cons n l ih=>show ((s.set n none).drop l).nx=_;rw [ih];rfl
theorem wK (a b:List AV):dA (a++b)=dA a++dA b:=by
 induction a with
 | nil=>rfl
 | cons x a ih=>simp only [List.cons_append,dA,ih,m019]
theorem ZR {l:List AV} (h:dA l=[]) (n:Nat):dA (l.drop n)=[]:=by have:=wK (l.take n) (l.drop n);rw [List.take_append_drop,h] at this;exact (List.append_eq_nil_iff.1 this.symm).2
section
variable {t e:TypeId} {z b:Nat} {ag:Bool} {s s':St} {x:AV} {vs:List AV}
theorem Jw.keep (g:Jw e z s x vs) (hk:∀ j∈aF x,s'.h j=s.h j):Jw e z s' x vs:=by
 obtain ⟨h1,h2 | ⟨id,junk,m,rfl,h2,h3⟩⟩:=g
 ·exact ⟨h1,.inl h2⟩
 ·exact ⟨h1,.inr ⟨id,junk,m,rfl,by rw [hk id (by simp [aF])];exact h2,h3⟩⟩
theorem Jw.one (g:Jw e z s x vs):x.cells=[x]/\x.one=true:=by obtain ⟨h1,⟨rfl,rfl⟩ | ⟨i,_,_,rfl,hs⟩⟩:=g<;>exact ⟨rfl,rfl⟩
theorem Jw.has (g:Jw e z s x vs):∀ j∈aF x,∃ c,s.h j=some (.cells c e false true)/\dA c=[]:=by
 obtain ⟨h1,⟨rfl,rfl⟩ | ⟨i,junk,m,rfl,hs,_,hc⟩⟩:=g
 ·intro j hj;cases hj
 ·intro j hj;simp only [aF,m008] at hj;subst hj;exact ⟨_,hs,by rw [wK,BR fun v hv=>(h1 v hv).2.2,hc];rfl⟩
theorem Jw.two (g:Jw e z s x vs):∀ v∈vs,v.cells.length=z/\v.cells.all AV.one=true:=fun v hv=>⟨(g.1 v hv).1,(g.1 v hv).2.1⟩
theorem KH:Jw e z s .nils []:=⟨fun v hv=>(by cases hv),.inl ⟨rfl,rfl⟩⟩
theorem aNr (h:eO t e z ag b) (g:Jw e z s x vs) {v:AV} (hv:v.cells.length=z) (ho:v.cells.all AV.one=true) (hb:(vs.length+1) * b<=2 ^ 40) (hl:vs.length+1<=2 ^ 40) (ex:Bool) (id:Nat) (hid:s.h id=none) :
  ∃ i junk m S',bt .append #[t,t] [x,.sl ex [v]] id s=some (.ref i 0 (vs.length+1) none e,S')/\S'.h i=some (.cells (vs.flatMap AV.cells++(v.cells++junk)) e false true)/\junk.length=m * z/\dA junk=[]/\S'.nx=s.nx/\(∀ y,y≠id->y ∉ aF x->S'.h y=s.h y)/\(i=id\/i∈aF x)/\(∀ j∈aF x,j=i\/S'.h j=none):=by
 have g0:=g;have hfm:(vs++[v]).flatMap AV.cells=vs.flatMap AV.cells++v.cells:=by simp
 have grow:Gw e z 0 s x vs->∃ i junk m S',bt .append #[t,t] [x,.sl ex [v]] id s=some (.ref i 0 (vs.length+1) none e,S')/\S'.h i=some (.cells (vs.flatMap AV.cells++(v.cells++junk)) e false true)/\junk.length=m * z/\dA junk=[]/\S'.nx=s.nx/\(∀ y,y≠id->y ∉ aF x->S'.h y=s.h y)/\(i=id\/i∈aF x)/\(∀ j∈aF x,j=i\/S'.h j=none):=fun gw=>by
  refine ⟨id,[],0,_,UF h gw hv ho (rI hb hl) ex id,?_,by simp,rfl,qP _ _,fun y h1 h2=>?_,.inl rfl,fun j hj=>.inr ?_⟩
  ·rw [hfm,m011];exact aG
  ·rw [aB h1,WV h2]
  ·have hne:j≠id:=fun e=>by
    obtain ⟨c,hc,_⟩:=g0.has j hj;rw [e,hid] at hc;cases hc
   rw [aB hne];exact aVi hj
 obtain ⟨h1,⟨rfl,rfl⟩ | ⟨i,junk,m,rfl,h2,h3,h4⟩⟩:=g
 ·exact grow gK
 ·cases m with
  | zero =>rw [Nat.zero_mul] at h3;have:junk=[]:=List.length_eq_zero_iff.1 h3;subst this;rw [m011] at h2;exact grow ⟨g0.two,.inr ⟨i,mM _,rfl,h2⟩⟩
  | succ m =>
   obtain ⟨S',e1,e2,e3,e4⟩:=bDc h (vs:=vs) (ws:=[v]) (junk:=junk) g0.two (fun w hw=>by rw [m008] at hw;subst hw;exact ⟨hv,ho⟩) h2 (by rw [h3,List.length_singleton,FK,pD];omega) ex id;refine ⟨i,junk.drop (1 * z),m,S',e1,?_,?_,ZR h4 _,e2,fun y h1 h2=>e4 y (by simpa [aF] using h2),.inr (by simp [aF]),fun j hj=>.inl (by simpa [aF] using hj)⟩
   ·rw [e3,hfm,m019];rfl
   ·rw [m058,h3,FK,pD];omega
theorem QY (h:eO t e z ag b) (g:Jw e z s x vs) {v:AV} (hv:EvA z v) (hb:(vs.length+1) * b<=2 ^ 40) (hl:vs.length+1<=2 ^ 40) (ex:Bool) (id:Nat) (hid:s.h id=none) :
  ∃ x' S',bt .append #[t,t] [x,.sl ex [v]] id s=some (x',S')/\Jw e z S' x' (vs++[v])/\S'.nx=s.nx/\(∀ y,y≠id->y ∉ aF x->S'.h y=s.h y)/\(∀ j∈aF x',j=id\/j∈aF x)/\(∀ j∈aF x,j∈aF x'\/S'.h j=none):=by
 have hall:∀ w∈vs++[v],EvA z w:=fun w hw=>(m003.1 hw).elim (g.1 w) fun h=>by rw [m008] at h;subst h;exact hv
 have hfm:(vs++[v]).flatMap AV.cells=vs.flatMap AV.cells++v.cells:=by simp
 obtain ⟨i,junk,m,S',e1,e2,e3,e4,e5,e6,e7,e8⟩:=aNr h g hv.1 hv.2.1 hb hl ex id hid;refine ⟨_,S',e1,⟨hall,.inr ⟨i,junk,m,by rw [m006];rfl,by rw [hfm,m019];exact e2,e3,e4⟩⟩,e5,e6,fun j hj=>?_,fun j hj=>?_⟩
 ·simp only [aF,m008] at hj;subst hj;exact e7
 ·rcases e8 j hj with rfl | h
  ·exact .inl (by simp [aF])
  ·exact .inr h
theorem bCg (h:eO t e z ag b) (g:Jw e z s x vs) {v0 v:AV} (hv0:v0.cells.length=z) (ho0:v0.cells.all AV.one=true) (hv:EvA z v) (hb:(vs.length+1) * b<=2 ^ 40) (hl:vs.length+1<=2 ^ 40) (ex:Bool) (id:Nat) (hid:s.h id=none) :
  ∃ i S' S2,bt .append #[t,t] [x,.sl ex [v0]] id s=some (.ref i 0 (vs.length+1) none e,S')/\cB z (.ref i 0 (vs.length+1) none e) (.int .i64 (vs.length:Int))=some (.ptr i (vs.length * z))/\dN z (.ptr i (vs.length * z)) v S'=some S2/\Jw e z S2 (.ref i 0 (vs.length+1) none e) (vs++[v])/\S'.nx=s.nx/\S2.nx=s.nx/\(∀ y,y≠id->y ∉ aF x->S'.h y=s.h y)/\(∀ y,y≠i->S2.h y=S'.h y)/\(i=id\/i∈aF x):=by
 have hall:∀ w∈vs++[v],EvA z w:=fun w hw=>(m003.1 hw).elim (g.1 w) fun h=>by rw [m008] at h;subst h;exact hv
 have hfm:(vs++[v]).flatMap AV.cells=vs.flatMap AV.cells++v.cells:=by simp
 obtain ⟨i,junk,m,S',e1,e2,e3,e4,e5,e6,e7,e8⟩:=aNr h g hv0 ho0 hb hl ex id hid;have hfl:=dJ g.two;have hlt:vs.length < vs.length+1:=by omega
 have hst:dN z (.ptr i (vs.length * z)) v S'=some (S'.set i (some (.cells (vs.flatMap AV.cells++(v.cells++junk)) e false true))):=by show Ai.store z _ _ _=_;unfold Ai.store;simp only [e2];rw [if_pos ⟨hv.1,by rw [m006,hfl,m006,hv0];omega,hv.2.1⟩];have:=AJ v.cells (vs.flatMap AV.cells) (v0.cells++junk) (by rw [hv.1,m006,hv0];omega);rw [hfl] at this;rw [this,hv.1,<- hv0,List.drop_left,m019]
 have hix:=oF (e:=e) (z:=z) (id:=i) (off:=0) (c:=none) hlt .i64;rw [m023] at hix;refine ⟨i,S',_,e1,hix,hst,⟨hall,.inr ⟨i,junk,m,by rw [m006];rfl,by rw [hfm,m019];exact aG,e3,e4⟩⟩,e5,e5,e6,fun y hy=>aB hy,e7⟩
theorem KI (h:eO t e z ag b) {v:AV} (g:Jw e z s x (vs++[v])) {w:AV} (hw:w.cells.length=z/\w.cells.all AV.one=true/\dA w.cells=[]) :
  ∃ i,aF x=[i]/\x=.ref i 0 (vs.length+1) none e/\(∃ c,s.h i=some (.cells c e false true)/\vs.length * z+z<=c.length/\(c.drop (vs.length * z)).take z=v.cells) /\
   ∃ S',dN z (.ptr i (vs.length * z)) w s=some S'/\S'.nx=s.nx/\(∀ j,j≠i->S'.h j=s.h j)/\(∃ c e',S'.h i=some (.cells c e' false true)/\vs.length * z+z<=c.length)/\∀ S:St,S.h i=S'.h i->lT t x none (some (.int .i64 (vs.length:Int))) none S=some (.ref i 0 vs.length none e)/\Jw e z S (.ref i 0 vs.length none e) vs:=by
 obtain ⟨h1,⟨rfl,h2⟩ | ⟨i,junk,m,rfl,h2,h3,h4⟩⟩:=g
 ·exact absurd h2 (by simp)
 ·have hv:=h1 v (m049 _ (m008.2 rfl));have h1':∀ u∈vs,EvA z u:=fun u hu=>h1 u (m041 _ hu);have hfl:=dJ (vs:=vs) (fun u hu=>⟨(h1' u hu).1,(h1' u hu).2.1⟩);have hc:(vs++[v]).flatMap AV.cells++junk=vs.flatMap AV.cells++(v.cells++junk):=by simp
  rw [hc] at h2;have hln:(v.cells++junk).length=z+m * z:=by rw [m006,hv.1,h3]
  refine ⟨i,rfl,by rw [m006];rfl,⟨_,h2,by rw [m006,hfl,hln];omega,?_⟩,s.set i (some (.cells (vs.flatMap AV.cells++(w.cells++junk)) e false true)),?_,rfl,fun j hj=>aB hj,⟨_,e,aG,by rw [m006,hfl,m006,hw.1];omega⟩,fun S hS=>?_⟩
  ·rw [<- hfl,List.drop_left,List.take_append_of_le_length (by rw [hv.1];omega),m014 (by rw [hv.1];omega)]
  ·show Ai.store z _ _ _=_;unfold Ai.store;simp only [h2];rw [if_pos ⟨hw.1,by rw [m006,hfl,hln];omega,hw.2.1⟩];have:=AJ w.cells (vs.flatMap AV.cells) (v.cells++junk) (by rw [hw.1,hln];omega);rw [hfl] at this;rw [this,hw.1,<- hv.1,List.drop_left,m019]
  ·have hS:S.h i=some (.cells (vs.flatMap AV.cells++(w.cells++junk)) e false true):=by rw [hS];exact aG
   have hlen:(vs.flatMap AV.cells++(w.cells++junk)).length=vs.length * z+(z+m * z):=by rw [m006,m006,hfl,hw.1,h3]
   refine ⟨BP h hS (by rw [hlen,m006,List.length_singleton,oN,FK];omega) ?_ .i64,h1',.inr ⟨i,w.cells++junk,m+1,rfl,hS,by rw [m006,hw.1,h3,pD];omega,by rw [wK,hw.2.2,h4];rfl⟩⟩;rw [Nat.le_div_iff_mul_le h.pos,hlen];omega
end
end
noncomputable section
def mT (r:Int×Int):AV:=.tup [.int .i64 r.1,.int .i64 r.2]
def Em (x:AV) (l:List AV):Prop:=x=.sl false l\/(x=.nils/\l=[])
theorem fW:Em .nils []:=.inr ⟨rfl,rfl⟩
theorem RI {x:AV} {l:List AV} (h:Em x l) (hc:aX l=true) (S:St) (k:Nat):pur mEv.P S (k+1) x=some (.sl false l,[]):=by
 rcases h with rfl | ⟨rfl,rfl⟩
 ·exact dU _ (HJ hc)
 ·rfl
theorem BF {x:AV} {l:List AV} (h:Em x l):x.one=true/\x.cells=[x]:=by rcases h with rfl | ⟨rfl,rfl⟩<;>exact ⟨rfl,rfl⟩
def FF (n:Nd) (xa xn xs:AV):AV:=.agg [.int .i64 n.op,.int .i64 n.so,xa,.str n.nm,.bool n.neg,xn,xs]
theorem uA (n:Nd) {xa xn xs:AV} (ha:Em xa (n.a.map dT)) (hn:Em xn (n.num.map kX)) (hs:Em xs (n.str.map kQ)):Raw (FF n xa xn xs) n:=by
 refine ⟨?_,rfl,fun S=>?_⟩
 ·simp only [FF,AV.cells,List.all_cons,(BF ha).1,(BF hn).1,(BF hs).1,List.all_nil,m059];rfl
 ·have p1:=fun S=>RI ha (eK dT n.a fun _=>rfl) S 10;have p2:=fun S=>RI hn (IC n.num) S 10;have p3:=fun S=>RI hs (eK kQ n.str fun _=>rfl) S 10;by_cases hc:(FF n xa xn xs).closed=true
  ·rw [dU 12 hc];congr 2;simp only [FF,AV.closed,aX,cQ] at hc
   have fin:∀ {x:AV} {l:List AV},Em x l->x.closed=true->x=.sl false l:=fun h hx=>by
    rcases h with rfl | ⟨rfl,rfl⟩
    ·rfl
    ·cases hx
   rw [FF,fin ha hc.2.2.1,fin hn hc.2.2.2.2.2.1,fin hs hc.2.2.2.2.2.2.1];rfl
  ·unfold pur;rw [if_neg hc];show (dH (pur mEv.P S 11) [.int .i64 n.op,.int .i64 n.so,xa,.str n.nm,.bool n.neg,xn,xs]).map (fun r=>(AV.agg r.1,r.2))=_;have q:∀ v:AV,v.closed=true->pur mEv.P S 11 v=some (v,[]):=fun v hv=>dU 11 hv;simp only [dH,p1,p2,p3,q (.int .i64 n.op) rfl,q (.int .i64 n.so) rfl,q (.str n.nm) rfl,q (.bool n.neg) rfl,m011,Option.map_some];rfl
theorem TY {op so:Int} {a:List Int} {nm:List UInt8} {neg:Bool} {num:List Nat} {str:List (Int×Int)} (h1:i64 op) (h2:i64 so) (h3:∀ i∈a,i64 i) (h4:a.length<=2 ^ 20) (h5:nm.length<=2 ^ 20) (h6:cG num) (h7:num.length<=2 ^ 20) (h8:∀ r∈str,i64 r.1/\i64 r.2) (h9:str.length<=2 ^ 20):Nd.ok ⟨op,so,a,nm,neg,num,str⟩:=⟨h1,h2,h3,h4,h5,h6,h7,h8,h9⟩
theorem aNk {op so:Int} {nm:List UInt8} (h1:i64 op) (h2:i64 so) (h5:nm.length<=2 ^ 20):Nd.ok ⟨op,so,[],nm,false,[],[]⟩:=TY h1 h2 (fun _ h=>by cases h) (by simp) h5 (fun _ h=>by cases h) (by simp) (fun _ h=>by cases h) (by simp)
theorem aFk:∀ (l:List (Int×Int)) (left:Int) (p:Option Int),0<=left->left<=2 ^ 40->BY left p l=true->∀ r∈l,i64 r.1/\i64 r.2:=by
 intro l
 induction l with
 | nil=>intro _ _ _ _ _ r h;cases h
 | cons q l ih =>
  intro left p h0 h1 h;simp only [BY] at h
  cases hc:(decide (q.1 < 0)||(decide (q.1 > 196607)||(decide (q.2 < 1)||(decide (q.2 > left)||p==some q.1)))) with
  | true=>rw [hc] at h;cases h
  | false =>
   rw [hc] at h;simp only [NJ,decide_eq_false_iff_not] at hc;obtain ⟨a,b,c,d,_⟩:=hc;intro r hr;rcases m013.1 hr with rfl | hr
   ·exact ⟨⟨by omega,by omega⟩,⟨by omega,by omega⟩⟩
   ·exact ih (left - q.2) (some q.1) (by omega) (by omega) h r hr
theorem aUy {l:List (Int×Int)} (h:SR l=true):(∀ r∈l,i64 r.1/\i64 r.2)/\l.length<=65536:=by simp only [SR,cQ,decide_eq_true_eq] at h;exact ⟨aFk l _ none (by decide) (by decide) h.2,h.1⟩
section
variable {s:St} {i:Nat} {B:Bk} {F:List Nat} {K:aE}
def zL (s:St) (i:Nat) (F:List Nat) (B':Bk) (s':St):Prop:=∃ F',kK s' i B' F'/\EF F s s'/\∀ j∈F',j∈F\/s.nx<=j
def SC (f:FuncId) (args:List AV) (s:St) (i:Nat) (F:List Nat) (r:(Int×Int)×Bk):Prop:=∃ v s',WideC mEv f args s v s'/\v=mT r.1/\zL s i F r.2 s'
theorem zL.from {B':Bk} {s1 s':St} (h:zL s1 i F B' s') (e:EF [] s s1):zL s i F B' s':=by obtain ⟨F',h1,h2,h3⟩:=h;have:=e.nx;exact ⟨F',h1,(e.sub (M':=F) fun j hj=>by cases hj).trans h2 fun j hj=>.inr hj,fun j hj=>(h3 j hj).imp_right fun h=>by omega⟩
theorem zL.same {s1:St} (h:kK s i B F) (fr:aI s) (e:EF [] s s1):zL s i F B s1:=by have hF:=h.lt fr;exact ⟨F,h.keep fun j hj=>e.h j (hF j hj) (by simp),(e.sub fun j hj=>by cases hj),fun j hj=>.inl hj⟩
theorem iZ {s1:St} (h:kK s i B F) (fr:aI s) (e:EF [] s s1):kK s1 i B F:=by have hF:=h.lt fr;exact h.keep fun j hj=>e.h j (hF j hj) (by simp)
theorem CV {v:AV} {n:Nd} (fr:aI s) (hB:kK s i B F) (ho:n.ok) (hv:Raw v n):SC 131 [.ptr i 0,v] s i F (gF B n):=by obtain ⟨r,s',h1,h2,F',h3⟩:=bMq fr hB ho hv;exact ⟨r,s',h1,h2,F',h3⟩
theorem SC.call {f:FuncId} {args:List AV} {r:(Int×Int)×Bk} (h:SC f args s i F r) (hz:mEv.fz f=false) (hk:∀ s',zL s i F r.2 s'->K (mT r.1) s'):aL mEv f args s K:=by obtain ⟨v,s',h1,rfl,h2⟩:=h;exact bO hz ⟨_,s',h1,hk s' h2⟩
theorem QP (r:Int×Int):(mT r).closed=true:=rfl
theorem DW:mEv.fz 131=false:=by kernel_rfl
theorem AP (r:Int×Int):aW (mT r) 0=some (.int .i64 r.1):=rfl
theorem AD (r:Int×Int):aW (mT r) 1=some (.int .i64 r.2):=rfl
theorem eU {n:Int} (h:0<=n) (h2:n<=1000):i64 n:=⟨by omega,by omega⟩
theorem VO (fr:aI s) (hB:kK s i B F) (nm:List UInt8) (so:Int):SC 77 [.ptr i 0,.str nm,.int .i64 so] s i F (oR B nm so):=by
 refine aWf _ _ _ _ ?_;unfold f77;have e0:=(EF.refl [] fr);have hl:∀ (id:Nat) (s:St),bt .len #[9] [.str nm] id s=some (.int .i64 nm.length,s):=bCx nm;unfold oR
 cases h1:decide (so < 1) with
 | true =>simp only [h1,m033,wx,wy,reduceAdd,reduceEqDiff,reduceCtorEq];exact ⟨rfl,zL.same hB fr e0.adv⟩
 | false =>
 cases h2:decide (so > 3) with
 | true =>simp only [h1,h2,m033,m026,wx,wy,reduceAdd,reduceEqDiff,reduceCtorEq];exact ⟨rfl,zL.same hB fr e0.adv⟩
 | false =>
 cases h3:decide ((nm.length:Int) > 16384) with
 | true =>simp only [h1,h2,h3,hl,m026,wx,wy,reduceAdd,reduceEqDiff,reduceCtorEq];exact ⟨rfl,zL.same hB fr e0.adv⟩
 | false =>
  have o1:=of_decide_eq_false h1;have o2:=of_decide_eq_false h2;have o3:=of_decide_eq_false h3;have hb:lV 101 [(0,.int .i64 1),(1,.int .i64 so),(3,.str nm)]=some (FF ⟨1,so,[],nm,false,[],[]⟩ .nils .nils .nils):=by rw [MG];rfl
  have ho:Nd.ok ⟨1,so,[],nm,false,[],[]⟩:=aNk (eU (by decide) (by decide)) (eU (by omega) (by omega)) (by omega);simp only [h1,h2,h3,hl,hb,Bool.or_self,wx,wy,reduceAdd,reduceEqDiff,reduceCtorEq];refine (CV fr.adv hB.adv ho (uA _ fW fW fW)).call DW fun s' hs=>?_;simp only [AP,AD,wx,wy,reduceAdd,reduceEqDiff,reduceCtorEq];exact ⟨rfl,hs.from e0.adv⟩
theorem aVe (fr:aI s) (hB:kK s i B F) (v:Bool):SC 78 [.ptr i 0,.bool v] s i F (IW B v):=by
 refine aUh _ _ _ ?_;unfold f78;have e0:=(EF.refl [] fr);have hb:∀ k:Int,lV 101 [(0,.int .i64 k),(1,.int .i64 1)]=some (FF ⟨k,1,[],[],false,[],[]⟩ .nils .nils .nils):=fun k=>by rw [MG];rfl
 have ho:∀ k:Int,0<=k->k<=1000->Nd.ok ⟨k,1,[],[],false,[],[]⟩:=fun k h0 h1=>aNk (eU h0 h1) (eU (by decide) (by decide)) (by simp)
 cases v with
 | true =>simp only [hb,wx,wy,reduceAdd,reduceEqDiff,reduceCtorEq];refine (CV fr.adv hB.adv (ho 2 (by decide) (by decide)) (uA _ fW fW fW)).call DW fun s' hs=>?_;simp only [AP,AD,wx,wy,reduceAdd,reduceEqDiff,reduceCtorEq];exact ⟨rfl,hs.from e0.adv⟩
 | false =>simp only [hb,wx,wy,reduceAdd,reduceEqDiff,reduceCtorEq];refine (CV fr.adv hB.adv (ho 3 (by decide) (by decide)) (uA _ fW fW fW)).call DW fun s' hs=>?_;simp only [AP,AD,wx,wy,reduceAdd,reduceEqDiff,reduceCtorEq];exact ⟨rfl,hs.from e0.adv⟩
theorem bGi (fr:aI s) (hB:kK s i B F) (l:List (Int×Int)) (hl:l.length<=2 ^ 40):SC 80 [.ptr i 0,.sl false (l.map kQ)] s i F (aBl B l):=by
 refine aSn _ _ _ ?_;unfold f80;have e0:=(EF.refl [] fr);refine aP (c60 false l hl) (by simp [sY]) ?_;unfold aBl
 cases h:SR l with
 | false =>simp only [h,wx,wy,reduceAdd,reduceEqDiff,reduceCtorEq];exact ⟨rfl,zL.same hB fr e0.adv⟩
 | true =>
  have hb:lV 101 [(0,.int .i64 5),(1,.int .i64 3),(5,.sl false (l.map kQ))]=some (FF ⟨5,3,[],[],false,[],l⟩ .nils .nils (.sl false (l.map kQ))):=by rw [MG];rfl
  have hm:(∀ r∈l,i64 r.1/\i64 r.2)/\l.length<=65536:=aUy h;have ho:Nd.ok ⟨5,3,[],[],false,[],l⟩:=TY (eU (by decide) (by decide)) (eU (by decide) (by decide)) (fun _ h=>by cases h) (by simp) (by simp) (fun _ h=>by cases h) (by simp) hm.1 (by omega);simp only [hb,wx,wy,reduceAdd,reduceEqDiff,reduceCtorEq];refine (CV fr.adv hB.adv ho (uA _ fW fW (.inl rfl))).call DW fun s' hs=>?_;simp only [AP,AD,wx,wy,reduceAdd,reduceEqDiff,reduceCtorEq];exact ⟨rfl,hs.from e0.adv⟩
theorem bJq (fr:aI s) (hB:kK s i B F) (neg:Bool) (n:List Nat) (hl:cG n) (hn:n.length<=2 ^ 20):SC 79 [.ptr i 0,FG neg n] s i F (HL B neg n):=by
 refine aVg _ _ _ ?_;unfold f79;refine ⟨rfl,?_⟩;have e0:∀ (k:Nat) (C:Option gL),0 < k->EF [] s (Ai.adv (s.set s.nx C) k):=fun k C hk=>⟨by simp only [adv_nx,set_nx];omega,fun j hj _=>by rw [adv_h,aB (by omega)],bW fr k (by omega)⟩;simp only [AH,wx,wy,reduceAdd,reduceEqDiff,reduceCtorEq];refine aP (c20 neg n (by omega)) (by simp [kP]) ?_;unfold HL
 cases h:decide (LP neg n < 0) with
 | true =>simp only [h,wx,wy,reduceAdd,reduceEqDiff,reduceCtorEq];exact ⟨rfl,zL.same hB fr (e0 _ _ (by omega))⟩
 | false =>
  simp only [h,AH,wx,wy,reduceAdd,reduceEqDiff,reduceCtorEq];refine aP (c69 neg n (by omega)) (by simp [kP]) ?_;have hb:lV 101 [(0,.int .i64 4),(1,.int .i64 2),(4,FG (lZ neg n).1 (lZ neg n).2)]=some (FF ⟨4,2,[],[],(lZ neg n).1,(lZ neg n).2,[]⟩ .nils (fX (lZ neg n).2) .nils):=by rw [MG];rfl
  have hl2:cG (lZ neg n).2:=fE hl;have hn2:(lZ neg n).2.length<=2 ^ 20:=FM (wQ n) hn;simp only [hb,wx,wy,reduceAdd,reduceEqDiff,reduceCtorEq];refine (CV (e0 _ _ (by omega)).fr (iZ hB fr (e0 _ _ (by omega))) (TY (eU (by decide) (by decide)) (eU (by decide) (by decide)) (fun _ h=>by cases h) (by simp) (by simp) hl2 hn2 (fun _ h=>by cases h) (by simp)) (uA _ fW (.inl rfl) fW)).call DW fun s' hs=>?_;simp only [AP,AD,wx,wy,reduceAdd,reduceEqDiff,reduceCtorEq];exact ⟨rfl,hs.from (e0 _ _ (by omega))⟩
def KP (f:FuncId) (args:List AV) (s:St) (v:AV):Prop:=∃ r s',WideC mEv f args s r s'/\r=v/\EF [] s s'
theorem KP.call {f:FuncId} {args:List AV} {v:AV} (h:KP f args s v) (hz:mEv.fz f=false) (hk:∀ s',EF [] s s'->K v s'):aL mEv f args s K:=by obtain ⟨r,s',h1,rfl,h2⟩:=h;exact bO hz ⟨_,s',h1,hk s' h2⟩
theorem XC {x:AV} (g:Gw 101 7 0 s x (B.map Nd.av)) {id:Int} {n:Nd} (h:qV B id=some n):∃ j,s.h j=some (.cells ((B.map Nd.av).flatMap AV.cells) 101 false true)/\cB 7 x (.int .i64 id)=some (.ptr j (id.toNat * 7))/\(∀ o,o < 7->((B.map Nd.av).flatMap AV.cells)[id.toNat * 7+o]?=n.av.cells[o]?)/\Ai.part 7 true (id.toNat * 7) ((B.map Nd.av).flatMap AV.cells)=some n.av:=by
 simp only [qV] at h
 cases hc:decide (id < 0) with
 | true=>rw [hc] at h;cases h
 | false =>
  rw [hc] at h;have hc:=of_decide_eq_false hc;have h:B[id.toNat]?=some n:=h;have hv:(B.map Nd.av)[id.toNat]?=some n.av:=by rw [m047,h];rfl
  have hlt:=(m012.1 hv).1;obtain ⟨g1,⟨rfl,g2⟩ | ⟨j,_,rfl,g3⟩⟩:=g
  ·rw [g2] at hlt;simp at hlt
  ·have hlen:∀ v∈B.map Nd.av,v.cells.length=7:=fun v hv=>(g1 v hv).1;have hix:=oF (e:=101) (z:=7) (id:=j) (off:=0) (c:=none) hlt .i64;rw [show ((id.toNat:Nat):Int)=id by omega,m023] at hix;obtain ⟨d1,d2⟩:=rP hlen hv;refine ⟨j,g3,hix,fun o ho=>fC hlen hv ho,?_⟩;rw [BE,if_pos d2,d1];rfl
theorem wV {id:Int} (h:hY B id):∃ n,qV B id=some n:=by obtain ⟨h1,h2⟩:=h;simp only [qV,show ¬ (id < 0) by omega,decide_false,cond_false];exact ⟨_,m004 (by omega)⟩
theorem eq3 (a b:Int):bn .eql 3 (.int .i64 a) (.int .i64 b)=some (.bool (a==b)):=bin_eql
theorem ZN (fr:aI s) (hB:kK s i B F) (hw:Wf B) {id:Int} (hid:hY B id):KP 187 [.ptr i 0,.int .i64 id] s (.bool (iB B id)):=by
 obtain ⟨n,hn⟩:=wV hid;have hF:=hB.lt fr;obtain ⟨xl,m,xn,⟨h1,h2,h3,h4,h5,h6,h7⟩,rfl⟩:=hB;obtain ⟨j,j1,j2,j3,j4⟩:=XC h4 hn;have hi:=fr.lt h1;have hj:=fr.lt j1;refine aIr _ _ _ ?_;unfold f187;refine ⟨rfl,?_⟩;have hst:∀ (q:St) (k c:Nat),dN 7 (.ptr k 0) n.av (Ai.adv (q.set k (some (.cells (AV.agg [.int .i64 0,.int .i64 0,.nils,.str [],.bool false,.nils,.nils]).cells 101 true true))) c)=some (Ai.adv (q.set k (some (.cells n.av.cells 101 true true))) c):=fun q k c=>by rw [bI (z:=7) (by rw [adv_h,aG]) rfl rfl rfl,adv_set,set_set]
 have e0:EF [] s (Ai.adv (s.set (s.nx+8) (some (.cells n.av.cells 101 true true))) 33):=⟨by simp only [adv_nx,set_nx];omega,fun y hy _=>by rw [adv_h,aB (by omega)],bW fr 33 (by omega)⟩;have o0:n.av.cells[0]?=some (.int .i64 n.op):=rfl;have o2:n.av.cells[2]?=some (.sl false (n.a.map dT)):=rfl;have ne1:¬ (i=s.nx+8):=by omega
 simp only [h1,j1,j2,j4,IF,hst,o0,wx,wy,reduceAdd,reduceEqDiff,reduceCtorEq];unfold iB;rw [hn]
 cases hop:(n.op==4) with
 | true =>simp only [wx,wy,reduceAdd,reduceEqDiff,reduceCtorEq];exact ⟨by rw [hop,m033],e0⟩
 | false =>
  simp only [o0,m026,wx,wy,reduceAdd,reduceEqDiff,reduceCtorEq]
  cases hop2:(n.op==14) with
  | false =>simp only [wx,wy,reduceAdd,reduceEqDiff,reduceCtorEq];exact ⟨by rw [hop],e0⟩
  | true =>
   have hop2:n.op=14:=by simpa using hop2
   obtain ⟨w1,w2⟩:=hw.2 n (uU hn)
   obtain ⟨q,l,hql⟩:∃ q l,n.a=q::l:=by
    cases hql:n.a with
    | nil=>exact absurd hql (w2 hop2)
    | cons q l=>exact ⟨q,l,rfl⟩
   obtain ⟨n2,hn2⟩:=wV (w1 q (by rw [hql];simp));obtain ⟨j',i1,i2,i3,i4⟩:=XC h4 hn2;have hj':=fr.lt i1;have ne2:¬ (j'=s.nx+8):=by omega
   have hix:cB 1 (.sl false ((q::l).map dT)) (.int .i64 0)=some (.pel (dT q).cells 0):=cM jP false (i:=0) (a:=q) rfl .i64;have hq0:(dT q).cells[0]?=some (.int .i64 q):=rfl;have i30:=i3 0 (by decide);rw [Nat.add_zero] at i30;have i31:n2.av.cells[0]?=some (.int .i64 n2.op):=rfl;simp only [ne1,h1,o2,hql,hix,hq0,i1,i2,i30,i31,ne2,if_false,wx,wy,reduceAdd,reduceEqDiff,reduceCtorEq];refine ⟨rfl,?_⟩;exact ⟨by rw [hop];simp only [aMn,hn2,m026],e0⟩
end
end
noncomputable section
section
variable {s:St} {i:Nat} {B:Bk} {F:List Nat} {K:aE}
theorem bMz:mEv.fz 187=false:=by kernel_rfl
theorem bLc:mEv.fz 135=false:=by kernel_rfl
theorem bJs:mEv.fz 134=false:=by kernel_rfl
theorem bIw:mEv.fz 133=false:=by kernel_rfl
theorem bJp:mEv.fz 186=false:=by kernel_rfl
theorem bIz:mEv.fz 132=false:=by kernel_rfl
theorem EF.nil_trans {a b c:St} (h:EF [] a b) (k:EF [] b c):EF [] a c:=h.trans k fun j hj=>by cases hj
theorem iT {i n:Nat} (h:i < n) (hn:n<=2 ^ 40):IntKind.i64.wrap ((i:Int)+1)=((i+1:Nat):Int):=by rw [IntWalk.i64_in _ (by omega)];rfl
theorem zG (l:List Int) (id:Nat) (s:St):bt .len #[72] [.sl false (l.map dT)] id s=some (.int .i64 l.length,s):=by rw [LT,m002]
theorem in0 (q:Int):(dT q).cells[0]?=some (.int .i64 q):=rfl
theorem XX (a:List Int) (j:Nat) (q:Int) (h:a[j]?=some q):gH B (a.take (j+1))=gH B (a.take j)+(bif iB B q then 0 else 1):=by
 induction a generalizing j with
 | nil=>simp at h
 | cons x a ih =>
  cases j with
  | zero=>simp at h;subst h;simp [gH]
  | succ j =>simp only [List.getElem?_cons_succ] at h;simp only [List.take_succ_cons,gH,ih j h];omega
theorem aTb (a:List Int):gH B a<=a.length:=by
 induction a with
 | nil=>exact bJ _
 | cons x a ih=>simp only [gH,List.length_cons];cases iB B x<;>simp<;>omega
theorem bNv (hw:Wf B) (a:List Int) (ha:∀ q∈a,hY B q) (hl:a.length<=2 ^ 30) (s0:St) (fr0:aI s0) (hB:kK s0 i B F) (Q:aE) (hQ:∀ s',EF [] s0 s'->Q (.bool (decide (gH B a<=1))) s') :
  ∀ (m j:Nat) (s:St),j+m=a.length->EF [] s0 s->pI Q (m+1) (.ptr i 0) (.int .i64 (gH B (a.take j))) (.sl false (a.map dT)) (.int .i64 a.length) (.int .i64 j) s:=by
 intro m
 induction m with
 | zero =>
  intro j s hj e;show uO Q (pI Q 0) _ _ _ _ _ s;have c1:decide ((j:Int) < (a.length:Int))=false:=by simp;omega
  rw [m014 (by omega)]
  have c2:decide (((gH B a:Nat):Int)<=1)=decide (gH B a<=1):=by
   by_cases h:gH B a<=1
   ·rw [decide_eq_true h,decide_eq_true (by omega)]
   ·rw [decide_eq_false h,decide_eq_false (by omega)]
  simp only [uO,c1,EV,c2,wx,wy,reduceAdd,reduceEqDiff,reduceCtorEq];exact hQ _ e.adv
 | succ m ih =>
  intro j s hj e;show uO Q (pI Q (m+1)) _ _ _ _ _ s;have c1:decide ((j:Int) < (a.length:Int))=true:=by simp;omega
  obtain ⟨q,hq⟩:∃ q,a[j]?=some q:=⟨_,m004 (by omega)⟩;have hix:=cM jP false hq .i64;have w1:=iT (i:=j) (n:=a.length) (by omega) (by omega);have hft:=XX (B:=B) a j q hq;have hfl:=aTb (B:=B) (a.take j);have hfl2:=List.length_take_le j a;simp only [uO,c1,hix,in0,wx,wy,reduceAdd,reduceEqDiff,reduceCtorEq];refine (ZN e.adv.fr (iZ hB fr0 e.adv) hw (ha q (m017 hq))).call bMz fun s1 e1=>?_;have e2:=e.adv.nil_trans e1
  cases hn:iB B q with
  | true =>rw [hn] at hft;simp only [EA,w1,wx,wy,reduceAdd,reduceEqDiff,reduceCtorEq];have:=ih (j+1) (Ai.adv s1 2) (by omega) e2.adv;rw [hft] at this;exact this
  | false =>
   rw [hn] at hft;have w2:IntKind.i64.wrap (((gH B (a.take j):Nat):Int)+1)=((gH B (a.take j)+1:Nat):Int):=by rw [IntWalk.i64_in _ (by omega)];rfl
   simp only [EA,w1,w2,wx,wy,reduceAdd,reduceEqDiff,reduceCtorEq];have:=ih (j+1) (Ai.adv s1 5) (by omega) e2.adv;rw [hft] at this;exact this
theorem aHc (fr:aI s) (hB:kK s i B F) (hw:Wf B) (a:List Int) (ha:∀ q∈a,hY B q) (hl:a.length<=2 ^ 30):KP 135 [.ptr i 0,.sl false (a.map dT)] s (.bool (decide (gH B a<=1))):=by refine aHy _ _ _ ?_;unfold f135;simp only [zG,wx,wy,reduceAdd,reduceEqDiff,reduceCtorEq];exact ⟨_,bNv hw a ha hl s fr hB _ (fun s' e=>⟨rfl,e⟩) a.length 0 _ (by omega) (EF.refl _ fr).adv⟩
def zT.av (x:zT):AV:=.agg [.int .i64 x.parts,.bool x.more,.int .i64 x.s0,.int .i64 x.s1,.int .i64 x.s2,.int .i64 x.own]
theorem GM (x:zT):x.av.cells=[.int .i64 x.parts,.bool x.more,.int .i64 x.s0,.int .i64 x.s1,.int .i64 x.s2,.int .i64 x.own]:=rfl
theorem aOb (x:zT) (k:Nat) (hk:k<=2):x.av.cells[2+k]?=some (.int .i64 (x.sort k)):=by
 match k,hk with
 | 0,_=>rfl
 | 1,_=>rfl
 | 2,_=>rfl
theorem aPj (x:zT) (j:Nat):x.sort (min j 2)=x.sort j:=by
 match j with
 | 0=>rfl
 | 1=>rfl
 | 2=>rfl
 | j+3=>rw [Nat.min_eq_right (by omega)];rfl
theorem bRq (j:Nat) (id:Nat) (s:St):bt .min #[3,3] [.int .i64 (j:Int),.int .i64 2] id s=some (.int .i64 ((min j 2:Nat):Int),s):=by
 have h:bt .min #[3,3] [.int .i64 (j:Int),.int .i64 2] id s=some (.int .i64 (if decide ((2:Int) < (j:Int)) then 2 else (j:Int)),s):=rfl
 rw [h];by_cases hc:2 < j
 ·rw [decide_eq_true (by omega),if_pos rfl,Nat.min_eq_right (by omega)];rfl
 ·rw [decide_eq_false (by omega),if_neg (by decide),qJ (by omega)]
theorem ix3 (p o k:Nat) (hk:k<=2):ixA 3 1 (.ptr p o) (.int .i64 (k:Int))=some (.ptr p (o+k)):=by
 have:(k:Int) < 3:=by omega
 simp [ixA,pE,wR,aC,this]
theorem bOz (hw:Wf B) (x:zT) (a:List Int) (ha:∀ q∈a,hY B q) (hl:a.length<=2 ^ 30) (s0:St) (fr0:aI s0) (hB:kK s0 i B F) (p:Nat) (Q:aE) (r:Int) (hQ:∀ s',EF [] s0 s'->Q (.int .i64 r) s') :
  ∀ (m j:Nat) (last:Int) (s:St),j+m=a.length->EF [] s0 s->s.h p=some (.cells x.av.cells 192 true true)->r=eR B x j last (a.drop j)->jM Q (m+1) (.ptr i 0) (.ptr p 0) (.int .i64 last) (.sl false (a.map dT)) (.int .i64 a.length) (.int .i64 j) s:=by
 intro m
 induction m with
 | zero =>
  intro j last s hj e hp hr;show vZ Q (jM Q 0) _ _ _ _ _ _ s;have c1:decide ((j:Int) < (a.length:Int))=false:=by simp;omega
  rw [m037 (by omega)] at hr;simp only [vZ,c1,xH,hp,GM,eq3,wx,wy,reduceAdd,reduceEqDiff,reduceCtorEq];have hr:r=bif x.own==-1 then last else x.own:=hr
  cases ho:(x.own==-1) with
  | true =>rw [ho] at hr;rw [hr] at hQ;simp only [wx,wy,reduceAdd,reduceEqDiff,reduceCtorEq];exact hQ _ e.adv
  | false =>rw [ho] at hr;rw [hr] at hQ;simp only [hp,GM,wx,wy,reduceAdd,reduceEqDiff,reduceCtorEq];exact hQ _ e.adv
 | succ m ih =>
  intro j last s hj e hp hr;show vZ Q (jM Q (m+1)) _ _ _ _ _ _ s;have c1:decide ((j:Int) < (a.length:Int))=true:=by simp;omega
  obtain ⟨q,hq⟩:∃ q,a[j]?=some q:=⟨_,m004 (by omega)⟩;rw [bZ a j q hq] at hr;simp only [eR] at hr;have hix:=cM jP false hq .i64;have w1:=iT (i:=j) (n:=a.length) (by omega) (by omega);obtain ⟨n,hn⟩:=wV (ha q (m017 hq));obtain ⟨xl,mm,xn,⟨h1,h2,h3,h4,h5,h6,h7⟩,_⟩:=iZ hB fr0 e;obtain ⟨k,j1,j2,j3,j4⟩:=XC h4 hn;have j31:=j3 1 (by decide);have o1:n.av.cells[1]?=some (.int .i64 n.so):=rfl;have hso:sU B q=n.so:=by simp only [sU,hn]
  rw [hso] at hr;have hs:=aOb x (min j 2) (Nat.min_le_right _ _);rw [aPj] at hs;have hsx:x.av.cells[2+min j 2]?=some (.int .i64 (x.sort j)):=hs;simp only [vZ,c1,hix,in0,bRq,ix3 p 2 (min j 2) (Nat.min_le_right _ _),hp,hsx,wx,wy,reduceAdd,reduceEqDiff,reduceCtorEq];refine ⟨rfl,?_⟩
  have hgo:∀ (want:Int) (c:Nat),(want=bif x.sort j==-1 then last else x.sort j)->DK Q (jM Q (m+1)) (.int .i64 want) (.int .i64 n.so) (.int .i64 j) (.ptr i 0) (.ptr p 0) (.sl false (a.map dT)) (.int .i64 a.length) (Ai.adv s c):=fun want c hwant=>by
   rw [<- hwant] at hr;unfold DK;have hneq:∀ u v:Int,bn .neq 3 (.int .i64 u) (.int .i64 v)=some (.bool (u != v)):=fun u v=>bin_neq
   cases d1:(want != -2) with
   | false =>rw [d1] at hr;simp only [hneq,d1,xU,w1,wx,wy,reduceAdd,reduceEqDiff,reduceCtorEq];exact ih (j+1) n.so _ (by omega) e.adv hp (by simpa using hr)
   | true =>
    rw [d1] at hr
    cases d2:(want != n.so) with
    | true =>rw [d2] at hr;simp only [m031,cond_true] at hr;rw [hr] at hQ;simp only [hneq,d1,d2,wx,wy,reduceAdd,reduceEqDiff,reduceCtorEq];exact hQ _ e.adv
    | false =>rw [d2] at hr;simp only [hneq,d1,d2,xU,w1,wx,wy,reduceAdd,reduceEqDiff,reduceCtorEq];exact ih (j+1) n.so _ (by omega) e.adv hp (by simpa using hr)
  simp only [h1,j1,j2,j31,o1,eq3,wx,wy,reduceAdd,reduceEqDiff,reduceCtorEq]
  cases ho:(x.sort j==-1) with
  | true =>simp only [wx,wy,reduceAdd,reduceEqDiff,reduceCtorEq];exact hgo _ _ (by rw [ho,cond_true])
  | false =>simp only [wx,wy,reduceAdd,reduceEqDiff,reduceCtorEq];exact hgo _ _ (by rw [ho,cond_false])
theorem aMx (fr:aI s) (hB:kK s i B F) (hw:Wf B) (x:zT) (a:List Int) (ha:∀ q∈a,hY B q) (hl:a.length<=2 ^ 30):KP 134 [.ptr i 0,x.av,.sl false (a.map dT)] s (.int .i64 (eR B x 0 0 a)):=by refine aIc _ _ _ _ ?_;unfold f134;refine ⟨rfl,?_⟩;simp only [zG,wx,wy,reduceAdd,reduceEqDiff,reduceCtorEq];have e0:∀ k,0 < k->EF [] s (Ai.adv (s.set s.nx (some (.cells x.av.cells 192 true true))) k):=fun k hk=>⟨by simp only [adv_nx,set_nx];omega,fun y hy _=>by rw [adv_h,aB (by omega)],bW fr k (by omega)⟩;exact ⟨_,bOz hw x a ha hl s fr hB s.nx _ _ (fun s' e=>⟨rfl,e⟩) a.length 0 0 _ (by omega) (e0 _ (by omega)) (by rw [adv_h,aG]) rfl⟩
theorem EN {f h:FuncId} {a cap args:List AV} (hp:mEv.pm f h=false) (hk:aL mEv h (a++args++cap) s K):sK mEv f (.fn h a cap) args s K:=by show DU mEv f h (a++args++cap) s K;unfold DU;rw [hp];exact hk
theorem CF {f h:FuncId} {a cap args:List AV} (hp:mEv.pm f h=true) (hk:aN mEv h (a++args++cap) s K):sK mEv f (.fn h a cap) args s K:=by show DU mEv f h (a++args++cap) s K;unfold DU;rw [hp];exact hk
theorem bRt (fr:aI s) (hB:kK s i B F) {p:Nat} (hp:s.h p=some (.cells [.ptr i 0] 51 true true)) (q:Int):KP 132 [.int .i64 q,.ptr p 0] s (.bool (zR B q)):=by
 refine aGe _ _ _ ?_;unfold f132;have hl:∀ a b:Int,bn .lss 3 (.int .i64 a) (.int .i64 b)=some (.bool (decide (a < b))):=fun a b=>bin_lss;have hg:∀ a b:Int,bn .geq 3 (.int .i64 a) (.int .i64 b)=some (.bool (decide (a >= b))):=fun a b=>bin_geq;unfold zR
 cases h:decide (q < 0) with
 | true =>simp only [hl,h,wx,wy,reduceAdd,reduceEqDiff,reduceCtorEq];exact (EF.refl _ fr).adv
 | false =>simp only [hl,h,hp,wx,wy,reduceAdd,reduceEqDiff,reduceCtorEq];refine aZs hB.adv ?_;simp only [hg,wx,wy,reduceAdd,reduceEqDiff,reduceCtorEq];exact (EF.refl _ fr).adv
theorem bOw (a:List Int) (hl:a.length<=2 ^ 30) (s0:St) (fr0:aI s0) (hB:kK s0 i B F) {p:Nat} (hp:s0.h p=some (.cells [.ptr i 0] 51 true true)) (Q:aE) (r:Bool) (hQ:∀ k s',EF [] s0 s'->decide (k >= 0)=r->Q (.int .i64 k) s') :
  ∀ (m j:Nat) (s:St),j+m=a.length->EF [] s0 s->r=(a.drop j).any (zR B)->pV Q (m+1) (.sl false (a.map dT)) (.fn 132 [] [.ptr p 0]) (.int .i64 a.length) (.int .i64 j) s:=by
 intro m
 induction m with
 | zero =>
  intro j s hj e hr;show vY Q (pV Q 0) _ _ _ _ s;have c1:decide ((j:Int) < (a.length:Int))=false:=by simp;omega
  rw [m037 (by omega)] at hr;simp only [vY,c1,DY,wx,wy,reduceAdd,reduceEqDiff,reduceCtorEq];exact hQ _ _ e.adv (by rw [hr];rfl)
 | succ m ih =>
  intro j s hj e hr;show vY Q (pV Q (m+1)) _ _ _ _ s;have c1:decide ((j:Int) < (a.length:Int))=true:=by simp;omega
  obtain ⟨q,hq⟩:∃ q,a[j]?=some q:=⟨_,m004 (by omega)⟩;rw [bZ a j q hq,List.any_cons] at hr;have hix:=cM jP false hq .i64;have w1:=iT (i:=j) (n:=a.length) (by omega) (by omega);have hpp:=fr0.lt hp;simp only [vY,c1,hix,in0,wx,wy,reduceAdd,reduceEqDiff,reduceCtorEq];refine EN (by kernel_rfl) ?_;refine (bRt (i:=i) (B:=B) e.adv.fr (iZ hB fr0 e.adv) (p:=p) (by rw [e.adv.h p hpp (by simp)];exact hp) q).call bIz fun s1 e1=>?_;have e2:=e.adv.nil_trans e1
  cases hb:zR B q with
  | true =>rw [hb,m033] at hr;simp only [wx,wy,reduceAdd,reduceEqDiff,reduceCtorEq];exact hQ _ _ e2.adv (by rw [hr];simp)
  | false =>rw [hb,m026] at hr;simp only [SM,w1,wx,wy,reduceAdd,reduceEqDiff,reduceCtorEq];exact ih (j+1) _ (by omega) e2.adv hr
theorem bPq (fr:aI s) (hB:kK s i B F) {p:Nat} (hp:s.h p=some (.cells [.ptr i 0] 51 true true)) (a:List Int) (hl:a.length<=2 ^ 30):KP 133 [.sl false (a.map dT),.fn 132 [] [.ptr p 0]] s (.bool (a.any (zR B))):=by
 refine aOe _ _ _ ?_;unfold f133;have h186:∃ k s',WideC mEv 186 [.sl false (a.map dT),.fn 132 [] [.ptr p 0]] (Ai.adv s 6) k s'/\∃ n:Int,k=.int .i64 n/\EF [] s s'/\decide (n >= 0)=a.any (zR B):=by refine aHn _ _ _ ?_;unfold f186;simp only [zG,wx,wy,reduceAdd,reduceEqDiff,reduceCtorEq];exact ⟨_,bOw a hl (Ai.adv s 6) fr.adv hB.adv hp _ _ (fun k s' e hk=>⟨k,rfl,(EF.refl [] fr).adv.nil_trans e,hk⟩) a.length 0 _ (by omega) ⟨by simp only [adv_nx];omega,fun _ _ _=>rfl,fr.adv⟩ rfl⟩
 obtain ⟨k,s',h1,n,rfl,h2,h3⟩:=h186;refine bO bJp ⟨_,s',h1,?_⟩;have hg:∀ a b:Int,bn .geq 3 (.int .i64 a) (.int .i64 b)=some (.bool (decide (a >= b))):=fun a b=>bin_geq;simp only [hg,h3,wx,wy,reduceAdd,reduceEqDiff,reduceCtorEq];exact h2
def PG:List AV:=(jU.map zT.av).flatMap AV.cells
theorem gl1:gl 1=.pel PG 0:=by kernel_rfl
theorem bEj {op:Int} (h0:0<=op) {x:zT} (hx:jU[op.toNat]?=some x):ixA 31 6 (gl 1) (.int .i64 op)=some (.pel PG (op.toNat * 6))/\PG[op.toNat * 6]?=some (.int .i64 x.parts)/\Ai.part 6 true (op.toNat * 6) PG=some x.av:=by
 have hv:(jU.map zT.av)[op.toNat]?=some x.av:=by rw [m047,hx];rfl
 have hlt:=(m012.1 hx).1;have h31:jU.length=31:=rfl;have hlen:∀ v∈jU.map zT.av,v.cells.length=6:=fun v hv=>by obtain ⟨y,_,rfl⟩:=m021.1 hv;rfl
 obtain ⟨d1,d2⟩:=rP hlen hv;refine ⟨?_,?_,?_⟩
 ·rw [gl1];have:op < 31:=by omega
  simp [ixA,pE,wR,aC,h0,this]
 ·have:=fC hlen hv (k:=0) (by decide);rw [Nat.add_zero] at this;exact this
 ·unfold PG;rw [BE,if_pos d2];show some (AV.agg ((((jU.map zT.av).flatMap AV.cells).drop (op.toNat * 6)).take 6))=_;rw [d1];rfl
end
end
end Go.Proofs.YtdehdahimkcakaaGreatDoor
