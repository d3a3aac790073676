/- Texts joined by wip/tools/pack.py: Un,Uo,Uk,Bd,Fr,Bu,Tk,Tb,Tc,Td. -/
import Derived.Test.YtdehdahimkcakaaGreatDoorZp
set_option linter.unusedSimpArgs false
set_option linter.unusedVariables false
set_option maxHeartbeats 4000000
set_option maxRecDepth 100000
namespace Go.Proofs.YtdehdahimkcakaaGreatDoor
open Go Ai
noncomputable section
def Ext (B B':Bk):Prop:=∃ E,B' = B ++ E
theorem Ext.refl (B:Bk):Ext B B:=⟨[],by simp⟩
theorem Ext.trans {A B C:Bk} (h:Ext A B) (k:Ext B C):Ext A C:=by
 obtain ⟨E,rfl⟩:=h; obtain ⟨F,rfl⟩:=k; exact ⟨E ++ F,by simp⟩
def inB (B:Bk) (i:Int):Prop:=0≤i∧i < (B.length:Int)
theorem inB.ext {B B':Bk} {i:Int} (h:inB B i) (e:Ext B B'):inB B' i:=by
 obtain ⟨E,rfl⟩:=e; obtain ⟨h1,h2⟩:=h; exact ⟨h1,by simp only [List.length_append]; omega⟩
def Wf (B:Bk):Prop:=B.length≤20000∧∀ n∈B,(∀ i∈n.a,inB B i)∧(n.op = 14→n.a≠[])
theorem wf_nil:Wf []:=⟨by simp,fun n h=>by cases h⟩
theorem findK_ext {k:List UInt8}:∀ {B:Bk} {i:Nat},findK k B = some i→∀ E,findK k (B ++ E) = some i:=by
 intro B
 induction B with
 | nil=>intro i h; cases h
 | cons m B ih =>
  intro i h E
  simp only [findK,List.cons_append] at h ⊢
  cases hk:(k == keyM m) with
  | true=>rw [hk] at h; exact h
  | false =>
   rw [hk] at h
   simp only [cond_false,Option.map_eq_some_iff] at h ⊢
   obtain ⟨j,h1,h2⟩:=h
   exact ⟨j,ih h1 E,h2⟩
theorem findK_lt {k:List UInt8}:∀ {B:Bk} {i:Nat},findK k B = some i→i < B.length:=by
 intro B
 induction B with
 | nil=>intro i h; cases h
 | cons m B ih =>
  intro i h
  simp only [findK] at h
  cases hk:(k == keyM m) with
  | true=>rw [hk] at h; simp only [cond_true,Option.some.injEq] at h; subst h; simp
  | false =>
   rw [hk] at h
   simp only [cond_false,Option.map_eq_some_iff] at h
   obtain ⟨j,h1,rfl⟩:=h
   have:=ih h1
   simp only [List.length_cons]; omega
theorem findK_new {n:Nd}:∀ {B:Bk},findK (keyM n) B = none→findK (keyM n) (B ++ [n]) = some B.length:=by
 intro B
 induction B with
 | nil=>intro _; simp [findK]
 | cons m B ih =>
  intro h
  simp only [findK,List.cons_append] at h ⊢
  cases hk:(keyM n == keyM m) with
  | true=>rw [hk] at h; cases h
  | false =>
   rw [hk] at h
   simp only [cond_false,Option.map_eq_none_iff] at h ⊢
   rw [ih h]; simp
theorem getN_ext {B:Bk} {i:Int} (h:inB B i) (E:Bk):getN (B ++ E) i = getN B i:=by
 obtain ⟨h1,h2⟩:=h
 simp only [getN,show ¬ (i < 0) by omega,decide_false,cond_false]
 exact List.getElem?_append_left (by omega)
theorem soOf_ext {B:Bk} {i:Int} (h:inB B i) (E:Bk):soOf (B ++ E) i = soOf B i:=by simp only [soOf,getN_ext h]
theorem opOf_ext {B:Bk} {i:Int} (h:inB B i) (E:Bk):opOf (B ++ E) i = opOf B i:=by simp only [opOf,getN_ext h]
theorem getN_mem {B:Bk} {i:Int} {n:Nd} (h:getN B i = some n):n∈B:=by
 simp only [getN] at h
 cases hc:decide (i < 0) with
 | true=>rw [hc] at h; cases h
 | false=>rw [hc] at h; exact List.mem_of_getElem? h
theorem numeral_ext {B:Bk} {i:Int} (hw:Wf B) (h:inB B i) (E:Bk):numeralM (B ++ E) i = numeralM B i:=by
 simp only [numeralM,getN_ext h]
 cases hn:getN B i with
 | none=>rfl
 | some n =>
  simp only
  cases ha:n.a with
  | nil=>rfl
  | cons j l=>simp only [opOf_ext ((hw.2 n (getN_mem hn)).1 j (by rw [ha]; exact List.mem_cons_self ..))]
theorem sortGo_ext {B:Bk} (x:Ask) (E:Bk):∀ (a:List Int) (i:Nat) (last:Int),(∀ id∈a,inB B id)→sortGo (B ++ E) x i last a = sortGo B x i last a:=by
 intro a
 induction a with
 | nil=>intro i last _; rfl
 | cons id a ih =>
  intro i last h
  simp only [sortGo,soOf_ext (h id (List.mem_cons_self ..)),ih _ _ fun j hj=>h j (List.mem_cons_of_mem _ hj)]
theorem free_ext {B:Bk} (hw:Wf B) (E:Bk):∀ (a:List Int),(∀ id∈a,inB B id)→freeM (B ++ E) a = freeM B a:=by
 intro a
 induction a with
 | nil=>intro _; rfl
 | cons id a ih=>intro h; simp only [freeM,numeral_ext hw (h id (List.mem_cons_self ..)),ih fun j hj=>h j (List.mem_cons_of_mem _ hj)]
theorem bad_in {B:Bk} {a:List Int}:a.any (badM B) = false↔∀ i∈a,inB B i:=by
 simp only [List.any_eq_false,badM,inB,Bool.or_eq_true,decide_eq_true_eq]
 constructor
 ·intro h i hi; have:=h i hi; omega
 ·intro h i hi; have:=h i hi; omega
theorem sorts_ext {B:Bk} (E:Bk):∀ (ps:List (List UInt8 × Int)) (a:List Int),(∀ id∈a,inB B id)→sortsOk (B ++ E) ps a = sortsOk B ps a:=by
 intro ps
 induction ps with
 | nil=>intro a _; rfl
 | cons p ps ih =>
  intro a h
  cases a with
  | nil=>rfl
  | cons i a=>simp only [sortsOk,soOf_ext (h i (List.mem_cons_self ..)),ih a fun j hj=>h j (List.mem_cons_of_mem _ hj)]
section
variable {α β:Type}
def Stb (ok:α→Bool) (P:α→Bk→Prop) (Q:α→Prop) (c:Sg→Option (α × Sg)) (B:Bk):Prop :=
 ∀ M r B' M',c (B,M) = some (r,(B',M'))→M' = M∧Ext B B'∧Wf B' ∧
  (ok r = true→P r B'∧∀ E M2,Wf (B' ++ E)→c (B' ++ E,M2) = some (r,(B' ++ E,M2))) ∧
  (ok r = false→Q r∧∀ M2,c (B',M2) = some (r,(B',M2)))
def thenM (c:Sg→Option (α × Sg)) (ok:α→Bool) (k:α→Sg→Option (β × Sg)) (er:α→β):Sg→Option (β × Sg) :=
 fun σ=>(c σ).bind fun r=>bif ok r.1 then k r.1 r.2 else some (er r.1,r.2)
theorem stb_then {ok:α→Bool} {P:α→Bk→Prop} {Q:α→Prop} {ok2:β→Bool} {P2:β→Bk→Prop} {Q2:β→Prop} {c:Sg→Option (α × Sg)} {k:α→Sg→Option (β × Sg)} {er:α→β} {B:Bk}
  (hc:Stb ok P Q c B) (hk:∀ r B1,Ext B B1→Wf B1→P r B1→Stb ok2 P2 Q2 (k r) B1) (he:∀ r,ok r = false→Q r→ok2 (er r) = false∧Q2 (er r)):Stb ok2 P2 Q2 (thenM c ok k er) B:=by
 intro M r' B' M' h
 unfold thenM at h ⊢
 cases h1:c (B,M) with
 | none=>rw [h1] at h; cases h
 | some q =>
  obtain ⟨r,B1,M1⟩:=q
  obtain ⟨rfl,e1,w1,o1,n1⟩:=hc M r B1 M1 h1
  rw [h1] at h
  simp only [Option.bind_some] at h
  cases hr:ok r with
  | true =>
   rw [hr] at h
   simp only [cond_true] at h
   obtain ⟨p1,again⟩:=o1 hr
   obtain ⟨rfl,e2,w2,o2,n2⟩:=hk r B1 e1 w1 p1 _ r' B' M' h
   obtain ⟨E1,rfl⟩:=e2
   refine ⟨rfl,e1.trans ⟨E1,rfl⟩,w2,fun ho=>?_,fun ho=>?_⟩
   ·obtain ⟨p2,again2⟩:=o2 ho
    refine ⟨p2,fun E M2 hw=>?_⟩
    rw [List.append_assoc] at hw ⊢
    rw [again (E1 ++ E) M2 hw]
    simp only [Option.bind_some,hr,cond_true]
    rw [← List.append_assoc] at hw ⊢
    exact again2 E M2 hw
   ·obtain ⟨q2,again2⟩:=n2 ho
    refine ⟨q2,fun M2=>?_⟩
    rw [again E1 M2 w2]
    simp only [Option.bind_some,hr,cond_true]
    exact again2 M2
  | false =>
   rw [hr] at h
   simp only [cond_false,Option.some.injEq,Prod.mk.injEq] at h
   obtain ⟨rfl,rfl,rfl⟩:=h
   obtain ⟨q1,again⟩:=n1 hr
   obtain ⟨h2,h3⟩:=he r hr q1
   refine ⟨rfl,e1,w1,fun ho=>?_,fun _=>⟨h3,fun M2=>?_⟩⟩
   ·rw [h2] at ho; cases ho
   ·rw [again M2]
    simp only [Option.bind_some,hr,cond_false]
theorem stb_pure {ok:α→Bool} {P:α→Bk→Prop} {Q:α→Prop} {B:Bk} (hw:Wf B) (r:α) (hp:ok r = true→P r B) (hq:ok r = false→Q r):Stb ok P Q (fun σ=>some (r,σ)) B:=by
 intro M r' B' M' h
 simp only [Option.some.injEq,Prod.mk.injEq] at h
 obtain ⟨rfl,rfl,rfl⟩:=h
 exact ⟨rfl,Ext.refl _,hw,fun ho=>⟨hp ho,fun _ _ _=>rfl⟩,fun ho=>⟨hq ho,fun _=>rfl⟩⟩
theorem stb_none {ok:α→Bool} {P:α→Bk→Prop} {Q:α→Prop} {B:Bk}:Stb ok P Q (fun _=>none) B:=fun M r B' M' h=>by cases h
end
abbrev okE (r:Int × Int):Bool:=r.2 == 0
abbrev PE (r:Int × Int) (B:Bk):Prop:=inB B r.1
abbrev QE (r:Int × Int):Prop:=r.1 = 0
abbrev StE (c:Sg→Rt) (B:Bk):Prop:=Stb okE PE QE c B
theorem stE_err {B:Bk} (hw:Wf B) (e:Int) (he:e≠0):StE (fun σ=>some ((0,e),σ)) B:=stb_pure hw _ (fun h=>by simp [okE] at h; exact absurd h he) (fun _=>rfl)
theorem stE_bank {g:Bk→(Int × Int) × Bk} {B:Bk} (h1:Ext B (g B).2) (h2:Wf (g B).2) (h3:(g B).1.2 = 0→inB (g B).2 (g B).1.1∧∀ E,Wf ((g B).2 ++ E)→g ((g B).2 ++ E) = ((g B).1,(g B).2 ++ E))
  (h4:(g B).1.2≠0→(g B).1.1 = 0∧g (g B).2 = g B):StE (fun σ=>bkS (g σ.1) σ.2) B:=by
 intro M r B' M' h
 simp only [bkS,Option.some.injEq,Prod.mk.injEq] at h
 obtain ⟨rfl,rfl,rfl⟩:=h
 refine ⟨rfl,h1,h2,fun ho=>?_,fun ho=>?_⟩
 ·obtain ⟨a,b⟩:=h3 (by simpa [okE] using ho)
  exact ⟨a,fun E M2 hw=>by simp only [bkS,b E hw]⟩
 ·obtain ⟨a,b⟩:=h4 (by simpa [okE] using ho)
  exact ⟨a,fun M2=>by simp only [bkS,b]⟩
theorem wf_snoc {B:Bk} {n:Nd} (hw:Wf B) (hl:B.length≠20000) (ha:∀ i∈n.a,inB B i) (h14:n.op = 14→n.a≠[]):Wf (B ++ [n]):=by
 refine ⟨by have:=hw.1; simp only [List.length_append,List.length_singleton]; omega,?_⟩
 intro m hm
 rcases List.mem_append.1 hm with hm | hm
 ·exact ⟨fun i hi=>((hw.2 m hm).1 i hi).ext ⟨[n],rfl⟩,(hw.2 m hm).2⟩
 ·simp only [List.mem_singleton] at hm; subst hm; exact ⟨fun i hi=>(ha i hi).ext ⟨[m],rfl⟩,h14⟩
theorem addM_cases (B:Bk) (n:Nd):(∃ i,findK (keyM n) B = some i∧addM B n = (((i:Int),0),B))∨(findK (keyM n) B = none∧B.length = 20000∧addM B n = ((0,2),B))∨(findK (keyM n) B = none∧B.length≠20000∧addM B n = (((B.length:Int),0),B ++ [n])):=by
 unfold addM
 cases h:findK (keyM n) B with
 | some i=>exact .inl ⟨i,rfl,rfl⟩
 | none =>
  cases hb:((B.length:Int) == 20000) with
  | true=>exact .inr (.inl ⟨rfl,by simp at hb; omega,by simp⟩)
  | false=>exact .inr (.inr ⟨rfl,by simp at hb; omega,by simp⟩)
theorem addM_some {B:Bk} {n:Nd} {i:Nat} (h:findK (keyM n) B = some i):addM B n = (((i:Int),0),B):=by unfold addM; rw [h]
theorem addM_stb {B:Bk} {n:Nd} (hw:Wf B) (ha:∀ i∈n.a,inB B i) (h14:n.op = 14→n.a≠[]):Ext B (addM B n).2∧Wf (addM B n).2∧((addM B n).1.2 = 0→inB (addM B n).2 (addM B n).1.1∧∀ E,addM ((addM B n).2 ++ E) n = ((addM B n).1,(addM B n).2 ++ E)) ∧
  ((addM B n).1.2≠0→(addM B n).1.1 = 0∧addM (addM B n).2 n = addM B n):=by
 rcases addM_cases B n with ⟨i,h1,h2⟩ | ⟨h1,h2,h3⟩ | ⟨h1,h2,h3⟩
 ·rw [h2]
  refine ⟨Ext.refl _,hw,fun _=>⟨⟨by simp,by have:=findK_lt h1; simp; omega⟩,fun E=>addM_some (findK_ext h1 E)⟩,fun h=>absurd rfl h⟩
 ·rw [h3]
  exact ⟨Ext.refl _,hw,fun h=>absurd (show (2:Int) = 0 from h) (by decide),fun _=>⟨rfl,h3⟩⟩
 ·rw [h3]
  exact ⟨⟨[n],rfl⟩,wf_snoc hw h2 ha h14,fun _=>⟨⟨by simp,by simp; omega⟩,fun E=>addM_some (findK_ext (findK_new h1) E)⟩,fun h=>absurd rfl h⟩
theorem add_stE {B:Bk} {n:Nd} (hw:Wf B) (ha:∀ i∈n.a,inB B i) (h14:n.op = 14→n.a≠[]):StE (fun σ=>bkS (addM σ.1 n) σ.2) B:=by
 obtain ⟨h1,h2,h3,h4⟩:=addM_stb hw ha h14
 exact stE_bank (g:=fun B=>addM B n) h1 h2 (fun h=>⟨(h3 h).1,fun E _=>(h3 h).2 E⟩) h4
theorem const_stE {B:Bk} (hw:Wf B) (nm:List UInt8) (so:Int):StE (fun σ=>bkS (constM σ.1 nm so) σ.2) B:=by
 unfold constM
 cases h:(decide (so < 1) || (decide (so > 3) || decide ((nm.length:Int) > 16384))) with
 | true=>exact stE_err hw 1 (by decide)
 | false=>exact add_stE hw (fun i hi=>by cases hi) fun h=>absurd (show (1:Int) = 14 from h) (by decide)
theorem truth_stE {B:Bk} (hw:Wf B) (v:Bool):StE (fun σ=>bkS (truthM σ.1 v) σ.2) B:=add_stE hw (fun i hi=>by cases hi) fun h=>by cases v <;> exact absurd h (by decide)
theorem wnum_stE {B:Bk} (hw:Wf B) (neg:Bool) (n:List Nat):StE (fun σ=>bkS (wnumM σ.1 neg n) σ.2) B:=by
 unfold wnumM
 cases h:decide (signM neg n < 0) with
 | true=>exact stE_err hw 1 (by decide)
 | false=>exact add_stE hw (fun i hi=>by cases hi) fun h=>absurd (show (4:Int) = 14 from h) (by decide)
theorem str_stE {B:Bk} (hw:Wf B) (s:List (Int × Int)):StE (fun σ=>bkS (strM σ.1 s) σ.2) B:=by
 unfold strM
 cases h:mayM s with
 | false=>exact stE_err hw 1 (by decide)
 | true=>exact add_stE hw (fun i hi=>by cases hi) fun h=>absurd (show (5:Int) = 14 from h) (by decide)
theorem app_stE {B:Bk} (hw:Wf B) (op:Int) (a:List Int):StE (fun σ=>bkS (appM σ.1 op a) σ.2) B:=by
 by_cases hbad:a.any (badM B) = true
 ·
  have:∃ e,e≠0∧appM B op a = ((0,e),B):=by
   unfold appM
   cases h0:decide (op < 0) with
   | true=>exact ⟨101,by decide,rfl⟩
   | false =>
    simp only [cond_false]
    cases h1:asksL[op.toNat]? with
    | none=>exact ⟨101,by decide,rfl⟩
    | some x =>
     simp only
     cases h2:(x.parts == 0) with
     | true=>exact ⟨101,by decide,rfl⟩
     | false =>
      simp only [cond_false,hbad,Bool.or_true,cond_true]
      exact ⟨1,by decide,rfl⟩
  obtain ⟨e,he,h⟩:=this
  refine stE_bank (g:=fun B=>appM B op a) ?_ ?_ ?_ ?_ <;> simp only [h]
  ·exact Ext.refl _
  ·exact hw
  ·exact fun h=>absurd h he
  ·exact fun _=>⟨trivial,trivial⟩
 ·have hin:=bad_in.1 (by simpa using hbad)
  have key:∀ E:Bk,appM (B ++ E) op a = (bif decide (op < 0) then ((0,101),B ++ E) else match asksL[op.toNat]? with
   | none=>((0,101),B ++ E)
   | some x=>bif x.parts == 0 then ((0,101),B ++ E) else
    bif decide ((a.length:Int) < x.parts) || ((decide ((a.length:Int) > x.parts) && !x.more) || decide ((a.length:Int) > 200)) then ((0,1),B ++ E) else
    bif sortGo B x 0 0 a == 0 then ((0,90),B ++ E) else
    bif op == 17 && !decide (freeM B a≤1) then ((0,101),B ++ E) else addM (B ++ E) ⟨op,sortGo B x 0 0 a,a,[],false,[],[]⟩):=by
   intro E
   have hb:a.any (badM (B ++ E)) = false:=bad_in.2 fun i hi=>(hin i hi).ext ⟨E,rfl⟩
   unfold appM
   simp only [hb,Bool.or_false,sortGo_ext _ E a _ _ hin,free_ext hw E a hin]
   rfl
  have key0:=key []
  simp only [List.append_nil] at key0
  cases h0:decide (op < 0) with
  | true =>
   simp only [h0,cond_true] at key key0
   exact stE_bank (g:=fun B=>appM B op a) (by simp only [key0]; exact Ext.refl _) (by simp only [key0]; exact hw) (fun h=>by rw [key0] at h; exact absurd (show (101:Int) = 0 from h) (by decide)) (fun _=>by simp only [key0]; exact ⟨trivial,trivial⟩)
  | false =>
  simp only [h0,cond_false] at key key0
  cases h1:asksL[op.toNat]? with
  | none =>
   simp only [h1] at key key0
   exact stE_bank (g:=fun B=>appM B op a) (by simp only [key0]; exact Ext.refl _) (by simp only [key0]; exact hw) (fun h=>by rw [key0] at h; exact absurd (show (101:Int) = 0 from h) (by decide)) (fun _=>by simp only [key0]; exact ⟨trivial,trivial⟩)
  | some x =>
  simp only [h1] at key key0
  have er:∀ e:Int,e≠0→appM B op a = ((0,e),B)→StE (fun σ=>bkS (appM σ.1 op a) σ.2) B:=fun e he h =>
   stE_bank (g:=fun B=>appM B op a) (by simp only [h]; exact Ext.refl _) (by simp only [h]; exact hw) (fun hh=>by rw [h] at hh; exact absurd hh he) (fun _=>by simp only [h]; exact ⟨trivial,trivial⟩)
  cases h2:(x.parts == 0) with
  | true=>rw [h2] at key0; exact er 101 (by decide) key0
  | false =>
  rw [h2] at key0
  simp only [h2,cond_false] at key key0
  cases h3:(decide ((a.length:Int) < x.parts) || ((decide ((a.length:Int) > x.parts) && !x.more) || decide ((a.length:Int) > 200))) with
  | true=>rw [h3] at key0; exact er 1 (by decide) key0
  | false =>
  simp only [h3,cond_false] at key key0
  cases h4:(sortGo B x 0 0 a == 0) with
  | true=>rw [h4] at key0; exact er 90 (by decide) key0
  | false =>
  simp only [h4,cond_false] at key key0
  cases h5:(op == 17 && !decide (freeM B a≤1)) with
  | true=>rw [h5] at key0; exact er 101 (by decide) key0
  | false =>
  simp only [h5,cond_false] at key key0
  have h14:op = 14→a≠[]:=fun ho ha=>by
   subst ho; subst ha
   simp only [Bool.or_eq_false_iff,decide_eq_false_iff_not] at h3
   have:x.parts = 1:=by
    have h6:asksL[(14:Int).toNat]? = some ⟨1,false,2,2,2,2⟩:=rfl
    rw [h1] at h6
    cases h6; rfl
   rw [this] at h3
   exact absurd (show (([]:List Int).length:Int) < 1 by decide) h3.1
  obtain ⟨a1,a2,a3,a4⟩:=addM_stb (n:=⟨op,sortGo B x 0 0 a,a,[],false,[],[]⟩) hw hin h14
  refine stE_bank (g:=fun B=>appM B op a) (by simp only [key0]; exact a1) (by simp only [key0]; exact a2) (fun h=>?_) (fun h=>?_)
  ·simp only [key0] at h ⊢
   obtain ⟨b1,b2⟩:=a3 h
   refine ⟨b1,fun E _=>?_⟩
   obtain ⟨E1,hE⟩:=a1
   rw [hE,List.append_assoc,key]
   have:=b2 E
   rwa [hE,List.append_assoc] at this
  ·simp only [key0] at h ⊢
   obtain ⟨b1,b2⟩:=a4 h
   refine ⟨b1,?_⟩
   obtain ⟨E1,hE⟩:=a1
   rw [hE,key]
   rwa [hE] at b2
section
variable (ps:List UInt8→List Nat × Int)
def GoodF (f:List Dc→Ev→Sx→Sg→Rt):Prop:=∀ L env x B,Wf B→(∀ p∈env,inB B p.2)→StE (f L env x) B
abbrev okL (r:List Int × Int):Bool:=r.2 == 0
abbrev PL (n:Nat) (r:List Int × Int) (B:Bk):Prop:=r.1.length = n∧∀ i∈r.1,inB B i
theorem each_stb {f:List Dc→Ev→Sx→Sg→Rt} (hf:GoodF f) (L:List Dc) (env:Ev):∀ (l:List Sx) (B:Bk),Wf B→(∀ p∈env,inB B p.2)→Stb okL (PL l.length) (fun r=>r.1 = []) (eachM f L env l) B:=by
 intro l
 induction l with
 | nil=>intro B hw he; exact stb_pure hw _ (fun _=>⟨rfl,fun i hi=>by cases hi⟩) (fun _=>rfl)
 | cons x l ih =>
  intro B hw he
  refine stb_then (ok2:=okL) (Q2:=fun r:List Int × Int=>r.1 = []) (k:=fun r σ=>(eachM f L env l σ).map fun q=>((bif q.1.2 == 0 then r.1 :: q.1.1 else [],q.1.2),q.2)) (er:=fun r=>([],r.2)) (hf L env x B hw he) (fun r B1 e1 w1 p1=>?_) (fun r h _=>⟨h,rfl⟩)
  have h2:=ih B1 w1 fun p hp=>(he p hp).ext e1
  intro M q B2 M2 h
  simp only [Option.map_eq_some_iff,Prod.mk.injEq] at h
  obtain ⟨⟨⟨is,e⟩,B3,M3⟩,h3,rfl,rfl,rfl⟩:=h
  obtain ⟨rfl,a1,a2,a3,a4⟩:=h2 M _ _ _ h3
  refine ⟨rfl,a1,a2,fun ho=>?_,fun ho=>?_⟩
  ·have ho:(e == 0) = true:=ho
   obtain ⟨⟨b1,b2⟩,b3⟩:=a3 ho
   refine ⟨⟨?_,?_⟩,fun E M2 hw2=>?_⟩
   ·simp only [ho,cond_true,List.length_cons]; exact congrArg (· + 1) b1
   ·intro i hi
    simp only [ho,cond_true,List.mem_cons] at hi
    rcases hi with rfl | hi
    ·exact p1.ext a1
    ·exact b2 i hi
   ·simp only [b3 E M2 hw2,Option.map_some]
  ·have ho:(e == 0) = false:=ho
   obtain ⟨b1,b2⟩:=a4 ho
   exact ⟨by simp only [ho,cond_false],fun M2=>by simp only [b2 M2,Option.map_some]⟩
theorem zip_in {B:Bk}:∀ (ns:List (List UInt8)) (a:List Int),(∀ i∈a,inB B i)→∀ p∈List.zip ns a,inB B p.2:=by
 intro ns a h p hp
 exact h p.2 (List.of_mem_zip (a:=p.1) (b:=p.2) hp).2
theorem call_stE {f:List Dc→Ev→Sx→Sg→Rt} (hf:GoodF f) (L:List Dc) (k:Nat) (a:List Int) (B:Bk) (hw:Wf B) (ha:∀ i∈a,inB B i):StE (callM false f L k a) B:=by
 unfold callM
 cases L[k]? with
 | none=>exact stb_none
 | some d =>
  simp only
  cases hl:(a.length == d.ps.length) with
  | false=>exact stE_err hw 1 (by decide)
  | true =>
   simp only [cond_true]
   intro M r B' M' h
   cases hs:sortsOk B d.ps a with
   | false =>
    simp only [hs,cond_false,Option.some.injEq,Prod.mk.injEq] at h
    obtain ⟨rfl,rfl,rfl⟩:=h
    exact ⟨rfl,Ext.refl _,hw,fun ho=>absurd (show false = true from ho) (by decide),fun _=>⟨rfl,fun M2=>by simp only [hs,cond_false]⟩⟩
   | true =>
    simp only [hs,cond_true,cond_false,Option.map_eq_some_iff,Bool.false_and,Prod.mk.injEq] at h
    obtain ⟨⟨q,B2,M2⟩,h1,rfl,rfl,rfl⟩:=h
    obtain ⟨rfl,a1,a2,a3,a4⟩:=hf (L.take k) _ d.body B hw (zip_in _ a ha) M _ _ _ h1
    obtain ⟨E1,rfl⟩:=a1
    refine ⟨rfl,⟨E1,rfl⟩,a2,fun ho=>?_,fun ho=>?_⟩
    ·obtain ⟨b1,b2⟩:=a3 ho
     refine ⟨b1,fun E M2 hw2=>?_⟩
     simp only [List.append_assoc,sorts_ext _ d.ps a ha,hs,cond_true,cond_false,Bool.false_and]
     have:=b2 E M2 hw2
     rw [List.append_assoc] at this
     rw [this]; rfl
    ·obtain ⟨b1,b2⟩:=a4 ho
     refine ⟨b1,fun M2=>?_⟩
     simp only [sorts_ext _ d.ps a ha,hs,cond_true,cond_false,Bool.false_and,b2 M2]; rfl
theorem bound_in {B:Bk} {nm:List UInt8} {i:Int}:∀ {env:Ev},(∀ p∈env,inB B p.2)→boundM env nm = some i→inB B i:=by
 intro env
 induction env with
 | nil=>intro _ h; cases h
 | cons p l ih =>
  intro he h
  simp only [boundM] at h
  cases hb:boundM l nm with
  | some j=>rw [hb] at h; cases h; exact ih (fun q hq=>he q (List.mem_cons_of_mem _ hq)) hb
  | none =>
   rw [hb] at h
   simp only at h
   cases hn:(p.1 == nm) with
   | true=>rw [hn] at h; cases h; exact he p (List.mem_cons_self ..)
   | false=>rw [hn] at h; cases h
theorem name_stE {f:List Dc→Ev→Sx→Sg→Rt} (hf:GoodF f) (L:List Dc) (env:Ev) (nm:List UInt8) (B:Bk) (hw:Wf B) (he:∀ p∈env,inB B p.2):StE (nameM false f L env nm) B:=by
 unfold nameM
 cases nm == trueW || nm == falseW with
 | true=>exact truth_stE hw _
 | false =>
 simp only [cond_false]
 cases reservedM nm with
 | true=>exact stE_err hw 101 (by decide)
 | false =>
 simp only [cond_false]
 cases hb:boundM env nm with
 | some id=>exact stb_pure hw _ (fun _=>bound_in he hb) (fun h=>by cases h)
 | none =>
 simp only
 cases declM L nm with
 | none=>exact stE_err hw 100 (by decide)
 | some k =>
 simp only
 cases L[k]? with
 | none=>exact stb_none
 | some d =>
 simp only
 cases d.mac with
 | false=>exact const_stE hw nm d.so
 | true =>
 cases d.ps.length == 0 with
 | true=>exact call_stE hf L k [] B hw fun i hi=>by cases hi
 | false=>exact stE_err hw 1 (by decide)
theorem let_stE {f:List Dc→Ev→Sx→Sg→Rt} (hf:GoodF f) (L:List Dc) (env:Ev) (rest:List Sx) (B:Bk) (hw:Wf B) (he:∀ p∈env,inB B p.2):StE (letM f L env rest) B:=by
 match rest with
 | [] | [_] | _ :: _ :: _ :: _=>exact stE_err hw 1 (by decide)
 | [h,y] =>
 unfold letM
 dsimp only
 cases h.lst with
 | false=>exact stE_err hw 1 (by decide)
 | true =>
 simp only [cond_true]
 cases pairsM h.its with
 | none=>exact stE_err hw 1 (by decide)
 | some q =>
 obtain ⟨ns,ts⟩:=q
 simp only
 cases ns.any reservedM with
 | true=>exact stE_err hw 101 (by decide)
 | false =>
 simp only [cond_false]
 cases dbl ns with
 | true=>exact stE_err hw 4 (by decide)
 | false =>
 simp only [cond_false]
 refine stb_then (k:=fun r=>f L (env ++ List.zip ns r.1) y) (er:=fun r=>(0,r.2)) (each_stb hf L env ts B hw he) (fun r B1 e1 w1 p1=>hf _ _ _ _ w1 fun p hp=>?_) (fun r h _=>⟨h,rfl⟩)
 rcases List.mem_append.1 hp with hp | hp
 ·exact (he p hp).ext e1
 ·exact zip_in ns r.1 p1.2 p hp
theorem list_stE {f:List Dc→Ev→Sx→Sg→Rt} (hf:GoodF f) (L:List Dc) (env:Ev) (l:List Sx) (B:Bk) (hw:Wf B) (he:∀ p∈env,inB B p.2):StE (lisM false f L env l) B:=by
 match l with
 | []=>exact stE_err hw 1 (by decide)
 | h :: rest =>
 unfold lisM
 dsimp only
 cases h.isN with
 | false=>exact stE_err hw 101 (by decide)
 | true =>
 simp only [Bool.not_true,cond_false]
 cases h.txt == letW with
 | true=>exact let_stE hf L env rest B hw he
 | false =>
 simp only [cond_false]
 cases operM h.txt rest.length == 0 && reservedM h.txt with
 | true=>exact stE_err hw 101 (by decide)
 | false =>
 simp only [cond_false]
 cases operM h.txt rest.length == 0 with
 | false =>
  generalize operM h.txt rest.length = op
  show StE (thenM (eachM f L env rest) okL (fun r σ=>bkS (appM σ.1 op r.1) σ.2) (fun r=>(0,r.2))) B
  exact stb_then (each_stb hf L env rest B hw he) (fun r B1 e1 w1 p1=>app_stE w1 _ _) (fun r h _=>⟨h,rfl⟩)
 | true =>
 simp only [cond_true]
 cases boundM env h.txt with
 | some i=>exact stE_err hw 100 (by decide)
 | none =>
 cases declM L h.txt with
 | none=>exact stE_err hw 100 (by decide)
 | some k =>
 simp only
 cases L[k]? with
 | none=>exact stb_none
 | some d =>
 simp only
 cases d.mac with
 | false=>exact stE_err hw 100 (by decide)
 | true =>
 exact stb_then (k:=fun r=>callM false f L k r.1) (er:=fun r=>(0,r.2)) (each_stb hf L env rest B hw he) (fun r B1 e1 w1 p1=>call_stE hf L k _ B1 w1 p1.2) (fun r h _=>⟨h,rfl⟩)
theorem term_stE {f:List Dc→Ev→Sx→Sg→Rt} (hf:GoodF f):GoodF (termM ps false f):=by
 intro L env x B hw he
 unfold termM
 cases x.lst with
 | true=>exact list_stE hf L env x.its B hw he
 | false =>
 simp only [cond_false]
 cases x.kind == 4 with
 | true =>
  simp only [cond_true]
  cases (ps x.txt).2 != 0 with
  | true=>exact stE_err hw 101 (by decide)
  | false=>exact wnum_stE hw _ _
 | false =>
 simp only [cond_false]
 cases x.kind == 6 with
 | true=>exact str_stE hw _
 | false =>
 simp only [cond_false]
 cases x.kind == 3 with
 | true=>exact name_stE hf L env x.txt B hw he
 | false=>exact stE_err hw 101 (by decide)
theorem T_good:∀ n,GoodF (T ps false n):=by
 intro n
 induction n with
 | zero=>intro L env x B _ _; exact stb_none
 | succ n ih=>exact term_stE ps ih
end
section
variable (ps:List UInt8→List Nat × Int) {mm:Bool}
abbrev Fn:=List Dc→Ev→Sx→Sg→Rt
def FLe (f g:Fn):Prop:=∀ L env x σ r,f L env x σ = some r→g L env x σ = some r
variable {f g:Fn}
theorem each_mono (h:FLe f g) (L:List Dc) (env:Ev):∀ l σ r,eachM f L env l σ = some r→eachM g L env l σ = some r:=by
 intro l
 induction l with
 | nil=>intro σ r hr; exact hr
 | cons x l ih =>
  intro σ r hr
  simp only [eachM,Option.bind_eq_some_iff] at hr ⊢
  obtain ⟨q,h1,h2⟩:=hr
  refine ⟨q,h _ _ _ _ _ h1,?_⟩
  cases he:(q.1.2 == 0) with
  | false=>rw [he] at h2; exact h2
  | true =>
   rw [he] at h2
   simp only [cond_true,Option.map_eq_some_iff] at h2 ⊢
   obtain ⟨w,h3,h4⟩:=h2
   exact ⟨w,ih _ _ h3,h4⟩
theorem call_mono (h:FLe f g) (L:List Dc) (k:Nat) (a:List Int) (σ:Sg) (r):callM mm f L k a σ = some r→callM mm g L k a σ = some r:=by
 intro hr
 unfold callM at hr ⊢
 cases hk:L[k]? with
 | none=>rw [hk] at hr; exact hr
 | some d =>
  rw [hk] at hr
  simp only at hr ⊢
  cases h1:(a.length == d.ps.length) with
  | false=>rw [h1] at hr; exact hr
  | true =>
   rw [h1] at hr
   simp only [cond_true] at hr ⊢
   cases h2:sortsOk σ.1 d.ps a with
   | false=>rw [h2] at hr; exact hr
   | true =>
    rw [h2] at hr
    simp only [cond_true] at hr ⊢
    cases h3:(bif mm then mget (ckey k a) σ.2 else none) with
    | some id=>rw [h3] at hr; exact hr
    | none =>
     rw [h3] at hr
     simp only [Option.map_eq_some_iff] at hr ⊢
     obtain ⟨w,h4,h5⟩:=hr
     exact ⟨w,h _ _ _ _ _ h4,h5⟩
theorem name_mono (h:FLe f g) (L:List Dc) (env:Ev) (nm:List UInt8) (σ:Sg) (r):nameM mm f L env nm σ = some r→nameM mm g L env nm σ = some r:=by
 intro hr
 unfold nameM at hr ⊢
 cases h1:(nm == trueW || nm == falseW) with
 | true=>rw [h1] at hr; exact hr
 | false =>
 rw [h1] at hr
 simp only [cond_false] at hr ⊢
 cases h2:reservedM nm with
 | true=>rw [h2] at hr; exact hr
 | false =>
 rw [h2] at hr
 simp only [cond_false] at hr ⊢
 cases h3:boundM env nm with
 | some i=>rw [h3] at hr; exact hr
 | none =>
 rw [h3] at hr
 simp only at hr ⊢
 cases h4:declM L nm with
 | none=>rw [h4] at hr; exact hr
 | some k =>
 rw [h4] at hr
 simp only at hr ⊢
 cases h5:L[k]? with
 | none=>rw [h5] at hr; exact hr
 | some d =>
 rw [h5] at hr
 simp only at hr ⊢
 cases h6:d.mac with
 | false=>rw [h6] at hr; exact hr
 | true =>
 rw [h6] at hr
 cases h7:(d.ps.length == 0) with
 | false=>rw [h7] at hr; exact hr
 | true=>rw [h7] at hr; exact call_mono h L k [] σ r hr
theorem let_mono (h:FLe f g) (L:List Dc) (env:Ev) (rest:List Sx) (σ:Sg) (r):letM f L env rest σ = some r→letM g L env rest σ = some r:=by
 match rest with
 | [] | [_] | _ :: _ :: _ :: _=>exact id
 | [x,y] =>
 unfold letM
 dsimp only
 cases x.lst with
 | false=>exact id
 | true =>
 simp only [cond_true]
 cases pairsM x.its with
 | none=>exact id
 | some q =>
 obtain ⟨ns,ts⟩:=q
 simp only
 cases ns.any reservedM with
 | true=>exact id
 | false =>
 simp only [cond_false]
 cases dbl ns with
 | true=>exact id
 | false =>
 simp only [cond_false,Option.bind_eq_some_iff]
 rintro ⟨q,h1,h2⟩
 refine ⟨q,each_mono h _ _ _ _ _ h1,?_⟩
 cases he:(q.1.2 == 0) with
 | false=>rw [he] at h2; exact h2
 | true=>rw [he] at h2; exact h _ _ _ _ _ h2
theorem list_mono (h:FLe f g) (L:List Dc) (env:Ev) (l:List Sx) (σ:Sg) (r):lisM mm f L env l σ = some r→lisM mm g L env l σ = some r:=by
 match l with
 | []=>exact id
 | x :: rest =>
 unfold lisM
 dsimp only
 cases x.isN with
 | false=>exact id
 | true =>
 simp only [Bool.not_true,cond_false]
 cases x.txt == letW with
 | true=>exact let_mono h L env rest σ r
 | false =>
 simp only [cond_false]
 cases operM x.txt rest.length == 0 && reservedM x.txt with
 | true=>exact id
 | false =>
 simp only [cond_false]
 cases operM x.txt rest.length == 0 with
 | false =>
  simp only [cond_false,Option.bind_eq_some_iff]
  rintro ⟨q,h1,h2⟩
  exact ⟨q,each_mono h _ _ _ _ _ h1,h2⟩
 | true =>
 simp only [cond_true]
 cases boundM env x.txt with
 | some i=>exact id
 | none =>
 cases declM L x.txt with
 | none=>exact id
 | some k =>
 simp only
 cases L[k]? with
 | none=>exact id
 | some d =>
 simp only
 cases d.mac with
 | false=>exact id
 | true =>
 simp only [cond_true,Option.bind_eq_some_iff]
 rintro ⟨q,h1,h2⟩
 refine ⟨q,each_mono h _ _ _ _ _ h1,?_⟩
 cases he:(q.1.2 == 0) with
 | false=>rw [he] at h2; exact h2
 | true=>rw [he] at h2; exact call_mono h _ _ _ _ _ h2
theorem term_mono (h:FLe f g):FLe (termM ps mm f) (termM ps mm g):=by
 intro L env x σ r
 unfold termM
 cases x.lst with
 | true=>exact list_mono h L env x.its σ r
 | false =>
 simp only [cond_false]
 cases x.kind == 4 with
 | true=>exact id
 | false =>
 simp only [cond_false]
 cases x.kind == 6 with
 | true=>exact id
 | false =>
 simp only [cond_false]
 cases x.kind == 3 with
 | true=>exact name_mono h L env x.txt σ r
 | false=>exact id
theorem T_mono:∀ n m,n≤m→FLe (T ps mm n) (T ps mm m):=by
 intro n
 induction n with
 | zero=>intro m _ L env x σ r h; cases h
 | succ n ih =>
  intro m hm
  obtain ⟨k,rfl⟩:∃ k,m = k + 1:=⟨m - 1,by omega⟩
  exact term_mono ps (ih k (by omega))
noncomputable def U (mm:Bool):Fn:=fun L env x σ=>by
 classical exact if h:∃ r n,T ps mm n L env x σ = some r then some h.choose else none
theorem U_iff {L:List Dc} {env:Ev} {x:Sx} {σ:Sg} {r}:U ps mm L env x σ = some r↔∃ n,T ps mm n L env x σ = some r:=by
 unfold U
 constructor
 ·intro h
  split at h
  ·rename_i hh
   simp only [Option.some.injEq] at h
   obtain ⟨n,hn⟩:=hh.choose_spec
   rw [h] at hn
   exact ⟨n,hn⟩
  ·cases h
 ·rintro ⟨n,hn⟩
  have hh:∃ r n,T ps mm n L env x σ = some r:=⟨r,n,hn⟩
  rw [dif_pos hh]
  obtain ⟨m,hm⟩:=hh.choose_spec
  have h1:=T_mono ps n (max n m) (by omega) _ _ _ _ _ hn
  have h2:=T_mono ps m (max n m) (by omega) _ _ _ _ _ hm
  rw [h1] at h2
  exact h2.symm
theorem T_U (n:Nat):FLe (T ps mm n) (U ps mm):=fun L env x σ r h=>(U_iff ps).2 ⟨n,h⟩
theorem each_U (L:List Dc) (env:Ev):∀ l σ r,eachM (U ps mm) L env l σ = some r→∃ n,eachM (T ps mm n) L env l σ = some r:=by
 intro l
 induction l with
 | nil=>intro σ r hr; exact ⟨0,hr⟩
 | cons x l ih =>
  intro σ r hr
  simp only [eachM,Option.bind_eq_some_iff] at hr
  obtain ⟨q,h1,h2⟩:=hr
  obtain ⟨n,h1⟩:=(U_iff ps).1 h1
  cases he:(q.1.2 == 0) with
  | false =>
   refine ⟨n,?_⟩
   rw [he] at h2
   simp only [eachM,h1,Option.bind_some,he]
   exact h2
  | true =>
   rw [he] at h2
   simp only [cond_true,Option.map_eq_some_iff] at h2
   obtain ⟨w,h3,h4⟩:=h2
   obtain ⟨m,h3⟩:=ih _ _ h3
   refine ⟨max n m,?_⟩
   simp only [eachM,T_mono ps n (max n m) (by omega) _ _ _ _ _ h1,Option.bind_some,he,cond_true,each_mono (T_mono ps m (max n m) (by omega)) _ _ _ _ _ h3,Option.map_some,h4]
theorem call_U (L:List Dc) (k:Nat) (a:List Int) (σ:Sg) (r):callM mm (U ps mm) L k a σ = some r→∃ n,callM mm (T ps mm n) L k a σ = some r:=by
 intro hr
 unfold callM at hr ⊢
 cases hk:L[k]? with
 | none=>rw [hk] at hr; exact ⟨0,hr⟩
 | some d =>
  rw [hk] at hr
  simp only at hr ⊢
  cases h1:(a.length == d.ps.length) with
  | false=>rw [h1] at hr; exact ⟨0,hr⟩
  | true =>
   rw [h1] at hr
   simp only [cond_true] at hr ⊢
   cases h2:sortsOk σ.1 d.ps a with
   | false=>rw [h2] at hr; exact ⟨0,hr⟩
   | true =>
    rw [h2] at hr
    simp only [cond_true] at hr ⊢
    cases h3:(bif mm then mget (ckey k a) σ.2 else none) with
    | some id=>rw [h3] at hr; exact ⟨0,hr⟩
    | none =>
     rw [h3] at hr
     simp only [Option.map_eq_some_iff] at hr ⊢
     obtain ⟨w,h4,h5⟩:=hr
     obtain ⟨n,h4⟩:=(U_iff ps).1 h4
     exact ⟨n,w,h4,h5⟩
theorem name_U (L:List Dc) (env:Ev) (nm:List UInt8) (σ:Sg) (r):nameM mm (U ps mm) L env nm σ = some r→∃ n,nameM mm (T ps mm n) L env nm σ = some r:=by
 intro hr
 unfold nameM at hr ⊢
 cases h1:(nm == trueW || nm == falseW) with
 | true=>rw [h1] at hr; exact ⟨0,hr⟩
 | false =>
 rw [h1] at hr
 simp only [cond_false] at hr ⊢
 cases h2:reservedM nm with
 | true=>rw [h2] at hr; exact ⟨0,hr⟩
 | false =>
 rw [h2] at hr
 simp only [cond_false] at hr ⊢
 cases h3:boundM env nm with
 | some i=>rw [h3] at hr; exact ⟨0,hr⟩
 | none =>
 rw [h3] at hr
 simp only at hr ⊢
 cases h4:declM L nm with
 | none=>rw [h4] at hr; exact ⟨0,hr⟩
 | some k =>
 rw [h4] at hr
 simp only at hr ⊢
 cases h5:L[k]? with
 | none=>rw [h5] at hr; exact ⟨0,hr⟩
 | some d =>
 rw [h5] at hr
 simp only at hr ⊢
 cases h6:d.mac with
 | false=>rw [h6] at hr; exact ⟨0,hr⟩
 | true =>
 rw [h6] at hr
 cases h7:(d.ps.length == 0) with
 | false=>rw [h7] at hr; exact ⟨0,hr⟩
 | true=>rw [h7] at hr; exact call_U ps L k [] σ r hr
theorem let_U (L:List Dc) (env:Ev) (rest:List Sx) (σ:Sg) (r):letM (U ps mm) L env rest σ = some r→∃ n,letM (T ps mm n) L env rest σ = some r:=by
 match rest with
 | [] | [_] | _ :: _ :: _ :: _=>exact fun h=>⟨0,h⟩
 | [x,y] =>
 unfold letM
 dsimp only
 cases x.lst with
 | false=>exact fun h=>⟨0,h⟩
 | true =>
 simp only [cond_true]
 cases pairsM x.its with
 | none=>exact fun h=>⟨0,h⟩
 | some q =>
 obtain ⟨ns,ts⟩:=q
 simp only
 cases ns.any reservedM with
 | true=>exact fun h=>⟨0,h⟩
 | false =>
 simp only [cond_false]
 cases dbl ns with
 | true=>exact fun h=>⟨0,h⟩
 | false =>
 simp only [cond_false,Option.bind_eq_some_iff]
 rintro ⟨q,h1,h2⟩
 obtain ⟨n,h1⟩:=each_U ps _ _ _ _ _ h1
 cases he:(q.1.2 == 0) with
 | false=>rw [he] at h2; exact ⟨n,q,h1,by rw [he]; exact h2⟩
 | true =>
  rw [he] at h2
  obtain ⟨m,h2⟩:=(U_iff ps).1 h2
  exact ⟨max n m,q,each_mono (T_mono ps n (max n m) (by omega)) _ _ _ _ _ h1,by rw [he]; exact T_mono ps m (max n m) (by omega) _ _ _ _ _ h2⟩
theorem list_U (L:List Dc) (env:Ev) (l:List Sx) (σ:Sg) (r):lisM mm (U ps mm) L env l σ = some r→∃ n,lisM mm (T ps mm n) L env l σ = some r:=by
 match l with
 | []=>exact fun h=>⟨0,h⟩
 | x :: rest =>
 unfold lisM
 dsimp only
 cases x.isN with
 | false=>exact fun h=>⟨0,h⟩
 | true =>
 simp only [Bool.not_true,cond_false]
 cases x.txt == letW with
 | true=>exact let_U ps L env rest σ r
 | false =>
 simp only [cond_false]
 cases operM x.txt rest.length == 0 && reservedM x.txt with
 | true=>exact fun h=>⟨0,h⟩
 | false =>
 simp only [cond_false]
 cases operM x.txt rest.length == 0 with
 | false =>
  simp only [cond_false,Option.bind_eq_some_iff]
  rintro ⟨q,h1,h2⟩
  obtain ⟨n,h1⟩:=each_U ps _ _ _ _ _ h1
  exact ⟨n,q,h1,h2⟩
 | true =>
 simp only [cond_true]
 cases boundM env x.txt with
 | some i=>exact fun h=>⟨0,h⟩
 | none =>
 cases declM L x.txt with
 | none=>exact fun h=>⟨0,h⟩
 | some k =>
 simp only
 cases L[k]? with
 | none=>exact fun h=>⟨0,h⟩
 | some d =>
 simp only
 cases d.mac with
 | false=>exact fun h=>⟨0,h⟩
 | true =>
 simp only [cond_true,Option.bind_eq_some_iff]
 rintro ⟨q,h1,h2⟩
 obtain ⟨n,h1⟩:=each_U ps _ _ _ _ _ h1
 cases he:(q.1.2 == 0) with
 | false=>rw [he] at h2; exact ⟨n,q,h1,by rw [he]; exact h2⟩
 | true =>
  rw [he] at h2
  obtain ⟨m,h2⟩:=call_U ps _ _ _ _ _ h2
  exact ⟨max n m,q,each_mono (T_mono ps n (max n m) (by omega)) _ _ _ _ _ h1,by rw [he]; exact call_mono (T_mono ps m (max n m) (by omega)) _ _ _ _ _ h2⟩
theorem term_U (L:List Dc) (env:Ev) (x:Sx) (σ:Sg) (r):termM ps mm (U ps mm) L env x σ = some r→∃ n,termM ps mm (T ps mm n) L env x σ = some r:=by
 unfold termM
 cases x.lst with
 | true=>exact list_U ps L env x.its σ r
 | false =>
 simp only [cond_false]
 cases x.kind == 4 with
 | true=>exact fun h=>⟨0,h⟩
 | false =>
 simp only [cond_false]
 cases x.kind == 6 with
 | true=>exact fun h=>⟨0,h⟩
 | false =>
 simp only [cond_false]
 cases x.kind == 3 with
 | true=>exact name_U ps L env x.txt σ r
 | false=>exact fun h=>⟨0,h⟩
theorem U_fix (L:List Dc) (env:Ev) (x:Sx) (σ:Sg):U ps mm L env x σ = termM ps mm (U ps mm) L env x σ:=by
 have key:∀ r,U ps mm L env x σ = some r↔termM ps mm (U ps mm) L env x σ = some r:=by
  intro r
  constructor
  ·intro h
   obtain ⟨n,hn⟩:=(U_iff ps).1 h
   cases n with
   | zero=>cases hn
   | succ n=>exact term_mono ps (T_U ps n) _ _ _ _ _ hn
  ·intro h
   obtain ⟨n,hn⟩:=term_U ps _ _ _ _ _ h
   exact (U_iff ps).2 ⟨n + 1,hn⟩
 cases h:termM ps mm (U ps mm) L env x σ with
 | some r=>exact (key r).2 h
 | none =>
  cases h2:U ps mm L env x σ with
  | none=>rfl
  | some r=>rw [(key r).1 h2] at h; cases h
theorem U_good:GoodF (U ps false):=by
 intro L env x B hw he M r B' M' h
 obtain ⟨n,hn⟩:=(U_iff ps).1 h
 obtain ⟨h1,h2,h3,h4,h5⟩:=T_good ps n L env x B hw he M r B' M' hn
 exact ⟨h1,h2,h3,fun ho=>⟨(h4 ho).1,fun E M2 hw2=>(U_iff ps).2 ⟨n,(h4 ho).2 E M2 hw2⟩⟩,fun ho=>⟨(h5 ho).1,fun M2=>(U_iff ps).2 ⟨n,(h5 ho).2 M2⟩⟩⟩
end
theorem mget_set (k:List UInt8) (v:Int) (k':List UInt8):∀ M:Mm,mget k' (mset k v M) = bif k' == k then some v else mget k' M:=by
 intro M
 induction M with
 | nil=>simp [mset,mget]
 | cons p M ih =>
  obtain ⟨a,u⟩:=p
  simp only [mset]
  cases h:(k == a) with
  | true =>
   have:k = a:=by simpa using h
   subst this
   simp only [cond_true,mget]
   cases (k' == k) <;> rfl
  | false =>
   simp only [cond_false,mget,ih]
   cases h2:(k' == a) with
   | true =>
    have:k' = a:=by simpa using h2
    subst this
    have h3:(k' == k) = false:=by
     cases h4:(k' == k) with
     | false=>rfl
     | true =>
      have:k' = k:=by simpa using h4
      subst this; simp at h
    simp [h3]
   | false=>simp
section
abbrev KeyOk:Prop:=∀ k a k' a',k < 2 ^ 60→k' < 2 ^ 60→(∀ i∈a,0≤i∧i < 2 ^ 60)→(∀ i∈a',0≤i∧i < 2 ^ 60)→ckey k a = ckey k' a'→k = k'∧a = a'
theorem in_small {B:Bk} (hw:Wf B) {a:List Int} (h:∀ i∈a,inB B i):∀ i∈a,0≤i∧i < 2 ^ 60:=fun i hi=>by
 obtain ⟨h1,h2⟩:=h i hi; have:=hw.1; exact ⟨h1,by omega⟩
variable (ps:List UInt8→List Nat × Int)
def MVal (L0:List Dc) (B:Bk) (M:Mm):Prop:=∀ key id,mget key M = some id→∃ k d a,key = ckey k a∧L0[k]? = some d∧a.length = d.ps.length∧(∀ i∈a,inB B i)∧inB B id ∧
 U ps false (L0.take k) (List.zip (d.ps.map (·.1)) a) d.body (B,[]) = some ((id,0),(B,[]))
theorem mval_nil (L0:List Dc) (B:Bk):MVal ps L0 B []:=fun key id h=>by cases h
theorem mval_ext {L0:List Dc} {B B':Bk} {M:Mm} (h:MVal ps L0 B M) (hw:Wf B) (e:Ext B B') (hw':Wf B'):MVal ps L0 B' M:=by
 intro key id hk
 obtain ⟨k,d,a,h1,h2,h3,h4,h5,h6⟩:=h key id hk
 refine ⟨k,d,a,h1,h2,h3,fun i hi=>(h4 i hi).ext e,h5.ext e,?_⟩
 obtain ⟨E,rfl⟩:=e
 obtain ⟨_,_,_,h7,_⟩:=U_good ps (L0.take k) _ d.body B hw (zip_in _ a h4) [] _ _ _ h6
 exact (h7 rfl).2 E [] hw'
def TrF (L0:List Dc) (f:Fn):Prop:=∀ j env x B M r B' M',Wf B→(∀ p∈env,inB B p.2)→MVal ps L0 B M→f (L0.take j) env x (B,M) = some (r,(B',M')) →
 U ps false (L0.take j) env x (B,[]) = some (r,(B',[]))∧MVal ps L0 B' M'
variable {L0:List Dc} {f:Fn}
theorem U_step {L:List Dc} {env:Ev} {x:Sx} {B B':Bk} {r:Int × Int} (hw:Wf B) (he:∀ p∈env,inB B p.2) (h:U ps false L env x (B,[]) = some (r,(B',[]))):Ext B B'∧Wf B'∧(r.2 = 0→inB B' r.1):=by
 obtain ⟨_,h1,h2,h3,_⟩:=U_good ps L env x B hw he [] _ _ _ h
 exact ⟨h1,h2,fun h0=>(h3 (by simpa [okE] using h0)).1⟩
theorem each_step {L:List Dc} {env:Ev} {l:List Sx} {B B':Bk} {r:List Int × Int} (hw:Wf B) (he:∀ p∈env,inB B p.2) (h:eachM (U ps false) L env l (B,[]) = some (r,(B',[]))):Ext B B'∧Wf B'∧(r.2 = 0→r.1.length = l.length∧∀ i∈r.1,inB B' i):=by
 obtain ⟨_,h1,h2,h3,_⟩:=each_stb (U_good ps) L env l B hw he [] _ _ _ h
 exact ⟨h1,h2,fun h0=>(h3 (by simpa [okL] using h0)).1⟩
theorem each_tr (hf:TrF ps L0 f) (j:Nat) (env:Ev):∀ l B M r B' M',Wf B→(∀ p∈env,inB B p.2)→MVal ps L0 B M→eachM f (L0.take j) env l (B,M) = some (r,(B',M')) →
  eachM (U ps false) (L0.take j) env l (B,[]) = some (r,(B',[]))∧MVal ps L0 B' M':=by
 intro l
 induction l with
 | nil =>
  intro B M r B' M' _ _ hm h
  simp only [eachM,Option.some.injEq,Prod.mk.injEq] at h
  obtain ⟨rfl,rfl,rfl⟩:=h
  exact ⟨rfl,hm⟩
 | cons x l ih =>
  intro B M r B' M' hw he hm h
  simp only [eachM,Option.bind_eq_some_iff] at h ⊢
  obtain ⟨⟨q,B1,M1⟩,h1,h2⟩:=h
  obtain ⟨k1,m1⟩:=hf j env x B M q B1 M1 hw he hm h1
  obtain ⟨e1,w1,_⟩:=U_step ps hw he k1
  cases hq:(q.2 == 0) with
  | false =>
   simp only [hq,cond_false,Option.some.injEq,Prod.mk.injEq] at h2
   obtain ⟨rfl,rfl,rfl⟩:=h2
   exact ⟨⟨_,k1,by simp only [hq,cond_false]⟩,m1⟩
  | true =>
   simp only [hq,cond_true,Option.map_eq_some_iff] at h2
   obtain ⟨⟨w,B2,M2⟩,h3,h4⟩:=h2
   simp only [Prod.mk.injEq] at h4
   obtain ⟨rfl,rfl,rfl⟩:=h4
   obtain ⟨k2,m2⟩:=ih B1 M1 w B2 M2 w1 (fun p hp=>(he p hp).ext e1) m1 h3
   exact ⟨⟨_,k1,by simp only [hq,cond_true,k2,Option.map_some]⟩,m2⟩
theorem take_get {α:Type} {l:List α} {j k:Nat} {d:α} (h:(l.take j)[k]? = some d):l[k]? = some d∧(l.take j).take k = l.take k:=by
 have hk:k < (l.take j).length:=(List.getElem?_eq_some_iff.1 h).1
 simp only [List.length_take] at hk
 rw [List.getElem?_take_of_lt (by omega)] at h
 exact ⟨h,by rw [List.take_take,Nat.min_eq_left (by omega)]⟩
theorem call_tr (hkey:KeyOk) (hL:L0.length < 2 ^ 60) (hf:TrF ps L0 f) (j k:Nat) (a:List Int) (B M r B' M') (hw:Wf B) (ha:∀ i∈a,inB B i) (hm:MVal ps L0 B M) (h:callM true f (L0.take j) k a (B,M) = some (r,(B',M'))) :
  callM false (U ps false) (L0.take j) k a (B,[]) = some (r,(B',[]))∧MVal ps L0 B' M':=by
 unfold callM at h ⊢
 cases hk:(L0.take j)[k]? with
 | none=>rw [hk] at h; cases h
 | some d =>
  obtain ⟨hd,htk⟩:=take_get hk
  rw [hk] at h
  simp only at h ⊢
  cases h1:(a.length == d.ps.length) with
  | false =>
   simp only [h1,cond_false,Option.some.injEq,Prod.mk.injEq] at h ⊢
   obtain ⟨rfl,rfl,rfl⟩:=h
   exact ⟨by simp,hm⟩
  | true =>
   simp only [h1,cond_true] at h ⊢
   cases h2:sortsOk B d.ps a with
   | false =>
    simp only [h2,cond_false,Option.some.injEq,Prod.mk.injEq] at h ⊢
    obtain ⟨rfl,rfl,rfl⟩:=h
    exact ⟨by simp,hm⟩
   | true =>
    simp only [h2,cond_true,cond_false,Bool.false_and,Bool.true_and,htk] at h ⊢
    cases h3:mget (ckey k a) M with
    | some id =>
     simp only [h3,Option.some.injEq,Prod.mk.injEq] at h
     obtain ⟨rfl,rfl,rfl⟩:=h
     obtain ⟨k',d',a',e1,e2,e3,e4,e5,e6⟩:=hm _ _ h3
     have k1:=(List.getElem?_eq_some_iff.1 hd).1
     have k2:=(List.getElem?_eq_some_iff.1 e2).1
     obtain ⟨rfl,rfl⟩:=hkey _ _ _ _ (by omega) (by omega) (in_small hw ha) (in_small hw e4) e1
     rw [hd] at e2
     cases e2
     simp only [e6,Option.map_some]
     exact ⟨trivial,hm⟩
    | none =>
     simp only [h3,Option.map_eq_some_iff] at h
     obtain ⟨⟨q,B2,M2⟩,h4,h5⟩:=h
     simp only [Prod.mk.injEq] at h5
     obtain ⟨rfl,rfl,rfl⟩:=h5
     obtain ⟨k1,m1⟩:=hf k _ d.body B M q B2 M2 hw (zip_in _ a ha) hm h4
     simp only [k1,Option.map_some]
     refine ⟨trivial,?_⟩
     cases hq:(q.2 == 0) with
     | false=>exact m1
     | true =>
      obtain ⟨i,e⟩:=q
      have he:e = 0:=by simpa using hq
      subst he
      obtain ⟨e1,w1,in1⟩:=U_step ps hw (zip_in _ a ha) k1
      intro key id hkk
      simp only [cond_true,mget_set] at hkk
      cases hb:(key == ckey k a) with
      | false=>rw [hb] at hkk; exact m1 key id hkk
      | true =>
       rw [hb] at hkk
       simp only [cond_true,Option.some.injEq] at hkk
       subst hkk
       refine ⟨k,d,a,by simpa using hb,hd,by simpa using h1,fun i hi=>(ha i hi).ext e1,in1 rfl,?_⟩
       obtain ⟨_,_,_,h7,_⟩:=U_good ps (L0.take k) _ d.body B hw (zip_in _ a ha) [] _ _ _ k1
       have:=(h7 rfl).2 [] [] (by simpa using w1)
       simpa using this
theorem bk_tr {g:Bk→(Int × Int) × Bk} {B:Bk} {M:Mm} {r B' M'} (hst:StE (fun σ=>bkS (g σ.1) σ.2) B) (hw:Wf B) (hm:MVal ps L0 B M) (h:bkS (g B) M = some (r,(B',M'))):bkS (g B) [] = some (r,(B',[]))∧MVal ps L0 B' M':=by
 simp only [bkS,Option.some.injEq,Prod.mk.injEq] at h
 obtain ⟨rfl,rfl,rfl⟩:=h
 obtain ⟨_,h1,h2,_⟩:=hst [] _ _ _ rfl
 exact ⟨rfl,mval_ext ps hm hw h1 h2⟩
theorem err_tr {B:Bk} {M:Mm} {q r:Int × Int} {B' M'} (hm:MVal ps L0 B M) (h:(some (q,(B,M)):Rt) = some (r,(B',M'))):(some (q,(B,[])):Rt) = some (r,(B',[]))∧MVal ps L0 B' M':=by
 simp only [Option.some.injEq,Prod.mk.injEq] at h
 obtain ⟨rfl,rfl,rfl⟩:=h
 exact ⟨rfl,hm⟩
theorem name_tr (hkey:KeyOk) (hL:L0.length < 2 ^ 60) (hf:TrF ps L0 f) (j:Nat) (env:Ev) (nm:List UInt8) (B M r B' M') (hw:Wf B) (he:∀ p∈env,inB B p.2) (hm:MVal ps L0 B M) (h:nameM true f (L0.take j) env nm (B,M) = some (r,(B',M'))) :
  nameM false (U ps false) (L0.take j) env nm (B,[]) = some (r,(B',[]))∧MVal ps L0 B' M':=by
 unfold nameM at h ⊢
 cases h1:(nm == trueW || nm == falseW) with
 | true=>rw [h1] at h; exact bk_tr ps (g:=fun B=>truthM B (nm == trueW)) (truth_stE hw _) hw hm h
 | false =>
 simp only [h1,cond_false] at h ⊢
 cases h2:reservedM nm with
 | true=>rw [h2] at h; exact err_tr ps hm h
 | false =>
 simp only [h2,cond_false] at h ⊢
 cases h3:boundM env nm with
 | some i=>rw [h3] at h; exact err_tr ps hm h
 | none =>
 simp only [h3] at h ⊢
 cases h4:declM (L0.take j) nm with
 | none=>rw [h4] at h; exact err_tr ps hm h
 | some k =>
 simp only [h4] at h ⊢
 cases h5:(L0.take j)[k]? with
 | none=>rw [h5] at h; cases h
 | some d =>
 simp only [h5] at h ⊢
 cases h6:d.mac with
 | false=>rw [h6] at h; exact bk_tr ps (g:=fun B=>constM B nm d.so) (const_stE hw nm d.so) hw hm h
 | true =>
 simp only [h6,cond_true] at h ⊢
 cases h7:(d.ps.length == 0) with
 | false=>rw [h7] at h; exact err_tr ps hm h
 | true=>rw [h7] at h; exact call_tr ps hkey hL hf j k [] B M r B' M' hw (fun i hi=>by cases hi) hm h
theorem let_tr (hf:TrF ps L0 f) (j:Nat) (env:Ev) (rest:List Sx) (B M r B' M') (hw:Wf B) (he:∀ p∈env,inB B p.2) (hm:MVal ps L0 B M) (h:letM f (L0.take j) env rest (B,M) = some (r,(B',M'))) :
  letM (U ps false) (L0.take j) env rest (B,[]) = some (r,(B',[]))∧MVal ps L0 B' M':=by
 match rest,h with
 | [],h | [_],h | _ :: _ :: _ :: _,h=>exact err_tr ps hm h
 | [x,y],h =>
 unfold letM at h ⊢
 dsimp only at h ⊢
 cases h1:x.lst with
 | false=>rw [h1] at h; exact err_tr ps hm h
 | true =>
 simp only [h1,cond_true] at h ⊢
 cases h2:pairsM x.its with
 | none=>rw [h2] at h; exact err_tr ps hm h
 | some q =>
 obtain ⟨ns,ts⟩:=q
 simp only [h2] at h ⊢
 cases h3:ns.any reservedM with
 | true=>rw [h3] at h; exact err_tr ps hm h
 | false =>
 simp only [h3,cond_false] at h ⊢
 cases h4:dbl ns with
 | true=>rw [h4] at h; exact err_tr ps hm h
 | false =>
 simp only [h4,cond_false,Option.bind_eq_some_iff] at h ⊢
 obtain ⟨⟨q,B1,M1⟩,k1,k2⟩:=h
 obtain ⟨u1,m1⟩:=each_tr ps hf j env ts B M q B1 M1 hw he hm k1
 obtain ⟨e1,w1,in1⟩:=each_step ps hw he u1
 cases hq:(q.2 == 0) with
 | false =>
  simp only [hq,cond_false] at k2
  obtain ⟨u2,m2⟩:=err_tr ps m1 k2
  exact ⟨⟨_,u1,by simp only [hq,cond_false]; exact u2⟩,m2⟩
 | true =>
  simp only [hq,cond_true] at k2
  obtain ⟨u2,m2⟩:=hf j _ y B1 M1 r B' M' w1 (fun p hp=>by
   rcases List.mem_append.1 hp with hp | hp
   ·exact (he p hp).ext e1
   ·exact zip_in ns q.1 (in1 (by simpa using hq)).2 p hp) m1 k2
  exact ⟨⟨_,u1,by simp only [hq,cond_true]; exact u2⟩,m2⟩
theorem list_tr (hkey:KeyOk) (hL:L0.length < 2 ^ 60) (hf:TrF ps L0 f) (j:Nat) (env:Ev) (l:List Sx) (B M r B' M') (hw:Wf B) (he:∀ p∈env,inB B p.2) (hm:MVal ps L0 B M) (h:lisM true f (L0.take j) env l (B,M) = some (r,(B',M'))) :
  lisM false (U ps false) (L0.take j) env l (B,[]) = some (r,(B',[]))∧MVal ps L0 B' M':=by
 match l,h with
 | [],h=>exact err_tr ps hm h
 | x :: rest,h =>
 unfold lisM at h ⊢
 dsimp only at h ⊢
 cases h1:x.isN with
 | false=>rw [h1] at h; exact err_tr ps hm h
 | true =>
 simp only [h1,Bool.not_true,cond_false] at h ⊢
 cases h2:(x.txt == letW) with
 | true=>rw [h2] at h; exact let_tr ps hf j env rest B M r B' M' hw he hm h
 | false =>
 simp only [h2,cond_false] at h ⊢
 cases h3:(operM x.txt rest.length == 0 && reservedM x.txt) with
 | true=>rw [h3] at h; exact err_tr ps hm h
 | false =>
 simp only [h3,cond_false] at h ⊢
 cases h4:(operM x.txt rest.length == 0) with
 | false =>
  simp only [h4,cond_false,Option.bind_eq_some_iff] at h ⊢
  obtain ⟨⟨q,B1,M1⟩,k1,k2⟩:=h
  obtain ⟨u1,m1⟩:=each_tr ps hf j env rest B M q B1 M1 hw he hm k1
  obtain ⟨e1,w1,in1⟩:=each_step ps hw he u1
  cases hq:(q.2 == 0) with
  | false =>
   simp only [hq,cond_false] at k2
   obtain ⟨u2,m2⟩:=err_tr ps m1 k2
   exact ⟨⟨_,u1,by simp only [hq,cond_false]; exact u2⟩,m2⟩
  | true =>
   simp only [hq,cond_true] at k2
   generalize operM x.txt rest.length = op at k2
   obtain ⟨u2,m2⟩:=bk_tr ps (g:=fun B=>appM B op q.1) (app_stE w1 _ _) w1 m1 k2
   exact ⟨⟨_,u1,by simp only [hq,cond_true]; exact u2⟩,m2⟩
 | true =>
 simp only [h4,cond_true] at h ⊢
 cases h5:boundM env x.txt with
 | some i=>rw [h5] at h; exact err_tr ps hm h
 | none =>
 cases h6:declM (L0.take j) x.txt with
 | none=>rw [h5,h6] at h; exact err_tr ps hm h
 | some k =>
 simp only [h5,h6] at h ⊢
 cases h7:(L0.take j)[k]? with
 | none=>rw [h7] at h; cases h
 | some d =>
 simp only [h7] at h ⊢
 cases h8:d.mac with
 | false=>rw [h8] at h; exact err_tr ps hm h
 | true =>
 simp only [h8,cond_true,Option.bind_eq_some_iff] at h ⊢
 obtain ⟨⟨q,B1,M1⟩,k1,k2⟩:=h
 obtain ⟨u1,m1⟩:=each_tr ps hf j env rest B M q B1 M1 hw he hm k1
 obtain ⟨e1,w1,in1⟩:=each_step ps hw he u1
 cases hq:(q.2 == 0) with
 | false =>
  simp only [hq,cond_false] at k2
  obtain ⟨u2,m2⟩:=err_tr ps m1 k2
  exact ⟨⟨_,u1,by simp only [hq,cond_false]; exact u2⟩,m2⟩
 | true =>
  simp only [hq,cond_true] at k2
  obtain ⟨u2,m2⟩:=call_tr ps hkey hL hf j k q.1 B1 M1 r B' M' w1 (in1 (by simpa using hq)).2 m1 k2
  exact ⟨⟨_,u1,by simp only [hq,cond_true]; exact u2⟩,m2⟩
theorem term_tr (hkey:KeyOk) (hL:L0.length < 2 ^ 60) (hf:TrF ps L0 f):TrF ps L0 (termM ps true f):=by
 intro j env x B M r B' M' hw he hm h
 rw [U_fix]
 unfold termM at h ⊢
 cases h1:x.lst with
 | true=>rw [h1] at h; exact list_tr ps hkey hL hf j env x.its B M r B' M' hw he hm h
 | false =>
 simp only [h1,cond_false] at h ⊢
 cases h2:(x.kind == 4) with
 | true =>
  simp only [h2,cond_true] at h ⊢
  cases h3:((ps x.txt).2 != 0) with
  | true=>rw [h3] at h; exact err_tr ps hm h
  | false=>rw [h3] at h; exact bk_tr ps (g:=fun B=>wnumM B false (ps x.txt).1) (wnum_stE hw _ _) hw hm h
 | false =>
 simp only [h2,cond_false] at h ⊢
 cases h3:(x.kind == 6) with
 | true=>rw [h3] at h; exact bk_tr ps (g:=fun B=>strM B (runGo (ptsM x.txt) []).1) (str_stE hw _) hw hm h
 | false =>
 simp only [h3,cond_false] at h ⊢
 cases h4:(x.kind == 3) with
 | true=>rw [h4] at h; exact name_tr ps hkey hL hf j env x.txt B M r B' M' hw he hm h
 | false=>rw [h4] at h; exact err_tr ps hm h
theorem T_tr (hkey:KeyOk) (hL:L0.length < 2 ^ 60):∀ n,TrF ps L0 (T ps true n):=by
 intro n
 induction n with
 | zero=>intro j env x B M r B' M' _ _ _ h; cases h
 | succ n ih=>exact term_tr ps hkey hL ih
theorem T_plain (hkey:KeyOk) {n:Nat} {L:List Dc} (hL:L.length < 2 ^ 60) {x:Sx} {B:Bk} {r B' M'} {env:Ev} (hw:Wf B) (he:∀ p∈env,inB B p.2) (h:T ps true n L env x (B,[]) = some (r,(B',M'))):U ps false L env x (B,[]) = some (r,(B',[])):=by
 have:=T_tr ps hkey (L0:=L) hL n L.length env x B [] r B' M' hw he (mval_nil ps L B)
 rw [List.take_length] at this
 exact (this h).1
end
end
noncomputable section
section
variable (ps:List UInt8→List Nat × Int)
mutual
def Sx.wt:Sx→Nat
 | .mk _ _ _ _ _ l=>1 + Sx.wts l
def Sx.wts:List Sx→Nat
 | []=>0
 | s :: l=>s.wt + Sx.wts l
end
theorem wts_mem:∀ {l:List Sx} {s:Sx},s∈l→s.wt≤Sx.wts l:=by
 intro l
 induction l with
 | nil=>intro s h; cases h
 | cons a l ih =>
  intro s h
  simp only [Sx.wts]
  rcases List.mem_cons.1 h with rfl | h
  ·omega
  ·have:=ih h; omega
theorem its_wt {x s:Sx} (h:s∈x.its):s.wt < x.wt:=by
 cases x with
 | mk l k t p a items =>
  have h:s∈items:=h
  have:=wts_mem h
  simp only [Sx.wt]; omega
theorem pairs_mem:∀ {l:List Sx} {ns:List (List UInt8)} {ts:List Sx},pairsM l = some (ns,ts)→∀ t∈ts,∃ p∈l,t∈p.its:=by
 intro l
 induction l with
 | nil=>intro ns ts h; simp only [pairsM,Option.some.injEq,Prod.mk.injEq] at h; obtain ⟨rfl,rfl⟩:=h; intro t ht; cases ht
 | cons p l ih =>
  intro ns ts h
  unfold pairsM at h
  split at h
  ·rename_i x y h1 h2
   cases hx:x.isN with
   | false=>rw [hx] at h; cases h
   | true =>
    rw [hx] at h
    simp only [cond_true,Option.map_eq_some_iff] at h
    obtain ⟨⟨ns',ts'⟩,h3,h4⟩:=h
    simp only [Prod.mk.injEq] at h4
    obtain ⟨rfl,rfl⟩:=h4
    intro t ht
    rcases List.mem_cons.1 ht with rfl | ht
    ·exact ⟨p,List.mem_cons_self ..,by rw [h2]; simp⟩
    ·obtain ⟨q,h5,h6⟩:=ih h3 t ht; exact ⟨q,List.mem_cons_of_mem _ h5,h6⟩
  ·cases h
theorem decl_lt {nm:List UInt8}:∀ {L:List Dc} {k:Nat},declM L nm = some k→k < L.length:=by
 intro L
 induction L with
 | nil=>intro k h; cases h
 | cons d L ih =>
  intro k h
  simp only [declM] at h
  cases h1:declM L nm with
  | some i=>rw [h1] at h; simp only [Option.some.injEq] at h; subst h; have:=ih h1; simp only [List.length_cons]; omega
  | none =>
   rw [h1] at h
   simp only at h
   cases h2:(d.nm == nm) with
   | true=>rw [h2] at h; simp only [cond_true,Option.some.injEq] at h; subst h; simp
   | false=>rw [h2] at h; cases h
variable {mm:Bool}
theorem each_tot {f:Fn} {L:List Dc} {env:Ev}:∀ {l:List Sx},(∀ x∈l,∀ σ,∃ r,f L env x σ = some r)→∀ σ,∃ r,eachM f L env l σ = some r:=by
 intro l
 induction l with
 | nil=>intro _ σ; exact ⟨_,rfl⟩
 | cons x l ih =>
  intro h σ
  obtain ⟨q,hq⟩:=h x (List.mem_cons_self ..) σ
  simp only [eachM,hq,Option.bind_some]
  cases (q.1.2 == 0) with
  | false=>exact ⟨_,rfl⟩
  | true =>
   obtain ⟨w,hw⟩:=ih (fun y hy=>h y (List.mem_cons_of_mem _ hy)) q.2
   simp only [cond_true,hw,Option.map_some]; exact ⟨_,rfl⟩
theorem call_tot {f:Fn} {L:List Dc} {k:Nat} {a:List Int} (hk:k < L.length) (h:∀ env x σ,∃ r,f (L.take k) env x σ = some r):∀ σ,∃ r,callM mm f L k a σ = some r:=by
 intro σ
 unfold callM
 obtain ⟨d,hd⟩:∃ d,L[k]? = some d:=⟨_,List.getElem?_eq_getElem hk⟩
 rw [hd]
 simp only
 cases a.length == d.ps.length with
 | false=>exact ⟨_,rfl⟩
 | true =>
  simp only [cond_true]
  cases sortsOk σ.1 d.ps a with
  | false=>exact ⟨_,rfl⟩
  | true =>
   simp only [cond_true]
   cases (bif mm then mget (ckey k a) σ.2 else none) with
   | some id=>exact ⟨_,rfl⟩
   | none =>
    obtain ⟨w,hw⟩:=h (List.zip (d.ps.map (·.1)) a) d.body σ
    simp only [hw,Option.map_some]; exact ⟨_,rfl⟩
theorem tot_aux (L:List Dc) (env:Ev) (x:Sx) (σ:Sg) (h1:∀ y:Sx,y.wt < x.wt→∀ env σ,∃ r,U ps mm L env y σ = some r) (h2:∀ k,k < L.length→∀ env y σ,∃ r,U ps mm (L.take k) env y σ = some r):∃ r,termM ps mm (U ps mm) L env x σ = some r:=by
 have hl:∀ {l:List Sx},(∀ y∈l,y.wt < x.wt)→∀ env σ,∃ r,eachM (U ps mm) L env l σ = some r:=fun hh env σ=>each_tot (fun y hy σ=>h1 y (hh y hy) env σ) σ
 unfold termM
 cases hx:x.lst with
 | true =>
  simp only [cond_true]
  have hit:∀ y∈x.its,y.wt < x.wt:=fun y hy=>its_wt hy
  generalize x.its = l at hit
  match l with
  | []=>exact ⟨_,rfl⟩
  | y :: rest =>
  unfold lisM
  dsimp only
  have hrest:∀ z∈rest,z.wt < x.wt:=fun z hz=>hit z (List.mem_cons_of_mem _ hz)
  cases y.isN with
  | false=>exact ⟨_,rfl⟩
  | true =>
  simp only [Bool.not_true,cond_false]
  cases y.txt == letW with
  | true =>
   simp only [cond_true]
   match rest with
   | [] | [_] | _ :: _ :: _ :: _=>exact ⟨_,rfl⟩
   | [u,v] =>
   unfold letM
   dsimp only
   cases u.lst with
   | false=>exact ⟨_,rfl⟩
   | true =>
   simp only [cond_true]
   cases hp:pairsM u.its with
   | none=>exact ⟨_,rfl⟩
   | some q =>
   obtain ⟨ns,ts⟩:=q
   simp only
   cases ns.any reservedM with
   | true=>exact ⟨_,rfl⟩
   | false =>
   simp only [cond_false]
   cases dbl ns with
   | true=>exact ⟨_,rfl⟩
   | false =>
   simp only [cond_false]
   obtain ⟨w,hw⟩:=hl (l:=ts) (fun t ht=>by
    obtain ⟨p,hp1,hp2⟩:=pairs_mem hp t ht
    have a1:=its_wt hp1
    have a2:=its_wt hp2
    have a3:=hrest u (by simp)
    omega) env σ
   rw [hw]
   simp only [Option.bind_some]
   cases (w.1.2 == 0) with
   | false=>exact ⟨_,rfl⟩
   | true=>exact h1 v (hrest v (by simp)) _ _
  | false =>
  simp only [cond_false]
  cases operM y.txt rest.length == 0 && reservedM y.txt with
  | true=>exact ⟨_,rfl⟩
  | false =>
  simp only [cond_false]
  obtain ⟨w,hw⟩:=hl hrest env σ
  cases operM y.txt rest.length == 0 with
  | false =>
   simp only [cond_false,hw,Option.bind_some]
   cases (w.1.2 == 0) with
   | false=>exact ⟨_,rfl⟩
   | true=>exact ⟨_,rfl⟩
  | true =>
  simp only [cond_true]
  cases boundM env y.txt with
  | some i=>exact ⟨_,rfl⟩
  | none =>
  cases hd:declM L y.txt with
  | none=>exact ⟨_,rfl⟩
  | some k =>
  obtain ⟨d,hdk⟩:∃ d,L[k]? = some d:=⟨_,List.getElem?_eq_getElem (decl_lt hd)⟩
  simp only [hdk]
  cases d.mac with
  | false=>exact ⟨_,rfl⟩
  | true =>
  simp only [cond_true,hw,Option.bind_some]
  cases (w.1.2 == 0) with
  | false=>exact ⟨_,rfl⟩
  | true=>exact call_tot (decl_lt hd) (h2 k (decl_lt hd)) _
 | false =>
 simp only [cond_false]
 cases x.kind == 4 with
 | true =>
  simp only [cond_true]
  cases (ps x.txt).2 != 0 <;> exact ⟨_,rfl⟩
 | false =>
 simp only [cond_false]
 cases x.kind == 6 with
 | true=>exact ⟨_,rfl⟩
 | false =>
 simp only [cond_false]
 cases x.kind == 3 with
 | false=>exact ⟨_,rfl⟩
 | true =>
 unfold nameM
 simp only [cond_true]
 cases x.txt == trueW || x.txt == falseW with
 | true=>exact ⟨_,rfl⟩
 | false =>
 simp only [cond_false]
 cases reservedM x.txt with
 | true=>exact ⟨_,rfl⟩
 | false =>
 simp only [cond_false]
 cases boundM env x.txt with
 | some i=>exact ⟨_,rfl⟩
 | none =>
 simp only
 cases hd:declM L x.txt with
 | none=>exact ⟨_,rfl⟩
 | some k =>
 obtain ⟨d,hdk⟩:∃ d,L[k]? = some d:=⟨_,List.getElem?_eq_getElem (decl_lt hd)⟩
 simp only [hdk]
 cases d.mac with
 | false=>exact ⟨_,rfl⟩
 | true =>
 cases d.ps.length == 0 with
 | false=>exact ⟨_,rfl⟩
 | true=>exact call_tot (decl_lt hd) (h2 k (decl_lt hd)) _
theorem U_tot:∀ (j w:Nat) (L:List Dc) (env:Ev) (x:Sx) (σ:Sg),L.length≤j→x.wt≤w→∃ r,U ps mm L env x σ = some r:=by
 intro j
 induction j with
 | zero =>
  intro w
  induction w with
  | zero=>intro L env x σ _ hx; cases x; simp only [Sx.wt] at hx; omega
  | succ w ih =>
   intro L env x σ hL hx
   have hL0:L = []:=List.length_eq_zero_iff.1 (by omega)
   subst hL0
   rw [U_fix]
   exact tot_aux ps [] env x σ (fun y hy env σ=>ih [] env y σ (by simp) (by omega)) fun k hk=>by simp at hk
 | succ j ihj =>
  intro w
  induction w with
  | zero=>intro L env x σ _ hx; cases x; simp only [Sx.wt] at hx; omega
  | succ w ih =>
   intro L env x σ hL hx
   rw [U_fix]
   exact tot_aux ps L env x σ (fun y hy env σ=>ih L env y σ hL (by omega)) fun k hk env y σ=>ihj y.wt (L.take k) env y σ (by simp only [List.length_take]; omega) (Nat.le_refl _)
theorem T_tot (mm:Bool) (L:List Dc) (env:Ev) (x:Sx) (σ:Sg):∃ n r,T ps mm n L env x σ = some r:=by
 obtain ⟨r,h⟩:=U_tot ps (mm:=mm) L.length x.wt L env x σ (Nat.le_refl _) (Nat.le_refl _)
 obtain ⟨n,hn⟩:=(U_iff ps).1 h
 exact ⟨n,r,hn⟩
end
section
variable (ps:List UInt8→List Nat × Int)
end
mutual
def usesM (nm:List UInt8):Sx→Bool
 | .mk l k x _ _ items=>bif l then usesL nm items else k == 3 && x == nm
def usesL (nm:List UInt8):List Sx→Bool
 | []=>false
 | s :: l=>usesM nm s || usesL nm l
end
theorem uses_mem {nm:List UInt8}:∀ {l:List Sx},usesL nm l = false→∀ s∈l,usesM nm s = false:=by
 intro l
 induction l with
 | nil=>intro _ s h; cases h
 | cons a l ih =>
  intro h s hs
  simp only [usesL,Bool.or_eq_false_iff] at h
  rcases List.mem_cons.1 hs with rfl | hs
  ·exact h.1
  ·exact ih h.2 s hs
theorem uses_its {nm:List UInt8} {x:Sx} (h:usesM nm x = false) (hl:x.lst = true):∀ s∈x.its,usesM nm s = false:=by
 cases x with
 | mk l k t p a items =>
  have:l = true:=hl
  subst this
  simp only [usesM,cond_true] at h
  exact uses_mem h
theorem uses_atom {nm:List UInt8} {x:Sx} (h:usesM nm x = false) (hl:x.isN = true):(x.txt == nm) = false:=by
 cases x with
 | mk l k t p a items =>
  simp only [Sx.isN,Sx.lst,Sx.kind,Bool.and_eq_true,Bool.not_eq_true'] at hl
  obtain ⟨rfl,hk⟩:=hl
  simp only [usesM,cond_false,hk,Bool.true_and] at h
  exact h
theorem pairs_lst:∀ {l:List Sx} {q:List (List UInt8) × List Sx},pairsM l = some q→∀ p∈l,p.lst = true:=by
 intro l
 induction l with
 | nil=>intro q _ p hp; cases hp
 | cons a l ih =>
  intro q h p hp
  unfold pairsM at h
  split at h
  ·rename_i x y h1 h2
   cases hx:x.isN with
   | false=>rw [hx] at h; cases h
   | true =>
    rw [hx] at h
    simp only [cond_true,Option.map_eq_some_iff] at h
    obtain ⟨w,h3,_⟩:=h
    rcases List.mem_cons.1 hp with rfl | hp
    ·exact h1
    ·exact ih h3 p hp
  ·cases h
theorem decl_app {nm:List UInt8} (more:List Dc) (h:∀ d∈more,(nm == d.nm) = false) (L:List Dc):declM (more ++ L) nm = (declM L nm).map (· + more.length):=by
 induction more with
 | nil=>simp only [List.nil_append,List.length_nil]; cases declM L nm <;> rfl
 | cons d more ih =>
  have hd:(d.nm == nm) = false:=by
   have:=h d (List.mem_cons_self ..)
   cases h2:(d.nm == nm) with
   | false=>rfl
   | true=>have h3:d.nm = nm:=by simpa using h2
           rw [h3] at this; simp at this
  simp only [List.cons_append,declM,ih fun x hx=>h x (List.mem_cons_of_mem _ hx),hd,cond_false]
  cases declM L nm with
  | none=>rfl
  | some k=>simp; omega
section
variable (ps:List UInt8→List Nat × Int)
theorem each_same {f:Fn} {L L':List Dc} {env:Ev}:∀ {l:List Sx},(∀ x∈l,∀ σ,f L env x σ = f L' env x σ)→∀ σ,eachM f L env l σ = eachM f L' env l σ:=by
 intro l
 induction l with
 | nil=>intro _ σ; rfl
 | cons x l ih =>
  intro h σ
  simp only [eachM,h x (List.mem_cons_self ..)]
  congr 1
  funext r
  rw [ih fun y hy=>h y (List.mem_cons_of_mem _ hy)]
theorem call_same {L:List Dc} {more:List Dc} {k:Nat} {a:List Int} (h:∀ d,L[k]? = some d→∀ env σ,U ps false (more ++ L.take k) env d.body σ = U ps false (L.take k) env d.body σ) (σ:Sg):callM false (U ps false) (more ++ L) (k + more.length) a σ = callM false (U ps false) L k a σ:=by
 unfold callM
 have h1:(more ++ L)[k + more.length]? = L[k]?:=by
  rw [List.getElem?_append_right (by omega)]; congr 1; omega
 have h2:(more ++ L).take (k + more.length) = more ++ L.take k:=by
  rw [List.take_append,List.take_of_length_le (by omega)]; congr 2; omega
 rw [h1,h2]
 cases hk:L[k]? with
 | none=>rfl
 | some d=>simp only [h d hk,Bool.false_and,cond_false]
theorem more_key {more l:List Dc} (hb:∀ d∈l,∀ m∈more,usesM m.nm d.body = false):∀ (j w:Nat) (env:Ev) (x:Sx) (σ:Sg),x.wt≤w→(∀ m∈more,usesM m.nm x = false)→U ps false (more ++ l.take j) env x σ = U ps false (l.take j) env x σ:=by
 intro j
 induction j using Nat.strongRecOn with
 | ind j ihj =>
 intro w
 induction w with
 | zero=>intro env x σ h; cases x; simp only [Sx.wt] at h; omega
 | succ w ih =>
  intro env x σ hx hu
  have hcall:∀ k,k < (l.take j).length→∀ a σ,callM false (U ps false) (more ++ l.take j) (k + more.length) a σ = callM false (U ps false) (l.take j) k a σ:=fun k hk a σ=>call_same ps (fun d hd env σ=>by
   obtain ⟨h1,h2⟩:=take_get hd
   rw [h2]
   simp only [List.length_take] at hk
   exact ihj k (by omega) d.body.wt env d.body σ (Nat.le_refl _) fun m hm=>hb d (List.mem_of_getElem? h1) m hm) σ
  have hget:∀ k,(more ++ l.take j)[k + more.length]? = (l.take j)[k]?:=fun k=>by
   rw [List.getElem?_append_right (by omega)]; congr 1; omega
  rw [U_fix,U_fix]
  unfold termM
  cases hl:x.lst with
  | true =>
   simp only [cond_true]
   have h1:∀ y∈x.its,y.wt < x.wt:=fun y hy=>its_wt hy
   have h2:∀ y∈x.its,∀ m∈more,usesM m.nm y = false:=fun y hy m hm=>uses_its (hu m hm) hl y hy
   generalize x.its = its at h1 h2
   match its with
   | []=>rfl
   | h :: rest =>
   have hel:∀ (ts:List Sx) (env:Ev) (σ:Sg),(∀ t∈ts,t.wt≤w∧∀ m∈more,usesM m.nm t = false)→eachM (U ps false) (more ++ l.take j) env ts σ = eachM (U ps false) (l.take j) env ts σ:=fun ts env σ hh=>each_same (fun y hy σ=>ih env y σ (hh y hy).1 (hh y hy).2) σ
   have hrest:=fun σ=>hel rest env σ fun t ht=>⟨by have:=h1 t (List.mem_cons_of_mem _ ht); omega,h2 t (List.mem_cons_of_mem _ ht)⟩
   unfold lisM
   dsimp only
   cases hn:h.isN with
   | false=>rfl
   | true =>
   simp only [Bool.not_true,cond_false]
   have hname:∀ m∈more,(h.txt == m.nm) = false:=fun m hm=>uses_atom (h2 h (List.mem_cons_self ..) m hm) hn
   cases h.txt == letW with
   | true =>
    simp only [cond_true]
    match rest with
    | [] | [_] | _ :: _ :: _ :: _=>rfl
    | [u,v] =>
    unfold letM
    dsimp only
    cases hul:u.lst with
    | false=>rfl
    | true =>
    simp only [cond_true]
    cases hp:pairsM u.its with
    | none=>rfl
    | some q =>
    obtain ⟨ns,ts⟩:=q
    simp only
    have hts:=hel ts env σ fun t ht=>by
     obtain ⟨p,hp1,hp2⟩:=pairs_mem hp t ht
     have a1:=its_wt hp1
     have a2:=its_wt hp2
     have a3:=h1 u (by simp)
     refine ⟨by omega,fun m hm=>?_⟩
     have b1:=uses_its (h2 u (by simp) m hm) hul p hp1
     refine uses_its b1 ?_ t hp2
     cases p with
     | mk l3 k3 x3 p3 a3 i3 =>
      exact pairs_lst hp _ hp1
    rw [hts]
    have hv:=fun env σ=>ih env v σ (by have:=h1 v (by simp); omega) (h2 v (by simp))
    simp only [hv]
   | false =>
   simp only [cond_false,hrest,decl_app more hname (l.take j)]
   cases operM h.txt rest.length == 0 && reservedM h.txt with
   | true=>rfl
   | false =>
   cases operM h.txt rest.length == 0 with
   | false=>rfl
   | true =>
   simp only [cond_false,cond_true]
   cases boundM env h.txt with
   | some i=>cases (declM (l.take j) h.txt) <;> rfl
   | none =>
   cases hd:declM (l.take j) h.txt with
   | none=>rfl
   | some k=>simp only [Option.map_some,hget,hcall k (decl_lt hd)]
  | false =>
   simp only [cond_false]
   cases h3:(x.kind == 3) with
   | false=>rfl
   | true =>
    have hn:x.isN = true:=by simp only [Sx.isN,hl,h3,Bool.not_false,Bool.true_and]
    have hname:∀ m∈more,(x.txt == m.nm) = false:=fun m hm=>uses_atom (hu m hm) hn
    simp only [nameM,decl_app more hname (l.take j)]
    cases hd:declM (l.take j) x.txt with
    | none=>rfl
    | some k=>simp only [Option.map_some,hget,hcall k (decl_lt hd)]
theorem more_law (hkey:KeyOk) {more l:List Dc} (hL:(more ++ l).length < 2 ^ 60) {x:Sx} {n m:Nat} {u v:Int × Int} {B C:Bk} {M N:Mm} (hx:∀ d∈more,usesM d.nm x = false) (hb:∀ d∈l,∀ m∈more,usesM m.nm d.body = false)
  (h1:T ps true n l [] x ([],[]) = some (u,(B,M))) (h2:T ps true m (more ++ l) [] x ([],[]) = some (v,(C,N))):u = v∧B = C:=by
 have u1:=T_plain ps hkey (B:=[]) (by simp only [List.length_append] at hL; omega) wf_nil (fun p hp=>by cases hp) h1
 have u2:=T_plain ps hkey (B:=[]) hL wf_nil (fun p hp=>by cases hp) h2
 have key:=more_key ps hb l.length x.wt [] x ([],[]) (Nat.le_refl _) hx
 rw [List.take_length] at key
 rw [key,u1] at u2
 simp only [Option.some.injEq,Prod.mk.injEq] at u2
 exact ⟨u2.1,u2.2.1⟩
end
end
noncomputable section
def isDig (c:UInt8):Bool:=decide (48≤c.toNat) && decide (c.toNat≤57)
def decV (l:List UInt8):Nat:=l.foldl (fun a c=>10 * a + (c.toNat - 48)) 0
theorem dig_to {u:Nat} (h:u < 10):(UInt8.ofNat (48 + u)).toNat = 48 + u:=by simp [UInt8.toNat_ofNat']; omega
theorem digA_dig:∀ (f u:Nat),∀ c∈digA f u,isDig c = true:=by
 intro f
 induction f with
 | zero=>intro u c h; cases h
 | succ f ih =>
  intro u c h
  simp only [digA] at h
  cases hb:Nat.blt u 10 with
  | true =>
   have hu:u < 10:=by simpa [Nat.blt_eq] using hb
   rw [hb] at h
   simp only [cond_true,List.mem_singleton] at h
   subst h
   simp only [isDig,dig_to hu,Bool.and_eq_true,decide_eq_true_eq]; omega
  | false =>
   rw [hb] at h
   simp only [cond_false,List.mem_append,List.mem_singleton] at h
   rcases h with h | rfl
   ·exact ih _ c h
   ·have:u % 10 < 10:=Nat.mod_lt _ (by decide)
    simp only [isDig,dig_to this,Bool.and_eq_true,decide_eq_true_eq]; omega
theorem digA_val:∀ (f u:Nat),u < 10 ^ f→decV (digA f u) = u:=by
 intro f
 induction f with
 | zero=>intro u h; simp at h; subst h; rfl
 | succ f ih =>
  intro u h
  simp only [digA]
  cases hb:Nat.blt u 10 with
  | true =>
   have hu:u < 10:=by simpa [Nat.blt_eq] using hb
   simp only [cond_true,decV,List.foldl_cons,List.foldl_nil,dig_to hu]; omega
  | false =>
   have h1:u / 10 < 10 ^ f:=by rw [Nat.pow_succ] at h; omega
   have h2:u % 10 < 10:=Nat.mod_lt _ (by decide)
   simp only [cond_false,decV,List.foldl_append,List.foldl_cons,List.foldl_nil,dig_to h2]
   have:=ih _ h1
   simp only [decV] at this
   rw [this]; omega
theorem digA_ne (f u:Nat):digA (f + 1) u≠[]:=by
 simp only [digA]
 cases Nat.blt u 10 <;> simp
theorem itoa_pos {i:Int} (h:0≤i):itoaL i = digA 20 i.toNat:=by unfold itoaL; rw [if_neg (by omega)]
theorem itoa_dig {i:Int} (h:0≤i):∀ c∈itoaL i,isDig c = true:=by rw [itoa_pos h]; exact digA_dig _ _
theorem itoa_inj {i j:Int} (h:0≤i) (h2:i < 2 ^ 60) (k:0≤j) (k2:j < 2 ^ 60) (e:itoaL i = itoaL j):i = j:=by
 rw [itoa_pos h,itoa_pos k] at e
 have a:=digA_val 20 i.toNat (by omega)
 have b:=digA_val 20 j.toNat (by omega)
 rw [e,b] at a
 omega
theorem itoa_head {i:Int} (h:0≤i):∃ d l,itoaL i = d :: l∧isDig d = true:=by
 cases hl:itoaL i with
 | nil=>rw [itoa_pos h] at hl; exact absurd hl (digA_ne _ _)
 | cons d l=>exact ⟨d,l,rfl,itoa_dig h d (by rw [hl]; exact List.mem_cons_self ..)⟩
theorem split_at {c:UInt8}:∀ {x x' y y':List UInt8},c ∉ x→c ∉ x'→x ++ c :: y = x' ++ c :: y'→x = x'∧y = y':=by
 intro x
 induction x with
 | nil =>
  intro x' y y' _ h' e
  cases x' with
  | nil=>simp only [List.nil_append,List.cons.injEq,true_and] at e; exact ⟨rfl,e⟩
  | cons d x'=>simp only [List.nil_append,List.cons_append,List.cons.injEq] at e; exact absurd e.1 (fun h=>h' (by rw [h]; exact List.mem_cons_self ..))
 | cons d x ih =>
  intro x' y y' h h' e
  cases x' with
  | nil=>simp only [List.nil_append,List.cons_append,List.cons.injEq] at e; exact absurd e.1 (fun hh=>h (by rw [hh]; exact List.mem_cons_self ..))
  | cons d' x' =>
   simp only [List.cons_append,List.cons.injEq] at e
   obtain ⟨a,b⟩:=ih (fun hh=>h (List.mem_cons_of_mem _ hh)) (fun hh=>h' (List.mem_cons_of_mem _ hh)) e.2
   exact ⟨by rw [e.1,a],b⟩
theorem no_dig {c:UInt8} {l:List UInt8} (h:∀ d∈l,isDig d = true) (hc:isDig c = false):c ∉ l:=fun hm=>by rw [h c hm] at hc; cases hc
theorem ckey_cons (k:Nat) (i:Int) (a:List Int):ckey k (i :: a) = itoaL i ++ 32 :: ckey k a:=by simp [ckey]
theorem ckey_ok:KeyOk:=by
 intro k a k' a' hk hk' ha ha' e
 induction a generalizing a' with
 | nil =>
  cases a' with
  | nil =>
   simp only [ckey,List.flatMap_nil,List.nil_append,List.cons.injEq,true_and] at e
   have:=itoa_inj (by omega) (by omega) (by omega) (by omega) e
   exact ⟨by omega,rfl⟩
  | cons i a' =>
   obtain ⟨d,l,h1,h2⟩:=itoa_head (ha' i (List.mem_cons_self ..)).1
   rw [ckey_cons,h1] at e
   simp only [ckey,List.flatMap_nil,List.nil_append,List.cons_append,List.cons.injEq] at e
   rw [← e.1] at h2; cases h2
 | cons i a ih =>
  have h1:=ha i (List.mem_cons_self ..)
  cases a' with
  | nil =>
   obtain ⟨d,l,h2,h3⟩:=itoa_head h1.1
   rw [ckey_cons,h2] at e
   simp only [ckey,List.flatMap_nil,List.nil_append,List.cons_append,List.cons.injEq] at e
   rw [e.1] at h3; cases h3
  | cons j a' =>
   have h2:=ha' j (List.mem_cons_self ..)
   rw [ckey_cons,ckey_cons] at e
   obtain ⟨e1,e2⟩:=split_at (no_dig (itoa_dig h1.1) rfl) (no_dig (itoa_dig h2.1) rfl) e
   obtain ⟨e3,e4⟩:=ih a' (fun x hx=>ha x (List.mem_cons_of_mem _ hx)) (fun x hx=>ha' x (List.mem_cons_of_mem _ hx)) e2
   exact ⟨e3,by rw [itoa_inj h1.1 h1.2 h2.1 h2.2 e1,e4]⟩
end
noncomputable section
def byA (c:UInt8):AV:=.int .u8 c.toNat
theorem ty161:SlTy 161 5 1 false 1:=⟨by kernel_rfl,by kernel_rfl,by kernel_rfl,by kernel_rfl,by decide⟩
theorem eq160n:bn .eql 160 .nilp .nilp = some (.bool true):=by kernel_rfl
theorem eq160p (i:Nat):bn .eql 160 (.ptr i 0) .nilp = some (.bool false):=by kernel_rfl
theorem ne160 (i:Nat):bn .neq 160 (.ptr i 0) (.ptr i 0) = some (.bool false):=by
 have h1:und Tryz.ty 160 = some (.pointer 163):=by kernel_rfl
 have h2:lay Tryz.ty 163 = some (2,true):=by kernel_rfl
 simp [bn,bin,isShift,h1,eqRef,h2]
theorem cv1 {i:Nat} {s:St} {a x:AV} (hs:s.h i = some (.cells [a,x] 163 true true)):cv 160 288 (.ptr i 0) s = some (.ptr i 0):=by
 have h1:und Tryz.ty 160 = some (.pointer 163):=by kernel_rfl
 have h2:und Tryz.ty 288 = some .unsafePointer:=by kernel_rfl
 have h3:lay Tryz.ty 163 = some (2,true):=by kernel_rfl
 simp [cv,convA,h1,h2,h3,hs]
theorem cv2 {i:Nat} {s:St} {a x:AV} (hs:s.h i = some (.cells [a,x] 163 true true)):cv 288 160 (.ptr i 0) s = some (.ptr i 0):=by
 have h1:und Tryz.ty 160 = some (.pointer 163):=by kernel_rfl
 have h2:und Tryz.ty 288 = some .unsafePointer:=by kernel_rfl
 have h3:lay Tryz.ty 163 = some (2,true):=by kernel_rfl
 simp [cv,convA,h1,h2,h3,hs]
theorem same232 (i:Nat) (s:St):WideC Tryz.env 232 [.ptr i 0] s (.ptr i 0) s:=⟨1,by kernel_rfl⟩
theorem sto_cell {id off:Nat} {v:AV} {c:List AV} {e:TypeId} {ex:Bool} {s:St} (h:s.h id = some (.cells c e ex true)) (ho:off < c.length) (hv:v.cells = [v]) (hone:v.one = true):sto 1 (.ptr id off) v s = some (s.set id (some (.cells (c.set off v) e ex true))):=by
 show Ai.store 1 (.ptr id off) v s = _
 unfold Ai.store
 simp only [h]
 rw [if_pos ⟨by rw [hv]; rfl,by omega,by rw [hv]; simp [hone]⟩,hv]
 rfl
def Bd (lo:Nat) (s:St) (id:Nat) (bs:List UInt8):Prop :=
 id < lo∧∃ a x,(a = .nilp∨a = .ptr id 0)∧s.h id = some (.cells [a,x] 163 true true)∧Gw 5 1 lo s x (bs.map byA)∧(bs = []→x = .nils)
theorem callWi0 {h:FuncId} {args:List AV} {s:St} {K:AV→St→Prop} (hz:Tryz.env.fz h = false) (hc:∃ r s',WideC Tryz.env h args s r s'∧K r s'):CallWi Tryz.env h args s K:=by
 obtain ⟨r,s',h1,h2⟩:=hc
 exact .mk (by rw [hz]; exact ⟨r,s',h1,h2⟩)
theorem fz202:Tryz.env.fz 202 = false:=by kernel_rfl
theorem fz232:Tryz.env.fz 232 = false:=by kernel_rfl
theorem fz156:Tryz.env.fz 156 = false:=by kernel_rfl
theorem fz108:Tryz.env.fz 108 = false:=by kernel_rfl
theorem Bd.adv {lo id n:Nat} {s:St} {bs:List UInt8} (h:Bd lo s id bs):Bd lo (adv s n) id bs:=by
 obtain ⟨h1,a,x,h2,h3,h4,h5⟩:=h
 exact ⟨h1,a,x,h2,h3,h4.adv,h5⟩
theorem app_str (x:AV) (bs:List UInt8) (id:Nat) (s:St):bt .append #[161,9] [x,.str bs] id s = appendA 5 1 1 x (bs.map byA) id s:=by
 have h1:und (bX Tryz.env).P 161 = some (.slice 5):=by kernel_rfl
 have h2:lay (bX Tryz.env).P 5 = some (1,false):=by kernel_rfl
 have h3:bytesOf (bX Tryz.env).P 5 = some 1:=by kernel_rfl
 have h5:und (bX Tryz.env).P 9 = some .string:=by kernel_rfl
 have h4:(zero (bX Tryz.env).P 5).map (fun v=>v.cells.length) = some 1:=by kernel_rfl
 cases hz:zero (bX Tryz.env).P 5 with
 | none=>rw [hz] at h4; cases h4
 | some zv =>
  rw [hz] at h4
  simp only [Option.map_some,Option.some.injEq] at h4
  simp [builtinA,h1,h2,h3,h5,hz,h4,srcCells]
  rfl
theorem gw_str {lo id:Nat} {s:St} {x:AV} {vs:List AV} (g:Gw 5 1 lo s x vs) (fr:Fresh s) (bs:List UInt8) (hf:vs.length + bs.length≤2 ^ 40) (hid:lo≤id) (hid2:id < s.nx) :
  ∃ x' s',bt .append #[161,9] [x,.str bs] id s = some (x',s')∧Gw 5 1 lo s' x' (vs ++ bs.map byA)∧Fresh s'∧s'.nx = s.nx∧(∀ j,j < lo→s'.h j = s.h j)∧x'.cells = [x']∧x'.one = true∧(bs = []→x' = x):=by
 rw [app_str]
 have hvb:∀ v∈bs.map byA,v.cells.length = 1∧v.cells.all AV.one = true:=fun v hv=>by
  obtain ⟨c,_,rfl⟩:=List.mem_map.1 hv; exact ⟨rfl,rfl⟩
 have hflat:(bs.map byA).flatMap AV.cells = bs.map byA:=flat_one fun v hv=>by obtain ⟨c,_,rfl⟩:=List.mem_map.1 hv; rfl
 have hones:(bs.map byA).all AV.one = true:=List.all_eq_true.2 fun v hv=>by obtain ⟨c,_,rfl⟩:=List.mem_map.1 hv; rfl
 cases bs with
 | nil =>
  obtain ⟨h1,⟨rfl,rfl⟩ | ⟨i,hi,rfl,hs⟩⟩:=g
  ·exact ⟨.nils,s,rfl,⟨by simp,.inl ⟨rfl,rfl⟩⟩,fr,rfl,fun _ _=>rfl,rfl,rfl,fun _=>rfl⟩
  ·exact ⟨_,s,rfl,⟨by simpa using h1,.inr ⟨i,hi,by simp,by simpa using hs⟩⟩,fr,rfl,fun _ _=>rfl,rfl,rfl,fun _=>rfl⟩
 | cons c bs =>
  have hem:((c :: bs).map byA).isEmpty = false:=rfl
  have hfit:∀ n,n≤2 ^ 40→fitsA n 1 = true:=fun n hn=>by
   have h1:n * 1≤Ai.most:=by unfold Ai.most; omega
   have h2:n≤Ai.most:=by unfold Ai.most; omega
   simp only [fitsA,Nat.ble_eq_true_of_le h1,Nat.ble_eq_true_of_le h2,Bool.and_self]
  obtain ⟨h1,⟨rfl,rfl⟩ | ⟨i,hi,rfl,hs⟩⟩:=g
  ·refine ⟨.ref id 0 ((c :: bs).map byA).length none 5,s.set id (some (.cells ((c :: bs).map byA) 5 false true)),?_,⟨by simpa using hvb,.inr ⟨id,hid,by simp,?_⟩⟩,fr.set hid2,rfl,?_,rfl,rfl,fun h=>by cases h⟩
   ·unfold appendA
    simp only [hem,hones,Bool.not_true,Bool.false_eq_true,if_false]
    simp only [grown,Nat.div_one]
    rw [hfit _ (by simpa using hf),if_pos rfl]
    simp only [newSl,Nat.div_one]
   ·rw [st_same,List.nil_append,hflat]
   ·intro j hj; exact st_other (by omega)
  ·have hfl:=flat_len h1
   have hilt:i < s.nx:=by
    by_cases hc:i < s.nx
    ·exact hc
    ·rw [fr i (by omega)] at hs; cases hs
   have hlen:(vs.flatMap AV.cells ++ (c :: bs).map byA).length / 1 = vs.length + ((c :: bs).map byA).length:=by
    rw [List.length_append,hfl,Nat.mul_one,Nat.div_one]
   refine ⟨.ref id 0 (vs.length + ((c :: bs).map byA).length) none 5,(s.set i none).set id (some (.cells (vs.flatMap AV.cells ++ (c :: bs).map byA) 5 false true)),?_,⟨?_,.inr ⟨id,hid,by simp,?_⟩⟩,(fr.set hilt).set hid2,rfl,?_,rfl,rfl,fun h=>by cases h⟩
   ·unfold appendA
    simp only [hem,hones,Bool.not_true,Bool.false_eq_true,if_false,hs,Nat.zero_add,hfl,Nat.le_refl,and_self,if_true]
    rw [if_neg (by simp)]
    simp only [grown,hlen]
    rw [hfit _ (by simpa using hf),if_pos rfl]
    simp only [newSl,hlen]
   ·intro w hw
    rcases List.mem_append.1 hw with hw | hw
    ·exact h1 w hw
    ·exact hvb w hw
   ·rw [st_same,List.flatMap_append,hflat]
   ·intro j hj
    rw [st_other (by omega),st_other (by omega)]
section
variable {lo id:Nat} {s:St} {bs:List UInt8} {K:AV→St→Prop}
def Kept (lo id:Nat) (s s':St):Prop:=s.nx≤s'.nx∧Fresh s'∧∀ j,j < lo→j≠id→s'.h j = s.h j
theorem bd_check (h:Bd lo s id bs) (fr:Fresh s) (hl:lo≤s.nx) (hk:∀ s',Bd lo s' id bs→Kept lo id s s'→K (.tup []) s'):CallWi Tryz.env 202 [.ptr id 0] s K:=by
 obtain ⟨h1,a,x,h2,h3,h4,hx⟩:=h
 refine callWi0 fz202 (f202_run _ _ ?_)
 refine ⟨rfl,?_⟩
 rcases h2 with rfl | rfl
 ·simp only [h3,eq160n,wz,wy,Nat.reduceAdd]
  rw [cv1 (a:=.nilp) (x:=x) (by simp only [adv_h]; exact h3)]
  simp only [Bnd_some]
  refine callWi0 fz232 ⟨_,_,same232 id _,?_⟩
  rw [cv2 (a:=.nilp) (x:=x) (by simp only [adv_h]; exact h3)]
  simp only [wz,wy,Nat.reduceAdd]
  refine ⟨rfl,?_⟩
  rw [sto_cell (c:=[.nilp,x]) (by simp only [adv_h]; exact h3) (by simp) rfl rfl]
  simp only [Bnd_some]
  refine hk _ ⟨h1,.ptr id 0,x,.inr rfl,by rw [st_same]; rfl,?_,hx⟩ ⟨by simp only [set_nx,adv_nx]; omega,fr.adv.set (by show id < s.nx + 13; omega),fun j hj hn=>by rw [st_other hn]; rfl⟩
  exact h4.mono fun j hj _=>by rw [st_other (by omega)]; rfl
 ·simp only [h3,eq160p,wz,wy,Nat.reduceAdd]
  refine ⟨rfl,?_⟩
  simp only [h3,ne160,wz,wy,Nat.reduceAdd]
  exact hk _ ⟨h1,.ptr id 0,x,.inr rfl,h3,h4.adv,hx⟩ ⟨by simp only [adv_nx]; omega,fr.adv,fun j _ _=>rfl⟩
theorem len9 (x:List UInt8) (id:Nat) (s:St):bt .len #[9] [.str x] id s = some (.int .i64 x.length,s):=by kernel_rfl
theorem ws {t:List UInt8} (h:Bd lo s id bs) (fr:Fresh s) (hl:lo≤s.nx) (hlen:bs.length + t.length≤2 ^ 40) (hk:∀ s',Bd lo s' id (bs ++ t)→Kept lo id s s'→K (.tup [.int .i64 t.length,.nili]) s'):CallWi Tryz.env 156 [.ptr id 0,.str t] s K:=by
 refine callWi0 fz156 (f156_run _ _ _ ?_)
 unfold f156
 refine bd_check h.adv fr.adv (by show lo≤s.nx + 4; omega) fun s1 b1 k1=>?_
 obtain ⟨h1,a,x,h2,h3,h4,hx⟩:=b1
 obtain ⟨e1,f1,e2⟩:=k1
 have e1:s.nx + 4≤s1.nx:=e1
 obtain ⟨x',s',a1,a2,a3,a4,a5,a6,a7,a8⟩:=gw_str (id:=s1.nx + 6) (h4.adv (n:=10)) f1.adv t (by rw [List.length_map]; omega) (by omega) (by show s1.nx + 6 < s1.nx + 10; omega)
 have a4:s'.nx = s1.nx + 10:=a4
 have h3':s'.h id = some (.cells [a,x] 163 true true):=by rw [a5 id h1]; exact h3
 refine ⟨rfl,?_⟩
 simp only [h3,a1,wz,wy,Nat.reduceAdd]
 refine ⟨rfl,?_⟩
 rw [sto_cell (c:=[a,x]) h3' (by simp) a6 a7]
 simp only [Bnd_some,len9]
 refine hk _ ⟨h1,a,x',h2,by rw [adv_h,st_same]; rfl,?_,fun h=>?_⟩ ⟨by simp only [set_nx,adv_nx]; omega,(a3.set (by omega)).adv,fun j hj hn=>?_⟩
 ·rw [List.map_append]
  exact (a2.mono fun j hj _=>by rw [adv_h,st_other (by omega)])
 ·obtain ⟨hb,ht⟩:=List.append_eq_nil_iff.1 h
  rw [a8 ht]; exact hx hb
 ·rw [adv_h,st_other hn,a5 j hj]; exact e2 j hj hn
theorem u8s (bs:List UInt8):asU8s (bs.map byA) = some (bs.map fun c=>(c.toNat:Int)):=by
 induction bs with
 | nil=>rfl
 | cons c l ih =>
  simp only [List.map_cons,asU8s,ih]
  rfl
theorem u8back (bs:List UInt8):(bs.map fun c=>(c.toNat:Int)).map (fun n=>UInt8.ofNat n.toNat) = bs:=by
 induction bs with
 | nil=>rfl
 | cons c l ih=>simp only [List.map_cons,ih,Int.toNat_natCast,UInt8.ofNat_toNat]
end
end
noncomputable section
section
variable {s s':St} {l M:List Nat}
theorem rch_flat {i:Nat} {b0:Blk} {vs:List AV} (hv:idsL vs = [i]) (hi:s.h i = some b0) (hlen:(blkIds b0).length≤3999) (hl:∀ j∈blkIds b0,∀ b,s.h j = some b→j = i∨blkIds b = []):∀ j,j∈rch s vs↔(j = i∨j∈blkIds b0):=by
 intro j
 unfold rch
 rw [hv]
 show j∈cond (memB i []) _ (match s.h i with | none=>_ | some b=>reach s.h 3999 (blkIds b ++ []) (i :: []))↔_
 rw [hi]
 simp only [memB,cond_false,List.append_nil]
 have key:∀ (w:List Nat) (f:Nat) (seen:List Nat),i∈seen→(∀ j∈w,∀ b,s.h j = some b→j = i∨blkIds b = [])→w.length≤f→∀ j,j∈reach s.h f w seen↔(j∈w∨j∈seen):=by
  intro w
  induction w with
  | nil=>intro f seen _ _ _ j; cases f <;> simp [reach]
  | cons n w ih =>
   intro f seen hs hl hf j
   obtain ⟨f,rfl⟩:∃ g,f = g + 1:=⟨f - 1,by simp only [List.length_cons] at hf; omega⟩
   have hf':w.length≤f:=by simp only [List.length_cons] at hf; omega
   have hl':∀ j∈w,∀ b,s.h j = some b→j = i∨blkIds b = []:=fun j hj=>hl j (List.mem_cons_of_mem _ hj)
   simp only [reach]
   cases hm:memB n seen with
   | true =>
    have:=memB_mem.1 hm
    simp only [cond_true,ih f seen hs hl' hf',List.mem_cons]
    constructor
    ·rintro (h | h); exact .inl (.inr h); exact .inr h
    ·rintro ((rfl | h) | h); exact .inr this; exact .inl h; exact .inr h
   | false =>
    simp only [cond_false]
    have key:∀ w',w' = w→(j∈reach s.h f w' (n :: seen)↔(j∈n :: w∨j∈seen)):=fun w' e=>by
     subst e
     rw [ih f (n :: seen) (List.mem_cons_of_mem _ hs) hl' hf']
     simp only [List.mem_cons]
     constructor
     ·rintro (h | rfl | h); exact .inl (.inr h); exact .inl (.inl rfl); exact .inr h
     ·rintro ((rfl | h) | h); exact .inr (.inl rfl); exact .inl h; exact .inr (.inr h)
    cases hn:s.h n with
    | none=>exact key w rfl
    | some b =>
     rcases hl n (List.mem_cons_self ..) b hn with rfl | hb
     ·rw [memB_mem.2 hs] at hm; cases hm
     ·exact key _ (by rw [hb]; rfl)
 rw [key _ _ _ (List.mem_singleton.2 rfl) hl hlen]
 simp only [List.mem_singleton]
 constructor
 ·rintro (h | h); exact .inr h; exact .inl h
 ·rintro (h | h); exact .inr h; exact .inl h
theorem only_h (j:Nat):(s.only l).h j = if j∈l then s.h j else none:=by
 show cond (memB j l) _ _ = _
 cases hm:memB j l with
 | true=>rw [if_pos (memB_mem.1 hm)]; rfl
 | false=>rw [if_neg (fun h=>by rw [memB_mem.2 h] at hm; cases hm)]; rfl
theorem only_nx:(s.only l).nx = s.nx:=rfl
theorem only_fresh (fr:Fresh s):Fresh (s.only l):=fun j hj=>by rw [only_h]; split; exact fr j hj; rfl
theorem mergeW_h (j:Nat):(mergeW s s' l).h j = if j∈l∨s.nx≤j then s'.h j else s.h j:=by
 show cond (memB j l || Nat.ble s.nx j) _ _ = _
 cases hm:(memB j l || Nat.ble s.nx j) with
 | true =>
  simp only [Bool.or_eq_true,memB_mem,Nat.ble_eq] at hm
  rw [if_pos hm]; rfl
 | false =>
  simp only [Bool.or_eq_false_iff] at hm
  rw [if_neg]
  ·rfl
  ·rintro (h | h)
   ·rw [memB_mem.2 h] at hm; cases hm.1
   ·have h3:Nat.ble s.nx j = true:=by rw [Nat.ble_eq]; exact h
    rw [h3] at hm; cases hm.2
theorem merge_some (h:EF M (s.only l) s') (hM:∀ j∈M,j∈l) {j:Nat} {b:Blk} (hj:s'.h j = some b):(mergeW s s' l).h j = some b:=by
 rw [mergeW_h]
 by_cases hc:j∈l∨s.nx≤j
 ·rw [if_pos hc]; exact hj
 ·exfalso
  have h1:¬ j∈l:=fun h=>hc (.inl h)
  have h2:j < s.nx:=Nat.lt_of_not_le fun h=>hc (.inr h)
  have:=h.h j h2 (fun h=>h1 (hM j h))
  rw [only_h,if_neg h1,hj] at this
  cases this
theorem merge_EF (h:EF M (s.only l) s') (hM:∀ j∈M,j∈l):EF M s (mergeW s s' l):=by
 refine ⟨h.nx,fun j hj hn=>?_,fun j hj=>?_⟩
 ·rw [mergeW_h]
  by_cases hc:j∈l
  ·rw [if_pos (.inl hc),h.h j hj hn,only_h,if_pos hc]
  ·rw [if_neg]
   rintro (h | h)
   ·exact hc h
   ·omega
 ·rw [mergeW_h]
  have hj:s'.nx≤j:=hj
  have:=h.nx
  rw [only_nx] at this
  rw [if_pos (.inr (by omega))]
  exact h.fr j hj
theorem callWiDF {h:FuncId} {args:List AV} {K:AV→St→Prop} (hz:Tryz.env.fz h = false) (hc:∃ r s',WideC Tryz.env h args (s.only l) r s'∧K r (mergeW s s' l)):CallWiD Tryz.env h args l s K:=by
 obtain ⟨r,s',h1,h2⟩:=hc
 exact .mk (by rw [hz]; exact ⟨r,s',h1,h2⟩)
end
end
noncomputable section
section
variable {s s':St} {i:Nat} {bs t:List UInt8} {w:Bool} {F:List Nat} {K:AV→St→Prop}
def Bu (s:St) (i:Nat) (bs:List UInt8) (w:Bool) (F:List Nat):Prop :=
 ∃ a x,(a = .nilp∨a = .ptr i 0)∧s.h i = some (.cells [a,x] 163 true true)∧((x = .nils∧bs = []∧F = [i])∨∃ j,j≠i∧bs≠[]∧x = .ref j 0 bs.length none 5∧s.h j = some (.cells (bs.map byA) 5 false w)∧F = [i,j])
theorem Bu.keep (h:Bu s i bs w F) (hk:∀ j∈F,s'.h j = s.h j):Bu s' i bs w F:=by
 obtain ⟨a,x,h1,h2,h3⟩:=h
 rcases h3 with ⟨rfl,rfl,rfl⟩ | ⟨j,h4,h5,rfl,h6,rfl⟩
 ·exact ⟨a,_,h1,by rw [hk i (by simp)]; exact h2,.inl ⟨rfl,rfl,rfl⟩⟩
 ·exact ⟨a,_,h1,by rw [hk i (by simp)]; exact h2,.inr ⟨j,h4,h5,rfl,by rw [hk j (by simp)]; exact h6,rfl⟩⟩
theorem Bu.have (h:Bu s i bs w F):∀ j∈F,∃ b,s.h j = some b:=by
 obtain ⟨a,x,h1,h2,h3⟩:=h
 rcases h3 with ⟨rfl,rfl,rfl⟩ | ⟨k,h4,h5,rfl,h6,rfl⟩
 ·intro j hj; rw [List.mem_singleton.1 hj]; exact ⟨_,h2⟩
 ·intro j hj
  simp only [List.mem_cons,List.mem_nil_iff,or_false] at hj
  rcases hj with rfl | rfl
  ·exact ⟨_,h2⟩
  ·exact ⟨_,h6⟩
theorem Bu.mem (h:Bu s i bs w F):i∈F:=by
 obtain ⟨a,x,h1,h2,h3⟩:=h
 rcases h3 with ⟨rfl,rfl,rfl⟩ | ⟨k,h4,h5,rfl,h6,rfl⟩ <;> simp
theorem Fresh.lt (fr:Fresh s) {j:Nat} {b:Blk} (h:s.h j = some b):j < s.nx:=Nat.lt_of_not_le fun hc=>by rw [fr j hc] at h; cases h
theorem Bu.lt (h:Bu s i bs w F) (fr:Fresh s):∀ j∈F,j < s.nx:=fun j hj=>by obtain ⟨b,hb⟩:=h.have j hj; exact fr.lt hb
theorem by_ids (bs:List UInt8):idsL (bs.map byA) = []:=by
 induction bs with
 | nil=>rfl
 | cons c l ih=>simp only [List.map_cons,idsL,ih]; rfl
theorem Bu.rch (h:Bu s i bs w F) {vs:List AV} (hv:idsL vs = [i]):∀ j,j∈rch s vs↔j∈F:=by
 obtain ⟨a,x,h1,h2,h3⟩:=h
 intro j
 rcases h3 with ⟨rfl,rfl,rfl⟩ | ⟨k,h4,h5,rfl,h6,rfl⟩
 ·rw [rch_flat hv h2]
  ·rcases h1 with rfl | rfl <;> simp [blkIds,idsL,idsOf]
  ·rcases h1 with rfl | rfl <;> simp [blkIds,idsL,idsOf]
  ·intro j hj b hb
   rcases h1 with rfl | rfl
   ·simp [blkIds,idsL,idsOf] at hj
   ·simp [blkIds,idsL,idsOf] at hj; exact .inl hj
 ·rw [rch_flat hv h2]
  ·rcases h1 with rfl | rfl <;> simp [blkIds,idsL,idsOf]
  ·rcases h1 with rfl | rfl <;> simp [blkIds,idsL,idsOf]
  ·intro j hj b hb
   have hk:∀ b,s.h k = some b→blkIds b = []:=fun b hb=>by
    rw [h6] at hb; cases hb; exact by_ids bs
   rcases h1 with rfl | rfl
   ·simp [blkIds,idsL,idsOf] at hj; subst hj; exact .inr (hk b hb)
   ·simp [blkIds,idsL,idsOf] at hj
    rcases hj with rfl | rfl
    ·exact .inl rfl
    ·exact .inr (hk b hb)
theorem by_flat (bs:List UInt8):(bs.map byA).flatMap AV.cells = bs.map byA:=flat_one fun v hv=>by obtain ⟨c,_,rfl⟩:=List.mem_map.1 hv; rfl
theorem Bu.gw (h:Bu s i bs true F):∃ a x,(a = .nilp∨a = .ptr i 0)∧s.h i = some (.cells [a,x] 163 true true)∧Gw 5 1 0 s x (bs.map byA)∧F = i :: idOf x∧(∀ j∈idOf x,j≠i):=by
 obtain ⟨a,x,h1,h2,h3⟩:=h
 rcases h3 with ⟨rfl,rfl,rfl⟩ | ⟨k,h4,h5,rfl,h6,rfl⟩
 ·exact ⟨a,_,h1,h2,gw_nil,rfl,fun j hj=>by cases hj⟩
 ·refine ⟨a,_,h1,h2,⟨fun v hv=>by obtain ⟨c,_,rfl⟩:=List.mem_map.1 hv; exact ⟨rfl,rfl⟩,.inr ⟨k,Nat.zero_le _,by rw [List.length_map],by rw [by_flat]; exact h6⟩⟩,rfl,fun j hj=>?_⟩
  simp only [idOf,List.mem_singleton] at hj
  subst hj; exact h4
theorem app_strs (x:AV) (bs:List UInt8) (id:Nat) (s:St):bt .append #[161,9] [x,.str bs] id s = bt .append #[161,161] [x,.sl false (bs.map byA)] id s:=by
 rw [app_str,app_any ty161]
 have hall:(bs.map byA).all (fun v=>v.cells.length == 1) = true:=List.all_eq_true.2 fun v hv=>by obtain ⟨c,_,rfl⟩:=List.mem_map.1 hv; rfl
 have hsrc:srcCells 1 (.sl false (bs.map byA)) s = some (bs.map byA):=by simp only [srcCells,hall,if_true,by_flat]
 rw [hsrc]; rfl
theorem bu_check (h:Bu s i bs true F) (fr:Fresh s) (hk:∀ s',Bu s' i bs true F→EF [i] s s'→K (.tup []) s'):CallWi Tryz.env 202 [.ptr i 0] s K:=by
 obtain ⟨a,x,h2,h3,hx⟩:=h
 have hi:=fr.lt h3
 refine callWi0 fz202 (f202_run _ _ ?_)
 refine ⟨rfl,?_⟩
 rcases h2 with rfl | rfl
 ·simp only [h3,eq160n,wz,wy,Nat.reduceAdd]
  rw [cv1 (a:=.nilp) (x:=x) (by simp only [adv_h]; exact h3)]
  simp only [Bnd_some]
  refine callWi0 fz232 ⟨_,_,same232 i _,?_⟩
  rw [cv2 (a:=.nilp) (x:=x) (by simp only [adv_h]; exact h3)]
  simp only [wz,wy,Nat.reduceAdd]
  refine ⟨rfl,?_⟩
  rw [sto_cell (c:=[.nilp,x]) (by simp only [adv_h]; exact h3) (by simp) rfl rfl]
  simp only [Bnd_some]
  refine hk _ ⟨.ptr i 0,x,.inr rfl,by rw [st_same]; rfl,?_⟩ ((EF.refl _ fr).adv.set (by show i < s.nx + 13; omega) (.inr (by simp)))
  rcases hx with hx | ⟨j,h4,h5,h6,h7,h8⟩
  ·exact .inl hx
  ·exact .inr ⟨j,h4,h5,h6,by rw [st_other h4]; exact h7,h8⟩
 ·simp only [h3,eq160p,wz,wy,Nat.reduceAdd]
  refine ⟨rfl,?_⟩
  simp only [h3,ne160,wz,wy,Nat.reduceAdd]
  exact hk _ ⟨.ptr i 0,x,.inr rfl,h3,hx⟩ (EF.refl _ fr).adv
theorem bu_ws (h:Bu s i bs true F) (fr:Fresh s) (ht:t≠[]) (hlen:bs.length + t.length≤2 ^ 40) :
  ∃ r s',WideC Tryz.env 156 [.ptr i 0,.str t] s r s'∧r = .tup [.int .i64 t.length,.nili]∧∃ F',Bu s' i (bs ++ t) true F'∧EF F s s'∧∀ j∈F',j∈F∨s.nx≤j:=by
 refine f156_run _ _ _ ?_
 unfold f156
 refine bu_check (h.keep (s':=Ai.adv s 4) fun j _=>rfl) fr.adv fun s1 b1 e1=>?_
 have hiF:=h.mem
 have e1:EF F s s1:=((EF.refl F fr).adv (n:=4)).trans e1 fun j hj=>by rw [List.mem_singleton.1 hj]; exact .inr hiF
 obtain ⟨a,x,h2,h3,h4,rfl,h5⟩:=b1.gw
 have hx1:∀ j∈idOf x,j < s1.nx:=h4.id_lt e1.fr
 have hi:i < s1.nx:=e1.fr.lt h3
 have happ:=app_many (vs:=bs.map byA) (ws:=t.map byA) ty161 (h4.adv (n:=10)) (fun v hv=>by obtain ⟨c,_,rfl⟩:=List.mem_map.1 hv; exact ⟨rfl,rfl⟩) (by simpa using ht) (fits_of (by simp only [List.length_map]; omega) (by simp only [List.length_map]; omega)) false (s1.nx + 6)
 refine ⟨rfl,?_⟩
 simp only [h3,app_strs,happ,wz,wy,Nat.reduceAdd]
 refine ⟨rfl,?_⟩
 have hne:i ∉ idOf x:=fun hh=>h5 i hh rfl
 have hni:¬ (i = s1.nx + 6):=by omega
 have h3':((((Ai.adv s1 10).drop (idOf x)).set (s1.nx + 6) (some (.cells ((bs.map byA ++ t.map byA).flatMap AV.cells) 5 false true)))).h i = some (.cells [a,x] 163 true true):=by
  rw [get_set,if_neg hni,get_drop',if_neg hne,adv_h]; exact h3
 rw [sto_cell (c:=[a,x]) h3' (by simp) rfl rfl]
 simp only [Bnd_some,len9]
 refine ⟨trivial,[i,s1.nx + 6],⟨a,_,h2,by rw [adv_h,st_same]; rfl,.inr ⟨s1.nx + 6,by omega,by simp [ht],by simp,?_,rfl⟩⟩,?_,?_⟩
 ·rw [adv_h,st_other (by omega),st_same,← List.map_append,by_flat]
 ·have hn:=e1.nx
  refine (EF.set ?_ (by simp only [set_nx,nx_drop,adv_nx]; omega) (.inr hiF)).adv
  refine EF.set ?_ (by simp only [nx_drop,adv_nx]; omega) (.inl (by omega))
  exact e1.adv.drop fun j hj=>.inr (List.mem_cons_of_mem _ hj)
 ·intro j hj
  have hn:=e1.nx
  simp only [List.mem_cons,List.mem_nil_iff,or_false] at hj
  rcases hj with rfl | rfl
  ·exact .inl hiF
  ·exact .inr (by omega)
theorem bu_str (h:Bu s i bs w F) (fr:Fresh s) (hne:bs≠[]) (hlen:bs.length≤2 ^ 40):∃ r s',WideC Tryz.env 108 [.ptr i 0] s r s'∧r = .str bs∧Bu s' i bs false F∧EF F s s':=by
 have hF:=h.mem
 obtain ⟨a,x,h1,h3,h4⟩:=h
 rcases h4 with ⟨_,h5,_⟩ | ⟨j,hji,_,rfl,hs,rfl⟩
 ·exact absurd h5 hne
 refine f108_run _ _ ?_
 refine ⟨rfl,?_⟩
 have hpos:0 < bs.length:=List.length_pos_iff.2 hne
 have hj:=fr.lt hs
 have e1:∀ k (q:St),q.h j = some (.cells (bs.map byA) 5 false w)→bt .unsafeSliceData #[161] [.ref j 0 bs.length none 5] k q = some (.ptr j 0,q):=fun k q hq=>by
  simp [builtinA,hq,hpos]
 have e2:∀ k (q:St),bt .len #[161] [.ref j 0 bs.length none 5] k q = some (.int .i64 (bs.length:Nat),q):=fun k q=>by kernel_rfl
 have e3:∀ k (q:St),q.h j = some (.cells (bs.map byA) 5 false w)→bt .unsafeString #[220,3] [.ptr j 0,.int .i64 (bs.length:Nat)] k q = some (.str bs,q.set j (some (.cells (bs.map byA) 5 false false))):=fun k q hq=>by
  have h1:und (bX Tryz.env).P 220 = some (.pointer 5):=by kernel_rfl
  have h2:lay (bX Tryz.env).P 5 = some (1,false):=by kernel_rfl
  have hm:(bs.length:Int)≤(most:Int):=by unfold most; omega
  have hr:((bs.map fun c=>(c.toNat:Int)).all fun n=>decide (0≤n) && decide (n < 256)) = true:=List.all_eq_true.2 fun n hn=>by
   obtain ⟨c,_,rfl⟩:=List.mem_map.1 hn
   have:=c.toNat_lt
   simp; omega
  have htk:(bs.map byA).take bs.length = bs.map byA:=List.take_of_length_le (by simp)
  simp only [bt,builtinA,h1,hq,h2,Int.toNat_natCast,List.length_map,Nat.le_refl,hm,htk,u8s,Option.bind_some,hr,if_true,u8back,and_self,true_and,and_true]
  rw [if_pos (by omega)]
 simp only [h3,wz,wy,Nat.reduceAdd]
 rw [e1 _ _ (by rw [adv_h]; exact hs)]
 simp only [wz,wy,Nat.reduceAdd]
 refine ⟨rfl,?_⟩
 simp only [h3,e2,wz,wy,Nat.reduceAdd]
 refine ⟨fr _ (by omega),?_⟩
 rw [e3 _ (Ai.adv s 13) hs]
 simp only [wz,wy,Nat.reduceAdd]
 exact ⟨trivial,⟨a,_,h1,by rw [st_other hji.symm]; exact h3,.inr ⟨j,hji,hne,rfl,st_same,rfl⟩⟩,(EF.refl _ fr).adv.set (by show j < s.nx + 13; omega) (.inr (by simp))⟩
theorem callWsF (hz:Bu s i bs true F) (fr:Fresh s) (ht:t≠[]) (hlen:bs.length + t.length≤2 ^ 40) (hk:∀ s' F',Bu s' i (bs ++ t) true F'→EF F s s'→(∀ j∈F',j∈F∨s.nx≤j)→K (.tup [.int .i64 t.length,.nili]) s'):CallWi Tryz.env 156 [.ptr i 0,.str t] s K:=by
 obtain ⟨r,s',h1,rfl,F',h2,h3,h4⟩:=bu_ws hz fr ht hlen
 exact callWi0 fz156 ⟨_,s',h1,hk s' F' h2 h3 h4⟩
theorem callWsD {l:List Nat} {f:FuncId} (hz:Bu s i bs true F) (fr:Fresh s) (ht:t≠[]) (hlen:bs.length + t.length≤2 ^ 40) (hl:l = rch s [.fn f [] [],.ptr i 0,.str t]) (hk:∀ s' F',Bu s' i (bs ++ t) true F'→EF F s s'→(∀ j∈F',j∈F∨s.nx≤j)→K (.tup [.int .i64 t.length,.nili]) s'):CallWiD Tryz.env 156 [.ptr i 0,.str t] l s K:=by
 have hm:∀ j,j∈l↔j∈F:=fun j=>by rw [hl]; exact hz.rch rfl j
 have hz':Bu (s.only l) i bs true F:=hz.keep fun j hj=>by rw [only_h,if_pos ((hm j).2 hj)]
 obtain ⟨r,s',h1,rfl,F',h2,h3,h4⟩:=bu_ws hz' (only_fresh fr) ht hlen
 refine callWiDF fz156 ⟨_,s',h1,hk _ F' ?_ (merge_EF h3 fun j hj=>(hm j).2 hj) h4⟩
 exact h2.keep fun j hj=>by
  obtain ⟨b,hb⟩:=h2.have j hj
  rw [hb]; exact merge_some h3 (fun j hj=>(hm j).2 hj) hb
theorem callStrD {l:List Nat} {f:FuncId} (hz:Bu s i bs w F) (fr:Fresh s) (hne:bs≠[]) (hlen:bs.length≤2 ^ 40) (hl:l = rch s [.fn f [] [],.ptr i 0]) (hk:∀ s',Bu s' i bs false F→EF F s s'→K (.str bs) s'):CallWiD Tryz.env 108 [.ptr i 0] l s K:=by
 have hm:∀ j,j∈l↔j∈F:=fun j=>by rw [hl]; exact hz.rch rfl j
 have hz':Bu (s.only l) i bs w F:=hz.keep fun j hj=>by rw [only_h,if_pos ((hm j).2 hj)]
 obtain ⟨r,s',h1,rfl,h2,h3⟩:=bu_str hz' (only_fresh fr) hne hlen
 refine callWiDF fz108 ⟨_,s',h1,hk _ ?_ (merge_EF h3 fun j hj=>(hm j).2 hj)⟩
 exact h2.keep fun j hj=>by
  obtain ⟨b,hb⟩:=h2.have j hj
  rw [hb]; exact merge_some h3 (fun j hj=>(hm j).2 hj) hb
end
end
noncomputable section
def Nd.av (n:Nd):AV:=.agg [.int .i64 n.op,.int .i64 n.so,.sl false (n.a.map inA),.str n.nm,.bool n.neg,nsA n.num,.sl false (n.str.map rnA)]
def i64 (n:Int):Prop:=-9223372036854775808≤n∧n≤9223372036854775807
structure Nd.ok (n:Nd):Prop where
 op:i64 n.op
 so:i64 n.so
 a:∀ i∈n.a,i64 i
 al:n.a.length≤2 ^ 20
 nm:n.nm.length≤2 ^ 20
 num:limbs n.num
 nl:n.num.length≤2 ^ 20
 str:∀ r∈n.str,i64 r.1∧i64 r.2
 sl:n.str.length≤2 ^ 20
theorem text_le {a:List Nat} (h:limbs a) (hl:a.length≤2 ^ 20):(textM a).length≤2 ^ 26:=by
 have h1:=text_len (val a) (2 * (normM a).length) (normM a) [] (norm_limbs h) (norm_zero h).1 (val_ten _ (norm_limbs h))
 have h2:=norm_len a
 unfold textM
 have h3:∀ w:List UInt8,(w.dropWhile (· == 48)).length≤w.length:=fun w=>(List.dropWhile_sublist _).length_le
 have h4:=h3 (textGo (val a) (normM a) [])
 simp only [List.length_nil] at h1
 show (if (textGo (val a) (normM a) []).dropWhile (· == 48) = [] then [48] else (textGo (val a) (normM a) []).dropWhile (· == 48)).length≤2 ^ 26
 split
 ·simp
 ·omega
theorem sla_closed (l:List Int):(AV.sl false (l.map inA)).closed = true:=sl_closed_map _ _ fun _ _=>rfl
theorem slr_closed (l:List (Int × Int)):(AV.sl false (l.map rnA)).closed = true:=sl_closed_map _ _ fun _ _=>rfl
theorem nd_closed (n:Nd):n.av.closed = true:=by
 have h1:=sla_closed n.a
 have h2:=slr_closed n.str
 have h3:=ns_closed n.num
 simp only [Nd.av,AV.closed,closedL] at h1 h2 h3 ⊢
 simp only [h1,h2,h3,Bool.and_self]
theorem itoa_ne (i:Int):itoaL i≠[]:=by
 unfold itoaL
 split
 ·simp
 ·exact digA_ne _ _
section
variable {s:St} {b p:Nat} {F:List Nat} {bs:List UInt8} {n:Nd} {Q:AV→St→Prop}
def Ky (s:St) (b p:Nat) (bs:List UInt8) (n:Nd) (F:List Nat):Prop:=Bu s b bs true F∧Fresh s∧s.h p = some (.cells n.av.cells 101 true true)∧p ∉ F
theorem Ky.adv (h:Ky s b p bs n F) (k:Nat):Ky (Ai.adv s k) b p bs n F:=⟨h.1.keep fun _ _=>rfl,h.2.1.adv,h.2.2.1,h.2.2.2⟩
theorem Ky.step {s':St} {bs':List UInt8} {F':List Nat} (h:Ky s b p bs n F) (h1:Bu s' b bs' true F') (h2:EF F s s') (h3:∀ j∈F',j∈F∨s.nx≤j):Ky s' b p bs' n F':=by
 have hp:=h.2.1.lt h.2.2.1
 refine ⟨h1,h2.fr,by rw [h2.h p hp h.2.2.2]; exact h.2.2.1,fun hm=>?_⟩
 rcases h3 p hm with h3 | h3
 ·exact h.2.2.2 h3
 ·omega
theorem nd_cells (n:Nd):n.av.cells = [.int .i64 n.op,.int .i64 n.so,.sl false (n.a.map inA),.str n.nm,.bool n.neg,nsA n.num,.sl false (n.str.map rnA)]:=rfl
theorem j183b (h:Ky s b p bs n F) (hne:bs≠[]) (ho:n.ok) (hlen:bs.length≤2 ^ 36) (hQ:∀ s,Q (.str (bs ++ 61 :: n.nm)) s):f183j2 Q (.ptr b 0) (.ptr p 0) s:=by
 have h0:=h
 obtain ⟨h1,h2,h3,h4⟩:=h.adv 6
 unfold f183j2
 refine callStrD h1 h2 hne (by omega) rfl fun s' h5 h6=>?_
 have hp:=h2.lt h3
 have h7:s'.h p = some (.cells n.av.cells 101 true true):=by rw [h6.h p hp h4]; exact h3
 rw [add_str (y:=[61]) (by simp only [List.length_cons,List.length_nil]; omega)]
 simp only [wx,wy,Nat.reduceAdd,Nat.reduceEqDiff,reduceCtorEq]
 refine ⟨?_,?_⟩
 ·have hn:p ∉ rch (Ai.adv s 6) [.fn 108 [] [],.ptr b 0]:=fun hm=>h4 ((h1.rch rfl p).1 hm)
  have hmb:memB p (rch (Ai.adv s 6) [.fn 108 [] [],.ptr b 0]) = false:=by
   cases hc:memB p (rch (Ai.adv s 6) [.fn 108 [] [],.ptr b 0]) with
   | false=>rfl
   | true=>exact absurd (memB_mem.1 hc) hn
  have hlt:Nat.blt p (Ai.adv s 6).nx = true:=by simpa [Nat.blt_eq] using hp
  have hdj:disj (rch (Ai.adv s 6) [.fn 108 [] [],.ptr b 0]) [p] = true:=by
   have:∀ l:List Nat,(∀ x∈l,x≠p)→disj l [p] = true:=by
    intro l
    induction l with
    | nil=>intro _; rfl
    | cons x l ih =>
     intro hx
     have h1:Nat.beq x p = false:=by
      cases hb:Nat.beq x p with
      | false=>rfl
      | true=>exact absurd (Nat.eq_of_beq_eq_true hb) (hx x (List.mem_cons_self ..))
     simp only [disj,memB,h1,cond_false,Bool.or_self,Bool.not_false,Bool.true_and,ih fun y hy=>hx y (List.mem_cons_of_mem _ hy)]
   exact this _ fun x hx he=>hn (by rw [← he]; exact hx)
  simp [clear,Mark.apart,okLo,bitOf,idOf,disj,hmb,hlt,hdj]
  exact hp
 ·simp only [h7,nd_cells,wx,wy,Nat.reduceAdd,Nat.reduceEqDiff,reduceCtorEq]
  rw [add_str (by have:=ho.nm; simp only [List.length_append,List.length_cons,List.length_nil]; omega)]
  simp only [Bnd_some,List.append_assoc,List.cons_append,List.nil_append]
  exact hQ _
theorem l183b (ho:n.ok) (r:List UInt8) (hQ:∀ s,Q (.str r) s):∀ (m i:Nat) (bs:List UInt8) (s:St) (F:List Nat),i + m = n.str.length→Ky s b p bs n F→bs≠[]→bs.length + 64 * m≤2 ^ 36→r = bs ++ (n.str.drop i).flatMap (fun r=>32 :: itoaL r.1 ++ 42 :: itoaL r.2) ++ 61 :: n.nm →
  f183l1 Q (m + 1) (.ptr p 0) (.ptr b 0) (.sl false (n.str.map rnA)) (.int .i64 n.str.length) (.int .i64 i) s:=by
 intro m
 induction m with
 | zero =>
  intro i bs s F hi h hne hlen hr
  show f183l1s Q (f183l1 Q 0) _ _ _ _ _ s
  have c1:decide ((i:Int) < (n.str.length:Int)) = false:=by simp; omega
  rw [List.drop_of_length_le (by omega)] at hr
  simp only [f183l1s,c1,wx,wy,Nat.reduceAdd,Nat.reduceEqDiff,reduceCtorEq]
  refine j183b (h.adv 1) hne ho (by omega) fun s=>?_
  rw [show bs ++ 61 :: n.nm = r by rw [hr]; simp]
  exact hQ s
 | succ m ih =>
  intro i bs s F hi h hne hlen hr
  show f183l1s Q (f183l1 Q (m + 1)) _ _ _ _ _ s
  have c1:decide ((i:Int) < (n.str.length:Int)) = true:=by simp; omega
  obtain ⟨q,hq⟩:∃ q,n.str[i]? = some q:=⟨_,List.getElem?_eq_getElem (by omega)⟩
  rw [get_drop _ i q hq,List.flatMap_cons] at hr
  have hq2:=ho.str q (List.mem_of_getElem? hq)
  have hix:=ix_map encRn false hq .i64
  have w1:IntKind.i64.wrap ((i:Int) + 1) = ((i + 1:Nat):Int):=by have:=ho.sl; rw [IntWalk.i64_in _ (by omega)]; rfl
  have hst:∀ (q':St) (k c:Nat),sto 2 (.ptr k 0) (rnA q) (Ai.adv (q'.set k (some (.cells (AV.agg [.int .i64 0,.int .i64 0]).cells 109 true true))) c) = some (Ai.adv (q'.set k (some (.cells (rnA q).cells 109 true true))) c):=fun q' k c=>by
   rw [sto_all (z:=2) (by rw [adv_h,st_same]) rfl rfl rfl,adv_set,set_set]
  have hb:=h.2.1.lt (h.1.have b h.1.mem).choose_spec
  have hp:=h.2.1.lt h.2.2.1
  have hF:=h.1.lt h.2.1
  simp only [f183l1s,c1,hix,rn_part,zf109,hst,wx,wy,Nat.reduceAdd,Nat.reduceEqDiff,reduceCtorEq]
  have h1:Ky (Ai.adv (s.set (s.nx + 3) (some (.cells (rnA q).cells 109 true true))) 15) b p bs n F :=
   ⟨h.1.keep fun j hj=>by rw [adv_h,st_other (by have:=hF j hj; omega)],fresh_set h.2.1 15 (by omega),by rw [adv_h,st_other (by omega)]; exact h.2.2.1,h.2.2.2⟩
  have e0:(rnA q).cells[0]? = some (.int .i64 q.1):=rfl
  have e1:(rnA q).cells[1]? = some (.int .i64 q.2):=rfl
  simp only [e0,e1,st_same,wx,wy,Nat.reduceAdd,Nat.reduceEqDiff,reduceCtorEq]
  refine callPuD (c206 q.1 hq2.1.1 hq2.1.2) (by simp [AV.closed]) ?_
  have l1:=itoaL_len q.1
  have l2:=itoaL_len q.2
  rw [add_str (x:=[32]) (by simp only [List.length_cons,List.length_nil]; omega)]
  simp only [Bnd_some]
  rw [add_str (y:=[42]) (by simp only [List.length_append,List.length_cons,List.length_nil]; omega)]
  simp only [e1,wx,wy,Nat.reduceAdd,Nat.reduceEqDiff,reduceCtorEq]
  refine callPuD (c206 q.2 hq2.2.1 hq2.2.2) (by simp [AV.closed]) ?_
  rw [add_str (by simp only [List.length_append,List.length_cons,List.length_nil]; omega)]
  simp only [Bnd_some]
  refine callWsD h1.1 h1.2.1 (by simp) (by simp only [List.length_append,List.length_cons,List.length_nil]; omega) rfl fun s' F' g1 g2 g3=>?_
  simp only [f183j3,w1,wx,wy,Nat.reduceAdd,Nat.reduceEqDiff,reduceCtorEq]
  exact ih (i + 1) _ _ F' (by omega) ((h1.step g1 g2 g3).adv 2) (by simp) (by simp only [List.length_append,List.length_cons,List.length_nil]; omega) (by rw [hr]; simp)
theorem j183a (h:Ky s b p bs n F) (hne:bs≠[]) (ho:n.ok) (hlen:bs.length≤2 ^ 30) (hQ:∀ s,Q (.str (bs ++ 35 :: textM n.num ++ n.str.flatMap (fun r=>32 :: itoaL r.1 ++ 42 :: itoaL r.2) ++ 61 :: n.nm)) s):f183j1 Q (.ptr p 0) (.ptr b 0) s:=by
 have htx:=text_le ho.num ho.nl
 unfold f183j1
 obtain ⟨h1,h2,h3,h4⟩:=h.adv 6
 simp only [h.2.2.1,nd_cells,wx,wy,Nat.reduceAdd,Nat.reduceEqDiff,reduceCtorEq]
 refine callPu (c59 n.num ho.num (by have:=ho.nl; omega)) (by simp [ns_closed]) ?_
 rw [add_str (x:=[35]) (by simp only [List.length_cons,List.length_nil]; omega)]
 simp only [Bnd_some]
 refine callWsF h1 h2 (by simp) (by simp only [List.length_append,List.length_cons,List.length_nil]; omega) fun s' F' g1 g2 g3=>?_
 have h5:=(h.adv 6).step g1 g2 g3
 have hl:∀ id s,bt .len #[25] [.sl false (n.str.map rnA)] id s = some (.int .i64 n.str.length,s):=fun id s=>by rw [ln25s,List.length_map]
 simp only [h5.2.2.1,nd_cells,hl,wx,wy,Nat.reduceAdd,Nat.reduceEqDiff,reduceCtorEq]
 exact ⟨_,l183b ho _ hQ n.str.length 0 _ _ F' (by omega) (h5.adv 4) (by simp) (by have:=ho.sl; simp only [List.length_append,List.length_cons,List.length_nil]; omega) (by simp)⟩
theorem l183a (ho:n.ok) (r:List UInt8) (hQ:∀ s,Q (.str r) s):∀ (m i:Nat) (bs:List UInt8) (s:St) (F:List Nat),i + m = n.a.length→Ky s b p bs n F→bs≠[]→bs.length + 22 * m≤2 ^ 30→r = bs ++ (n.a.drop i).flatMap (fun i=>32 :: itoaL i) ++ 35 :: textM n.num ++ n.str.flatMap (fun r=>32 :: itoaL r.1 ++ 42 :: itoaL r.2) ++ 61 :: n.nm →
  f183l2 Q (m + 1) (.ptr p 0) (.ptr b 0) (.sl false (n.a.map inA)) (.int .i64 n.a.length) (.int .i64 i) s:=by
 intro m
 induction m with
 | zero =>
  intro i bs s F hi h hne hlen hr
  show f183l2s Q (f183l2 Q 0) _ _ _ _ _ s
  have c1:decide ((i:Int) < (n.a.length:Int)) = false:=by simp; omega
  rw [List.drop_of_length_le (by omega)] at hr
  simp only [f183l2s,c1,wx,wy,Nat.reduceAdd,Nat.reduceEqDiff,reduceCtorEq]
  refine j183a (h.adv 1) hne ho (by omega) fun s=>?_
  rw [List.flatMap_nil,List.append_nil] at hr
  rw [← hr]
  exact hQ s
 | succ m ih =>
  intro i bs s F hi h hne hlen hr
  show f183l2s Q (f183l2 Q (m + 1)) _ _ _ _ _ s
  have c1:decide ((i:Int) < (n.a.length:Int)) = true:=by simp; omega
  obtain ⟨q,hq⟩:∃ q,n.a[i]? = some q:=⟨_,List.getElem?_eq_getElem (by omega)⟩
  rw [get_drop _ i q hq,List.flatMap_cons] at hr
  have hq2:=ho.a q (List.mem_of_getElem? hq)
  have hix:=ix_map encIn false hq .i64
  have w1:IntKind.i64.wrap ((i:Int) + 1) = ((i + 1:Nat):Int):=by have:=ho.al; rw [IntWalk.i64_in _ (by omega)]; rfl
  have e0:(inA q).cells[0]? = some (.int .i64 q):=rfl
  simp only [f183l2s,c1,hix,e0,wx,wy,Nat.reduceAdd,Nat.reduceEqDiff,reduceCtorEq]
  refine callPu (c206 q hq2.1 hq2.2) (by simp [AV.closed]) ?_
  have l1:=itoaL_len q
  rw [add_str (x:=[32]) (by simp only [List.length_cons,List.length_nil]; omega)]
  simp only [Bnd_some]
  obtain ⟨h1,h2,_⟩:=h.adv 8
  refine callWsF h1 h2 (by simp) (by simp only [List.length_append,List.length_cons,List.length_nil]; omega) fun s' F' g1 g2 g3=>?_
  simp only [f183j4,w1,wx,wy,Nat.reduceAdd,Nat.reduceEqDiff,reduceCtorEq]
  exact ih (i + 1) _ _ F' (by omega) (((h.adv 8).step g1 g2 g3).adv 2) (by simp) (by simp only [List.length_append,List.length_cons,List.length_nil]; omega) (by rw [hr]; simp)
end
theorem c183 (n:Nd) (ho:n.ok):PureC Tryz.env 183 [n.av] (.str (keyM n)):=by
 refine pure_q (f183_run _ _ ?_)
 unfold f183
 refine ⟨rfl,?_⟩
 have hl:∀ id s,bt .len #[72] [.sl false (n.a.map inA)] id s = some (.int .i64 n.a.length,s):=fun id s=>by rw [ln72s,List.length_map]
 have l1:=itoaL_len n.op
 have l2:=itoaL_len n.so
 have hz:(AV.agg [.nilp,.nils]).cells = [.nilp,.nils]:=rfl
 simp only [zf163,nd_cells,hz,wx,wy,Nat.reduceAdd,Nat.reduceEqDiff,reduceCtorEq]
 refine callPuD (c206 n.op ho.op.1 ho.op.2) (by simp [AV.closed]) ?_
 rw [add_str (y:=[58]) (by simp only [List.length_cons,List.length_nil]; omega)]
 simp only [nd_cells,wx,wy,Nat.reduceAdd,Nat.reduceEqDiff,reduceCtorEq]
 refine callPuD (c206 n.so ho.so.1 ho.so.2) (by simp [AV.closed]) ?_
 rw [add_str (by simp only [List.length_append,List.length_cons,List.length_nil]; omega)]
 simp only [Bnd_some]
 have h0:Ky (Ai.adv ((Ai.adv ((Ai.adv St.empty 2).set St.empty.nx (some (.cells n.av.cells 101 true true))) 1).set (St.empty.nx + 2) (some (.cells [.nilp,.nils] 163 true true))) 9) 2 0 [] n [2] :=
  ⟨⟨.nilp,.nils,.inl rfl,rfl,.inl ⟨rfl,rfl,rfl⟩⟩,(((fresh_empty.adv.set (by decide)).adv).set (by show 2 < 3; decide)).adv,rfl,by decide⟩
 refine callWsD h0.1 h0.2.1 (by simp [itoa_ne]) (by simp only [List.length_append,List.length_cons,List.length_nil]; omega) rfl fun s' F' g1 g2 g3=>?_
 have h5:=h0.step g1 g2 g3
 have hp:s'.h St.empty.nx = some (.cells n.av.cells 101 true true):=h5.2.2.1
 simp only [hp,nd_cells,hl,wx,wy,Nat.reduceAdd,Nat.reduceEqDiff,reduceCtorEq]
 refine ⟨_,l183a ho (keyM n) (fun s=>pureQ_closed rfl) n.a.length 0 _ _ F' (by omega) (h5.adv 4) (by simp) (by have:=ho.al; simp only [List.length_append,List.length_cons,List.length_nil]; omega) ?_⟩
 simp [keyM]
end
noncomputable section
def stA (x:List UInt8):AV:=.str x
theorem encSt:Enc stA 1:=⟨fun _=>rfl,fun _=>rfl⟩
theorem encNd:Enc Nd.av 7:=⟨fun _=>rfl,fun _=>rfl⟩
def enumB:Nat→List (List UInt8)→List (AV × AV)
 | _,[]=>[]
 | i,k :: l=>(.str k,.int .i64 i) :: enumB (i + 1) l
theorem enum_app (l:List (List UInt8)) (k:List UInt8):∀ i,enumB i (l ++ [k]) = enumB i l ++ [(.str k,.int .i64 ((i + l.length:Nat):Int))]:=by
 induction l with
 | nil=>intro i; rfl
 | cons a l ih=>intro i; simp only [List.cons_append,enumB,ih,List.length_cons,show i + 1 + l.length = i + (l.length + 1) by omega]
def idxK (k:List UInt8):List (List UInt8)→Option Nat
 | []=>none
 | a :: l=>bif k == a then some 0 else (idxK k l).map (· + 1)
theorem idxK_find (k:List UInt8) (B:Bk):idxK k (B.map keyM) = findK k B:=by
 induction B with
 | nil=>rfl
 | cons n B ih=>simp only [List.map_cons,idxK,findK,ih]
theorem find_enum (k:List UInt8):∀ (l:List (List UInt8)) (i:Nat),find (.str k) (enumB i l) = some ((idxK k l).map fun j=>.int .i64 ((i + j:Nat):Int)):=by
 intro l
 induction l with
 | nil=>intro i; rfl
 | cons a l ih =>
  intro i
  simp only [enumB,find,cellEq,idxK]
  cases h:(k == a) with
  | true=>simp
  | false =>
   simp only [ih,cond_false,Option.map_map]
   congr 2
   funext j
   simp only [Function.comp,show i + 1 + j = i + (j + 1) by omega]
theorem set_enum (k:List UInt8) (v:AV):∀ (l:List (List UInt8)) (i:Nat),idxK k l = none→mapSet (.str k) v (enumB i l) = enumB i l ++ [(.str k,v)]:=by
 intro l
 induction l with
 | nil=>intro i _; rfl
 | cons a l ih =>
  intro i h
  simp only [idxK] at h
  cases hb:(k == a) with
  | true=>rw [hb] at h; cases h
  | false =>
   rw [hb] at h
   simp only [cond_false,Option.map_eq_none_iff] at h
   simp only [enumB,mapSet,cellEq,hb,ih (i + 1) h,List.cons_append]
   rfl
section
variable {s s':St} {i:Nat} {F:List Nat} {K:AV→St→Prop}
def MpR (s:St) (m:AV) (l:List (List UInt8)):Prop:=(m = .nilm∧l = [])∨∃ j,m = .map j∧s.h j = some (.map (enumB 0 l))
def BkC (s:St) (i:Nat) (B:Bk) (xl m xn:AV):Prop :=
 s.h i = some (.cells [xl,m,xn] 58 true true)∧Gw 9 1 0 s xl ((B.map keyM).map stA)∧MpR s m (B.map keyM)∧Gw 101 7 0 s xn (B.map Nd.av)∧(i :: (idOf xl ++ idOf m ++ idOf xn)).Nodup∧(∀ n∈B,n.ok)∧B.length≤20000
def BkR (s:St) (i:Nat) (B:Bk) (F:List Nat):Prop:=∃ xl m xn,BkC s i B xl m xn∧F = i :: (idOf xl ++ idOf m ++ idOf xn)
theorem MpR.keep {m:AV} {l:List (List UInt8)} (h:MpR s m l) (hk:∀ j∈idOf m,s'.h j = s.h j):MpR s' m l:=by
 rcases h with h | ⟨j,rfl,h⟩
 ·exact .inl h
 ·exact .inr ⟨j,rfl,by rw [hk j (by simp [idOf])]; exact h⟩
theorem BkR.keep {B:Bk} (h:BkR s i B F) (hk:∀ j∈F,s'.h j = s.h j):BkR s' i B F:=by
 obtain ⟨xl,m,xn,⟨h1,h2,h3,h4,h5⟩,rfl⟩:=h
 exact ⟨xl,m,xn,⟨by rw [hk i (by simp)]; exact h1,h2.keep fun j hj=>hk j (by simp [hj]),h3.keep fun j hj=>hk j (by simp [hj]),h4.keep fun j hj=>hk j (by simp [hj]),h5⟩,rfl⟩
theorem Gw.has {e:TypeId} {z:Nat} {x:AV} {vs:List AV} (g:Gw e z 0 s x vs):∀ j∈idOf x,s.h j = some (.cells (vs.flatMap AV.cells) e false true):=by
 obtain ⟨_,⟨rfl,rfl⟩ | ⟨id,_,rfl,h⟩⟩:=g
 ·intro j hj; cases hj
 ·intro j hj; simp only [idOf,List.mem_singleton] at hj; subst hj; exact h
theorem MpR.has {m:AV} {l:List (List UInt8)} (h:MpR s m l):∀ j∈idOf m,s.h j = some (.map (enumB 0 l)):=by
 rcases h with ⟨rfl,_⟩ | ⟨k,rfl,h⟩
 ·intro j hj; cases hj
 ·intro j hj; simp only [idOf,List.mem_singleton] at hj; subst hj; exact h
theorem BkR.have {B:Bk} (h:BkR s i B F):∀ j∈F,∃ b,s.h j = some b:=by
 obtain ⟨xl,m,xn,⟨h1,h2,h3,h4,h5⟩,rfl⟩:=h
 intro j hj
 simp only [List.mem_cons,List.mem_append] at hj
 rcases hj with rfl | (hj | hj) | hj
 ·exact ⟨_,h1⟩
 ·exact ⟨_,h2.has j hj⟩
 ·exact ⟨_,h3.has j hj⟩
 ·exact ⟨_,h4.has j hj⟩
theorem BkR.lt {B:Bk} (h:BkR s i B F) (fr:Fresh s):∀ j∈F,j < s.nx:=fun j hj=>by obtain ⟨b,hb⟩:=h.have j hj; exact fr.lt hb
theorem BkR.mem {B:Bk} (h:BkR s i B F):i∈F:=by obtain ⟨xl,m,xn,_,rfl⟩:=h; simp
theorem BkR.adv {B:Bk} {n:Nat} (h:BkR s i B F):BkR (Ai.adv s n) i B F:=h.keep fun _ _=>rfl
theorem idsL_closed {l:List AV} (h:closedL l = true):idsL l = []:=by
 have key:(∀ v:AV,v.closed = true→idsOf v = [])∧∀ l:List AV,closedL l = true→idsL l = []:=by
  constructor
  ·intro v
   exact AV.rec (motive_1:=fun v=>v.closed = true→idsOf v = []) (motive_2:=fun l=>closedL l = true→idsL l = [])
    (fun _=>rfl) (fun _ _=>rfl) (fun _ _ _=>rfl) (fun _ _=>rfl) (fun _=>rfl) (fun _ _ h=>by cases h) (fun cs _ ih h=>by simp only [AV.closed] at h; simp only [idsOf,ih h])
    (fun _=>rfl) (fun h=>by cases h) (fun ex l ih h=>by simp only [AV.closed,Bool.and_eq_true] at h; simp only [idsOf,ih h.2]) (fun _ _ _ _ _ h=>by cases h) (fun _=>rfl) (fun _ h=>by cases h) (fun _=>rfl) (fun _ h=>by cases h) (fun _=>rfl)
    (fun _ a b iha ihb h=>by simp only [AV.closed,Bool.and_eq_true] at h; simp only [idsOf,iha h.1,ihb h.2,List.append_nil]) (fun _=>rfl) (fun _ _ _ h=>by cases h) (fun cs ih h=>by simp only [AV.closed] at h; simp only [idsOf,ih h]) (fun cs ih h=>by simp only [AV.closed] at h; simp only [idsOf,ih h])
    (fun _=>rfl) (fun v l ih1 ih2 h=>by simp only [closedL,Bool.and_eq_true] at h; simp only [idsL,ih1 h.1,ih2 h.2,List.append_nil]) v
  ·intro l
   exact AV.rec_1 (motive_1:=fun v=>v.closed = true→idsOf v = []) (motive_2:=fun l=>closedL l = true→idsL l = [])
    (fun _=>rfl) (fun _ _=>rfl) (fun _ _ _=>rfl) (fun _ _=>rfl) (fun _=>rfl) (fun _ _ h=>by cases h) (fun cs _ ih h=>by simp only [AV.closed] at h; simp only [idsOf,ih h])
    (fun _=>rfl) (fun h=>by cases h) (fun ex l ih h=>by simp only [AV.closed,Bool.and_eq_true] at h; simp only [idsOf,ih h.2]) (fun _ _ _ _ _ h=>by cases h) (fun _=>rfl) (fun _ h=>by cases h) (fun _=>rfl) (fun _ h=>by cases h) (fun _=>rfl)
    (fun _ a b iha ihb h=>by simp only [AV.closed,Bool.and_eq_true] at h; simp only [idsOf,iha h.1,ihb h.2,List.append_nil]) (fun _=>rfl) (fun _ _ _ h=>by cases h) (fun cs ih h=>by simp only [AV.closed] at h; simp only [idsOf,ih h]) (fun cs ih h=>by simp only [AV.closed] at h; simp only [idsOf,ih h])
    (fun _=>rfl) (fun v l ih1 ih2 h=>by simp only [closedL,Bool.and_eq_true] at h; simp only [idsL,ih1 h.1,ih2 h.2,List.append_nil]) l
 exact key.2 l h
theorem enum_ids (l:List (List UInt8)):∀ i,idsL ((enumB i l).map (·.2)) = []:=by
 induction l with
 | nil=>intro i; rfl
 | cons a l ih=>intro i; simp only [enumB,List.map_cons,idsL,ih]; rfl
theorem ids_flat {vs:List AV} (h:∀ v∈vs,v.closed = true):idsL (vs.flatMap AV.cells) = []:=idsL_closed (flat_closed h)
theorem idOf_ids {x:AV} (h:(∃ e z vs,Gw e z 0 s x vs)∨∃ l,MpR s x l):idsOf x = idOf x:=by
 rcases h with ⟨e,z,vs,_,⟨rfl,rfl⟩ | ⟨id,_,rfl,_⟩⟩ | ⟨l,⟨rfl,_⟩ | ⟨k,rfl,_⟩⟩ <;> rfl
theorem BkR.rch {B:Bk} (h:BkR s i B F) {vs:List AV} (hv:idsL vs = [i]):∀ j,j∈rch s vs↔j∈F:=by
 obtain ⟨xl,m,xn,⟨h1,h2,h3,h4,h5⟩,rfl⟩:=h
 have hb:blkIds (.cells [xl,m,xn] 58 true true) = idOf xl ++ idOf m ++ idOf xn:=by
  simp only [blkIds,idsL,idOf_ids (s:=s) (.inl ⟨_,_,_,h2⟩),idOf_ids (s:=s) (.inr ⟨_,h3⟩),idOf_ids (s:=s) (.inl ⟨_,_,_,h4⟩),List.append_nil,List.append_assoc]
 intro j
 rw [rch_flat hv h1]
 ·rw [hb]; simp
 ·rw [hb]
  have hl:∀ x:AV,(idOf x).length≤1:=fun x=>by cases x <;> simp [idOf]
  have a:=hl xl; have b:=hl m; have c:=hl xn
  simp only [List.length_append]; omega
 ·rw [hb]
  intro j hj b hb2
  right
  simp only [List.mem_append] at hj
  rcases hj with (hj | hj) | hj
  ·rw [h2.has j hj] at hb2; cases hb2
   exact ids_flat fun v hv=>by obtain ⟨c,_,rfl⟩:=List.mem_map.1 hv; rfl
  ·rw [h3.has j hj] at hb2; cases hb2; exact enum_ids _ _
  ·rw [h4.has j hj] at hb2; cases hb2
   exact ids_flat fun v hv=>by obtain ⟨c,_,rfl⟩:=List.mem_map.1 hv; exact nd_closed c
theorem bk_len {B:Bk} {x:AV} (g:Gw 101 7 0 s x (B.map Nd.av)) (id:Nat):bt .len #[56] [x] id s = some (.int .i64 B.length,s):=by
 have:=ln56g g id
 rwa [List.length_map] at this
theorem len_c {B:Bk} (h:BkR s i B F) (hK:K (.int .i64 B.length) (Ai.adv s 9)):CallWi Tryz.env 31 [.ptr i 0] s K:=by
 obtain ⟨xl,m,xn,⟨h1,h2,h3,h4,h5⟩,rfl⟩:=h
 refine callWiF (by kernel_rfl) (f31_run _ _ ?_)
 unfold f31
 simp only [eqf51p,h1,wx,wy,Nat.reduceAdd,Nat.reduceEqDiff,reduceCtorEq]
 refine ⟨rfl,?_⟩
 simp only [h1,bk_len (h4.adv),wx,wy,Nat.reduceAdd,Nat.reduceEqDiff,reduceCtorEq]
 exact hK
theorem und53:und Tryz.ty 53 = some (.map 9 3):=by kernel_rfl
theorem look53 {m:AV} {l:List (List UInt8)} (h:MpR s m l) (k:List UInt8):lookupA Tryz.ty 53 m (.str k) true s = some (.tup [.int .i64 (((idxK k l).getD 0:Nat):Int),.bool (idxK k l).isSome]):=by
 have h9:und Tryz.ty 9 = some .string:=by kernel_rfl
 have hz:zero Tryz.ty 3 = some (.int .i64 0):=by kernel_rfl
 have he:entryA m (.str k) s = some ((idxK k l).map fun j=>.int .i64 (j:Int)):=by
  rcases h with ⟨rfl,rfl⟩ | ⟨j,rfl,hj⟩
  ·rfl
  ·simp only [entryA,hj,find_enum,Nat.zero_add]
 simp only [lookupA,und53,h9,Option.bind_some,keyD,if_true,hz,he,Option.map_some]
 cases idxK k l <;> rfl
theorem find_c {xl m xn:AV} {l:List (List UInt8)} (h1:s.h i = some (.cells [xl,m,xn] 58 true true)) (h:MpR s m l) (k:List UInt8) (hK:K (.tup [.int .i64 (((idxK k l).getD 0:Nat):Int),.bool (idxK k l).isSome]) (Ai.adv s 19)):CallWi Tryz.env 184 [.ptr i 0,.str k] s K:=by
 refine callWiF (by kernel_rfl) (f184_run _ _ _ ?_)
 unfold f184
 have e1:bn .eql 277 (.ptr i 0) .nilp = some (.bool false):=by kernel_rfl
 simp only [e1,wx,wy,Nat.reduceAdd,Nat.reduceEqDiff,reduceCtorEq]
 refine ⟨rfl,?_⟩
 simp only [h1,look53 (s:=Ai.adv s 15) (h.keep fun _ _=>rfl),wx,wy,Nat.reduceAdd,Nat.reduceEqDiff,reduceCtorEq]
 exact hK
theorem upd53 {j:Nat} {l:List (List UInt8)} {S:St} (h:S.h j = some (.map (enumB 0 l))) (k:List UInt8) (hk:idxK k l = none) (v:AV):mapUpd Tryz.ty 53 (.map j) (.str k) v S = some (S.set j (some (.map (enumB 0 l ++ [(.str k,v)])))):=by
 have h9:und Tryz.ty 9 = some .string:=by kernel_rfl
 simp only [mapUpd,und53,h9,Option.bind_some,h,keyD,if_true,find_enum,hk,set_enum k v l 0 hk,Option.map_none,Option.map_some]
theorem gw_str_len {x:AV} {l:List (List UInt8)} (g:Gw 9 1 0 s x (l.map stA)) (id:Nat):bt .len #[52] [x] id s = some (.int .i64 l.length,s):=by
 have:=ln52g g id
 rwa [List.length_map] at this
theorem tadd_c {xl m xn:AV} {l:List (List UInt8)} (fr:Fresh s) (h1:s.h i = some (.cells [xl,m,xn] 58 true true)) (h2:Gw 9 1 0 s xl (l.map stA)) (h:MpR s m l) (hd:(i :: (idOf xl ++ idOf m)).Nodup) (k:List UInt8) (hk:idxK k l = none) (hl:l.length≤20000) :
  ∃ r s',WideC Tryz.env 185 [.ptr i 0,.str k] s r s'∧r = .tup [.int .i64 l.length,.bool true]∧∃ j' n',s'.h i = some (.cells [.ref n' 0 (l.length + 1) none 9,.map j',xn] 58 true true)∧Gw 9 1 0 s' (.ref n' 0 (l.length + 1) none 9) ((l ++ [k]).map stA) ∧
   s'.h j' = some (.map (enumB 0 (l ++ [k])))∧EF (i :: (idOf xl ++ idOf m)) s s'∧s.nx≤n'∧(j'∈idOf m∨s.nx≤j')∧j'≠n':=by
 refine f185_run _ _ _ ?_
 have e1:bn .eql 277 (.ptr i 0) .nilp = some (.bool false):=by kernel_rfl
 have hi:=fr.lt h1
 have wl:IntKind.i64.wrap (((l.length:Nat):Int) + 1 - 1) = (l.length:Int):=by rw [IntWalk.i64_in _ (by omega)]; omega
 have bs:bsl 52 1 [(0,.str k)] = some (.sl true [stA k]):=bsl_one tf52 (by decide) rfl rfl
 have key:∀ (Q:AV→St→Prop) (S:St) (j:Nat),S.h i = some (.cells [xl,.map j,xn] 58 true true)→Gw 9 1 0 S xl (l.map stA)→S.h j = some (.map (enumB 0 l))→j ∉ i :: idOf xl→EF (i :: (idOf xl ++ idOf m)) s S→(j∈idOf m∨s.nx≤j) →
   (∀ s',(∃ j' n',s'.h i = some (.cells [.ref n' 0 (l.length + 1) none 9,.map j',xn] 58 true true)∧Gw 9 1 0 s' (.ref n' 0 (l.length + 1) none 9) ((l ++ [k]).map stA) ∧
   s'.h j' = some (.map (enumB 0 (l ++ [k])))∧EF (i :: (idOf xl ++ idOf m)) s s'∧s.nx≤n'∧(j'∈idOf m∨s.nx≤j')∧j'≠n')→Q (.tup [.int .i64 l.length,.bool true]) s')→f185j1 Q (.ptr i 0) (.str k) S:=by
  intro Q S j g1 g2 g3 g4 g5 g6 hQ
  have hj:=g5.fr.lt g3
  have hi2:=g5.fr.lt g1
  have hxl:∀ y∈idOf xl,y < S.nx:=fun y hy=>g5.fr.lt (g2.has y hy)
  have hji:j≠i:=fun hh=>g4 (by simp [hh])
  have hjx:j ∉ idOf xl:=fun hh=>g4 (by simp [hh])
  have hix:i ∉ idOf xl:=fun hh=>by simp only [List.nodup_cons,List.mem_append] at hd; exact hd.1 (.inl hh)
  have hn:=g5.nx
  unfold f185j1
  refine ⟨rfl,?_⟩
  simp only [g1,wx,wy,Nat.reduceAdd,Nat.reduceEqDiff,reduceCtorEq]
  refine ⟨rfl,?_⟩
  simp only [g1,gw_str_len g2.adv,wx,wy,Nat.reduceAdd,Nat.reduceEqDiff,reduceCtorEq]
  refine ⟨g5.fr _ (by omega),?_⟩
  rw [upd53 (S:=Ai.adv S 11) g3 k hk]
  simp only [Bnd_some]
  refine ⟨rfl,?_⟩
  have g1':(S.set j (some (.map (enumB 0 l ++ [(.str k,.int .i64 l.length)])))).h i = some (.cells [xl,.map j,xn] 58 true true):=by rw [st_other hji.symm]; exact g1
  have g2':Gw 9 1 0 (S.set j (some (.map (enumB 0 l ++ [(.str k,.int .i64 l.length)])))) xl (l.map stA):=g2.keep fun y hy=>st_other fun hh=>hjx (by rw [← hh]; exact hy)
  have happ:=app_map tf52 encSt (g2'.adv (n:=22)) (by omega) (by omega) k true (S.nx + 18)
  simp only [g1',bs,happ,wx,wy,Nat.reduceAdd,Nat.reduceEqDiff,reduceCtorEq]
  refine ⟨rfl,?_⟩
  obtain ⟨M,hM⟩:∃ M,M = (some (Blk.map (enumB 0 l ++ [(AV.str k,AV.int .i64 l.length)])):Option Blk):=⟨_,rfl⟩
  obtain ⟨C,hC⟩:∃ C,C = (some (Blk.cells (((l ++ [k]).map stA).flatMap AV.cells) 9 false true):Option Blk):=⟨_,rfl⟩
  rw [← hM,← hC]
  rw [← hM] at g1'
  have z1:(Ai.adv (((S.set j M).drop (idOf xl)).set (S.nx + 18) C) 22).h i = some (.cells [xl,.map j,xn] 58 true true):=by
   rw [adv_h,get_set,if_neg (by omega),get_drop',if_neg hix]; exact g1'
  rw [sto_c (c:=[xl,.map j,xn]) z1 (by simp) rfl rfl]
  simp only [wx,wy,Nat.reduceAdd,Nat.reduceEqDiff,reduceCtorEq]
  refine ⟨rfl,?_⟩
  have z2:(Ai.adv ((((S.set j M).drop (idOf xl)).set (S.nx + 18) C).set i (some (.cells [.ref (S.nx + 18) 0 (l.length + 1) none 9,.map j,xn] 58 true true))) 22).h i = some (.cells [.ref (S.nx + 18) 0 (l.length + 1) none 9,.map j,xn] 58 true true):=by rw [adv_h,st_same]
  simp only [List.set_cons_zero,if_true,ln52r,wx,wy,Nat.reduceAdd,Nat.reduceEqDiff,reduceCtorEq]
  have wl2:IntKind.i64.wrap (((l.length + 1:Nat):Int) - 1) = (l.length:Int):=by rw [IntWalk.i64_in _ (by omega)]; omega
  rw [wl2]
  refine hQ _ ⟨j,S.nx + 18,by rw [adv_h,st_same],?_,?_,?_,by omega,g6,by omega⟩
  ·have:=gw_map1 (l:=l) (a:=k) encSt (e:=9) (id:=S.nx + 18) (n:=30) (s0:=S)
   refine this.keep fun y hy=>?_
   simp only [idOf,List.mem_singleton] at hy
   subst hy
   rw [adv_h,st_other (by omega),st_same,adv_h,st_same,hC]
  ·rw [adv_h,st_other hji,st_other (by omega),get_drop',if_neg hjx,st_same,hM,enum_app,Nat.zero_add]
  ·refine ⟨by simp only [adv_nx,set_nx,nx_drop]; omega,fun y hy hn2=>?_,fun y hy=>?_⟩
   ·simp only [List.mem_cons,List.mem_append,not_or] at hn2
    have hyj:y≠j:=fun hh=>g6.elim (fun h=>hn2.2.2 (by rw [hh]; exact h)) fun h=>by omega
    rw [adv_h,get_set,if_neg hn2.1,get_set,if_neg (by omega),get_drop',if_neg hn2.2.1,get_set,if_neg hyj]
    exact g5.h y hy (by simp only [List.mem_cons,List.mem_append,not_or]; exact hn2)
   ·have hy:S.nx + 22 + 8≤y:=by simp only [adv_nx,set_nx,nx_drop] at hy; omega
    rw [adv_h,get_set,if_neg (by omega),get_set,if_neg (by omega),get_drop']
    split
    ·rfl
    ·rw [get_set,if_neg (by omega)]; exact g5.fr y (by omega)
 unfold f185
 simp only [e1,wx,wy,Nat.reduceAdd,Nat.reduceEqDiff,reduceCtorEq]
 refine ⟨rfl,?_⟩
 simp only [h1,look53 (s:=Ai.adv s 15) (h.keep fun _ _=>rfl),hk,Option.isSome_none,wx,wy,Nat.reduceAdd,Nat.reduceEqDiff,reduceCtorEq]
 refine ⟨rfl,?_⟩
 have hdx:i ∉ idOf xl∧i ∉ idOf m∧∀ y∈idOf m,y ∉ idOf xl:=by
  simp only [List.nodup_cons,List.mem_append,not_or,List.nodup_append] at hd
  exact ⟨hd.1.1,hd.1.2,fun y hy hx=>hd.2.2.2 y hx y hy rfl⟩
 rcases h with ⟨rfl,rfl⟩ | ⟨j,rfl,hj⟩
 ·have e2:bn .eql 53 .nilm .nilm = some (.bool true):=by kernel_rfl
  simp only [h1,e2,wx,wy,Nat.reduceAdd,Nat.reduceEqDiff,reduceCtorEq]
  refine ⟨rfl,?_⟩
  rw [sto_c (c:=[xl,.nilm,xn]) (by rw [adv_h,st_other (by omega)]; exact h1) (by simp) rfl rfl]
  simp only [wx,wy,Nat.reduceAdd,Nat.reduceEqDiff,reduceCtorEq]
  refine key _ _ (s.nx + 22) (by rw [adv_h,st_same]; rfl) ?_ (by rw [adv_h,st_other (by omega),st_same]; rfl) ?_ ?_ (.inr (by omega)) fun s' hs'=>⟨rfl,hs'⟩
  ·refine h2.keep fun y hy=>?_
   have:=fr.lt (h2.has y hy)
   rw [adv_h,st_other (fun hh=>hdx.1 (by rw [← hh]; exact hy)),st_other (by omega)]
  ·intro hm
   rcases List.mem_cons.1 hm with hm | hm
   ·omega
   ·have:=fr.lt (h2.has _ hm); omega
  ·refine ⟨by simp only [adv_nx,set_nx]; omega,fun y hy hn2=>?_,fun y hy=>?_⟩
   ·simp only [List.mem_cons,List.mem_append,not_or] at hn2
    rw [adv_h,get_set,if_neg hn2.1,get_set,if_neg (by omega)]
   ·have hy:s.nx + 26≤y:=hy
    rw [adv_h,get_set,if_neg (by omega),get_set,if_neg (by omega)]
    exact fr y (by omega)
 ·have e2:bn .eql 53 (.map j) .nilm = some (.bool false):=by kernel_rfl
  simp only [h1,e2,wx,wy,Nat.reduceAdd,Nat.reduceEqDiff,reduceCtorEq]
  refine key _ _ j h1 (h2.keep fun y _=>rfl) hj ?_ (EF.refl _ fr).adv (.inl (by simp [idOf])) fun s' hs'=>⟨rfl,hs'⟩
  intro hm
  rcases List.mem_cons.1 hm with hm | hm
  ·exact hdx.2.1 (by simp [idOf,hm])
  ·exact hdx.2.2 j (by simp [idOf]) hm
end
end
noncomputable section
section
variable {α:Type} {f:α→AV} {t e z b:Nat} {ag:Bool}
theorem clone_run (h:SlTy t e z ag b) (he:Enc f z) (l:List α) (hne:l≠[]) (hb:l.length * b≤2 ^ 40) (hl:l.length≤2 ^ 40) (s:St) :
  ∃ s',cloneA Tryz.ty e [.sl false (l.map f)] s = some (.ref (s.nx + 5) 0 l.length none e,s')∧Gw e z 0 s' (.ref (s.nx + 5) 0 l.length none e) (l.map f):=by
 obtain ⟨a,l',rfl⟩:∃ a l',l = a :: l':=by
  cases l with
  | nil=>exact absurd rfl hne
  | cons a l'=>exact ⟨a,l',rfl⟩
 have hw:=cells_map (l:=a :: l') he.len he.ones
 have hlen:=flat_len hw
 rw [List.length_map] at hlen
 have hall:((a :: l').map f).all (fun v=>v.cells.length == z) = true:=List.all_eq_true.2 fun v hv=>by simp [(hw v hv).1]
 have hone:(((a :: l').map f).flatMap AV.cells).all AV.one = true:=List.all_eq_true.2 fun c hc=>by
  obtain ⟨v,hv,hc⟩:=List.mem_flatMap.1 hc
  exact List.all_eq_true.1 (hw v hv).2 c hc
 have hem:(((a :: l').map f).flatMap AV.cells).isEmpty = false:=by
  cases hc:((a :: l').map f).flatMap AV.cells with
  | nil =>
   rw [hc] at hlen
   have hp:=h.pos
   have:=Nat.mul_pos (show 0 < (a :: l').length by simp) hp
   simp only [List.length_nil] at hlen; omega
  | cons x y=>rfl
 have hdiv:(((a :: l').map f).flatMap AV.cells).length / z = (a :: l').length:=by rw [hlen]; exact Nat.mul_div_cancel _ h.pos
 refine ⟨St.set ⟨s.h,s.nx + 7⟩ (s.nx + 5) (some (.cells (((a :: l').map f).flatMap AV.cells) e false true)),?_,?_⟩
 ·unfold cloneA
  simp only [h.l,h.b]
  show cond (cloneOk (.sl false (f a :: l'.map f))) ((srcCells z (.sl false ((a :: l').map f)) s).bind fun c=>appendA e z b (.sl true []) c (s.nx + 5) ⟨s.h,s.nx + 7⟩) none = _
  simp only [cloneOk,cond_true,srcCells,hall,if_true,Option.bind_some]
  unfold appendA
  simp only [hem,hone,Bool.not_true,Bool.false_eq_true,if_false,List.all_nil,if_true,List.flatMap_nil,List.nil_append,grown,hdiv,fits_of hb hl,newSl]
 ·exact ⟨hw,.inr ⟨_,Nat.zero_le _,by rw [List.length_map],st_same⟩⟩
theorem clone_c1 {k:FuncId} (h:SlTy t e 1 false b) (he:Enc f 1) (hp:Tryz.env.prim k = some (cloneA Tryz.ty e)) (l:List α) (hb:l.length * b≤2 ^ 40) (hl:l.length≤2 ^ 40) (h1:∀ a∈l,(f a).closed = true) (h2:∀ a∈l,notAgg (f a) = true):PureC Tryz.env k [.sl false (l.map f)] (.sl false (l.map f)):=by
 by_cases hne:l = []
 ·subst hne
  refine pure_q ⟨_,_,prim_f hp (r:=.sl false []) (s':=⟨St.empty.h,St.empty.nx + 7⟩) ?_,pureQ_closed rfl⟩
  unfold cloneA
  simp only [h.l,h.b]; rfl
 ·obtain ⟨s',h3,h4⟩:=clone_run h he l hne hb hl St.empty
  exact pure_q ⟨_,_,prim_f hp h3,pureQ_of (pur_map1 h h4 h1 h2 11)⟩
theorem clone_c2 {k:FuncId} (h:SlTy t e z true b) (he:Enc f z) (hp:Tryz.env.prim k = some (cloneA Tryz.ty e)) (l:List α) (hb:l.length * b≤2 ^ 40) (hl:l.length≤2 ^ 40) (h1:∀ a∈l,(f a).closed = true) (h2:∀ a∈l,f a = .agg (f a).cells):PureC Tryz.env k [.sl false (l.map f)] (.sl false (l.map f)):=by
 by_cases hne:l = []
 ·subst hne
  refine pure_q ⟨_,_,prim_f hp (r:=.sl false []) (s':=⟨St.empty.h,St.empty.nx + 7⟩) ?_,pureQ_closed rfl⟩
  unfold cloneA
  simp only [h.l,h.b]; rfl
 ·obtain ⟨s',h3,h4⟩:=clone_run h he l hne hb hl St.empty
  exact pure_q ⟨_,_,prim_f hp h3,pureQ_of (pur_map h h4 h1 h2 11)⟩
end
theorem st_ext {s s':St} (h:∀ m,s.h m = s'.h m) (hn:s.nx = s'.nx):s = s':=by
 cases s; cases s'
 simp only at h hn
 subst hn
 congr 1
 exact funext h
theorem set_over {q:St} {a b:Nat} {x y w:Option Blk} (h:a≠b):((q.set a x).set b y).set a w = (q.set a w).set b y:=by
 refine st_ext (fun m=>?_) rfl
 simp only [get_set]
 by_cases h1:m = a
 ·subst h1; simp [h]
 ·simp [h1]
theorem c152 (l:List Int) (hl:l.length≤2 ^ 30):PureC Tryz.env 152 [.sl false (l.map inA)] (.sl false (l.map inA)):=clone_c1 tf72 encIn (by kernel_rfl) l (by omega) (by omega) (fun _ _=>rfl) (fun _ _=>rfl)
theorem c153 (l:List Nat) (hl:l.length≤2 ^ 30):PureC Tryz.env 153 [nsA l] (nsA l):=clone_c1 (f:=u3A) tf22 encU (by kernel_rfl) l (by omega) (by omega) (fun _ _=>rfl) (fun _ _=>rfl)
theorem c154 (l:List (Int × Int)) (hl:l.length≤2 ^ 30):PureC Tryz.env 154 [.sl false (l.map rnA)] (.sl false (l.map rnA)):=clone_c2 tf25 encRn (by kernel_rfl) l (by omega) (by omega) (fun _ _=>rfl) (fun _ _=>rfl)
theorem nd_part (n:Nd):Ai.part 7 true 0 n.av.cells = some n.av:=rfl
theorem c104 (n:Nd) (ho:n.ok):PureC Tryz.env 104 [n.av] n.av:=by
 refine pure_q (f104_run _ _ ?_)
 unfold f104
 refine ⟨rfl,?_⟩
 have h1:=ho.al
 have h2:=ho.nl
 have h3:=ho.sl
 have hset:∀ (C:List AV) (c k off:Nat) (v:AV) (q:St),off < C.length→v.cells = [v]→v.one = true→sto 1 (.ptr k off) v (Ai.adv ((q.set k (some (.cells C 101 true true))).set (k + 1) (some (.cells [.int .i64 0,.int .i64 0,.nils,.str [],.bool false,.nils,.nils] 101 true true))) c) =
   some (Ai.adv ((q.set k (some (.cells (C.set off v) 101 true true))).set (k + 1) (some (.cells [.int .i64 0,.int .i64 0,.nils,.str [],.bool false,.nils,.nils] 101 true true))) c):=fun C c k off v q ho hv hone=>by
  rw [sto_c (c:=C) (by rw [adv_h,st_other (by omega),st_same]) ho hv hone,adv_set,set_over (by omega)]
 have hz:(AV.agg [.int .i64 0,.int .i64 0,.nils,.str [],.bool false,.nils,.nils]).cells = [.int .i64 0,.int .i64 0,.nils,.str [],.bool false,.nils,.nils]:=rfl
 have e0:St.empty.nx = 0:=rfl
 simp only [zf101,nd_cells,hz,wx,wy,Nat.reduceAdd,Nat.reduceEqDiff,reduceCtorEq]
 refine callPu (c152 n.a (by omega)) (by simp [sla_closed]) ?_
 rw [hset _ _ _ 2 _ _ (by simp) rfl rfl]
 simp only [List.set_cons_succ,List.set_cons_zero,wx,wy,Nat.reduceAdd,Nat.reduceEqDiff,reduceCtorEq]
 refine callPu (c153 n.num (by omega)) (by simp [ns_closed]) ?_
 rw [hset _ _ _ 5 _ _ (by simp) rfl rfl]
 simp only [List.set_cons_succ,List.set_cons_zero,wx,wy,Nat.reduceAdd,Nat.reduceEqDiff,reduceCtorEq]
 refine callPu (c154 n.str (by omega)) (by simp [slr_closed]) ?_
 rw [hset _ _ _ 6 _ _ (by simp) rfl rfl]
 have hp:Ai.part 7 true 0 [AV.int .i64 n.op,.int .i64 n.so,.sl false (n.a.map inA),.str n.nm,.bool n.neg,nsA n.num,.sl false (n.str.map rnA)] = some n.av:=rfl
 simp only [List.set_cons_succ,List.set_cons_zero,hp,wx,wy,Nat.reduceAdd,Nat.reduceEqDiff,reduceCtorEq]
 rw [sto_all (z:=7) (by rw [adv_h,st_same]) rfl rfl rfl]
 simp only [nd_part,wx,wy,Nat.reduceAdd,Nat.reduceEqDiff,reduceCtorEq]
 exact pureQ_closed (nd_closed n)
structure Raw (v:AV) (n:Nd):Prop where
 ones:v.cells.all AV.one = true
 part:Ai.part 7 true 0 v.cells = some v
 pur:∀ S,Ai.pur Tryz.env.P S 12 v = some (n.av,[])
theorem Raw.purl {v:AV} {n:Nd} (h:Raw v n) (S:St):purL (Ai.pur Tryz.env.P S 12) [v] = some ([n.av],[]):=by simp only [purL,h.pur,List.append_nil]
theorem add_fin {B:Bk} {n:Nd} (h:findK (keyM n) B = none) (hl:B.length≠20000):addM B n = (((B.length:Int),0),B ++ [n]):=by
 rcases addM_cases B n with ⟨i,h1,_⟩ | ⟨_,h2,_⟩ | ⟨_,_,h3⟩
 ·rw [h] at h1; cases h1
 ·exact absurd h2 hl
 ·exact h3
theorem add_c {s:St} {i:Nat} {B:Bk} {F:List Nat} {v:AV} {n:Nd} (fr:Fresh s) (hB:BkR s i B F) (ho:n.ok) (hv:Raw v n) :
  ∃ r s',WideC Tryz.env 131 [.ptr i 0,v] s r s'∧r = .tup [.int .i64 (addM B n).1.1,.int .i64 (addM B n).1.2]∧∃ F',BkR s' i (addM B n).2 F'∧EF F s s'∧∀ j∈F',j∈F∨s.nx≤j:=by
 have hF:=hB.lt fr
 obtain ⟨xl,m,xn,⟨h1,h2,h3,h4,h5,h6,h7⟩,rfl⟩:=hB
 have hi:=fr.lt h1
 refine f131_run _ _ _ ?_
 unfold f131
 refine ⟨hv.ones,?_⟩
 simp only [eqf51p,hv.part,wx,wy,Nat.reduceAdd,Nat.reduceEqDiff,reduceCtorEq]
 refine callPuF (hv.purl _) (c183 n ho) rfl ?_
 refine ⟨rfl,?_⟩
 have hne:∀ y∈i :: (idOf xl ++ idOf m ++ idOf xn),y≠s.nx:=fun y hy=>by have:=hF y hy; omega
 have hh:∀ (k y:Nat) (C:Option Blk),y∈i :: (idOf xl ++ idOf m ++ idOf xn)→(Ai.adv (s.set s.nx C) k).h y = s.h y:=fun k y C hy=>by rw [adv_h,st_other (hne y hy)]
 have hE:∀ (k:Nat) (C:Option Blk),0 < k→EF (i :: (idOf xl ++ idOf m ++ idOf xn)) s (Ai.adv (s.set s.nx C) k):=fun k C hk=>⟨by simp only [adv_nx,set_nx]; omega,fun j hj _=>by rw [adv_h,st_other (by omega)],fresh_set fr k (by omega)⟩
 simp only [wx,wy,Nat.reduceAdd,Nat.reduceEqDiff,reduceCtorEq]
 refine find_c (xl:=xl) (m:=m) (xn:=xn) (l:=B.map keyM) (by rw [hh _ _ _ (by simp)]; exact h1) (h3.keep fun j hj=>hh _ _ _ (by simp [hj])) (keyM n) ?_
 simp only [idxK_find,wx,wy,Nat.reduceAdd,Nat.reduceEqDiff,reduceCtorEq]
 cases hf:findK (keyM n) B with
 | some k =>
  rw [addM_some hf]
  simp only [Option.isSome_some,Option.getD_some,wx,wy,Nat.reduceAdd,Nat.reduceEqDiff,reduceCtorEq]
  refine ⟨_,⟨xl,m,xn,⟨by rw [hh _ _ _ (by simp)]; exact h1,h2.keep fun j hj=>hh _ _ _ (by simp [hj]),h3.keep fun j hj=>hh _ _ _ (by simp [hj]),h4.keep fun j hj=>hh _ _ _ (by simp [hj]),h5,h6,h7⟩,rfl⟩,hE _ _ (by omega),fun j hj=>.inl hj⟩
 | none =>
  simp only [Option.isSome_none,Option.getD_none,wx,wy,Nat.reduceAdd,Nat.reduceEqDiff,reduceCtorEq]
  refine ⟨rfl,?_⟩
  have hx:∀ k C id,bt .len #[56] [xn] id (Ai.adv (s.set s.nx C) k) = some (.int .i64 B.length,Ai.adv (s.set s.nx C) k):=fun k C id=>bk_len (h4.keep fun j hj=>hh _ _ _ (by simp [hj])) id
  have hi0:¬ (i = s.nx):=by omega
  simp only [h1,hi0,hx,if_false,wx,wy,Nat.reduceAdd,Nat.reduceEqDiff,reduceCtorEq]
  by_cases hl:B.length = 20000
  ·have:addM B n = ((0,2),B):=by
    rcases addM_cases B n with ⟨i,h1,_⟩ | ⟨_,_,h3⟩ | ⟨_,h2,_⟩
    ·rw [hf] at h1; cases h1
    ·exact h3
    ·exact absurd hl h2
   rw [this]
   simp only [hl,show (((20000:Nat):Int) == 20000) = true from rfl,wx,wy,Nat.reduceAdd,Nat.reduceEqDiff,reduceCtorEq]
   refine ⟨_,⟨xl,m,xn,⟨by rw [hh _ _ _ (by simp)]; exact h1,h2.keep fun j hj=>hh _ _ _ (by simp [hj]),h3.keep fun j hj=>hh _ _ _ (by simp [hj]),h4.keep fun j hj=>hh _ _ _ (by simp [hj]),h5,h6,h7⟩,rfl⟩,hE _ _ (by omega),fun j hj=>.inl hj⟩
  ·have hb:((B.length:Int) == 20000) = false:=by simp; omega
   rw [add_fin hf hl]
   simp only [hb,wx,wy,Nat.reduceAdd,Nat.reduceEqDiff,reduceCtorEq]
   refine ⟨rfl,?_⟩
   have hnd:=h5
   simp only [List.nodup_cons,List.mem_append,not_or,List.nodup_append] at hnd
   obtain ⟨⟨⟨ni1,ni2⟩,ni3⟩,⟨nd1,nd2,nd3⟩,nd4,nd5⟩:=hnd
   obtain ⟨S0,hS0⟩:∃ S0,S0 = Ai.adv (s.set s.nx (some (.cells v.cells 101 true true))) 54:=⟨_,rfl⟩
   rw [← hS0]
   have k1:∀ y∈i :: (idOf xl ++ idOf m ++ idOf xn),S0.h y = s.h y:=fun y hy=>by rw [hS0]; exact hh _ _ _ hy
   have k2:S0.nx = s.nx + 54:=by rw [hS0]; rfl
   have k3:S0.h s.nx = some (.cells v.cells 101 true true):=by rw [hS0,adv_h,st_same]
   have k4:Fresh S0:=by rw [hS0]; exact fresh_set fr 54 (by omega)
   obtain ⟨r,s3,g0,rfl,j',n',g1,g2,g3,g4,g5,g6,g7⟩:=tadd_c (s:=S0) (xl:=xl) (m:=m) (xn:=xn) (l:=B.map keyM) k4 (by rw [k1 i (by simp)]; exact h1) (h2.keep fun j hj=>k1 j (by simp [hj])) (h3.keep fun j hj=>k1 j (by simp [hj]))
    (by simp only [List.nodup_cons,List.mem_append,not_or,List.nodup_append]; exact ⟨⟨ni1,ni2⟩,nd1,nd2,nd3⟩) (keyM n) (by rw [idxK_find]; exact hf) (by rw [List.length_map]; exact h7)
   rw [List.length_map] at g0 g1 g2
   refine callWiF (by kernel_rfl) ⟨_,s3,g0,?_⟩
   have k5:=g4.nx
   have hsM:s.nx ∉ i :: (idOf xl ++ idOf m):=fun hm=>by
    have:=hF s.nx (by simp only [List.mem_cons,List.mem_append] at hm ⊢; rcases hm with hm | hm; exact .inl hm; exact .inr (.inl hm))
    omega
   have k6:s3.h s.nx = some (.cells v.cells 101 true true):=by rw [g4.h s.nx (by omega) hsM]; exact k3
   have hxn:∀ y∈idOf xn,y < s.nx∧y≠i∧y ∉ idOf xl∧y ∉ idOf m:=fun y hy=>⟨hF y (by simp [hy]),fun e=>ni3 (by rw [← e]; exact hy),fun e=>nd5 y (.inl e) y hy rfl,fun e=>nd5 y (.inr e) y hy rfl⟩
   have k7:Gw 101 7 0 s3 xn (B.map Nd.av):=h4.keep fun y hy=>by
    obtain ⟨a1,a2,a3,a4⟩:=hxn y hy
    rw [g4.h y (by omega) (by simp [a2,a3,a4]),k1 y (by simp [hy])]
   have hn':n' < s3.nx:=g4.fr.lt (g2.has n' (by simp [idOf]))
   have hj':j' < s3.nx:=g4.fr.lt g3
   have k8:j' ∉ idOf xn∧j'≠i:=by
    rcases g6 with g6 | g6
    ·exact ⟨fun e=>(hxn j' e).2.2.2 g6,fun e=>ni2 (by rw [← e]; exact g6)⟩
    ·exact ⟨fun e=>by have:=(hxn j' e).1; omega,by omega⟩
   have k9:n' ∉ idOf xn∧n'≠i:=⟨fun e=>by have:=(hxn n' e).1; omega,by omega⟩
   have bs:bsl 56 1 [(0,n.av)] = some (.sl true [n.av]):=bsl_one tf56 (by decide) rfl rfl
   simp only [g1,k6,hv.part,wx,wy,Nat.reduceAdd,Nat.reduceEqDiff,reduceCtorEq]
   refine ⟨rfl,?_⟩
   refine .mk [n.av] [] n.av (hv.purl _) (c104 n ho) rfl ?_
   have happ:=app_map tf56 encNd (k7.adv (n:=12)) (a:=n) (by omega) (by omega) true (s3.nx + 8)
   simp only [bs,wx,wy,Nat.reduceAdd,Nat.reduceEqDiff,reduceCtorEq]
   refine ⟨g4.fr _ (by omega),?_⟩
   rw [happ]
   simp only [wx,wy,Nat.reduceAdd,Nat.reduceEqDiff,reduceCtorEq]
   refine ⟨rfl,?_,?_⟩
   ·split
    ·rfl
    ·exact g4.fr _ (by omega)
   obtain ⟨C,hC⟩:∃ C,C = (some (Blk.cells (((B ++ [n]).map Nd.av).flatMap AV.cells) 101 false true):Option Blk):=⟨_,rfl⟩
   rw [← hC]
   have z1:(Ai.adv ((s3.drop (idOf xn)).set (s3.nx + 8) C) 12).h i = some (.cells [.ref n' 0 (B.length + 1) none 9,.map j',xn] 58 true true):=by
    rw [adv_h,get_set,if_neg (by omega),get_drop',if_neg ni3]; exact g1
   rw [sto_c (c:=[.ref n' 0 (B.length + 1) none 9,.map j',xn]) z1 (by simp) rfl rfl]
   simp only [List.set_cons_succ,List.set_cons_zero,wx,wy,Nat.reduceAdd,Nat.reduceEqDiff,reduceCtorEq]
   have get:∀ y,y≠i→y≠s3.nx + 8→y ∉ idOf xn→(Ai.adv (((s3.drop (idOf xn)).set (s3.nx + 8) C).set i (some (.cells [.ref n' 0 (B.length + 1) none 9,.map j',.ref (s3.nx + 8) 0 (B.length + 1) none 101] 58 true true))) 15).h y = s3.h y:=fun y a b c=>by
    rw [adv_h,get_set,if_neg a,get_set,if_neg b,get_drop',if_neg c]
   refine ⟨[i,n',j',s3.nx + 8],⟨_,_,_,⟨by rw [adv_h,st_same],?_,?_,?_,?_,?_,?_⟩,rfl⟩,?_,?_⟩
   ·rw [List.map_append]
    exact g2.keep fun y hy=>by
     simp only [idOf,List.mem_singleton] at hy; subst hy
     exact get _ k9.2 (by omega) k9.1
   ·rw [List.map_append]
    exact .inr ⟨j',rfl,by rw [get _ k8.2 (by omega) k8.1]; exact g3⟩
   ·have:=gw_map1 (l:=B) (a:=n) encNd (e:=101) (id:=s3.nx + 8) (n:=15) (s0:=s3)
    exact this.keep fun y hy=>by
     simp only [idOf,List.mem_singleton] at hy; subst hy
     rw [adv_h,st_other (by omega),st_same,adv_h,st_same,hC]
   ·show [i,n',j',s3.nx + 8].Nodup
    simp only [List.nodup_cons,List.mem_cons,List.mem_nil_iff,or_false,not_or,List.not_mem_nil,not_false_eq_true,List.nodup_nil,and_true]
    exact ⟨⟨fun e=>k9.2 e.symm,fun e=>k8.2 e.symm,by omega⟩,⟨fun e=>g7 e.symm,by omega⟩,by omega⟩
   ·intro x hx
    rcases List.mem_append.1 hx with hx | hx
    ·exact h6 x hx
    ·rw [List.mem_singleton.1 hx]; exact ho
   ·simp only [List.length_append,List.length_singleton]; omega
   ·refine ⟨by simp only [adv_nx,set_nx,nx_drop]; omega,fun y hy hn2=>?_,fun y hy=>?_⟩
    ·simp only [List.mem_cons,List.mem_append,not_or] at hn2
     obtain ⟨a1,⟨a2,a3⟩,a4⟩:=hn2
     rw [get y a1 (by omega) a4,g4.h y (by omega) (by simp [a1,a2,a3]),hS0,adv_h,st_other (by omega)]
    ·have hy:s3.nx + 15≤y:=by simp only [adv_nx,set_nx,nx_drop] at hy; exact hy
     rw [adv_h,get_set,if_neg (by omega),get_set,if_neg (by omega),get_drop']
     split
     ·rfl
     ·exact g4.fr y (by omega)
   ·intro y hy
    simp only [List.mem_cons,List.mem_nil_iff,or_false] at hy
    rcases hy with rfl | rfl | rfl | rfl
    ·exact .inl (by simp)
    ·exact .inr (by omega)
    ·rcases g6 with g6 | g6
     ·exact .inl (by simp [g6])
     ·exact .inr (by omega)
    ·exact .inr (by omega)
end
noncomputable section
def res (r:Int × Int):AV:=.tup [.int .i64 r.1,.int .i64 r.2]
def Em (x:AV) (l:List AV):Prop:=x = .sl false l∨(x = .nils∧l = [])
theorem em_nil:Em .nils []:=.inr ⟨rfl,rfl⟩
theorem em_pur {x:AV} {l:List AV} (h:Em x l) (hc:closedL l = true) (S:St) (k:Nat):pur Tryz.env.P S (k + 1) x = some (.sl false l,[]):=by
 rcases h with rfl | ⟨rfl,rfl⟩
 ·exact pur_closed _ (sl_closed hc)
 ·rfl
theorem em_one {x:AV} {l:List AV} (h:Em x l):x.one = true∧x.cells = [x]:=by
 rcases h with rfl | ⟨rfl,rfl⟩ <;> exact ⟨rfl,rfl⟩
def rawN (n:Nd) (xa xn xs:AV):AV:=.agg [.int .i64 n.op,.int .i64 n.so,xa,.str n.nm,.bool n.neg,xn,xs]
theorem raw_of (n:Nd) {xa xn xs:AV} (ha:Em xa (n.a.map inA)) (hn:Em xn (n.num.map u3A)) (hs:Em xs (n.str.map rnA)):Raw (rawN n xa xn xs) n:=by
 refine ⟨?_,rfl,fun S=>?_⟩
 ·simp only [rawN,AV.cells,List.all_cons,(em_one ha).1,(em_one hn).1,(em_one hs).1,List.all_nil,Bool.and_true]; rfl
 ·have p1:=fun S=>em_pur ha (closedL_map inA n.a fun _=>rfl) S 10
  have p2:=fun S=>em_pur hn (us_closed n.num) S 10
  have p3:=fun S=>em_pur hs (closedL_map rnA n.str fun _=>rfl) S 10
  by_cases hc:(rawN n xa xn xs).closed = true
  ·rw [pur_closed 12 hc]
   congr 2
   simp only [rawN,AV.closed,closedL,Bool.and_eq_true] at hc
   have fin:∀ {x:AV} {l:List AV},Em x l→x.closed = true→x = .sl false l:=fun h hx=>by
    rcases h with rfl | ⟨rfl,rfl⟩
    ·rfl
    ·cases hx
   rw [rawN,fin ha hc.2.2.1,fin hn hc.2.2.2.2.2.1,fin hs hc.2.2.2.2.2.2.1]
   rfl
  ·unfold pur
   rw [if_neg hc]
   show (purL (pur Tryz.env.P S 11) [.int .i64 n.op,.int .i64 n.so,xa,.str n.nm,.bool n.neg,xn,xs]).map (fun r=>(AV.agg r.1,r.2)) = _
   have q:∀ v:AV,v.closed = true→pur Tryz.env.P S 11 v = some (v,[]):=fun v hv=>pur_closed 11 hv
   simp only [purL,p1,p2,p3,q (.int .i64 n.op) rfl,q (.int .i64 n.so) rfl,q (.str n.nm) rfl,q (.bool n.neg) rfl,List.append_nil,Option.map_some]
   rfl
theorem nd_ok {op so:Int} {a:List Int} {nm:List UInt8} {neg:Bool} {num:List Nat} {str:List (Int × Int)} (h1:i64 op) (h2:i64 so) (h3:∀ i∈a,i64 i) (h4:a.length≤2 ^ 20) (h5:nm.length≤2 ^ 20) (h6:limbs num) (h7:num.length≤2 ^ 20) (h8:∀ r∈str,i64 r.1∧i64 r.2) (h9:str.length≤2 ^ 20):Nd.ok ⟨op,so,a,nm,neg,num,str⟩:=⟨h1,h2,h3,h4,h5,h6,h7,h8,h9⟩
theorem nd_ok0 {op so:Int} {nm:List UInt8} (h1:i64 op) (h2:i64 so) (h5:nm.length≤2 ^ 20):Nd.ok ⟨op,so,[],nm,false,[],[]⟩:=nd_ok h1 h2 (fun _ h=>by cases h) (by simp) h5 (fun _ h=>by cases h) (by simp) (fun _ h=>by cases h) (by simp)
theorem may_go64:∀ (l:List (Int × Int)) (left:Int) (p:Option Int),0≤left→left≤2 ^ 40→mayGo left p l = true→∀ r∈l,i64 r.1∧i64 r.2:=by
 intro l
 induction l with
 | nil=>intro _ _ _ _ _ r h; cases h
 | cons q l ih =>
  intro left p h0 h1 h
  simp only [mayGo] at h
  cases hc:(decide (q.1 < 0) || (decide (q.1 > 196607) || (decide (q.2 < 1) || (decide (q.2 > left) || p == some q.1)))) with
  | true=>rw [hc] at h; cases h
  | false =>
   rw [hc] at h
   simp only [Bool.or_eq_false_iff,decide_eq_false_iff_not] at hc
   obtain ⟨a,b,c,d,_⟩:=hc
   intro r hr
   rcases List.mem_cons.1 hr with rfl | hr
   ·exact ⟨⟨by omega,by omega⟩,⟨by omega,by omega⟩⟩
   ·exact ih (left - q.2) (some q.1) (by omega) (by omega) h r hr
theorem may_i64 {l:List (Int × Int)} (h:mayM l = true):(∀ r∈l,i64 r.1∧i64 r.2)∧l.length≤65536:=by
 simp only [mayM,Bool.and_eq_true,decide_eq_true_eq] at h
 exact ⟨may_go64 l _ none (by decide) (by decide) h.2,h.1⟩
section
variable {s:St} {i:Nat} {B:Bk} {F:List Nat} {K:AV→St→Prop}
def BkQ (s:St) (i:Nat) (F:List Nat) (B':Bk) (s':St):Prop:=∃ F',BkR s' i B' F'∧EF F s s'∧∀ j∈F',j∈F∨s.nx≤j
def BkW (f:FuncId) (args:List AV) (s:St) (i:Nat) (F:List Nat) (r:(Int × Int) × Bk):Prop:=∃ v s',WideC Tryz.env f args s v s'∧v = res r.1∧BkQ s i F r.2 s'
theorem BkQ.adv {B':Bk} {s':St} {n:Nat} (h:BkQ s i F B' s'):BkQ s i F B' (Ai.adv s' n):=by
 obtain ⟨F',h1,h2,h3⟩:=h; exact ⟨F',h1.adv,h2.adv,h3⟩
theorem BkQ.from {B':Bk} {s1 s':St} (h:BkQ s1 i F B' s') (e:EF [] s s1):BkQ s i F B' s':=by
 obtain ⟨F',h1,h2,h3⟩:=h
 have:=e.nx
 exact ⟨F',h1,(e.sub (M':=F) fun j hj=>by cases hj).trans h2 fun j hj=>.inr hj,fun j hj=>(h3 j hj).imp_right fun h=>by omega⟩
theorem BkQ.same {s1:St} (h:BkR s i B F) (fr:Fresh s) (e:EF [] s s1):BkQ s i F B s1:=by
 have hF:=h.lt fr
 exact ⟨F,h.keep fun j hj=>e.h j (hF j hj) (by simp),(e.sub fun j hj=>by cases hj),fun j hj=>.inl hj⟩
theorem bk_keep {s1:St} (h:BkR s i B F) (fr:Fresh s) (e:EF [] s s1):BkR s1 i B F:=by
 have hF:=h.lt fr
 exact h.keep fun j hj=>e.h j (hF j hj) (by simp)
theorem add_w {v:AV} {n:Nd} (fr:Fresh s) (hB:BkR s i B F) (ho:n.ok) (hv:Raw v n):BkW 131 [.ptr i 0,v] s i F (addM B n):=by
 obtain ⟨r,s',h1,h2,F',h3⟩:=add_c fr hB ho hv
 exact ⟨r,s',h1,h2,F',h3⟩
theorem BkW.call {f:FuncId} {args:List AV} {r:(Int × Int) × Bk} (h:BkW f args s i F r) (hz:Tryz.env.fz f = false) (hk:∀ s',BkQ s i F r.2 s'→K (res r.1) s'):CallWi Tryz.env f args s K:=by
 obtain ⟨v,s',h1,rfl,h2⟩:=h
 exact callWiF hz ⟨_,s',h1,hk s' h2⟩
theorem res_closed (r:Int × Int):(res r).closed = true:=rfl
theorem BkW.callS {f:FuncId} {args bs:List AV} {ids:List Nat} {r:(Int × Int) × Bk} (h:BkW f bs (s.drop ids) i F r) (hz:Tryz.env.fz f = true) (hq:sealA Tryz.env.P s (Tryz.env.se f) args = some (bs,ids)) (hk:∀ s',BkQ (s.drop ids) i F r.2 s'→K (res r.1) s'):CallWi Tryz.env f args s K:=by
 obtain ⟨v,s',h1,rfl,h2⟩:=h
 refine callWiS hz hq ⟨_,s',h1,?_⟩
 rw [pur_closed 12 (res_closed r.1),Bnd_some]
 exact hk s' h2
theorem BkW.callS0 {f:FuncId} {args bs:List AV} {r:(Int × Int) × Bk} (h:BkW f bs s i F r) (hz:Tryz.env.fz f = true) (hq:sealA Tryz.env.P s (Tryz.env.se f) args = some (bs,[])) (hk:∀ s',BkQ s i F r.2 s'→K (res r.1) s'):CallWi Tryz.env f args s K:=BkW.callS (ids:=[]) h hz hq hk
theorem fz131:Tryz.env.fz 131 = false:=by kernel_rfl
theorem ex0 (r:Int × Int):extr (res r) 0 = some (.int .i64 r.1):=rfl
theorem ex1 (r:Int × Int):extr (res r) 1 = some (.int .i64 r.2):=rfl
theorem i64_small {n:Int} (h:0≤n) (h2:n≤1000):i64 n:=⟨by omega,by omega⟩
theorem const_w (fr:Fresh s) (hB:BkR s i B F) (nm:List UInt8) (so:Int):BkW 77 [.ptr i 0,.str nm,.int .i64 so] s i F (constM B nm so):=by
 refine f77_run _ _ _ _ ?_
 unfold f77
 have e0:=(EF.refl [] fr)
 have hl:∀ (id:Nat) (s:St),bt .len #[9] [.str nm] id s = some (.int .i64 nm.length,s):=len9 nm
 unfold constM
 cases h1:decide (so < 1) with
 | true =>
  simp only [h1,Bool.true_or,wx,wy,Nat.reduceAdd,Nat.reduceEqDiff,reduceCtorEq]
  exact ⟨rfl,BkQ.same hB fr e0.adv⟩
 | false =>
 cases h2:decide (so > 3) with
 | true =>
  simp only [h1,h2,Bool.true_or,Bool.false_or,wx,wy,Nat.reduceAdd,Nat.reduceEqDiff,reduceCtorEq]
  exact ⟨rfl,BkQ.same hB fr e0.adv⟩
 | false =>
 cases h3:decide ((nm.length:Int) > 16384) with
 | true =>
  simp only [h1,h2,h3,hl,Bool.false_or,wx,wy,Nat.reduceAdd,Nat.reduceEqDiff,reduceCtorEq]
  exact ⟨rfl,BkQ.same hB fr e0.adv⟩
 | false =>
  have o1:=of_decide_eq_false h1
  have o2:=of_decide_eq_false h2
  have o3:=of_decide_eq_false h3
  have hb:bld 101 [(0,.int .i64 1),(1,.int .i64 so),(3,.str nm)] = some (rawN ⟨1,so,[],nm,false,[],[]⟩ .nils .nils .nils):=by rw [bf101]; rfl
  have ho:Nd.ok ⟨1,so,[],nm,false,[],[]⟩:=nd_ok0 (i64_small (by decide) (by decide)) (i64_small (by omega) (by omega)) (by omega)
  simp only [h1,h2,h3,hl,hb,Bool.or_self,wx,wy,Nat.reduceAdd,Nat.reduceEqDiff,reduceCtorEq]
  refine (add_w fr.adv hB.adv ho (raw_of _ em_nil em_nil em_nil)).call fz131 fun s' hs=>?_
  simp only [ex0,ex1,wx,wy,Nat.reduceAdd,Nat.reduceEqDiff,reduceCtorEq]
  exact ⟨rfl,hs.from e0.adv⟩
theorem truth_w (fr:Fresh s) (hB:BkR s i B F) (v:Bool):BkW 78 [.ptr i 0,.bool v] s i F (truthM B v):=by
 refine f78_run _ _ _ ?_
 unfold f78
 have e0:=(EF.refl [] fr)
 have hb:∀ k:Int,bld 101 [(0,.int .i64 k),(1,.int .i64 1)] = some (rawN ⟨k,1,[],[],false,[],[]⟩ .nils .nils .nils):=fun k=>by rw [bf101]; rfl
 have ho:∀ k:Int,0≤k→k≤1000→Nd.ok ⟨k,1,[],[],false,[],[]⟩:=fun k h0 h1=>nd_ok0 (i64_small h0 h1) (i64_small (by decide) (by decide)) (by simp)
 cases v with
 | true =>
  simp only [hb,wx,wy,Nat.reduceAdd,Nat.reduceEqDiff,reduceCtorEq]
  refine (add_w fr.adv hB.adv (ho 2 (by decide) (by decide)) (raw_of _ em_nil em_nil em_nil)).call fz131 fun s' hs=>?_
  simp only [ex0,ex1,wx,wy,Nat.reduceAdd,Nat.reduceEqDiff,reduceCtorEq]
  exact ⟨rfl,hs.from e0.adv⟩
 | false =>
  simp only [hb,wx,wy,Nat.reduceAdd,Nat.reduceEqDiff,reduceCtorEq]
  refine (add_w fr.adv hB.adv (ho 3 (by decide) (by decide)) (raw_of _ em_nil em_nil em_nil)).call fz131 fun s' hs=>?_
  simp only [ex0,ex1,wx,wy,Nat.reduceAdd,Nat.reduceEqDiff,reduceCtorEq]
  exact ⟨rfl,hs.from e0.adv⟩
theorem str_w (fr:Fresh s) (hB:BkR s i B F) (l:List (Int × Int)) (hl:l.length≤2 ^ 40):BkW 80 [.ptr i 0,.sl false (l.map rnA)] s i F (strM B l):=by
 refine f80_run _ _ _ ?_
 unfold f80
 have e0:=(EF.refl [] fr)
 refine callPu (c60 false l hl) (by simp [slr_closed]) ?_
 unfold strM
 cases h:mayM l with
 | false =>
  simp only [h,wx,wy,Nat.reduceAdd,Nat.reduceEqDiff,reduceCtorEq]
  exact ⟨rfl,BkQ.same hB fr e0.adv⟩
 | true =>
  have hb:bld 101 [(0,.int .i64 5),(1,.int .i64 3),(5,.sl false (l.map rnA))] = some (rawN ⟨5,3,[],[],false,[],l⟩ .nils .nils (.sl false (l.map rnA))):=by rw [bf101]; rfl
  have hm:(∀ r∈l,i64 r.1∧i64 r.2)∧l.length≤65536:=may_i64 h
  have ho:Nd.ok ⟨5,3,[],[],false,[],l⟩:=nd_ok (i64_small (by decide) (by decide)) (i64_small (by decide) (by decide)) (fun _ h=>by cases h) (by simp) (by simp) (fun _ h=>by cases h) (by simp) hm.1 (by omega)
  simp only [hb,wx,wy,Nat.reduceAdd,Nat.reduceEqDiff,reduceCtorEq]
  refine (add_w fr.adv hB.adv ho (raw_of _ em_nil em_nil (.inl rfl))).call fz131 fun s' hs=>?_
  simp only [ex0,ex1,wx,wy,Nat.reduceAdd,Nat.reduceEqDiff,reduceCtorEq]
  exact ⟨rfl,hs.from e0.adv⟩
theorem num_w (fr:Fresh s) (hB:BkR s i B F) (neg:Bool) (n:List Nat) (hl:limbs n) (hn:n.length≤2 ^ 20):BkW 79 [.ptr i 0,wzA neg n] s i F (wnumM B neg n):=by
 refine f79_run _ _ _ ?_
 unfold f79
 refine ⟨rfl,?_⟩
 have e0:∀ (k:Nat) (C:Option Blk),0 < k→EF [] s (Ai.adv (s.set s.nx C) k):=fun k C hk=>⟨by simp only [adv_nx,set_nx]; omega,fun j hj _=>by rw [adv_h,st_other (by omega)],fresh_set fr k (by omega)⟩
 simp only [wz_part,wx,wy,Nat.reduceAdd,Nat.reduceEqDiff,reduceCtorEq]
 refine callPu (c20 neg n (by omega)) (by simp [wz_closed]) ?_
 unfold wnumM
 cases h:decide (signM neg n < 0) with
 | true =>
  simp only [h,wx,wy,Nat.reduceAdd,Nat.reduceEqDiff,reduceCtorEq]
  exact ⟨rfl,BkQ.same hB fr (e0 _ _ (by omega))⟩
 | false =>
  simp only [h,wz_part,wx,wy,Nat.reduceAdd,Nat.reduceEqDiff,reduceCtorEq]
  refine callPu (c69 neg n (by omega)) (by simp [wz_closed]) ?_
  have hb:bld 101 [(0,.int .i64 4),(1,.int .i64 2),(4,wzA (madeM neg n).1 (madeM neg n).2)] = some (rawN ⟨4,2,[],[],(madeM neg n).1,(madeM neg n).2,[]⟩ .nils (nsA (madeM neg n).2) .nils):=by rw [bf101]; rfl
  have hl2:limbs (madeM neg n).2:=norm_limbs hl
  have hn2:(madeM neg n).2.length≤2 ^ 20:=Nat.le_trans (norm_len n) hn
  simp only [hb,wx,wy,Nat.reduceAdd,Nat.reduceEqDiff,reduceCtorEq]
  refine (add_w (e0 _ _ (by omega)).fr (bk_keep hB fr (e0 _ _ (by omega))) (nd_ok (i64_small (by decide) (by decide)) (i64_small (by decide) (by decide)) (fun _ h=>by cases h) (by simp) (by simp) hl2 hn2 (fun _ h=>by cases h) (by simp)) (raw_of _ em_nil (.inl rfl) em_nil)).call fz131 fun s' hs=>?_
  simp only [ex0,ex1,wx,wy,Nat.reduceAdd,Nat.reduceEqDiff,reduceCtorEq]
  exact ⟨rfl,hs.from (e0 _ _ (by omega))⟩
def RdW (f:FuncId) (args:List AV) (s:St) (v:AV):Prop:=∃ r s',WideC Tryz.env f args s r s'∧r = v∧EF [] s s'
theorem RdW.call {f:FuncId} {args:List AV} {v:AV} (h:RdW f args s v) (hz:Tryz.env.fz f = false) (hk:∀ s',EF [] s s'→K v s'):CallWi Tryz.env f args s K:=by
 obtain ⟨r,s',h1,rfl,h2⟩:=h
 exact callWiF hz ⟨_,s',h1,hk s' h2⟩
theorem nd_at {x:AV} (g:Gw 101 7 0 s x (B.map Nd.av)) {id:Int} {n:Nd} (h:getN B id = some n):∃ j,s.h j = some (.cells ((B.map Nd.av).flatMap AV.cells) 101 false true)∧ixS 7 x (.int .i64 id) = some (.ptr j (id.toNat * 7))∧(∀ o,o < 7→((B.map Nd.av).flatMap AV.cells)[id.toNat * 7 + o]? = n.av.cells[o]?)∧Ai.part 7 true (id.toNat * 7) ((B.map Nd.av).flatMap AV.cells) = some n.av:=by
 simp only [getN] at h
 cases hc:decide (id < 0) with
 | true=>rw [hc] at h; cases h
 | false =>
  rw [hc] at h
  have hc:=of_decide_eq_false hc
  have h:B[id.toNat]? = some n:=h
  have hv:(B.map Nd.av)[id.toNat]? = some n.av:=by rw [List.getElem?_map,h]; rfl
  have hlt:=(List.getElem?_eq_some_iff.1 hv).1
  obtain ⟨g1,⟨rfl,g2⟩ | ⟨j,_,rfl,g3⟩⟩:=g
  ·rw [g2] at hlt; simp at hlt
  ·have hlen:∀ v∈B.map Nd.av,v.cells.length = 7:=fun v hv=>(g1 v hv).1
   have hix:=ix_ref (e:=101) (z:=7) (id:=j) (off:=0) (c:=none) hlt .i64
   rw [show ((id.toNat:Nat):Int) = id by omega,Nat.zero_add] at hix
   obtain ⟨d1,d2⟩:=drop_flat hlen hv
   refine ⟨j,g3,hix,fun o ho=>getElem_flat hlen hv ho,?_⟩
   rw [part_agg,if_pos d2,d1]; rfl
theorem get_in {id:Int} (h:inB B id):∃ n,getN B id = some n:=by
 obtain ⟨h1,h2⟩:=h
 simp only [getN,show ¬ (id < 0) by omega,decide_false,cond_false]
 exact ⟨_,List.getElem?_eq_getElem (by omega)⟩
theorem eq3 (a b:Int):bn .eql 3 (.int .i64 a) (.int .i64 b) = some (.bool (a == b)):=bin_eql
theorem numeral_c (fr:Fresh s) (hB:BkR s i B F) (hw:Wf B) {id:Int} (hid:inB B id):RdW 187 [.ptr i 0,.int .i64 id] s (.bool (numeralM B id)):=by
 obtain ⟨n,hn⟩:=get_in hid
 have hF:=hB.lt fr
 obtain ⟨xl,m,xn,⟨h1,h2,h3,h4,h5,h6,h7⟩,rfl⟩:=hB
 obtain ⟨j,j1,j2,j3,j4⟩:=nd_at h4 hn
 have hi:=fr.lt h1
 have hj:=fr.lt j1
 refine f187_run _ _ _ ?_
 unfold f187
 refine ⟨rfl,?_⟩
 have hst:∀ (q:St) (k c:Nat),sto 7 (.ptr k 0) n.av (Ai.adv (q.set k (some (.cells (AV.agg [.int .i64 0,.int .i64 0,.nils,.str [],.bool false,.nils,.nils]).cells 101 true true))) c) = some (Ai.adv (q.set k (some (.cells n.av.cells 101 true true))) c):=fun q k c=>by
  rw [sto_all (z:=7) (by rw [adv_h,st_same]) rfl rfl rfl,adv_set,set_set]
 have e0:EF [] s (Ai.adv (s.set (s.nx + 8) (some (.cells n.av.cells 101 true true))) 33):=⟨by simp only [adv_nx,set_nx]; omega,fun y hy _=>by rw [adv_h,st_other (by omega)],fresh_set fr 33 (by omega)⟩
 have o0:n.av.cells[0]? = some (.int .i64 n.op):=rfl
 have o2:n.av.cells[2]? = some (.sl false (n.a.map inA)):=rfl
 have ne1:¬ (i = s.nx + 8):=by omega
 simp only [h1,j1,j2,j4,zf101,hst,o0,wx,wy,Nat.reduceAdd,Nat.reduceEqDiff,reduceCtorEq]
 unfold numeralM
 rw [hn]
 cases hop:(n.op == 4) with
 | true =>
  simp only [wx,wy,Nat.reduceAdd,Nat.reduceEqDiff,reduceCtorEq]
  exact ⟨by rw [hop,Bool.true_or],e0⟩
 | false =>
  simp only [o0,Bool.false_or,wx,wy,Nat.reduceAdd,Nat.reduceEqDiff,reduceCtorEq]
  cases hop2:(n.op == 14) with
  | false =>
   simp only [wx,wy,Nat.reduceAdd,Nat.reduceEqDiff,reduceCtorEq]
   exact ⟨by rw [hop],e0⟩
  | true =>
   have hop2:n.op = 14:=by simpa using hop2
   obtain ⟨w1,w2⟩:=hw.2 n (getN_mem hn)
   obtain ⟨q,l,hql⟩:∃ q l,n.a = q :: l:=by
    cases hql:n.a with
    | nil=>exact absurd hql (w2 hop2)
    | cons q l=>exact ⟨q,l,rfl⟩
   obtain ⟨n2,hn2⟩:=get_in (w1 q (by rw [hql]; simp))
   obtain ⟨j',i1,i2,i3,i4⟩:=nd_at h4 hn2
   have hj':=fr.lt i1
   have ne2:¬ (j' = s.nx + 8):=by omega
   have hix:ixS 1 (.sl false ((q :: l).map inA)) (.int .i64 0) = some (.pel (inA q).cells 0):=ix_map encIn false (i:=0) (a:=q) rfl .i64
   have hq0:(inA q).cells[0]? = some (.int .i64 q):=rfl
   have i30:=i3 0 (by decide)
   rw [Nat.add_zero] at i30
   have i31:n2.av.cells[0]? = some (.int .i64 n2.op):=rfl
   simp only [ne1,h1,o2,hql,hix,hq0,i1,i2,i30,i31,ne2,if_false,wx,wy,Nat.reduceAdd,Nat.reduceEqDiff,reduceCtorEq]
   refine ⟨rfl,?_⟩
   exact ⟨by rw [hop]; simp only [opOf,hn2,Bool.false_or],e0⟩
end
end
end Go.Proofs.YtdehdahimkcakaaGreatDoor
