/- Texts joined by wip/tools/pack.py: Wi,Nm,Wj,Wk,Wl,Th,Wm,Rv,Wn,Wo. -/
import Derived.Test.YtdehdahimkcakaaGreatDoorXs
open Nat renaming reduceAdd→Z0, reduceEqDiff→Z1
set_option linter.unusedSimpArgs false
set_option linter.unusedVariables false
set_option maxHeartbeats 4000000
set_option maxRecDepth 100000
namespace Go.Proofs.YtdehdahimkcakaaGreatDoor
open Go Ai
noncomputable section
def EM (l:List (Int×Int)):Option Sx:=if dS l<=1000 then some (bLe l) else none
theorem bHr (l:List (Int×Int)) (hok:∀ r∈l,cV r=true) (hl:l.length<=65536) (hs:¬ dS l<=1000) (Q:aC) (hQ:∀ s,Q (.tup [.nils,.int .i64 2]) s):∀ (m i:Nat) (s:St),i+m=l.length->dS (l.take i)<=1000->mV Q (m+1) (.sl false (l.map cP)) (.int .i64 (1000 - dS (l.take i))) (.int .i64 i) s:=by
 intro m
 induction m with
 | zero =>intro i s hi hle;rw [m014 (by omega)] at hle;exact absurd hle hs
 | succ m ih =>
  intro i s hi hle;show mN Q (mV Q (m+1)) _ _ _ s;have c1:decide ((i:Int) < (l.length:Int))=true:=by simp;omega
  obtain ⟨r,hr⟩:∃ r,l[i]?=some r:=⟨_,m004 (by omega)⟩;have hix:=bP iW false hr .i64;have d0:=nG l hok i;have d1:=nG l hok (i+1);have e1:=d0.2;rw [cK l i r hr] at e1;simp only [dS] at e1;have hro:=AF (hok r (m017 hr))
  cases c3:decide (r.2 > 1000 - dS (l.take i)) with
  | true =>simp only [mN,lT,c1,hix,DM,c3,wx,wy,Z0,Z1,reduceCtorEq];exact hQ _
  | false =>
   have:=of_decide_eq_false c3;have w2:IntKind.i64.wrap (1000 - dS (l.take i) - r.2)=1000 - dS (l.take (i+1)):=by rw [IntWalk.i64_in _ (by omega)];omega
   simp only [mN,lT,c1,hix,DM,c3,w2,IM,wx,wy,Z0,Z1,reduceCtorEq];rw [cF i l.length (by omega) (by have:maxLen=9223372036854775807:=rfl;omega)];exact ih (i+1) _ (by omega) (by omega)
theorem bEo (l:List (Int×Int)) (hok:∀ r∈l,cV r=true) (hl:l.length<=65536) (hs:¬ dS l<=1000):aU mEv 170 [.sl false (l.map cP),.int .i64 1000] (.tup [.sl false [],.int .i64 2]):=by refine bC (LB _ _ _ ?_);unfold f170;refine ⟨l.length+1,aYf l hok hl _ (fun s fr=>?_) l.length 0 _ (by omega) bU.adv⟩;unfold tQ;simp only [show decide ((1000:Int) < 0)=false from rfl,wx,wy,Z0,Z1,reduceCtorEq];exact ⟨l.length+1,bHr l hok hl hs _ (fun s=>⟨[],rfl⟩) l.length 0 _ (by omega) (by simp [dS])⟩
theorem YZ:∀ (a:List (Int×Int)) (out:List Int),(∀ r∈a,cV r=true)->(out.length:Int)<=1000->¬ (out.length:Int)+dS a<=1000->lS 1000 a out=none:=by
 intro a
 induction a with
 | nil=>intro out _ h1 h2;simp only [dS,Int.add_zero] at h2;exact absurd h1 h2
 | cons r a ih =>
  intro out h h1 h2;have hr:=AF (h r (m007 ..));simp only [dS] at h2;simp only [lS];rw [IntWalk.i64_in _ (by omega)]
  cases hc:decide (r.2 > 1000 - (out.length:Int)) with
  | true=>rfl
  | false =>have:=of_decide_eq_false hc;simp only [cond_false];exact ih _ (fun q hq=>h q (m005 _ hq)) (by simp only [m006,List.length_replicate];omega) (by simp only [m006,List.length_replicate];omega)
theorem aIa {l:List (Int×Int)} (h:∀ r∈l,cV r=true):l.any wH=false:=by rw [List.any_eq_false];intro r hr;have:=h r hr;simp only [cV,bN,decide_eq_true_eq] at this;simp only [wH,this.1.1,m025,m026,decide_eq_true_eq];omega
theorem aXl (q:St) (i n:Nat):bQ 6 (.ptr i 0) bV (Ai.adv (q.set i (some (.cells (AV.agg [.bool false,.int .i64 0,.str [],.int .i64 0,.int .i64 0,.nils]).cells 33 true true))) n)=some (Ai.adv (q.set i (some (.cells bV.cells 33 true true))) n):=by rw [bJ (z:=6) (by rw [adv_h,aG]) rfl rfl rfl,adv_set,set_set]
theorem vS:Ai.part 6 true 0 bV.cells=some bV:=rfl
theorem aMa:eE 33 []=some bV:=by rw [aYr];rfl
theorem IF {v:AV} (hv:v.closed=true) (s:St):cU (.tup [bR.av,v]) (.tup [bV,v]) s:=⟨[],rA rfl (EN 9 s) hv⟩
theorem bLb (l:List (Int×Int)) (hok:∀ r∈l,cV r=true) (hl:l.length<=65536):aU mEv 121 [.sl false (l.map cP)] (match EM l with
  | some x=>.tup [x.av,.bool true]
  | none=>.tup [bR.av,.bool false]):=by
 unfold EM;by_cases hs:dS l<=1000
 ·rw [if_pos hs];exact bMt l hok hl hs
 ·rw [if_neg hs];refine bC (MY _ _ ?_);unfold f121;simp only [jV,wx,wy,Z0,Z1,reduceCtorEq];refine aM (bEo l hok hl hs) (by simp only [m013,m052,or_false,forall_eq_or_imp,forall_eq];exact ⟨fH l,rfl⟩) ?_;have h2:((2:Int) != 0)=true:=rfl;simp only [GE,h2,aMa,wx,wy,Z0,Z1,reduceCtorEq];rw [aXl];simp only [vS,wx,wy,Z0,Z1,reduceCtorEq];exact IF rfl _
theorem bLt (l:List (Int×Int)) (hok:∀ r∈l,cV r=true) (hl:l.length<=65536):aU mEv 115 [.sl false (l.map cP)] (match EM l with
  | some x=>.tup [x.av,.int .i64 0]
  | none=>.tup [bR.av,.int .i64 2]):=by
 have hml:l.length<=maxLen:=by have:maxLen=9223372036854775807:=rfl;omega
 unfold EM;by_cases hs:dS l<=1000
 ·rw [if_pos hs];have hm:jQ l 1000=(cC l,0):=by have:=EV l [] hok (by simpa using hs);simp only [jQ,aIa hok,cond_false,this,List.nil_append]
  exact bGz false l (fH l) hml (cC l) hm (by have:=lZ l hok;omega) (GH l hok)
 ·rw [if_neg hs];have hm:jQ l 1000=([],2):=by have:=YZ l [] hok (by simp) (by simpa using hs);simp only [jQ,aIa hok,cond_false,this]
  have h1:=bDd false l hml 1000 (by omega) (by omega);rw [hm] at h1;refine bC (DV _ _ ?_);unfold f115;simp only [jV,wx,wy,Z0,Z1,reduceCtorEq];refine aM h1 (by simp only [m013,m052,or_false,forall_eq_or_imp,forall_eq];exact ⟨fH l,rfl⟩) ?_;have h2:((2:Int) != 0)=true:=rfl;simp only [RE,GE,h2,aMa,wx,wy,Z0,Z1,reduceCtorEq];rw [aXl];simp only [vS,wx,wy,Z0,Z1,reduceCtorEq];exact IF rfl _
end
noncomputable section
def nmL:List (List UInt8):=[[],[],[],[],[],[],[110,111,116],[97,110,100],[111,114],[61,62],[120,111,114],[61],[100,105,115,116,105,110,99,116],[105,116,101],[45],[43],[45],[42],[60,61],[60],[62,61],[62],[115,116,114,46,43,43],[115,116,114,46,108,101,110],[115,116,114,46,97,116],[115,116,114,46,115,117,98,115,116,114],[115,116,114,46,112,114,101,102,105,120,111,102],[115,116,114,46,115,117,102,102,105,120,111,102],[115,116,114,46,99,111,110,116,97,105,110,115],[115,116,114,46,105,110,100,101,120,111,102],[115,116,114,46,114,101,112,108,97,99,101]]
def nmN (c:Nat):List UInt8:=nmL.getD c []
theorem t22:(List.range 31).map (fun c:Nat=>iZ 22 [.int .i64 (c:Int)])=(List.range 31).map fun c:Nat=>some (.str (nmN c)):=by kernel_rfl
def yG (c:Int):List UInt8:=cond (decide (0<=c)&&decide (c < 31)) (nmN c.toNat) []
theorem c22 (c:Int):aU mEv 22 [.int .i64 c] (.str (yG c)):=by
 by_cases h:0<=c/\c < 31
 ·obtain ⟨k,rfl⟩:∃ k:Nat,c=(k:Int):=⟨c.toNat,by omega⟩;have:=lW (a:=fun c:Nat=>.int .i64 (c:Int)) t22 (c:=k) (by omega);have e:yG (k:Int)=nmN k:=by simp only [yG,decide_eq_true h.1,decide_eq_true h.2,gA,cond_true,Int.toNat_natCast]
  rw [e];exact this
 ·refine bI rfl (aSu _ _ ?_);unfold f22
  have e:yG c=[]:=by
   simp only [yG];by_cases h0:0<=c
   ·have h1:¬ c < 31:=fun h1=>h ⟨h0,h1⟩;simp [h1]
   ·simp [h0]
  rw [e];by_cases h0:c < 0
  ·simp only [decide_eq_true h0,wx,wy,Z0,Z1,reduceCtorEq]
  ·have h1:decide (c >= 31)=true:=by simp;omega
   simp only [decide_eq_false h0,h1,wx,wy,Z0,Z1,reduceCtorEq]
def bOm (c:Nat):Int:=if c=14 then 1 else 2
theorem t23:((List.range 25).all fun c:Nat=>match iZ 23 [.str (nmN (c+6)),.int .i64 (bOm (c+6))],iZ 24 [.str (nmN (c+6))] with
  | some (.int .i64 n),some (.bool true)=>n==((c+6:Nat):Int)
  | _,_=>false)=true:=by kernel_rfl
end
noncomputable section
def tZ (f:Int->Nat):List Int->Nat
 | []=>0
 | i::a=>f i+tZ f a
def tC (f:Int->Nat):List Int->Nat
 | []=>0
 | i::a=>max (f i+1) (tC f a)
def KB (f:Int->Option Sx):List Int->Option (List Sx)
 | []=>some []
 | i::a=>(f i).bind fun x=>(KB f a).map (x::·)
def oJ (B:Bk):Nat->Int->Nat
 | 0,_=>0
 | f+1,id=>match iT B id with
  | none=>0
  | some n=>(if n.a=[] then 1 else 2)+tZ (oJ B f) n.a
def xB (B:Bk):Nat->Int->Nat
 | 0,_=>0
 | f+1,id=>match iT B id with
  | none=>0
  | some n=>tC (xB B f) n.a
def gT (n:Nd):Option Sx :=
 bif n.op==1 then some (kX 3 n.nm) else bif n.op==2 then some (kX 3 LR) else bif n.op==3 then some (kX 3 EK) else bif n.op==4 then some (kX 4 (iJ n.num)) else EM n.str
def wG (B:Bk):Nat->Int->Option Sx
 | 0,_=>none
 | f+1,id=>match iT B id with
  | none=>none
  | some n=>bif decide (n.op<=5) then gT n else (KB (wG B f) n.a).map (jP (yG n.op))
section
variable {B:Bk}
theorem BX.get (h:BX B) {id:Int} (hi:jN B id):∃ n,iT B id=some n/\KC n/\NdS n/\∀ i∈n.a,jN B i/\i < id:=by
 obtain ⟨n,hn⟩:=pY hi;have hm:=lR hn;refine ⟨n,hn,h.g n hm,h.s n hm,fun i hi2=>?_⟩;obtain ⟨h0,h1⟩:=hi;have hk:B[id.toNat]?=some n:=by simp only [iT,show ¬ (id < 0) by omega,decide_false,cond_false] at hn;exact hn
 have:=h.lt _ n hk i hi2;exact ⟨⟨this.1,by omega⟩,by omega⟩
theorem GK {f g:Int->Nat}:∀ {a:List Int},(∀ i∈a,f i=g i)->tC f a=tC g a:=by
 intro a
 induction a with
 | nil=>intro _;rfl
 | cons i a ih=>intro h;simp only [tC,h i (m007 ..),ih fun j hj=>h j (m005 _ hj)]
theorem VW (f:Int->Nat):∀ (a b:List Int),tZ f (a++b)=tZ f a+tZ f b:=by
 intro a
 induction a with
 | nil=>intro b;simp [tZ]
 | cons i a ih=>intro b;simp only [List.cons_append,tZ,ih];omega
theorem aHs (f:Int->Nat) (a:List Int) (i:Nat) (id:Int) (h:a[i]?=some id):tZ f (a.take (i+1))=tZ f (a.take i)+f id:=by rw [m062,h,VW];simp [tZ]
theorem bAe (f:Int->Nat) (a:List Int) (i:Nat):tZ f (a.take i)<=tZ f a:=by have:=VW f (a.take i) (a.drop i);rw [List.take_append_drop] at this;omega
structure SzR (z:Nat) (most v:Int):Prop where
 le:v<=most+2
 ge:1<=v
 ex:(z:Int)<=most->v=z
 gt:¬ (z:Int)<=most->v > most
theorem c88 (hX:BX B):∀ (f:Nat) (id most:Int),jN B id->id < (f:Int)->0<=most->most<=2000->∃ v,aU mEv 88 [bZ B,.int .i64 id,.int .i64 most] (.int .i64 v)/\SzR (oJ B f id) most v:=by
 intro f
 induction f with
 | zero=>intro id most h h1;exact absurd h.1 (by omega)
 | succ f ih =>
  intro id most hi hid hm0 hm1;obtain ⟨n,hn,hg,hs,ha⟩:=hX.get hi;have hal:=hg.al;have hix:=wZ hn;obtain ⟨base,hb⟩:∃ b:Nat,b=if n.a=[] then 1 else 2:=⟨_,rfl⟩
  have hb2:base=1\/base=2:=by rw [hb];split<;>simp
  have hz:oJ B (f+1) id=base+tZ (oJ B f) n.a:=by simp only [oJ,hn,hb]
  rw [hz]
  have loop:∀ (Q:aC),(∀ v s,SzR (base+tZ (oJ B f) n.a) most v->Q (.int .i64 v) s)->∀ (m i:Nat) (c:Int) (s:St),i+m=n.a.length->c<=most+2->1<=c->(c=base+tZ (oJ B f) (n.a.take i)\/c > most)->(c > most->((base+tZ (oJ B f) n.a:Nat):Int) > most)->zJ Q (m+1) (bZ B) (.int .i64 id) (.int .i64 most) (.int .i64 c) (.int .i64 i) s:=by
   intro Q hQ m
   induction m with
   | zero =>
    intro i c s him h1 h2 h3 h4;show yF Q (zJ Q 0) _ _ _ _ _ s;have c1:decide ((i:Int) < (n.a.length:Int))=false:=by simp;omega
    rw [m014 (by omega)] at h3;simp only [yF,hix,QC,dX,m002,c1,GI,wx,wy,Z0,Z1,reduceCtorEq];exact hQ _ _ ⟨h1,h2,fun h=>by rcases h3 with h3 | h3;omega;have:=h4 h3;omega,fun h=>by rcases h3 with h3 | h3;omega;exact h3⟩
   | succ m ihm =>
    intro i c s him h1 h2 h3 h4;show yF Q (zJ Q (m+1)) _ _ _ _ _ s;have c1:decide ((i:Int) < (n.a.length:Int))=true:=by simp;omega
    cases c2:decide (c<=most) with
    | false =>have c2':=of_decide_eq_false c2;simp only [yF,hix,QC,dX,m002,c1,c2,GI,wx,wy,Z0,Z1,reduceCtorEq];exact hQ _ _ ⟨h1,h2,fun h=>by have:=h4 (by omega);omega,fun h=>by omega⟩
    | true =>
     have c2':=of_decide_eq_true c2;obtain ⟨q,hq⟩:∃ q,n.a[i]?=some q:=⟨_,m004 (by omega)⟩;obtain ⟨q1,q2⟩:=ha q (m017 hq);have hixa:=bP jT false (l:=n.a) hq .i64;have hsub:IntKind.i64.wrap (most - c)=most - c:=IntWalk.i64_in _ (by omega);obtain ⟨v,hv,r⟩:=ih q (most - c) q1 (by omega) (by omega) (by omega);have r1:=r.le;have r2:=r.ge;have hadd:IntKind.i64.wrap (c+v)=c+v:=IntWalk.i64_in _ (by omega);have hc:c=base+tZ (oJ B f) (n.a.take i):=h3.resolve_right (by omega);have ht:=aHs (oJ B f) n.a i q hq;have hle:=bAe (oJ B f) n.a (i+1);simp only [yF,hix,QC,dX,m002,c1,c2,hixa,RJ,hsub,wx,wy,Z0,Z1,reduceCtorEq];refine aM hv (by simp [AV.closed,eO]) ?_;simp only [aHh,hadd,wx,wy,Z0,Z1,reduceCtorEq];rw [cF i n.a.length (by omega) (by have:maxLen=9223372036854775807:=rfl;omega)];refine ihm (i+1) _ _ (by omega) (by omega) (by omega) ?_ ?_
     ·by_cases hz:(oJ B f q:Int)<=most - c
      ·left;have:=r.ex hz;omega
      ·right;have:=r.gt hz;omega
     ·intro h;by_cases hz:(oJ B f q:Int)<=most - c
      ·have:=r.ex hz;omega
      ·omega
  have run:∃ v,∃ s',WideC mEv 88 [bZ B,.int .i64 id,.int .i64 most] St.empty (.int .i64 v) s'/\SzR (base+tZ (oJ B f) n.a) most v:=by
   have h:=aQe (bZ B) (.int .i64 id) (.int .i64 most) St.empty (Q:=fun r s=>∃ v,r=.int .i64 v/\SzR (base+tZ (oJ B f) n.a) most v) (by
    unfold f88;have fin:∀ s,KN (fun r s=>∃ v,r=.int .i64 v/\SzR (base+tZ (oJ B f) n.a) most v) (bZ B) (.int .i64 id) (.int .i64 most) (.int .i64 base) s:=fun s=>by unfold KN;refine ⟨n.a.length+1,loop _ (fun v s h=>⟨v,rfl,h⟩) n.a.length 0 base _ (by omega) (by omega) (by omega) (.inl (by simp [tZ])) fun h=>?_⟩;omega
    cases c1:decide ((n.a.length:Int) > 0) with
    | true =>
     have hne:n.a≠[]:=fun e=>by rw [e] at c1;simp at c1
     rw [if_neg hne] at hb;subst hb;simp only [hix,QC,dX,m002,c1,wx,wy,Z0,Z1,reduceCtorEq];exact fin _
    | false =>
     have hne:n.a=[]:=by have:=of_decide_eq_false c1;exact m034 (by omega)
     rw [if_pos hne] at hb;subst hb;simp only [hix,QC,dX,m002,c1,wx,wy,Z0,Z1,reduceCtorEq]
     exact fin _)
   obtain ⟨r,s',h1,v,rfl,h2⟩:=h;exact ⟨v,s',h1,h2⟩
  obtain ⟨v,s',h1,h2⟩:=run;exact ⟨v,bI rfl ⟨_,s',h1,rfl⟩,h2⟩
end
end
noncomputable section
theorem t41:(List.range 31).map (fun c:Nat=>iZ 41 [.int .i64 (c:Int)])=(List.range 31).map fun c:Nat=>some (.str (nmN c)):=by kernel_rfl
theorem bAt {α:Type} {x:Option α} {k:α->Prop} (h:x.isSome=true) (hk:∀ v,k v):aA x k:=by
 cases x with
 | none=>cases h
 | some v=>rw [Bnd_some];exact hk v
theorem c41 (c:Int):aU mEv 41 [.int .i64 c] (.str (yG c)):=by
 by_cases h:0<=c/\c < 31
 ·obtain ⟨k,rfl⟩:∃ k:Nat,c=(k:Int):=⟨c.toNat,by omega⟩;have:=lW (a:=fun c:Nat=>.int .i64 (c:Int)) t41 (c:=k) (by omega);have e:yG (k:Int)=nmN k:=by simp only [yG,decide_eq_true h.1,decide_eq_true h.2,gA,cond_true,Int.toNat_natCast]
  rw [e];exact this
 ·refine bI rfl (aOx _ _ ?_);unfold f41;refine bAt (by kernel_rfl) fun v=>?_
  have e:yG c=[]:=by
   simp only [yG];by_cases h0:0<=c
   ·have h1:¬ c < 31:=fun h1=>h ⟨h0,h1⟩;simp [h1]
   ·simp [h0]
  rw [e];by_cases h0:c < 6
  ·simp only [decide_eq_true h0,wx,wy,Z0,Z1,reduceCtorEq]
  ·have h1:decide (c > 30)=true:=by simp;omega
   simp only [decide_eq_false h0,h1,wx,wy,Z0,Z1,reduceCtorEq]
section
variable {B:Bk}
theorem aIp (hX:BX B):∀ (f g:Nat) (id:Int),jN B id->id < (f:Int)->id < (g:Int)->xB B f id=xB B g id:=by
 intro f
 induction f with
 | zero=>intro g id h h1;exact absurd h.1 (by omega)
 | succ f ih =>intro g id h h1 h2;obtain ⟨g,rfl⟩:∃ k,g=k+1:=⟨g - 1,by have:=h.1;omega⟩;obtain ⟨n,hn,_,_,ha⟩:=hX.get h;simp only [xB,hn];exact GK fun i hi=>ih g i (ha i hi).1 (by have:=(ha i hi).2;omega) (by have:=(ha i hi).2;omega)
def rY (B:Bk) (j:Nat):Nat:=xB B (j+1) j
theorem aLw (hX:BX B) {j:Nat} {n:Nd} (h:jN B (j:Int)) (hn:iT B (j:Int)=some n):rY B j=tC (fun i=>rY B i.toNat) n.a:=by
 obtain ⟨m,hm,_,_,ha⟩:=hX.get h;rw [hn] at hm;cases hm;have e0:rY B j=tC (xB B j) n.a:=by show xB B (j+1) (j:Int)=_;simp only [xB,hn]
 rw [e0];refine GK fun i hi=>?_;obtain ⟨h1,h2⟩:=ha i hi;have h0:=h1.1;have e:((i.toNat:Nat):Int)=i:=by omega
 show xB B j i=xB B (i.toNat+1) ((i.toNat:Nat):Int);rw [e];exact aIp hX _ _ i h1 (by omega) (by omega)
theorem aEq (f:Int->Nat):∀ (a:List Int) (x:Int),tC f (a++[x])=max (tC f a) (f x+1):=by
 intro a
 induction a with
 | nil=>intro x;simp [tC]
 | cons i a ih=>intro x;simp only [List.cons_append,tC,ih];omega
theorem aLm (f:Int->Nat) (a:List Int) (i:Nat) (id:Int) (h:a[i]?=some id):tC f (a.take (i+1))=max (tC f (a.take i)) (f id+1):=by rw [m062,h];exact aEq f _ id
theorem bBa {f:Int->Nat} {m:Nat}:∀ {a:List Int},(∀ i∈a,f i+1<=m)->tC f a<=m:=by
 intro a
 induction a with
 | nil=>intro _;exact hO _
 | cons i a ih=>intro h;simp only [tC];have:=h i (m007 ..);have:=ih fun j hj=>h j (m005 _ hj);omega
theorem aGc (hX:BX B):∀ j:Nat,jN B (j:Int)->rY B j<=j:=by
 intro j
 induction j using Nat.strongRecOn with
 | _ j ih =>intro h;obtain ⟨n,hn,_,_,ha⟩:=hX.get h;rw [aLw hX h hn];refine bBa fun i hi=>?_;obtain ⟨h1,h2⟩:=ha i hi;have h0:=h1.1;have:=ih i.toNat (by omega) (by rw [show ((i.toNat:Nat):Int)=i by omega];exact h1);omega
def oZ (B:Bk) (N i:Nat) (m:Nat):List Int:=(List.range N).map fun j=>if j < i then (rY B j:Int) else if j=i then (m:Int) else 0
theorem IR (B:Bk) (N i m:Nat):(oZ B N i m).length=N:=by simp [oZ]
theorem oF (B:Bk) {N i m j:Nat} (h:j < N):((oZ B N i m).map dH)[j]?=some (.int .i64 (if j < i then (rY B j:Int) else if j=i then (m:Int) else 0)):=by simp [oZ,h,dH]
theorem aPs (B:Bk) (N i m m':Nat):((oZ B N i m).map dH).set i (.int .i64 (m':Int))=(oZ B N i m').map dH:=by
 apply List.ext_getElem?;intro j;rw [List.getElem?_set];by_cases hj:i=j
 ·subst hj;rw [if_pos rfl];by_cases hl:i < N
  ·rw [if_pos (by simpa [oZ] using hl),oF B hl];simp
  ·rw [if_neg (by simpa [oZ] using hl),List.getElem?_eq_none (by rw [m002,IR];omega)]
 ·rw [if_neg hj];by_cases hl:j < N
  ·rw [oF B hl,oF B hl,if_neg (c:=j=i) (by omega),if_neg (c:=j=i) (by omega)]
  ·simp [oZ,hl]
theorem aNw (B:Bk) (N i:Nat):oZ B N i (rY B i)=oZ B N (i+1) 0:=by
 unfold oZ;apply List.map_congr_left;intro j _;by_cases h:j < i
 ·rw [if_pos h,if_pos (by omega)]
 ·by_cases h2:j=i
  ·subst h2;rw [if_neg h,if_pos rfl,if_pos (by omega)]
  ·rw [if_neg h,if_neg h2,if_neg (by omega)];simp
theorem c89 (hX:BX B) {id:Nat} (hi:jN B (id:Int)):aU mEv 89 [bZ B,.int .i64 id] (.int .i64 (rY B id)):=by
 have hwl:=hX.w.1;have hidl:id < B.length:=by have:=hi.2;omega
 refine bI rfl (aRw _ _ _ ?_);unfold f89;have hadd:IntKind.i64.wrap ((id:Int)+1)=((id+1:Nat):Int):=by rw [IntWalk.i64_in _ (by omega)];omega
 have hmk:=PM JB (zv:=.int .i64 0) (by kernel_rfl) (id+1) (by omega) (by omega) .i64 .i64 (St.empty.nx+3) (Ai.adv St.empty 5);simp only [hadd,hmk,wx,wy,Z0,Z1,reduceCtorEq]
 have inner:∀ (i:Nat) (n:Nd) (b:Nat),i<=id->iT B (i:Int)=some n->∀ (k2:Nat) (ih1:AV->AV->AV->aC),(∀ s,s.h b=some (.cells ((oZ B (id+1) (i+1) 0).map dH) 3 true true)->yV (fun r _=>r=.int .i64 (rY B id)) ih1 (.int .i64 i) (bZ B) (.int .i64 id) (.ref b 0 (id+1) (some (id+1)) 3) s) ->
   ∀ (m k:Nat) (s:St),k+m=n.a.length->s.h b=some (.cells ((oZ B (id+1) i (tC (fun i=>rY B i.toNat) (n.a.take k))).map dH) 3 true true)->vI (fun r _=>r=.int .i64 (rY B id)) ih1 (m+1) (bZ B) (.int .i64 id) (.ref b 0 (id+1) (some (id+1)) 3) (.int .i64 i) (.int .i64 k) s:=by
  intro i n b hile hn k2 ih1 hj2 m;have hin:jN B (i:Int):=⟨by omega,by omega⟩;obtain ⟨n',hn',hg,hs,ha⟩:=hX.get hin;rw [hn] at hn';cases hn';have hal:=hg.al;have hix:=wZ hn
  induction m with
  | zero =>
   intro k s hk hs;show wK (fun r _=>r=.int .i64 (rY B id)) ih1 (vI (fun r _=>r=.int .i64 (rY B id)) ih1 0) _ _ _ _ _ s;have c1:decide ((k:Int) < (n.a.length:Int))=false:=by simp;omega
   rw [m014 (by omega),<- aLw hX hin hn,aNw] at hs;simp only [wK,hix,QC,dX,m002,c1,wx,wy,Z0,Z1,reduceCtorEq];exact hj2 _ hs
  | succ m ihm =>
   intro k s hk hs;show wK (fun r _=>r=.int .i64 (rY B id)) ih1 (vI (fun r _=>r=.int .i64 (rY B id)) ih1 (m+1)) _ _ _ _ _ s;have c1:decide ((k:Int) < (n.a.length:Int))=true:=by simp;omega
   obtain ⟨q,hq⟩:∃ q,n.a[k]?=some q:=⟨_,m004 (by omega)⟩;obtain ⟨q1,q2⟩:=ha q (m017 hq);have q0:=q1.1;obtain ⟨p,rfl⟩:∃ p:Nat,q=(p:Int):=⟨q.toNat,by omega⟩;have hixa:=bP jT false (l:=n.a) hq .i64;have ixp:cA 1 (.ref b 0 (id+1) (some (id+1)) 3) (.int .i64 (p:Int))=some (.ptr b p):=rO (by omega) .i64;have ixi:cA 1 (.ref b 0 (id+1) (some (id+1)) 3) (.int .i64 (i:Int))=some (.ptr b i):=rO (by omega) .i64;have gp:=oF B (N:=id+1) (i:=i) (m:=tC (fun i=>rY B i.toNat) (n.a.take k)) (j:=p) (by omega);have gi:=oF B (N:=id+1) (i:=i) (m:=tC (fun i=>rY B i.toNat) (n.a.take k)) (j:=i) (by omega);rw [if_pos (by omega)] at gp;rw [if_neg (by omega),if_pos rfl] at gi;have dle:=aGc hX p q1;have hadd:IntKind.i64.wrap ((rY B p:Int)+1)=((rY B p+1:Nat):Int):=by rw [IntWalk.i64_in _ (by omega)];omega
   have ht:=aLm (fun i=>rY B i.toNat) n.a k p hq;simp only [Int.toNat_natCast] at ht;have nxt:∀ s',s'.h b=some (.cells ((oZ B (id+1) i (tC (fun i=>rY B i.toNat) (n.a.take (k+1)))).map dH) 3 true true)->OK (fun r _=>r=.int .i64 (rY B id)) ih1 (vI (fun r _=>r=.int .i64 (rY B id)) ih1 (m+1)) (.int .i64 k) (bZ B) (.int .i64 id) (.ref b 0 (id+1) (some (id+1)) 3) (.int .i64 i) s':=fun s' h'=>by unfold OK;simp only [wx,wy,Z0,Z1,reduceCtorEq];rw [cF k n.a.length (by omega) (by have:maxLen=9223372036854775807:=rfl;omega)];exact ihm (k+1) _ (by omega) h'
   cases c2:decide (((rY B p+1:Nat):Int) > (tC (fun i=>rY B i.toNat) (n.a.take k):Int)) with
   | true =>have c2':=of_decide_eq_true c2;simp only [wK,hix,QC,dX,m002,c1,hixa,RJ,ixp,ixi,hs,gp,gi,hadd,c2,wx,wy,Z0,Z1,reduceCtorEq];rw [nJ (c:=(oZ B (id+1) i (tC (fun i=>rY B i.toNat) (n.a.take k))).map dH) (e:=3) (ex:=true) (by rw [adv_h];exact hs) (by rw [m002,IR];omega) rfl rfl];rw [aPs,Bnd_some];refine nxt _ ?_;rw [aG,ht,Nat.max_eq_right (by omega)]
   | false =>have c2':=of_decide_eq_false c2;simp only [wK,hix,QC,dX,m002,c1,hixa,RJ,ixp,ixi,hs,gp,gi,hadd,c2,wx,wy,Z0,Z1,reduceCtorEq];refine nxt _ ?_;rw [adv_h,ht,Nat.max_eq_left (by omega)];exact hs
 have outer:∀ (b:Nat) (m i:Nat) (s:St),i+m=id+1->s.h b=some (.cells ((oZ B (id+1) i 0).map dH) 3 true true)->jR (fun r _=>r=.int .i64 (rY B id)) (m+1) (bZ B) (.int .i64 id) (.ref b 0 (id+1) (some (id+1)) 3) (.int .i64 i) s:=by
  intro b m
  induction m with
  | zero =>
   intro i s him hs;show BO (fun r _=>r=.int .i64 (rY B id)) (jR (fun r _=>r=.int .i64 (rY B id)) 0) _ _ _ _ s;have c1:decide ((i:Int)<=(id:Int))=false:=by simp;omega
   have ixi:cA 1 (.ref b 0 (id+1) (some (id+1)) 3) (.int .i64 (id:Int))=some (.ptr b id):=rO (by omega) .i64;have gi:=oF B (N:=id+1) (i:=i) (m:=0) (j:=id) (by omega);rw [if_pos (by omega)] at gi;simp only [BO,c1,CK,ixi,hs,gi,wx,wy,Z0,Z1,reduceCtorEq]
  | succ m ih =>
   intro i s him hs;show BO (fun r _=>r=.int .i64 (rY B id)) (jR (fun r _=>r=.int .i64 (rY B id)) (m+1)) _ _ _ _ s;have c1:decide ((i:Int)<=(id:Int))=true:=by simp;omega
   obtain ⟨n,hn⟩:=pY (show jN B (i:Int) from ⟨by omega,by omega⟩);simp only [BO,c1,wx,wy,Z0,Z1,reduceCtorEq];refine ⟨n.a.length+1,inner i n b (by omega) hn 0 _ (fun s hs=>?_) n.a.length 0 _ (by omega) hs⟩;unfold yV;simp only [wx,wy,Z0,Z1,reduceCtorEq];rw [cF i (id+1) (by omega) (by have:maxLen=9223372036854775807:=rfl;omega)];exact ih (i+1) _ (by omega) hs
 refine ⟨id+1+1,outer _ (id+1) 0 _ (by omega) ?_⟩;rw [adv_h,aG]
 have hrep:(List.replicate (id+1) (AV.int .i64 0).cells).flatten=(oZ B (id+1) 0 0).map dH:=by
  show (List.replicate (id+1) [AV.int .i64 0]).flatten=_;rw [DG];apply List.ext_getElem?;intro j;by_cases hl:j < id+1
  ·rw [oF B hl,if_neg (by omega),List.getElem?_replicate,if_pos hl];simp
  ·rw [List.getElem?_eq_none (by simp;omega),List.getElem?_eq_none (by rw [m002,IR];omega)]
 rw [hrep]
end
end
noncomputable section
theorem qN {S:St} {i:Nat} (h:S.h i=some (.cells bV.cells 33 true true)) (x:Sx) (v:AV) {Q:aC} (hq:∀ s',Q (.tup [x.av,v]) s'):aA (bQ 6 (.ptr i 0) x.av S) fun s3=>bT ((bW [ld 6 true (.ptr i 0) s3,some v]).map bY) fun u=>Q u s3:=by rw [bJ (z:=6) h rfl (eA x) (dD x),Bnd_some];simp only [ld_ptr,aG,dR,resC_some,resC_nil,map_some',tupV_two,retP_some];exact hq _
theorem aXm {S:St} {i:Nat} (h:S.h i=some (.cells bV.cells 33 true true)) (v:AV) {Q:aC} (hq:∀ s',Q (.tup [bV,v]) s'):aA (eE 33 []) fun t=>aA (bQ 6 (.ptr i 0) t S) fun s3=>bT ((bW [ld 6 true (.ptr i 0) s3,some v]).map bY) fun u=>Q u s3:=by rw [aMa,Bnd_some,bJ (z:=6) h rfl rfl rfl,Bnd_some];simp only [ld_ptr,aG,vS,resC_some,resC_nil,map_some',tupV_two,retP_some];exact hq _
def tlR (o:Option Sx):AV:=match o with
 | some x=>.tup [x.av,.bool true]
 | none=>.tup [bR.av,.bool false]
section
variable {B:Bk}
theorem aPf (f:Int->Option Sx):∀ (a:List Int) (l:List Sx),KB f a=some l->l.length=a.length:=by
 intro a
 induction a with
 | nil=>intro l h;cases h;rfl
 | cons i a ih =>
  intro l h;simp only [KB] at h
  cases h1:f i with
  | none=>rw [h1] at h;cases h
  | some x =>rw [h1,Option.bind_some] at h;obtain ⟨k,h2,rfl⟩:=m022.1 h;simp only [List.length_cons,ih k h2]
theorem j90 {n:Nd} {p4 p6:Nat} {x:AV} {xs:List Sx} {s:St} (h4:s.h p4=some (.cells bV.cells 33 true true)) (h6:s.h p6=some (.cells n.av.cells 101 true true)) (g:Gw 33 6 0 s x (xs.map Sx.av)) (hx:p4 ∉ aS x) (hl:xs.length<=200) (hne:xs≠[]) {Q:aC} (hq:∀ s',Q (.tup [(jP (yG n.op) xs).av,.bool true]) s') :
  FZ Q (.ptr p6 0) x (.ptr p4 0) s:=by
 unfold FZ;simp only [h6,nd0,wx,wy,Z0,Z1,reduceCtorEq];refine aM (c41 n.op) (by simp [AV.closed]) ?_;obtain ⟨ids,p1,p2⟩:=uB nB (g.adv (n:=7)) (fun a _=>cZ a) (fun a _=>(bBd a).symm) 11;refine eR (ids:=ids) (args2:=[.str (yG n.op),lsA xs]) (by simp only [dJ,bE 12 (show (AV.str (yG n.op)).closed=true from rfl),p1,List.nil_append,m011];rfl) (bPa (yG n.op) xs (by omega) hne) ?_;refine qN ?_ _ _ hq
 split
 ·rw [adv_h];exact h4
 ·rw [get_drop',if_neg (by rw [p2];exact hx)];exact h4
theorem l90 (hX:BX B) (f:Nat) (ih:∀ id:Int,jN B id->id < (f:Int)->aU mEv 90 [bZ B,.int .i64 id] (tlR (wG B f id))) {n:Nd} (ha:∀ i∈n.a,jN B i/\i < (f:Int)) (hal:n.a.length<=200) (hne:n.a≠[]) {p4 p6:Nat} {Q:aC}
  (hok:∀ l s',KB (wG B f) n.a=some l->Q (.tup [(jP (yG n.op) l).av,.bool true]) s') (hno:KB (wG B f) n.a=none->∀ s',Q (.tup [bV,.bool false]) s') :
  ∀ (m i:Nat) (xs:List Sx) (x:AV) (s:St),i+m=n.a.length->xs.length=i->aK s->s.h p4=some (.cells bV.cells 33 true true)->s.h p6=some (.cells n.av.cells 101 true true)->Gw 33 6 0 s x (xs.map Sx.av)->p4 ∉ aS x->p6 ∉ aS x->KB (wG B f) n.a=(KB (wG B f) (n.a.drop i)).map (xs++·) ->
   zC Q (m+1) (bZ B) (.ptr p4 0) (.ptr p6 0) x (.int .i64 i) s:=by
 intro m
 induction m with
 | zero =>
  intro i xs x s hi hxl fr h4 h6 g n4 n6 he;show ES Q (zC Q 0) _ _ _ _ _ s;have c1:decide ((i:Int) < (n.a.length:Int))=false:=by simp;omega
  rw [m037 (by omega)] at he;have he:KB (wG B f) n.a=some (xs++[]):=he;rw [m011] at he;have hl:=List.length_pos_iff.2 hne;simp only [ES,h6,QC,dX,m002,c1,wx,wy,Z0,Z1,reduceCtorEq];exact j90 (by rw [adv_h];exact h4) (by rw [adv_h];exact h6) g.adv n4 (by omega) (fun e=>by rw [e] at hxl;simp at hxl;omega) fun s'=>hok xs s' he
 | succ m ihm =>
  intro i xs x s hi hxl fr h4 h6 g n4 n6 he;show ES Q (zC Q (m+1)) _ _ _ _ _ s;have c1:decide ((i:Int) < (n.a.length:Int))=true:=by simp;omega
  obtain ⟨q,hq⟩:∃ q,n.a[i]?=some q:=⟨_,m004 (by omega)⟩;obtain ⟨q1,q2⟩:=ha q (m017 hq);have hixa:=bP jT false (l:=n.a) hq .i64;rw [cK n.a i q hq] at he;simp only [KB] at he;have l4:=fr.lt h4;have l6:=fr.lt h6;have hz:(AV.agg [.bool false,.int .i64 0,.str [],.int .i64 0,.int .i64 0,.nils]).cells=[.bool false,.int .i64 0,.str [],.int .i64 0,.int .i64 0,.nils]:=rfl;simp only [ES,h6,QC,dX,m002,c1,hixa,RJ,wx,wy,Z0,Z1,reduceCtorEq];refine aM (ih q q1 q2) (by simp [AV.closed,eO]) ?_
  cases hy:wG B f q with
  | none =>rw [hy] at he;have x0:aQ (tlR none) 0=some bR.av:=rfl;have x1:aQ (tlR none) 1=some (.bool false):=rfl;simp only [x0,x1,jV,wx,wy,Z0,Z1,reduceCtorEq];rw [qA];simp only [wx,wy,Z0,Z1,reduceCtorEq];refine aXm ?_ _ fun s'=>hno he s';rw [adv_h,aF (by omega)];exact h4
  | some y =>
   rw [hy,Option.bind_some] at he;have x0:aQ (tlR (some y)) 0=some y.av:=rfl;have x1:aQ (tlR (some y)) 1=some (.bool true):=rfl;have hb:fZ 31 1 [(0,y.av)]=some (.sl true [y.av]):=eW nB (by decide) (eA y) (dD y);simp only [x0,x1,jV,wx,wy,Z0,Z1,reduceCtorEq];rw [qA];obtain ⟨S,hS⟩:∃ S,S=Ai.adv (s.set (s.nx+15) (some (.cells y.av.cells 33 true true))) 18:=⟨_,rfl⟩;rw [<- hS];have nS:S.nx=s.nx+18:=by rw [hS];rfl
   have kS:∀ j,j < s.nx->S.h j=s.h j:=fun j hj=>by rw [hS,adv_h,aF (by omega)]
   have bS:S.h (s.nx+15)=some (.cells y.av.cells 33 true true):=by rw [hS,adv_h,aG]
   have fS:aK S:=fun j hj=>by rw [hS,adv_h,aF (by omega)];exact fr j (by omega)
   have gl:=g.id_lt fr;have gS:Gw 33 6 0 S x (xs.map Sx.av):=g.keep fun j hj=>kS j (gl j hj);have happ:=hI nB mY (gS.adv (n:=7)) (a:=y) (by omega) (by omega) true (S.nx+5);simp only [bS,dR,hb,happ,aKd,wx,wy,Z0,Z1,reduceCtorEq];rw [cF i n.a.length (by omega) (by have:maxLen=9223372036854775807:=rfl;omega)];have nd:∀ j,j < s.nx->j ∉ aS x->∀ k,(Ai.adv ((S.drop (aS x)).set (S.nx+5) (some (.cells (((xs++[y]).map Sx.av).flatMap AV.cells) 33 false true))) k).h j=s.h j:=fun j hj hn k=>by rw [adv_h,aF (by omega),get_drop',if_neg hn];exact kS j hj
   refine ihm (i+1) (xs++[y]) _ _ (by omega) (by rw [m006,List.length_singleton,hxl]) ?_ (by rw [nd p4 l4 n4];exact h4) (by rw [nd p6 l6 n6];exact h6) (mH mY) (by simp only [aS,m008];omega) (by simp only [aS,m008];omega) ?_
   ·exact jH fS _ _ (by omega)
   ·rw [he,Option.map_map];congr 1;funext l;simp
theorem c90 (hX:BX B):∀ (f:Nat) (id:Int),jN B id->id < (f:Int)->aU mEv 90 [bZ B,.int .i64 id] (tlR (wG B f id)):=by
 intro f
 induction f with
 | zero=>intro id h h1;exact absurd h.1 (by omega)
 | succ f ih =>
  intro id hi hid;obtain ⟨n,hn,hg,hs,ha⟩:=hX.get hi;have hal:=hg.al;have hix:=wZ hn;have hz1:(AV.agg [.int .i64 0,.int .i64 0,.nils,.str [],.bool false,.nils,.nils]).cells=[.int .i64 0,.int .i64 0,.nils,.str [],.bool false,.nils,.nils]:=rfl;have e:wG B (f+1) id=bif decide (n.op<=5) then gT n else (KB (wG B f) n.a).map (jP (yG n.op)):=by simp only [wG,hn]
  have ok:∀ (x:Sx) (s:St),cU (tlR (some x)) (.tup [x.av,.bool true]) s:=fun x s=>aI (by show (AV.tup [x.av,.bool true]).closed=true;simp only [AV.closed,aW,cZ,gA]);have no:∀ s:St,cU (tlR none) (.tup [bV,.bool false]) s:=fun s=>IF rfl s;refine bC (aQz _ _ _ ?_);rw [e];unfold f90;simp only [jV,hix,rG,HO,hz1,wx,wy,Z0,Z1,reduceCtorEq];rw [bJ (z:=7) (c:=[.int .i64 0,.int .i64 0,.nils,.str [],.bool false,.nils,.nils]) (e:=101) (ex:=true) (v:=n.av) (by rw [adv_h,aG]) rfl rfl rfl];simp only [Bnd_some];obtain ⟨S,hS⟩:∃ S,S=(Ai.adv ((St.empty.set St.empty.nx (some (.cells (AV.agg [.bool false,.int .i64 0,.str [],.int .i64 0,.int .i64 0,.nils]).cells 33 true true))).set (St.empty.nx+6) (some (.cells [.int .i64 0,.int .i64 0,.nils,.str [],.bool false,.nils,.nils] 101 true true))) 8).set (St.empty.nx+6) (some (.cells n.av.cells 101 true true)):=⟨_,rfl⟩;rw [<- hS];have h6:S.h (St.empty.nx+6)=some (.cells n.av.cells 101 true true):=by rw [hS,aG]
  have h4:S.h St.empty.nx=some (.cells bV.cells 33 true true):=by rw [hS,aF (by omega),adv_h,aF (by omega),aG];rfl
  have fS:aK S:=fun j hj=>by
   have hj:St.empty.nx+8<=j:=by rw [hS] at hj;exact hj
   rw [hS,aF (by omega),adv_h,aF (by omega),aF (by omega)];exact bU j (by omega)
  simp only [h6,nd0,wx,wy,Z0,Z1,reduceCtorEq];have hk:=hs.k
  cases h1:(n.op==1) with
  | true =>
   have o:n.op=1:=by simpa using h1
   have el:gT n=some (kX 3 n.nm):=by simp only [gT,h1,cond_true]
   rw [el,decide_eq_true (show n.op<=5 by omega),cond_true];simp only [h1,h6,nd3,wx,wy,Z0,Z1,reduceCtorEq];refine aM (c62 3 n.nm) (by simp [AV.closed]) ?_;exact qN (by rw [adv_h];exact h4) _ _ fun s'=>ok _ s'
  | false =>
  cases h2:(n.op==2) with
  | true =>
   have o:n.op=2:=by simpa using h2
   have el:gT n=some (kX 3 LR):=by simp only [gT,h1,h2,cond_true,cond_false]
   rw [el,decide_eq_true (show n.op<=5 by omega),cond_true];simp only [h1,h2,wx,wy,Z0,Z1,reduceCtorEq];refine aM (c62 3 LR) (by simp [AV.closed]) ?_;exact qN (by rw [adv_h];exact h4) _ _ fun s'=>ok _ s'
  | false =>
  cases h3:(n.op==3) with
  | true =>
   have o:n.op=3:=by simpa using h3
   have el:gT n=some (kX 3 EK):=by simp only [gT,h1,h2,h3,cond_true,cond_false]
   rw [el,decide_eq_true (show n.op<=5 by omega),cond_true];simp only [h1,h2,h3,wx,wy,Z0,Z1,reduceCtorEq];refine aM (c62 3 EK) (by simp [AV.closed]) ?_;exact qN (by rw [adv_h];exact h4) _ _ fun s'=>ok _ s'
  | false =>
  cases h4':(n.op==4) with
  | true =>
   have o:n.op=4:=by simpa using h4'
   have el:gT n=some (kX 4 (iJ n.num)):=by simp only [gT,h1,h2,h3,h4',cond_true,cond_false]
   rw [el,decide_eq_true (show n.op<=5 by omega),cond_true];simp only [h1,h2,h3,h4',h6,nd5,wx,wy,Z0,Z1,reduceCtorEq];refine aM (c63 n.num hg.num hg.nl) (by simp [cR]) ?_;rw [<- pH n.num hg.num];refine aM (c62 4 (iJ n.num)) (by simp [AV.closed]) ?_;exact qN (by rw [adv_h];exact h4) _ _ fun s'=>ok _ s'
  | false =>
  cases h5:(n.op==5) with
  | true =>
   have o:n.op=5:=by simpa using h5
   have el:gT n=EM n.str:=by simp only [gT,h1,h2,h3,h4',cond_false]
   rw [el,decide_eq_true (show n.op<=5 by omega),cond_true];simp only [h1,h2,h3,h4',h5,h6,nd6,wx,wy,Z0,Z1,reduceCtorEq];refine aM (bLb n.str hg.str hg.sl) (by simp [fH]) ?_
   cases EM n.str with
   | some x =>simp only [GP,HN,wx,wy,Z0,Z1,reduceCtorEq];exact qN (by rw [adv_h];exact h4) _ _ fun s'=>ok _ s'
   | none =>simp only [GP,HN,wx,wy,Z0,Z1,reduceCtorEq];exact qN (by rw [adv_h];exact h4) _ _ fun s'=>aI rfl
  | false =>
   have o:¬ n.op<=5:=by simp only [beq_eq_false_iff_ne] at h1 h2 h3 h4' h5;rcases hk with h | h<;>omega
   have hne:n.a≠[]:=by rcases hk with h | h;omega;exact h.2.2
   rw [decide_eq_false o,cond_false];simp only [h1,h2,h3,h4',h5,aHd,wx,wy,Z0,Z1,reduceCtorEq];refine ⟨n.a.length+1,l90 hX f ih (fun i hi=>⟨(ha i hi).1,by have:=(ha i hi).2;omega⟩) hal hne (fun l s' h=>?_) (fun h s'=>?_) n.a.length 0 [] .nils _ (by omega) rfl fS.adv (by rw [adv_h];exact h4) (by rw [adv_h];exact h6) fA (by simp [aS]) (by simp [aS]) (by simp)⟩
   ·rw [h];exact ok _ s'
   ·rw [h];exact no s'
end
end
noncomputable section
section
variable {s:St} {i:Nat} {B:Bk} {F:List Nat} {K:aC}
theorem bPs:mEv.fz 53=false:=by kernel_rfl
theorem bMr (fr:aK s) (hB:lG s i B F) {id:Int} {n:Nd} (hid:jN B id) (hn:iT B id=some n):RdW 53 [.ptr i 0,.int .i64 id] s (.tup [n.av,.bool true]):=by
 have hF:=hB.lt fr;have hi:=hF i hB.mem;refine aRa _ _ _ ?_;unfold f53;have hs:∀ u v:Int,bn .lss 3 (.int .i64 u) (.int .i64 v)=some (.bool (decide (u < v))):=fun _ _=>bin_lss;have hg:∀ u v:Int,bn .geq 3 (.int .i64 u) (.int .i64 v)=some (.bool (decide (u >= v))):=fun _ _=>bin_geq;have h1:decide (id < 0)=false:=decide_eq_false (by have:=hid.1;omega);have h2:decide (id >= (B.length:Int))=false:=decide_eq_false (by have:=hid.2;omega);have hz:(AV.agg [.int .i64 0,.int .i64 0,.nils,.str [],.bool false,.nils,.nils]).cells=[.int .i64 0,.int .i64 0,.nils,.str [],.bool false,.nils,.nils]:=rfl;have e0:∀ (C:Option mK) (k:Nat),0 < k->EF [] s (Ai.adv (s.set s.nx C) k):=fun C k hk=>⟨by simp only [adv_nx,set_nx];omega,fun y hy _=>by rw [adv_h,aF (by omega)],dP fr k (by omega)⟩;simp only [HO,hz,hs,h1,wx,wy,Z0,Z1,reduceCtorEq];refine TC (iP hB fr (e0 _ _ (by omega))) ?_;obtain ⟨xl,m,xn,⟨b1,b2,b3,b4,b5,b6,b7⟩,rfl⟩:=hB;obtain ⟨j,j1,j2,j3,j4⟩:=TH b4 hn;have hj:=fr.lt j1;have ni:¬ (i=s.nx):=by omega
 have nj:¬ (j=s.nx):=by omega
 simp only [hg,h2,wx,wy,Z0,Z1,reduceCtorEq];refine ⟨rfl,?_⟩;simp only [b1,ni,nj,j1,j2,j4,if_false,wx,wy,Z0,Z1,reduceCtorEq];refine aM (bGq n (b6 n (lR hn))) (by simp [iI]) ?_;rw [bJ (z:=7) (by rw [adv_h,aG]) rfl rfl rfl];simp only [adv_set,set_set,rG,wx,wy,Z0,Z1,reduceCtorEq];exact e0 _ _ (by omega)
end
end
noncomputable section
section
variable {B:Bk}
def zW (B:Bk) (f:Nat) (id deep left:Int):Option (Sx×Int) :=
 if (oJ B f id:Int)<=left/\(xB B f id:Int)<=deep then (wG B f id).map fun x=>(x,left - oJ B f id) else none
def teL (B:Bk) (f:Nat) (a:List Int) (deep left:Int):Option (List Sx×Int) :=
 if (tZ (oJ B f) a:Int)<=left/\(tC (xB B f) a:Int)<=deep then (KB (wG B f) a).map fun x=>(x,left - tZ (oJ B f) a) else none
theorem aMw (f:Nat) (q:Int) (a:List Int) (deep left:Int) (hd:0<=deep):teL B f (q::a) deep left=(zW B f q (deep - 1) left).bind fun r=>(teL B f a deep r.2).map fun k=>(r.1::k.1,k.2):=by
 have hz:tZ (oJ B f) (q::a)=oJ B f q+tZ (oJ B f) a:=rfl;have hdp:tC (xB B f) (q::a)=max (xB B f q+1) (tC (xB B f) a):=rfl;have ht:KB (wG B f) (q::a)=(wG B f q).bind fun x=>(KB (wG B f) a).map (x::·):=rfl;simp only [teL,zW];rw [ht];by_cases h1:(oJ B f q:Int)<=left/\(xB B f q:Int)<=deep - 1
 ·rw [if_pos h1]
  cases hq:wG B f q with
  | none =>
   simp only [Option.bind_none,Option.map_none];by_cases h3:(tZ (oJ B f) (q::a):Int)<=left/\(tC (xB B f) (q::a):Int)<=deep
   ·rw [if_pos h3]
   ·rw [if_neg h3]
  | some y =>
   simp only [Option.map_some,Option.bind_some];by_cases h2:(tZ (oJ B f) a:Int)<=left - oJ B f q/\(tC (xB B f) a:Int)<=deep
   ·rw [if_pos h2,if_pos (by rw [hz,hdp];omega)]
    cases KB (wG B f) a with
    | none=>rfl
    | some l =>simp only [Option.map_some,m000,m001,true_and,hz];omega
   ·rw [if_neg h2,if_neg (by rw [hz,hdp];omega)];rfl
 ·rw [if_neg h1,if_neg (by rw [hz,hdp];omega)];rfl
theorem aTt (f:Nat) (deep left:Int) (hd:0<=deep) (hl:0<=left):teL B f [] deep left=some ([],left):=by unfold teL;rw [if_pos ⟨show ((0:Nat):Int)<=left by omega,show ((0:Nat):Int)<=deep by omega⟩];show some (([]:List Sx),left - ((0:Nat):Int))=_;simp
theorem aCw {f:Nat} {id deep left l:Int} {y:Sx} (h:zW B f id deep left=some (y,l)):0<=l/\l<=left:=by
 unfold zW at h;by_cases hc:(oJ B f id:Int)<=left/\(xB B f id:Int)<=deep
 ·rw [if_pos hc] at h;obtain ⟨x,_,h2⟩:=m022.1 h;simp only [m001] at h2;omega
 ·rw [if_neg hc] at h;cases h
def TeQ (s0:St) (p b:Nat) (o:Option (Sx×Int)) (r:AV) (s':St):Prop :=
 ∃ w ids,pur mEv.P s' 12 r=some (w,ids)/\(∀ j∈ids,s0.nx<=j)/\EF [p] s0 s'/\∃ left:Int,s'.h p=some (.cells [.ptr b 0,.int .i64 left] 139 true true)/\(-3<=left/\left<=2000)/\match o with
  | some (x,l)=>w=.tup [x.av,.int .i64 0]/\left=l
  | none=>w=.tup [bR.av,.int .i64 2]
theorem bMs:mEv.fz 87=true:=by kernel_rfl
theorem bNl:mEv.se 87=[]:=by kernel_rfl
theorem bGy:mEv.fz 57=false:=by kernel_rfl
theorem TeQ.call {s:St} {p b:Nat} {o:Option (Sx×Int)} {args:List AV} {K:aC} (hp:p < s.nx) (h:∃ r s',WideC mEv 87 args s r s'/\TeQ s p b o r s')
  (hk:∀ w s' left,EF [p] s s'->s'.h p=some (.cells [.ptr b 0,.int .i64 left] 139 true true)->(-3<=left/\left<=2000)->(match o with
   | some (x,l)=>w=.tup [x.av,.int .i64 0]/\left=l
   | none=>w=.tup [bR.av,.int .i64 2])->K w s'):aY mEv 87 args s K:=by
 obtain ⟨r,s',h1,w,ids,h2,h3,h4,left,h5,h6,h7⟩:=h;refine TZ bMs bNl ⟨r,s',h1,?_⟩;rw [h2,Bnd_some];refine hk w _ left (h4.drop fun i hi=>.inl (h3 i hi)) ?_ h6 h7;rw [get_drop',if_neg (fun hm=>by have:=h3 p hm;omega)];exact h5
theorem bGp {s0 S:St} {p b i:Nat} {left:Int} (e:EF [p] s0 S) (hi:s0.nx<=i) (hin:i < S.nx) (hpi:p < s0.nx) (h:S.h i=some (.cells bV.cells 33 true true)) (hp:S.h p=some (.cells [.ptr b 0,.int .i64 left] 139 true true)) (hl:-3<=left/\left<=2000) (x:Sx) {Q:aC} (hq:∀ r s',TeQ s0 p b (some (x,left)) r s'->Q r s'):aA (bQ 6 (.ptr i 0) x.av S) fun s3=>bT ((bW [ld 6 true (.ptr i 0) s3,some (.int .i64 0)]).map bY) fun u=>Q u s3:=by rw [bJ (z:=6) h rfl (eA x) (dD x),Bnd_some];simp only [ld_ptr,aG,dR,resC_some,resC_nil,map_some',tupV_two,retP_some];refine hq _ _ ⟨_,[],bE 12 (by simp only [AV.closed,aW,cZ,gA]),fun j hj=>(by cases hj),e.set hin (.inl hi),left,?_,hl,rfl,rfl⟩;rw [aF (by omega)];exact hp
theorem aZk {s0 S:St} {p b i:Nat} {left:Int} (e:EF [p] s0 S) (hi:s0.nx<=i) (hin:i < S.nx) (hpi:p < s0.nx) (h:S.h i=some (.cells bV.cells 33 true true)) (hp:S.h p=some (.cells [.ptr b 0,.int .i64 left] 139 true true)) (hl:-3<=left/\left<=2000) {Q:aC} (hq:∀ r s',TeQ s0 p b none r s'->Q r s'):aA (eE 33 []) fun t=>aA (bQ 6 (.ptr i 0) t S) fun s3=>bT ((bW [ld 6 true (.ptr i 0) s3,some (.int .i64 2)]).map bY) fun u=>Q u s3:=by rw [aMa,Bnd_some,bJ (z:=6) h rfl rfl rfl,Bnd_some];simp only [ld_ptr,aG,vS,resC_some,resC_nil,map_some',tupV_two,retP_some];refine hq _ _ ⟨_,[],rA rfl (EN 9 _) rfl,fun j hj=>(by cases hj),e.set hin (.inl hi),left,?_,hl,rfl⟩;rw [aF (by omega)];exact hp
theorem l87 (hX:BX B) (f:Nat) {p b:Nat} {F:List Nat}
  (ih:∀ (id deep left:Int) (s:St),jN B id->id < (f:Int)->0<=deep->deep<=64->0<=left->left<=2000->aK s->lG s b B F->p ∉ F->s.h p=some (.cells [.ptr b 0,.int .i64 left] 139 true true)->∃ r s',WideC mEv 87 [.ptr p 0,.int .i64 id,.int .i64 deep] s r s'/\TeQ s p b (zW B f id deep left) r s')
  {n:Nd} (ha:∀ i∈n.a,jN B i/\i < (f:Int)) (hal:n.a.length<=200) {p6 p10:Nat} {deep:Int} (hd0:1<=deep) (hd1:deep<=64) {nm:List UInt8} {s0:St} (hpF:p ∉ F) (hp0:p < s0.nx) (h60:s0.nx<=p6) (h100:s0.nx<=p10) (hne:p6≠p10) (hF0:∀ j∈F,j < s0.nx) {Q:aC} {o:Option (Sx×Int)} (hQ:∀ r s',TeQ s0 p b o r s'->Q r s') :
  ∀ (m i:Nat) (xs:List Sx) (x:AV) (left:Int) (s:St),i+m=n.a.length->xs.length=i->EF [p] s0 s->lG s b B F->0<=left->left<=2000->s.h p=some (.cells [.ptr b 0,.int .i64 left] 139 true true)->s.h p6=some (.cells bV.cells 33 true true)->s.h p10=some (.cells [.bool true,.int .i64 0,.str [],.int .i64 0,.int .i64 0,x] 33 true true)->Gw 33 6 0 s x ((kX 3 nm::xs).map Sx.av)->(∀ j∈aS x,s0.nx<=j/\j≠p6/\j≠p10) ->
   o=((teL B f (n.a.drop i) deep left).map fun q=>(jP nm (xs++q.1),q.2))->zG Q (m+1) (.ptr p 0) (.int .i64 deep) (.ptr p6 0) (.ptr p10 0) (.sl false (n.a.map dH)) (.int .i64 n.a.length) (.int .i64 i) s:=by
 intro m
 induction m with
 | zero =>
  intro i xs x left s hi hxl e hB hl0 hl1 hp h6 h10 g hx ho;show BB Q (zG Q 0) _ _ _ _ _ _ _ s;have c1:decide ((i:Int) < (n.a.length:Int))=false:=by simp;omega
  rw [m037 (by omega)] at ho;have ho:o=some (jP nm xs,left):=by rw [ho,aTt f deep left (by omega) hl0];simp
  obtain ⟨i0,rfl⟩:∃ i0,x=.ref i0 0 (xs.length+1) none 33:=by
   obtain ⟨_,⟨_,h⟩ | ⟨i,_,h,_⟩⟩:=g
   ·simp at h
   ·exact ⟨i,by simpa using h⟩
  have fr:=e.fr;have l6:=fr.lt h6;have l10:=fr.lt h10;have part:Ai.part 6 true 0 [.bool true,.int .i64 0,.str [],.int .i64 0,.int .i64 0,.ref i0 0 (xs.length+1) none 33]=some (sX i0 (xs.length+1)):=rfl;have part2:Ai.part 6 true 0 (sX i0 (xs.length+1)).cells=some (sX i0 (xs.length+1)):=rfl;simp only [BB,OP,c1,h10,part,wx,wy,Z0,Z1,reduceCtorEq];rw [bJ (z:=6) (by rw [adv_h];exact h6) rfl rfl rfl];simp only [part2,wx,wy,Z0,Z1,reduceCtorEq];have hi0:=hx i0 (by simp [aS]);have g':Gw 33 6 0 ((Ai.adv s 4).set p6 (some (.cells (sX i0 (xs.length+1)).cells 33 true true))) (.ref i0 0 (xs.length+1) none 33) ((kX 3 nm::xs).map Sx.av):=g.adv.keep fun j hj=>aF (by simp only [aS,m008] at hj;subst hj;exact hi0.2.1);refine hQ _ _ ⟨_,[i0],rA rfl (CX g' 9) rfl,fun j hj=>?_,(e.adv (n:=4)).set (by simp only [adv_nx];omega) (.inl h60),left,?_,by omega,?_⟩
  ·simp only [m008] at hj;subst hj;exact hi0.1
  ·rw [adv_h,aF (by omega)];exact hp
  ·rw [ho];exact ⟨rfl,rfl⟩
 | succ m ihm =>
  intro i xs x left s hi hxl e hB hl0 hl1 hp h6 h10 g hx ho;show BB Q (zG Q (m+1)) _ _ _ _ _ _ _ s;have c1:decide ((i:Int) < (n.a.length:Int))=true:=by simp;omega
  obtain ⟨q,hq⟩:∃ q,n.a[i]?=some q:=⟨_,m004 (by omega)⟩;obtain ⟨q1,q2⟩:=ha q (m017 hq);have hixa:=bP jT false (l:=n.a) hq .i64;have fr:=e.fr;have l6:=fr.lt h6;have l10:=fr.lt h10;have nx0:=e.nx;rw [cK n.a i q hq,aMw _ _ _ _ _ (by omega)] at ho;have hsub:IntKind.i64.wrap (deep - 1)=deep - 1:=IntWalk.i64_in _ (by omega);simp only [BB,c1,hixa,RJ,hsub,wx,wy,Z0,Z1,reduceCtorEq];refine TeQ.call (by simp only [adv_nx];omega) (ih q (deep - 1) left (Ai.adv s 15) q1 q2 (by omega) (by omega) hl0 hl1 fr.adv hB.adv hpF hp) fun w s1 left1 e1 hp1 hb1 hw=>?_;have n1:=e1.nx;simp only [adv_nx] at n1;have k1:∀ j,j < s.nx->j≠p->s1.h j=s.h j:=fun j hj hne=>by rw [e1.h j (by simp only [adv_nx];omega) (by simpa using hne),adv_h]
  have es1:EF [p] s s1:=⟨by omega,fun j hj hn=>by rw [k1 j hj (by simpa using hn)],e1.fr⟩;have e01:EF [p] s0 s1:=e.trans es1 fun j hj=>.inr hj;have h61:s1.h p6=some (.cells bV.cells 33 true true):=by rw [k1 p6 l6 (by omega)];exact h6
  have h101:s1.h p10=some (.cells [.bool true,.int .i64 0,.str [],.int .i64 0,.int .i64 0,x] 33 true true):=by rw [k1 p10 l10 (by omega)];exact h10
  have gl:=g.id_lt fr;have g1:Gw 33 6 0 s1 x ((kX 3 nm::xs).map Sx.av):=g.keep fun j hj=>k1 j (gl j hj) (by have:=(hx j hj).1;omega);have hB1:lG s1 b B F:=hB.keep fun j hj=>k1 j (by have:=hF0 j hj;omega) (fun hh=>hpF (hh ▸ hj));have hz:(AV.agg [.bool false,.int .i64 0,.str [],.int .i64 0,.int .i64 0,.nils]).cells=bV.cells:=rfl
  cases hr:zW B f q (deep - 1) left with
  | none =>
   rw [hr] at ho hw;have ho:o=none:=ho;have hw:w=.tup [bR.av,.int .i64 2]:=hw;subst hw;have k2:((2:Int) != 0)=true:=rfl;simp only [GP,HN,jV,wx,wy,Z0,Z1,reduceCtorEq];rw [zX];simp only [GE,k2,wx,wy,Z0,Z1,reduceCtorEq];refine aZk (s0:=s0) (left:=left1) ((e01.set (i:=s.nx+12) (by omega) (.inl (by omega))).adv) h60 (by simp only [adv_nx,set_nx];omega) hp0 ?_ ?_ hb1 fun r s' h=>hQ r s' (by rw [ho];exact h)
   ·rw [adv_h,aF (by omega)];exact h61
   ·rw [adv_h,aF (by omega)];exact hp1
  | some yl =>
   obtain ⟨y,l⟩:=yl;rw [hr] at ho hw;obtain ⟨hw,rfl⟩:w=.tup [y.av,.int .i64 0]/\left1=l:=hw;subst hw;obtain ⟨b1,b2⟩:=aCw hr;have k2:((0:Int) != 0)=false:=rfl;have hb:fZ 31 1 [(0,y.av)]=some (.sl true [y.av]):=eW nB (by decide) (eA y) (dD y);simp only [GP,HN,jV,wx,wy,Z0,Z1,reduceCtorEq];rw [zX];obtain ⟨S,hS⟩:∃ S,S=s1.set (s.nx+12) (some (.cells y.av.cells 33 true true)):=⟨_,rfl⟩;rw [<- hS];have nS:S.nx=s1.nx:=by rw [hS];rfl
   have kS:∀ j,j≠s.nx+12->S.h j=s1.h j:=fun j hj=>by rw [hS,aF hj]
   have bS:S.h (s.nx+12)=some (.cells y.av.cells 33 true true):=by rw [hS,aG]
   have eS:EF [p] s0 S:=by rw [hS];exact e01.set (by omega) (.inl (by omega))
   have h10S:S.h p10=some (.cells [.bool true,.int .i64 0,.str [],.int .i64 0,.int .i64 0,x] 33 true true):=by rw [kS p10 (by omega)];exact h101
   have gS:Gw 33 6 0 S x ((kX 3 nm::xs).map Sx.av):=g1.keep fun j hj=>kS j (by have:=gl j hj;omega);have happ:=hI nB mY (gS.adv (n:=9)) (a:=y) (by simp;omega) (by simp;omega) true (S.nx+6);simp only [GE,k2,h10S,bS,dR,hb,happ,List.getElem?_cons_succ,List.getElem?_cons_zero,wx,wy,Z0,Z1,reduceCtorEq];have nx10:p10 ∉ aS x:=fun hm=>(hx p10 hm).2.2 rfl;have nx6:p6 ∉ aS x:=fun hm=>(hx p6 hm).2.1 rfl;have nxp:p ∉ aS x:=fun hm=>by have:=(hx p hm).1;omega
   rw [nJ (c:=[.bool true,.int .i64 0,.str [],.int .i64 0,.int .i64 0,x]) (e:=33) (ex:=true) (by rw [adv_h,aF (by omega),get_drop',if_neg nx10];exact h10S) (by simp) rfl rfl];simp only [Bnd_some,aGs,wx,wy,Z0,Z1,reduceCtorEq];rw [cF i n.a.length (by omega) (by have:maxLen=9223372036854775807:=rfl;omega)];obtain ⟨T,hT⟩:∃ T,T=Ai.adv (((S.drop (aS x)).set (S.nx+6) (some (.cells (((kX 3 nm::xs++[y]).map Sx.av).flatMap AV.cells) 33 false true))).set p10 (some (.cells [.bool true,.int .i64 0,.str [],.int .i64 0,.int .i64 0,.ref (S.nx+6) 0 ((kX 3 nm::xs).length+1) none 33] 33 true true))) 11:=⟨_,rfl⟩;have hcell:[AV.bool true,.int .i64 0,.str [],.int .i64 0,.int .i64 0,x].set 5 (.ref (S.nx+6) 0 ((kX 3 nm::xs).length+1) none 33)=[.bool true,.int .i64 0,.str [],.int .i64 0,.int .i64 0,.ref (S.nx+6) 0 ((kX 3 nm::xs).length+1) none 33]:=rfl;rw [hcell,<- hT];have nT:T.nx=S.nx+11:=by rw [hT];show (S.drop (aS x)).nx+11=_;rw [nx_drop]
   have kT:∀ j,j≠S.nx+6->j≠p10->j ∉ aS x->T.h j=S.h j:=fun j a b c=>by rw [hT,adv_h,aF b,aF a,get_drop',if_neg c]
   have fT:aK T:=fun j hj=>by
    rw [hT,adv_h,aF (by omega),aF (by omega),get_drop']
    split
    ·rfl
    ·exact eS.fr j (by omega)
   have eT:EF [p] s0 T:=⟨by have:=eS.nx;omega,fun j hj hn=>by rw [kT j (by have:=eS.nx;omega) (by omega) (fun hm=>by have:=(hx j hm).1;omega)];exact eS.h j hj hn,fT⟩;refine ihm (i+1) (xs++[y]) _ left1 T (by omega) (by rw [m006,List.length_singleton,hxl]) eT (hB1.keep fun j hj=>?_) b1 (by omega) (by rw [kT p (by omega) (by omega) nxp,kS p (by omega)];exact hp1) (by rw [kT p6 (by omega) hne nx6,kS p6 (by omega)];exact h61) (by rw [hT,adv_h,aG]) ?_ (fun j hj=>?_) ?_
   ·have:=hF0 j hj;rw [kT j (by omega) (by omega) (fun hm=>by have:=(hx j hm).1;omega),kS j (by omega)]
   ·refine ⟨lE mY.len mY.ones _,.inr ⟨S.nx+6,hO _,by simp,?_⟩⟩;rw [hT,adv_h,aF (by omega),aG];rfl
   ·simp only [aS,m008] at hj;subst hj;have:=eS.nx;exact ⟨by omega,by omega,by omega⟩
   ·rw [ho];simp only [Option.bind_some,Option.map_map];congr 1;funext k;simp
theorem bOb {neg:Bool} (a:List Nat) (hl:dB a) (ha:a.length<=2 ^ 20) (hm:(eQ neg a).1=false):aU mEv 142 [oY neg a] (.str (iJ a)):=by
 refine bI rfl (aOj _ _ ?_);unfold f142;refine ⟨rfl,?_⟩;simp only [kP,wx,wy,Z0,Z1,reduceCtorEq];refine aM (c69 neg a (by omega)) (by simp [dA]) ?_;have ht:iJ (eQ neg a).2=iJ a:=by show iJ (aV a)=iJ a;rw [pH _ (cO hl),pH _ hl,gM]
 rw [hm,aIb];simp only [wz0,wz1,wx,wy,Z0,Z1,reduceCtorEq];refine aM (c59 (eQ neg a).2 (cO hl) (by have:=lY a;show (aV a).length<=2 ^ 30;omega)) (by simp [cR]) ?_;rw [ht]
theorem gl0:gl 0=.pel (nmL.map AV.str) 0:=by kernel_rfl
theorem bGf {op:Int} (h0:0<=op) (h1:op < 31):FD 31 1 (gl 0) (.int .i64 op)=some (.pel (nmL.map AV.str) op.toNat)/\(nmL.map AV.str)[op.toNat]?=some (.str (yG op)):=by
 have hl:nmL.length=31:=rfl;have e:yG op=nmN op.toNat:=by simp only [yG,decide_eq_true h0,decide_eq_true h1,gA,cond_true]
 refine ⟨?_,?_⟩
 ·rw [gl0];simp [FD,pF,zK,aD,h0,h1]
 ·rw [e,m047];unfold nmN;rw [List.getD_eq_getElem?_getD,m004 (by omega)];rfl
theorem TG {f:Nat} {id deep left:Int} {n:Nd} (hn:iT B id=some n) (ha:n.a=[]) (ho:n.op<=5) (hd:0<=deep):zW B (f+1) id deep left=if 1<=left then (gT n).map fun x=>(x,left - 1) else none:=by
 have hz:oJ B (f+1) id=1:=by simp only [oJ,hn,ha,if_true,tZ]
 have hdp:xB B (f+1) id=0:=by simp only [xB,hn,ha,tC]
 have ht:wG B (f+1) id=gT n:=by simp only [wG,hn,decide_eq_true ho,cond_true]
 unfold zW;rw [ht,hz,hdp];by_cases h:1<=left
 ·rw [if_pos h,if_pos ⟨by omega,by omega⟩];rfl
 ·rw [if_neg h,if_neg (by omega)]
theorem aSa {f:Nat} {id deep left:Int} {n:Nd} (hn:iT B id=some n) (ha:n.a≠[]) (ho:¬ n.op<=5):zW B (f+1) id deep left=if 2<=left/\1<=deep then (teL B f n.a deep (left - 2)).map fun q=>(jP (yG n.op) q.1,q.2) else none:=by
 have hz:oJ B (f+1) id=2+tZ (oJ B f) n.a:=by simp only [oJ,hn,if_neg ha]
 have hdp:xB B (f+1) id=tC (xB B f) n.a:=by simp only [xB,hn]
 have h1:1<=tC (xB B f) n.a:=by
  cases hq:n.a with
  | nil=>exact absurd hq ha
  | cons i a=>simp only [tC];omega
 have ht:wG B (f+1) id=(KB (wG B f) n.a).map (jP (yG n.op)):=by simp only [wG,hn,decide_eq_false ho,cond_false]
 unfold zW;rw [ht,hz,hdp];by_cases h:2<=left/\1<=deep
 ·rw [if_pos h];unfold teL;by_cases h2:(tZ (oJ B f) n.a:Int)<=left - 2/\(tC (xB B f) n.a:Int)<=deep
  ·rw [if_pos h2,if_pos ⟨by omega,by omega⟩,Option.map_map,Option.map_map];congr 1;funext l;simp only [Function.comp,m001,true_and];omega
  ·rw [if_neg h2,if_neg (by omega)];rfl
 ·rw [if_neg h,if_neg (by omega)]
theorem c87 (hX:BX B) {p b:Nat} {F:List Nat}:∀ (f:Nat) (id deep left:Int) (s:St),jN B id->id < (f:Int)->0<=deep->deep<=64->0<=left->left<=2000->aK s->lG s b B F->p ∉ F->s.h p=some (.cells [.ptr b 0,.int .i64 left] 139 true true)->∃ r s',WideC mEv 87 [.ptr p 0,.int .i64 id,.int .i64 deep] s r s'/\TeQ s p b (zW B f id deep left) r s':=by
 intro f
 induction f with
 | zero=>intro id deep left s h h1;exact absurd h.1 (by omega)
 | succ f ih =>
  intro id deep left s hi hid hd0 hd1 hl0 hl1 fr hB hpF hp;obtain ⟨n,hn,hg,hs,ha⟩:=hX.get hi;have hal:=hg.al;have lp:=fr.lt hp;have hF:=hB.lt fr;refine aSd _ _ _ _ (Q:=TeQ s p b (zW B (f+1) id deep left)) ?_;unfold f87;have hsub:IntKind.i64.wrap (left - 1)=left - 1:=IntWalk.i64_in _ (by omega);have hnx:¬ (p=s.nx):=by omega
  have hnil:dE (.ptr p 0)=true:=rfl;simp only [jV,hp,hnx,hnil,true_and,if_false,List.getElem?_cons_zero,wx,wy,Z0,Z1,reduceCtorEq];obtain ⟨S0,hS0⟩:∃ S0,S0=Ai.adv (s.set s.nx (some (.cells (AV.agg [.bool false,.int .i64 0,.str [],.int .i64 0,.int .i64 0,.nils]).cells 33 true true))) 14:=⟨_,rfl⟩;rw [<- hS0];have n0:S0.nx=s.nx+14:=by rw [hS0];rfl
  have k0:∀ j,j < s.nx->S0.h j=s.h j:=fun j hj=>by rw [hS0,adv_h,aF (by omega)]
  have b0:S0.h s.nx=some (.cells bV.cells 33 true true):=by rw [hS0,adv_h,aG];rfl
  have f0:aK S0:=fun j hj=>by rw [hS0,adv_h,aF (by omega)];exact fr j (by omega)
  refine (bMr f0 (hB.keep fun j hj=>k0 j (hF j hj)) hi hn).call bPs fun s1 e1=>?_;have n1:=e1.nx;have x0:aQ (.tup [n.av,.bool true]) 0=some n.av:=rfl;have x1:aQ (.tup [n.av,.bool true]) 1=some (.bool true):=rfl;have hz1:(AV.agg [.int .i64 0,.int .i64 0,.nils,.str [],.bool false,.nils,.nils]).cells=[.int .i64 0,.int .i64 0,.nils,.str [],.bool false,.nils,.nils]:=rfl;simp only [x0,x1,HO,hz1,Bnd_some];rw [bJ (id:=s.nx+11) (z:=7) (c:=[.int .i64 0,.int .i64 0,.nils,.str [],.bool false,.nils,.nils]) (e:=101) (ex:=true) (v:=n.av) aG rfl rfl rfl];simp only [Bnd_some];obtain ⟨S1,hS1⟩:∃ S1,S1=(s1.set (s.nx+11) (some (.cells [.int .i64 0,.int .i64 0,.nils,.str [],.bool false,.nils,.nils] 101 true true))).set (s.nx+11) (some (.cells n.av.cells 101 true true)):=⟨_,rfl⟩;rw [<- hS1];have nS1:S1.nx=s1.nx:=by rw [hS1];rfl
  have k1:∀ j,j < s.nx->S1.h j=s.h j:=fun j hj=>by rw [hS1,aF (by omega),aF (by omega),e1.h j (by omega) (by simp),k0 j hj]
  have p1:S1.h p=some (.cells [.ptr b 0,.int .i64 left] 139 true true):=by rw [k1 p lp];exact hp
  simp only [p1,List.getElem?_cons_succ,List.getElem?_cons_zero,hnil,true_and,hsub,wx,wy,Z0,Z1,reduceCtorEq];rw [nJ (c:=[.ptr b 0,.int .i64 left]) (e:=139) (ex:=true) (by rw [adv_h];exact p1) (by simp) rfl rfl];have hset:[AV.ptr b 0,.int .i64 left].set 1 (.int .i64 (left - 1))=[.ptr b 0,.int .i64 (left - 1)]:=rfl;rw [hset];simp only [Bnd_some];obtain ⟨S,hS⟩:∃ S,S=(Ai.adv S1 8).set p (some (.cells [.ptr b 0,.int .i64 (left - 1)] 139 true true)):=⟨_,rfl⟩;rw [<- hS];have nS:S.nx=s1.nx+8:=by rw [hS];show S1.nx+8=_;rw [nS1]
  have kS:∀ j,j < s.nx->j≠p->S.h j=s.h j:=fun j hj hne=>by rw [hS,aF hne,adv_h,k1 j hj]
  have pS:S.h p=some (.cells [.ptr b 0,.int .i64 (left - 1)] 139 true true):=by rw [hS,aG]
  have h4:S.h s.nx=some (.cells bV.cells 33 true true):=by rw [hS,aF (by omega),adv_h,hS1,aF (by omega),aF (by omega),e1.h _ (by omega) (by simp)];exact b0
  have h8:S.h (s.nx+11)=some (.cells n.av.cells 101 true true):=by rw [hS,aF (by omega),adv_h,hS1,aG]
  have fS:aK S:=fun j hj=>by rw [hS,aF (by omega),adv_h,hS1,aF (by omega),aF (by omega)];exact e1.fr j (by omega)
  have eS:EF [p] s S:=⟨by omega,fun j hj hn=>kS j hj (by simpa using hn),fS⟩;have BS:lG S b B F:=hB.keep fun j hj=>kS j (hF j hj) (fun hh=>hpF (hh ▸ hj));have c1:∀ c,c < 3->[AV.ptr b 0,.int .i64 (left - 1)][1]?=some (.int .i64 (left - 1)):=fun _ _=>rfl;simp only [pS,hnil,true_and,List.getElem?_cons_succ,List.getElem?_cons_zero,wx,wy,Z0,Z1,reduceCtorEq]
  cases hneg:decide (left - 1 < 0) with
  | true =>
   have hl:=of_decide_eq_true hneg
   have hnone:zW B (f+1) id deep left=none:=by
    have:1<=oJ B (f+1) id:=by simp only [oJ,hn];split<;>omega
    unfold zW;rw [if_neg (by omega)]
   simp only [hneg,wx,wy,Z0,Z1,reduceCtorEq];rw [hnone];exact aZk eS.adv (bH _) (by simp only [adv_nx];omega) lp (by rw [adv_h];exact h4) (by rw [adv_h];exact pS) (by omega) fun r s' h=>h
  | false =>
  have hl:=of_decide_eq_false hneg;have hk:=hs.k;simp only [hneg,h8,nd0,wx,wy,Z0,Z1,reduceCtorEq]
  have leaf:n.op<=5->∀ x,gT n=some x->∀ k,aA (bQ 6 (.ptr s.nx 0) x.av (Ai.adv S k)) fun s3=>bT ((bW [ld 6 true (.ptr s.nx 0) s3,some (.int .i64 0)]).map bY) fun u=>TeQ s p b (zW B (f+1) id deep left) u s3:=fun ho x hx k=>by
   have hna:n.a=[]:=by rcases hk with h | h;exact h.2.2;omega
   rw [TG hn hna ho hd0,if_pos (by omega),hx];exact bGp eS.adv (bH _) (by simp only [adv_nx];omega) lp (by rw [adv_h];exact h4) (by rw [adv_h];exact pS) (by omega) x fun r s' h=>h
  cases h1:(n.op==1) with
  | true =>
   have o:n.op=1:=by simpa using h1
   simp only [h1,h8,nd3,wx,wy,Z0,Z1,reduceCtorEq];refine aM (c56 n.nm) (by simp [AV.closed]) ?_;exact leaf (by omega) (kX 3 n.nm) (by simp only [gT,h1,cond_true]) _
  | false =>
  cases h2:(n.op==2) with
  | true =>
   have o:n.op=2:=by simpa using h2
   simp only [h1,h2,wx,wy,Z0,Z1,reduceCtorEq];refine aM (c56 LR) (by simp [AV.closed]) ?_;exact leaf (by omega) (kX 3 LR) (by simp only [gT,h1,h2,cond_true,cond_false]) _
  | false =>
  cases h3:(n.op==3) with
  | true =>
   have o:n.op=3:=by simpa using h3
   simp only [h1,h2,h3,wx,wy,Z0,Z1,reduceCtorEq];refine aM (c56 EK) (by simp [AV.closed]) ?_;exact leaf (by omega) (kX 3 EK) (by simp only [gT,h1,h2,h3,cond_true,cond_false]) _
  | false =>
  cases h4':(n.op==4) with
  | true =>
   have o:n.op=4:=by simpa using h4'
   simp only [h1,h2,h3,h4',h8,VE,wx,wy,Z0,Z1,reduceCtorEq];refine aM (bOb n.num hg.num hg.nl (by rw [hg.neg];rfl)) (by simp [dA]) ?_;refine aM (c58 4 (iJ n.num)) (by simp [AV.closed]) ?_;exact leaf (by omega) (kX 4 (iJ n.num)) (by simp only [gT,h1,h2,h3,h4',cond_true,cond_false]) _
  | false =>
  cases h5:(n.op==5) with
  | true =>
   have o:n.op=5:=by simpa using h5
   have hna:n.a=[]:=by rcases hk with h | h;exact h.2.2;omega
   have el:gT n=EM n.str:=by simp only [gT,h1,h2,h3,h4',cond_false]
   simp only [h1,h2,h3,h4',h5,h8,nd6,wx,wy,Z0,Z1,reduceCtorEq];refine aM (bLt n.str hg.str hg.sl) (by simp [fH]) ?_
   cases hlt:EM n.str with
   | some x =>simp only [GP,HN,wx,wy,Z0,Z1,reduceCtorEq];exact leaf (by omega) x (by rw [el];exact hlt) _
   | none =>simp only [GP,HN,wx,wy,Z0,Z1,reduceCtorEq];rw [TG hn hna (by omega) hd0,if_pos (by omega),el,hlt];rw [bJ (z:=6) (by rw [adv_h];exact h4) rfl (eA _) (dD _),Bnd_some];simp only [ld_ptr,aG,dR,resC_some,resC_nil,map_some',tupV_two,retP_some];refine ⟨_,[],bE 12 rfl,fun j hj=>(by cases hj),eS.adv.set (by simp only [adv_nx];omega) (.inl (bH _)),left - 1,?_,by omega,rfl⟩;rw [aF (by omega),adv_h];exact pS
  | false =>
   have o:¬ n.op<=5:=by simp only [beq_eq_false_iff_ne] at h1 h2 h3 h4' h5;rcases hk with h | h<;>omega
   have hne:n.a≠[]:=by rcases hk with h | h;omega;exact h.2.2
   have hrng:6<=n.op/\n.op < 31:=by rcases hk with h | h;omega;exact ⟨h.1,h.2.1⟩
   have hsub2:IntKind.i64.wrap (left - 1 - 1)=left - 2:=by rw [IntWalk.i64_in _ (by omega)];omega
   have hset2:[AV.ptr b 0,.int .i64 (left - 1)].set 1 (.int .i64 (left - 2))=[.ptr b 0,.int .i64 (left - 2)]:=rfl;have c11:[AV.ptr b 0,.int .i64 (left - 1)][1]?=some (.int .i64 (left - 1)):=rfl;simp only [h1,h2,h3,h4',h5,aJm,hnil,true_and,pS,c11,hsub2,wx,wy,Z0,Z1,reduceCtorEq];rw [nJ (c:=[.ptr b 0,.int .i64 (left - 1)]) (e:=139) (ex:=true) (by rw [adv_h];exact pS) (by simp) rfl rfl];rw [hset2];simp only [Bnd_some];obtain ⟨U,hU⟩:∃ U,U=(Ai.adv S 25).set p (some (.cells [.ptr b 0,.int .i64 (left - 2)] 139 true true)):=⟨_,rfl⟩;rw [<- hU];have nU:U.nx=s1.nx+33:=by rw [hU];show S.nx+25=_;omega
   have kU:∀ j,j≠p->U.h j=S.h j:=fun j hne=>by rw [hU,aF hne,adv_h]
   have pU:U.h p=some (.cells [.ptr b 0,.int .i64 (left - 2)] 139 true true):=by rw [hU,aG]
   have u4:U.h s.nx=some (.cells bV.cells 33 true true):=by rw [kU _ (by omega)];exact h4
   have u8:U.h (s.nx+11)=some (.cells n.av.cells 101 true true):=by rw [kU _ (by omega)];exact h8
   have eU:EF [p] s U:=by rw [hU];exact eS.adv.set (by simp only [adv_nx];omega) (.inr (by simp))
   have BU:lG U b B F:=BS.keep fun j hj=>kU j (fun hh=>hpF (hh ▸ hj));have c12:[AV.ptr b 0,.int .i64 (left - 2)][1]?=some (.int .i64 (left - 2)):=rfl;have tl:=aSa (B:=B) (f:=f) (id:=id) (deep:=deep) (left:=left) hn hne o;have wH:¬ (2<=left/\1<=deep)->∀ k,aA (eE 33 []) fun t79=>aA (bQ 6 (.ptr s.nx 0) t79 (Ai.adv U k)) fun s7=>bT ((bW [ld 6 true (.ptr s.nx 0) s7,some (.int .i64 2)]).map bY) fun v=>TeQ s p b (zW B (f+1) id deep left) v s7:=fun hc k=>by rw [if_neg hc] at tl;rw [tl];exact aZk eU.adv (bH _) (by simp only [adv_nx];omega) lp (by rw [adv_h];exact u4) (by rw [adv_h];exact pU) (by omega) fun r s' h=>h
   cases hd:(deep==0) with
   | true =>
    have hd:deep=0:=by simpa using hd
    subst hd;simp only [pU,c12,wx,wy,Z0,Z1,reduceCtorEq];exact wH (by omega) _
   | false =>
   have hd:deep≠0:=by simpa using hd
   cases hl2:decide (left - 2 < 0) with
   | true =>have hl2':=of_decide_eq_true hl2;simp only [pU,c12,hl2,wx,wy,Z0,Z1,reduceCtorEq];exact wH (by omega) _
   | false =>
   have hl2':=of_decide_eq_false hl2;rw [if_pos (by omega)] at tl;obtain ⟨g1,g2⟩:=bGf (op:=n.op) (by omega) hrng.2;simp only [pU,c12,hl2,u8,nd0,g1,g2,wx,wy,Z0,Z1,reduceCtorEq];refine kM bGy (VF _ _ _ (j57 (l:=[]) (by simp) eU.fr.adv (.inr ⟨rfl,rfl⟩) fun i s2 e2 hi2 g=>?_));have n2:=e2.nx;simp only [adv_nx] at n2 hi2;have k2:∀ j,j < U.nx->s2.h j=U.h j:=fun j hj=>by rw [e2.h j (by simp only [adv_nx];omega) (by simp),adv_h]
   simp only [jV,wx,wy,Z0,Z1,reduceCtorEq];rw [bJ (z:=6) (v:=sX i (([]:List Sx).length+1)) aG rfl rfl rfl];obtain ⟨V,hV⟩:∃ V,V=(s2.set (U.nx+14) (some (.cells (AV.agg [.bool false,.int .i64 0,.str [],.int .i64 0,.int .i64 0,.nils]).cells 33 true true))).set (U.nx+14) (some (.cells (sX i (([]:List Sx).length+1)).cells 33 true true)):=⟨_,rfl⟩;rw [<- hV];have nV:V.nx=s2.nx:=by rw [hV];rfl
   have kV:∀ j,j≠U.nx+14->V.h j=s2.h j:=fun j hj=>by rw [hV,aF hj,aF hj]
   have v8:V.h (s.nx+11)=some (.cells n.av.cells 101 true true):=by rw [kV _ (by omega),k2 _ (by omega)];exact u8
   have fV:aK V:=fun j hj=>by rw [kV j (by omega)];exact e2.fr j (by omega)
   have eV:EF [p] s V:=⟨by omega,fun j hj hn=>by rw [kV j (by omega),k2 j (by omega)];exact eU.h j hj hn,fV⟩;simp only [v8,QC,dX,m002,Bnd_some,wx,wy,Z0,Z1,reduceCtorEq];have hi14:i≠U.nx+14:=by omega
   refine ⟨n.a.length+1,l87 hX f ih (fun i hi=>⟨(ha i hi).1,by have:=(ha i hi).2;omega⟩) hal (by omega) hd1 (nm:=yG n.op) hpF lp (bH _) (by omega) (by omega) hF (fun r s' h=>h) n.a.length 0 [] (.ref i 0 1 none 33) (left - 2) _ (by omega) rfl eV.adv (BU.keep fun j hj=>?_) (by omega) (by omega) ?_ ?_ ?_ ?_ (fun j hj=>?_) ?_⟩
   ·rw [adv_h,kV j (by have:=hF j hj;omega),k2 j (by have:=hF j hj;omega)]
   ·rw [adv_h,kV p (by omega),k2 p (by omega)];exact pU
   ·rw [adv_h,kV _ (by omega),k2 _ (by omega)];exact u4
   ·rw [adv_h,hV,aG];rfl
   ·exact (g.keep fun j hj=>by
     simp only [aS,m008] at hj;subst hj
     rw [adv_h,kV _ hi14])
   ·simp only [aS,m008] at hj;subst hj;omega
   ·rw [tl];congr 1
def sI (B:Bk) (id:Int):Sx×Int :=
 if 0<=id/\id < (B.length:Int) then (match zW B (id.toNat+1) id 64 2000 with
  | some (x,_)=>(x,0)
  | none=>(bR,2)) else (bR,1)
theorem aVk:bR.ok=true:=by decide
theorem JF {id:Int} (h:¬ (0<=id/\id < (B.length:Int))):sI B id=(bR,1):=by unfold sI;rw [if_neg h]
theorem bPi:mEv.fz 39=true:=by kernel_rfl
theorem bPk:mEv.se 39=[]:=by kernel_rfl
theorem c39 (hX:BX B) {b:Nat} {F:List Nat} {s:St} (id:Int) (fr:aK s) (hB:lG s b B F) {K:aC} (hK:∀ s',EF [] s s'->K (.tup [(sI B id).1.av,.int .i64 (sI B id).2]) s'):aY mEv 39 [.ptr b 0,.int .i64 id] s K:=by
 have r:=aTp (.ptr b 0) (.int .i64 id) s (Q:=fun r s'=>∃ w ids,pur mEv.P s' 12 r=some (w,ids)/\(∀ j∈ids,s.nx<=j)/\EF [] s s'/\w=.tup [(sI B id).1.av,.int .i64 (sI B id).2]) (by
  have hF:=hB.lt fr;unfold f39;have zr1:∀ (S:St),EF [] s S->s.nx < S.nx->S.h s.nx=some (.cells bV.cells 33 true true)->sI B id=(bR,1)->aA (eE 33 []) fun t15=>aA (bQ 6 (.ptr s.nx 0) t15 S) fun s5=>bT ((bW [ld 6 true (.ptr s.nx 0) s5,some (.int .i64 1)]).map bY) fun v=>∃ w ids,pur mEv.P s5 12 v=some (w,ids)/\(∀ j∈ids,s.nx<=j)/\EF [] s s5/\w=.tup [(sI B id).1.av,.int .i64 (sI B id).2]:=fun S e hn h ht=>by rw [aMa,Bnd_some,bJ (z:=6) h rfl rfl rfl,Bnd_some,ht];simp only [ld_ptr,aG,vS,resC_some,resC_nil,map_some',tupV_two,retP_some];exact ⟨_,[],rA rfl (EN 9 _) rfl,fun j hj=>(by cases hj),e.set hn (.inl (bH _)),rfl⟩
  simp only [jV,wx,wy,Z0,Z1,reduceCtorEq];have e0:∀ k,0 < k->EF [] s (Ai.adv (s.set s.nx (some (.cells (AV.agg [.bool false,.int .i64 0,.str [],.int .i64 0,.int .i64 0,.nils]).cells 33 true true))) k):=fun k hk=>⟨by simp only [adv_nx,set_nx];omega,fun j hj _=>by rw [adv_h,aF (by omega)],dP fr _ (by omega)⟩
  cases h0:decide (id < 0) with
  | true =>have h0':=of_decide_eq_true h0;simp only [wx,wy,Z0,Z1,reduceCtorEq];exact zr1 _ (e0 _ (by omega)) (by simp only [adv_nx,set_nx];omega) (by rw [adv_h,aG];rfl) (JF (by omega))
  | false =>
  have h0':=of_decide_eq_false h0;simp only [wx,wy,Z0,Z1,reduceCtorEq];refine TC (hB.keep fun j hj=>by rw [adv_h,aF (by have:=hF j hj;omega)]) ?_
  cases h1:decide (id >= (B.length:Int)) with
  | true =>have h1':=of_decide_eq_true h1;simp only [h1,wx,wy,Z0,Z1,reduceCtorEq];exact zr1 _ (e0 _ (by omega)) (by simp only [adv_nx,set_nx];omega) (by rw [adv_h,aG];rfl) (JF (by omega))
  | false =>
  have h1':=of_decide_eq_false h1;have hi:jN B id:=⟨by omega,by omega⟩;have hb:eE 139 [(0,.ptr b 0),(1,.int .i64 2000)]=some (.agg [.ptr b 0,.int .i64 2000]):=by rw [bLo];rfl
  have hc:(AV.agg [.ptr b 0,.int .i64 2000]).cells=[.ptr b 0,.int .i64 2000]:=rfl;simp only [h1,hb,hc,wx,wy,Z0,Z1,reduceCtorEq];refine ⟨rfl,?_⟩;obtain ⟨S,hS⟩:∃ S,S=Ai.adv ((s.set s.nx (some (.cells (AV.agg [.bool false,.int .i64 0,.str [],.int .i64 0,.int .i64 0,.nils]).cells 33 true true))).set (s.nx+21) (some (.cells [.ptr b 0,.int .i64 2000] 139 true true))) 30:=⟨_,rfl⟩;rw [<- hS];have nS:S.nx=s.nx+30:=by rw [hS];rfl
  have kS:∀ j,j < s.nx->S.h j=s.h j:=fun j hj=>by rw [hS,adv_h,aF (by omega),aF (by omega)]
  have z0:S.h s.nx=some (.cells bV.cells 33 true true):=by rw [hS,adv_h,aF (by omega),aG];rfl
  have pS:S.h (s.nx+21)=some (.cells [.ptr b 0,.int .i64 2000] 139 true true):=by rw [hS,adv_h,aG]
  have fS:aK S:=fun j hj=>by rw [hS,adv_h,aF (by omega),aF (by omega)];exact fr j (by omega)
  have ht:sI B id=match zW B (id.toNat+1) id 64 2000 with
   | some (x,_)=>(x,0)
   | none=>(bR,2):=by unfold sI;rw [if_pos ⟨by omega,by omega⟩]
  refine TeQ.call (by omega) (c87 hX (F:=F) (id.toNat+1) id 64 2000 S hi (by omega) (by omega) (by omega) (by omega) (by omega) fS (hB.keep fun j hj=>kS j (hF j hj)) (fun hm=>by have:=hF _ hm;omega) pS) fun w s1 left e1 hp1 hb1 hw=>?_;have n1:=e1.nx;have es1:EF [] s s1:=⟨by omega,fun j hj _=>by rw [e1.h j (by omega) (by simp;omega),kS j hj],e1.fr⟩;have z1:s1.h s.nx=some (.cells bV.cells 33 true true):=by rw [e1.h _ (by omega) (by simp)];exact z0
  have fin:∀ (x:Sx) (k:Int),sI B id=(x,k)->aA (bQ 6 (.ptr s.nx 0) x.av s1) fun s7=>bT ((bW [ld 6 true (.ptr s.nx 0) s7,some (.int .i64 k)]).map bY) fun v=>∃ w ids,pur mEv.P s7 12 v=some (w,ids)/\(∀ j∈ids,s.nx<=j)/\EF [] s s7/\w=.tup [(sI B id).1.av,.int .i64 (sI B id).2]:=fun x k hk=>by rw [bJ (z:=6) z1 rfl (eA x) (dD x),Bnd_some,hk];simp only [ld_ptr,aG,dR,resC_some,resC_nil,map_some',tupV_two,retP_some];exact ⟨_,[],bE 12 (by simp only [AV.closed,aW,cZ,gA]),fun j hj=>(by cases hj),es1.set (by omega) (.inl (bH _)),rfl⟩
  cases hr:zW B (id.toNat+1) id 64 2000 with
  | none =>rw [hr] at ht hw;have hw:w=.tup [bR.av,.int .i64 2]:=hw;subst hw;have y0:aQ (.tup [bR.av,.int .i64 2]) 0=some bR.av:=rfl;have y1:aQ (.tup [bR.av,.int .i64 2]) 1=some (.int .i64 2):=rfl;rw [y0,Bnd_some,y1,Bnd_some];exact fin bR 2 ht
  | some q =>
   obtain ⟨x,l⟩:=q;rw [hr] at ht hw;obtain ⟨hw,_⟩:w=.tup [x.av,.int .i64 0]/\left=l:=hw;subst hw;have y0:aQ (.tup [x.av,.int .i64 0]) 0=some x.av:=rfl;have y1:aQ (.tup [x.av,.int .i64 0]) 1=some (.int .i64 0):=rfl;rw [y0,Bnd_some,y1,Bnd_some]
   exact fin x 0 ht)
 obtain ⟨r,s',h1,w,ids,h2,h3,h4,rfl⟩:=r;refine TZ bPi bPk ⟨r,s',h1,?_⟩;rw [h2,Bnd_some];exact hK _ (h4.drop fun i hi=>.inl (h3 i hi))
end
end
noncomputable section
section
variable {H:Type}
theorem aGf:qJ Tryz.ty 24=some [4,22]:=by kernel_rfl
theorem WG:qJ Tryz.ty 109=some [3,3]:=by kernel_rfl
theorem vA {α:Type} {f:α->AV} {p:DataW H->Prop} {ok:α->Prop} (h:∀ d,p d->∃ a,dAV d=f a/\ok a) (l:List (DataW H)) (hl:∀ d∈l,p d):∃ bs:List α,NF l=bs.map f/\bs.length=l.length/\∀ a∈bs,ok a:=by
 induction l with
 | nil=>exact ⟨[],rfl,rfl,fun _ h=>by cases h⟩
 | cons d l ih =>obtain ⟨a,ha,ho⟩:=h d (hl d (m007 ..));obtain ⟨bs,h1,h2,h3⟩:=ih fun x hx=>hl x (m005 _ hx);exact ⟨a::bs,by simp only [NF,ha,h1,m039],by simp [h2],fun x hx=>(m013.1 hx).elim (fun e=>e ▸ ho) (h3 x)⟩
theorem bKn (n:Nat) (d:DataW H) (h:TyD Tryz.ty n 109 d):∃ r:Int×Int,dAV d=cP r/\True:=by
 obtain ⟨m,l,rfl,rfl,hl,hf⟩:=h.struct WG
 match l,hl with
 | [d0,d1],_ =>
 obtain ⟨x,rfl,_⟩:=(hf 0 3 d0 rfl rfl).int (k:=.i64) (by kernel_rfl);obtain ⟨a,rfl,_⟩:=(hf 1 3 d1 rfl rfl).int (k:=.i64) (by kernel_rfl);exact ⟨(x,a),rfl,trivial⟩
theorem aTc (n:Nat) (d:DataW H) (h:TyD Tryz.ty n 211 d):∃ x:Nat,dAV d=sC x/\x < 2 ^ 32:=by
 obtain ⟨x,rfl,hx⟩:=h.int (k:=.u32) (by kernel_rfl);have h0:(0:Int)<=x/\x<=4294967295:=by simp only [Lit.wf,bN,decide_eq_true_eq] at hx;exact hx
 refine ⟨x.toNat,?_,by rw [p32];omega⟩;show AV.int .u32 x=.int .u32 ((x.toNat:Nat):Int);rw [Int.toNat_of_nonneg h0.1]
end
end
noncomputable section
section
variable {B:Bk}
theorem c40 (hX:BX B) (id:Int):aU mEv 40 [bZ B,.int .i64 id] (.tup [(sI B id).1.av,.int .i64 (sI B id).2]):=by
 have hwl:=hX.w.1;refine bC (aRn _ _ _ ?_);unfold f40;have er:∀ (S:St) (k:Int),S.h St.empty.nx=some (.cells bV.cells 33 true true)->sI B id=(bR,k)->aA (eE 33 []) fun t=>aA (bQ 6 (.ptr St.empty.nx 0) t S) fun s5=>bT ((bW [ld 6 true (.ptr St.empty.nx 0) s5,some (.int .i64 k)]).map bY) fun v=>cU (.tup [(sI B id).1.av,.int .i64 (sI B id).2]) v s5:=fun S k h hk=>by rw [hk];exact aXm h _ fun s'=>IF rfl s'
 simp only [jV,wx,wy,Z0,Z1,reduceCtorEq]
 cases h0:decide (id < 0) with
 | true =>have h0':=of_decide_eq_true h0;simp only [wx,wy,Z0,Z1,reduceCtorEq];exact er _ 1 (by rw [adv_h,aG];rfl) (JF (by omega))
 | false =>
 have h0':=of_decide_eq_false h0
 cases h1:decide (id >= (B.length:Int)) with
 | true =>have h1':=of_decide_eq_true h1;simp only [bZ,uQ,m002,h1,wx,wy,Z0,Z1,reduceCtorEq];exact er _ 1 (by rw [adv_h,aG];rfl) (JF (by omega))
 | false =>
 have h1':=of_decide_eq_false h1;have hi:jN B id:=⟨by omega,by omega⟩;obtain ⟨k,rfl⟩:∃ k:Nat,id=(k:Int):=⟨id.toNat,by omega⟩
 have ht:sI B (k:Int)=match zW B (k+1) k 64 2000 with
   | some (x,_)=>(x,0)
   | none=>(bR,2):=by unfold sI;rw [if_pos ⟨by omega,by omega⟩];rfl
 obtain ⟨v,hv,r⟩:=c88 hX (k+1) (k:Int) 2000 hi (by omega) (by omega) (by omega);have hdp:xB B (k+1) (k:Int)=rY B k:=rfl;have dle:=aGc hX k hi;simp only [bZ,uQ,m002,h1,wx,wy,Z0,Z1,reduceCtorEq];have hte:∀ z:Nat,z=oJ B (k+1) (k:Int)->¬ ((z:Int)<=2000/\rY B k<=64)->sI B (k:Int)=(bR,2):=fun z hz h=>by rw [ht];unfold zW;rw [if_neg (by rw [hdp,<- hz];omega)]
 refine aM hv (by simp only [m013,m052,or_false,forall_eq_or_imp,forall_eq];exact ⟨eO B,rfl,rfl⟩) ?_;have z0:∀ c,((Ai.adv (St.empty.set St.empty.nx (some (.cells (AV.agg [.bool false,.int .i64 0,.str [],.int .i64 0,.int .i64 0,.nils]).cells 33 true true))) c)).h St.empty.nx=some (.cells bV.cells 33 true true):=fun c=>by rw [adv_h,aG];rfl
 cases c2:decide (v > 2000) with
 | true =>have c2':=of_decide_eq_true c2;simp only [c2,wx,wy,Z0,Z1,reduceCtorEq];exact er _ 2 (z0 _) (hte _ rfl fun h=>by have:=r.ex h.1;omega)
 | false =>
 have c2':=of_decide_eq_false c2;have hsz:(oJ B (k+1) (k:Int):Int)<=2000:=by apply Decidable.byContradiction;intro h;have:=r.gt h;omega
 simp only [c2,wx,wy,Z0,Z1,reduceCtorEq];refine aM (c89 hX hi) (by simp only [m013,m052,or_false,forall_eq_or_imp,forall_eq];exact ⟨eO B,rfl⟩) ?_
 cases c3:decide ((rY B k:Int) > 64) with
 | true =>have c3':=of_decide_eq_true c3;simp only [c3,wx,wy,Z0,Z1,reduceCtorEq];exact er _ 2 (z0 _) (hte _ rfl fun h=>by omega)
 | false =>
 have c3':=of_decide_eq_false c3;have hte2:zW B (k+1) (k:Int) 64 2000=(wG B (k+1) (k:Int)).map fun x=>(x,2000 - (oJ B (k+1) (k:Int):Int)):=by unfold zW;rw [if_pos (by rw [hdp];omega)]
 rw [hte2] at ht;simp only [c3,wx,wy,Z0,Z1,reduceCtorEq];refine aM (c90 hX (k+1) (k:Int) hi (by omega)) (by simp only [m013,m052,or_false,forall_eq_or_imp,forall_eq];exact ⟨eO B,rfl⟩) ?_
 cases hl:wG B (k+1) (k:Int) with
 | none =>rw [hl] at ht;have ht:sI B (k:Int)=(bR,2):=ht;have x0:aQ (tlR none) 0=some bR.av:=rfl;have x1:aQ (tlR none) 1=some (.bool false):=rfl;simp only [x0,x1,jV,wx,wy,Z0,Z1,reduceCtorEq];rw [qA];simp only [wx,wy,Z0,Z1,reduceCtorEq];exact er _ 2 (by rw [adv_h,aF (by omega),aG];rfl) ht
 | some x =>
  rw [hl] at ht;have ht:sI B (k:Int)=(x,0):=ht;have x0:aQ (tlR (some x)) 0=some x.av:=rfl;have x1:aQ (tlR (some x)) 1=some (.bool true):=rfl;simp only [x0,x1,jV,wx,wy,Z0,Z1,reduceCtorEq];rw [qA];simp only [dR,wx,wy,Z0,Z1,reduceCtorEq];rw [ht]
  trace_state
  exact qN (by rw [adv_h,aF (by omega),aG];rfl) x _ fun s'=>aI (by simp only [AV.closed,aW,cZ,gA])
end
end
noncomputable section
section
variable {B:Bk}
theorem bBc {f:Int->Option Sx}:∀ (a:List Int) (l:List Sx),(∀ i∈a,∀ x,f i=some x->x.ok=true)->KB f a=some l->∀ x∈l,x.ok=true:=by
 intro a
 induction a with
 | nil=>intro l _ h x hx;cases h;cases hx
 | cons i a ih =>
  intro l hi h x hx;simp only [KB] at h
  cases h1:f i with
  | none=>rw [h1] at h;cases h
  | some y =>
   rw [h1,Option.bind_some] at h;obtain ⟨k,h2,rfl⟩:=m022.1 h;rcases m013.1 hx with rfl | hx
   ·exact hi i (m007 ..) _ h1
   ·exact ih k (fun j hj=>hi j (m005 _ hj)) h2 x hx
theorem bCz:∀ c:Int,(yG c).length<=12:=by
 have h:∀ k,k < 31->(nmN k).length<=12:=by decide
 intro c;unfold yG;by_cases h0:0<=c
 ·by_cases h1:c < 31
  ·simp only [decide_eq_true h0,decide_eq_true h1,gA,cond_true];exact h _ (by omega)
  ·simp [h1]
 ·simp [h0]
theorem bAb {l:List (Int×Int)} (hok:∀ r∈l,cV r=true) {x:Sx} (h:EM l=some x):x.ok=true:=by
 unfold EM at h;by_cases hs:dS l<=1000
 ·rw [if_pos hs] at h;cases h;refine aJs (by decide) ?_;have h1:=vN (cC l);have h2:=lZ l hok;omega
 ·rw [if_neg hs] at h;cases h
theorem bEt (hX:BX B):∀ (f:Nat) (id:Int) (x:Sx),jN B id->id < (f:Int)->wG B f id=some x->x.ok=true:=by
 intro f
 induction f with
 | zero=>intro id x h h1;exact absurd h.1 (by omega)
 | succ f ih =>
  intro id x hi hid h;obtain ⟨n,hn,hg,hs,ha⟩:=hX.get hi;simp only [wG,hn] at h
  cases ho:decide (n.op<=5) with
  | true =>
   rw [ho,cond_true] at h;unfold gT at h;have hnm:=hs.nm;have ht:=UD hg.num hg.nl
   cases h1:(n.op==1) with
   | true=>rw [h1] at h;cases h;exact aJs (by decide) (by omega)
   | false =>
   cases h2:(n.op==2) with
   | true=>rw [h1,h2] at h;cases h;decide
   | false =>
   cases h3:(n.op==3) with
   | true=>rw [h1,h2,h3] at h;cases h;decide
   | false =>
   cases h4:(n.op==4) with
   | true=>rw [h1,h2,h3,h4] at h;cases h;exact aJs (by decide) (by omega)
   | false=>rw [h1,h2,h3,h4] at h;exact bAb hg.str h
  | false =>rw [ho,cond_false] at h;obtain ⟨l,h1,rfl⟩:=m022.1 h;have hl:=aPf _ _ _ h1;have hal:=hg.al;have hnl:=bCz n.op;exact aOz (by omega) (by omega) (bBc n.a l (fun i hi x hx=>ih i x (ha i hi).1 (by have:=(ha i hi).2;omega) hx) h1)
theorem bBu (hX:BX B) (id:Int):(sI B id).1.ok=true:=by
 unfold sI
 split
 ·rename_i h;unfold zW
  split
  ·rename_i x l he
   split at he
   ·obtain ⟨y,h1,h2⟩:=m022.1 he;simp only [m001] at h2;rw [<- h2.1];exact bEt hX _ id y ⟨h.1,h.2⟩ (by omega) h1
   ·cases he
  ·exact aVk
 ·exact aVk
end
theorem bFm (a b:Int):bn .eql 34 (.int .i64 a) (.int .i64 b)=some (.bool (a==b)):=bin_eql
theorem bPe:mEv.fz 37=false:=by kernel_rfl
theorem j10 (L:List C9) (hl:L.length<=maxLen) (hc:∀ c∈L,C9F c) {b:Nat} {F:List Nat} {s:St} (fr:aK s) (hB:lG s b (kW L []) F) (hX:BX (kW L [])) (id op:Int):FR (fun r _=>r=.bool true) (lM L) (.ptr b 0) (.int .i64 id) (.int .i64 op) s:=by
 unfold FR;refine aM (c38 L hl hc) (by simp only [m013,m052,or_false,forall_eq];exact sW L) ?_;simp only [wx,wy,Z0,Z1,reduceCtorEq];refine TC hB.adv ?_;have hq:(((kW L []).length:Int) != ((kW L []).length:Int))=false:=by simp
 simp only [bZ,uQ,m002,hq,wx,wy,Z0,Z1,reduceCtorEq];refine c39 hX id fr.adv hB.adv fun s1 e1=>?_;have hz:(AV.agg [.bool false,.int .i64 0,.str [],.int .i64 0,.int .i64 0,.nils]).cells=[.bool false,.int .i64 0,.str [],.int .i64 0,.int .i64 0,.nils]:=rfl;simp only [GP,HN,jV,wx,wy,Z0,Z1,reduceCtorEq];rw [zX];simp only [wx,wy,Z0,Z1,reduceCtorEq];refine aM (c40 hX id) (by simp only [m013,m052,or_false,forall_eq_or_imp,forall_eq];exact ⟨eO _,rfl⟩) ?_;simp only [GP,HN,jV,wx,wy,Z0,Z1,reduceCtorEq];rw [qA];have n1:=e1.nx;simp only [adv_nx] at n1;have hne:¬ (s.nx+23=s1.nx+6):=by omega
 obtain ⟨S,hS⟩:∃ S,S=Ai.adv ((s1.set (s.nx+23) (some (.cells (sI (kW L []) id).1.av.cells 33 true true))).set (s1.nx+6) (some (.cells (sI (kW L []) id).1.av.cells 33 true true))) 9:=⟨_,rfl⟩;rw [<- hS];have a1:S.h (s.nx+23)=some (.cells (sI (kW L []) id).1.av.cells 33 true true):=by rw [hS,adv_h,aF hne,aG]
 have a2:S.h (s1.nx+6)=some (.cells (sI (kW L []) id).1.av.cells 33 true true):=by rw [hS,adv_h,aG]
 simp only [a1,a2,dR,wx,wy,Z0,Z1,reduceCtorEq];refine aM (c18 _ (bBu hX id)) (by simp only [m013,m052,or_false,forall_eq_or_imp,forall_eq];exact ⟨cZ _,cZ _,rfl⟩) ?_;have q0:((sI (kW L []) id).2==(sI (kW L []) id).2)=true:=by simp
 have q1:(yG op==yG op)=true:=by simp
 simp only [bFm,q0,wx,wy,Z0,Z1,reduceCtorEq];refine aM (c22 op) (by simp [AV.closed]) ?_;refine aM (c41 op) (by simp [AV.closed]) ?_;simp only [q1,wx,wy,Z0,Z1,reduceCtorEq]
theorem l10 (L:List C9) (hl:L.length<=maxLen) (hc:∀ c∈L,C9F c) {b:Nat} (id op:Int):∀ (m i:Nat) (B:Bk) (F:List Nat) (s:St),i+m=L.length->aK s->lG s b B F->BX B->kW (L.drop i) B=kW L []->zD (fun r _=>r=.bool true) (m+1) (lM L) (.int .i64 id) (.int .i64 op) (.ptr b 0) (.int .i64 i) s:=by
 intro m
 induction m with
 | zero =>
  intro i B F s hi fr hB hX he;show CI (fun r _=>r=.bool true) (zD (fun r _=>r=.bool true) 0) _ _ _ _ _ s;have c1:decide ((i:Int) < (L.length:Int))=false:=by simp;omega
  rw [m037 (by omega)] at he;have he:B=kW L []:=he;subst he;simp only [CI,lM,zH,m002,c1,wx,wy,Z0,Z1,reduceCtorEq];exact j10 L hl hc fr.adv hB.adv hX id op
 | succ m ih =>
  intro i B F s hi fr hB hX he;show CI (fun r _=>r=.bool true) (zD (fun r _=>r=.bool true) (m+1)) _ _ _ _ _ s;have c1:decide ((i:Int) < (L.length:Int))=true:=by simp;omega
  obtain ⟨c,hcc⟩:∃ c,L[i]?=some c:=⟨_,m004 (by omega)⟩;have hix:=bP aDg false (l:=L) hcc .i64;have hf:=hc c (m017 hcc);rw [cK L i c hcc] at he;simp only [CI,lM,zH,m002,c1,hix,TP,wx,wy,Z0,Z1,reduceCtorEq];refine (c37 fr.adv hB.adv hX.w hf).call bPe fun s1 q1=>?_;obtain ⟨F1,b1,e1,_⟩:=q1;unfold aKg;simp only [wx,wy,Z0,Z1,reduceCtorEq];rw [cF i L.length (by omega) hl];exact ih (i+1) _ F1 _ (by omega) e1.fr.adv b1.adv (UZ hX hf) he
structure C9R (c:C9):Prop where
 op:i64 c.op
 a:∀ q∈c.a,i64 q
 num:dB c.num
theorem bCk {L:List C9} (h:∀ c∈L,C9R c) (hf:QQ L 120=true):∀ c∈L,C9F c:=by intro c hc;simp only [QQ,bN,Bool.not_eq_true',List.any_eq_false] at hf;have:=hf.2 c hc;simp only [SL,uN,decide_eq_true_eq] at this;have r:=h c hc;exact ⟨r.op,r.a,by omega,r.num,by omega,by omega⟩
theorem c10 (L:List C9) (hl:L.length<=maxLen) (hr:∀ c∈L,C9R c) (id op:Int):∃ s',WideC mEv 10 [lM L,.int .i64 id,.int .i64 op] St.empty (.bool true) s':=by
 have h:=aRu (lM L) (.int .i64 id) (.int .i64 op) St.empty (Q:=fun r _=>r=.bool true) (by
  unfold f10;refine aM aUc (by simp) ?_;simp only [wx,wy,Z0,Z1,reduceCtorEq];refine aM (c36 L hl 120) (by simp only [m013,m052,or_false,forall_eq_or_imp,forall_eq];exact ⟨sW L,rfl⟩) ?_
  cases hf:QQ L 120 with
  | false=>simp only [show ((1:Int)==0)=false from rfl,cond_false,wx,wy,Z0,Z1,reduceCtorEq]
  | true =>
   have hb58:eE 58 []=some (.agg [.nils,.nilm,.nils]):=by rw [bNr];rfl
   have hc0:(AV.agg [AV.nils,AV.nilm,AV.nils]).cells=[.nils,.nilm,.nils]:=rfl;simp only [show ((0:Int)==0)=true from rfl,cond_true,hb58,hc0,wx,wy,Z0,Z1,reduceCtorEq];refine ⟨rfl,L.length+1,?_⟩;have hB0:lG (Ai.adv (St.empty.set (St.empty.nx+14) (some (.cells [.nils,.nilm,.nils] 58 true true))) 17) (St.empty.nx+14) [] [St.empty.nx+14]:=⟨.nils,.nilm,.nils,⟨by rw [adv_h,aG],fA,.inl ⟨rfl,rfl⟩,fA,by decide,fun n h=>(by cases h),by decide⟩,rfl⟩;refine l10 L hl (bCk hr hf) id op L.length 0 [] _ _ (by omega) (fun j hj=>?_) hB0 aHl rfl;have hj:St.empty.nx+17<=j:=hj;rw [adv_h,aF (by omega)]
   exact bU j (by omega))
 obtain ⟨r,s',h1,h2⟩:=h;subst h2;exact ⟨s',h1⟩
section
variable {H:Type}
theorem aHg:qJ Tryz.ty 74=some [3,3,3,72,9,4,24,25]:=by kernel_rfl
theorem in_of (n:Nat) (d:DataW H) (h:TyD Tryz.ty n 3 d):∃ x:Int,dAV d=dH x/\i64 x:=by obtain ⟨x,rfl,hx⟩:=h.int (k:=.i64) (by kernel_rfl);refine ⟨x,rfl,?_⟩;simp only [Lit.wf,bN,decide_eq_true_eq] at hx;exact hx
theorem bJx (n:Nat) (d:DataW H) (h:TyD Tryz.ty n 74 d):∃ c:C9,dAV d=c.av/\C9R c:=by
 obtain ⟨m,l,rfl,rfl,hl,hf⟩:=h.struct aHg
 match l,hl with
 | [d0,d1,d2,d3,d4,d5,d6,d7],_ =>
 obtain ⟨k,rfl,_⟩:=(hf 0 3 d0 rfl rfl).int (k:=.i64) (by kernel_rfl);obtain ⟨op,ho,ho2⟩:=in_of m d1 (hf 1 3 d1 rfl rfl);obtain ⟨so,rfl,_⟩:=(hf 2 3 d2 rfl rfl).int (k:=.i64) (by kernel_rfl);obtain ⟨ma,ia,_,va,la,ea⟩:=(hf 3 72 d3 rfl rfl).list (e:=3) (by kernel_rfl);obtain ⟨a,a1,a2,a3⟩:=vA (f:=dH) (fun d h=>in_of ma d h) ia ea;obtain ⟨nm,rfl,_⟩:=(hf 4 9 d4 rfl rfl).str (by kernel_rfl);obtain ⟨b,rfl⟩:=(hf 5 4 d5 rfl rfl).bool (by kernel_rfl);obtain ⟨m1,l1,rfl,rfl,hl1,hf1⟩:=(hf 6 24 d6 rfl rfl).struct aGf;obtain ⟨mt,it,_,vt,lt,et⟩:=(hf 7 25 d7 rfl rfl).list (e:=109) (by kernel_rfl);obtain ⟨t,t1,t2,_⟩:=vA (f:=cP) (fun d h=>bKn mt d h) it et
 match l1,hl1,hf1 with
 | [e0,e1],_,hf1 =>
 obtain ⟨neg,rfl⟩:=(hf1 0 4 e0 rfl rfl).bool (by kernel_rfl);obtain ⟨m3,its3,hm3,hv3,hlen3,hel3⟩:=(hf1 1 22 e1 rfl rfl).list (e:=211) (by kernel_rfl);obtain ⟨ns,h3,h4,h5⟩:=vA (f:=sC) (fun d h=>aTc m3 d h) its3 hel3;refine ⟨⟨k,op,so,a,nm,b,neg,ns,t⟩,?_,ho2,a3,h5⟩;simp only [dAV,IJ,AV.cells,ho,va,a1,vt,t1,hv3,h3,dH,List.cons_append,List.nil_append,m011];rfl
theorem c9s_of (n:Nat) (d:DataW H) (h:TyD Tryz.ty n 69 d):∃ L:List C9,dAV d=lM L/\L.length<=maxLen/\∀ c∈L,C9R c:=by obtain ⟨m,it,_,v,l,e⟩:=h.list (e:=74) (by kernel_rfl);obtain ⟨L,h1,h2,h3⟩:=vA (f:=C9.av) (fun d h=>bJx m d h) it e;exact ⟨L,by rw [v,h1];rfl,by omega,h3⟩
end
end
end Go.Proofs.YtdehdahimkcakaaGreatDoor
