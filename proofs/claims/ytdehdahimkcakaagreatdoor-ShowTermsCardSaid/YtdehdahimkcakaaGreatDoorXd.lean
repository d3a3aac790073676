/- Texts joined by wip/tools/pack.py: SimB. -/
import Derived.Laws.Tables
import Derived.IntWalk
import Derived.Lib.Strings
import Derived.Laws.BytesArg
import Derived.Lib.Builder
import Derived.Test.YtdehdahimkcakaaGreatDoorXc
open Nat renaming reduceAdd→Z0, reduceEqDiff→Z1
set_option linter.unusedSimpArgs false
set_option linter.unusedVariables false
noncomputable section
namespace Go.Proofs.YtdehdahimkcakaaGreatDoor.Ai
open Go
section
variable {P:Program} {T:Ty} {F:Fz} {ρ:fD} {s:St} {W:World}
theorem JH (hT:dO P T) {t:TypeId} {z:AV} (h:zero T t=some z):∃ i v,P.info? t=some i/\i.zero=some v/\z=ofV v:=by
 unfold zero at h
 cases hi:T t with
 | none=>rw [hi] at h;cases h
 | some i =>
  rw [hi] at h
  cases hz:i.zero with
  | none=>simp [hz] at h
  | some v=>refine ⟨i,v,hT _ _ hi,hz,?_⟩;simpa [hz] using h.symm
theorem rC (hT:dO P T) {t:TypeId} {z:AV} (h:zero T t=some z):∃ v,(∀ W,(zeroValue t).run P W=.ok v W)/\z=ofV v:=by obtain ⟨i,v,h1,h2,h3⟩:=JH hT h;exact ⟨v,fun W=>by simp [zeroValue,typeInfo,h1,h2],h3⟩
theorem jL (v:Value):CR T F ρ (ofV v).cells v.cells.toList:=by
 unfold ofV
 split
 ·rename_i cs;exact ⟨by simp [AV.cells,Value.cells],fun i a b=>by simpa [AV.cells,Value.cells] using zZ _⟩
 ·rename_i h
  have h1:(RT v).cells=[RT v]:=by
   unfold RT
   split<;>first | rfl | (split<;>rfl)
  have h2:v.cells=#[v]:=by cases v<;>first | rfl | exact absurd rfl (h _)
  rw [h1,h2];exact CR.cons (zZ v) CR.nil
theorem bGi {c:List AV} {C:Array Value} (h:CR T F ρ c C.toList) (e:TypeId) (ex:Bool) (hx:ex=true->True):OR T F ρ C.size (.cells c e ex true) (.cells C e (0,0)) :=
 ⟨rfl,rfl,by have:=h.1;simp at this;omega,fun _=>by simpa using h.1,fun j a b=>by have:=h.2 j a (by simpa using b);rwa [Array.getElem_toList] at this,fun _ j _ hh=>by simp at hh⟩
theorem DO (hR:R T F ρ s W) {id:Nat} (hid:ρ id=none) (hlt:id < s.nx) {c:List AV} {C:Array Value} (hcr:CR T F ρ c C.toList) (e:TypeId) (ex:Bool) :
  R T F (xF ρ id (W.heap.size,C.size)) (s.set id (some (.cells c e ex true))) (W.alloc (.cells C e (0,0))) /\
  dM s ρ F W (s.set id (some (.cells c e ex true))) (xF ρ id (W.heap.size,C.size)) F (W.alloc (.cells C e (0,0))) /\
  (∀ i,i < s.nx->i≠id->xF ρ id (W.heap.size,C.size) i=ρ i):=by
 obtain ⟨h1,h2⟩:=hR.born hid (.cells c e ex true) (.cells C e (0,0)) C.size (bGi hcr e ex fun _=>trivial) rfl (bH _) hlt;exact ⟨h1,h2,fun i _ hi=>dT hi _⟩
theorem aMl (hT:dO P T) (hR:R T F ρ s W) {t:TypeId} {z:AV} (h:zero T t=some z) {id:Nat} (hid:ρ id=none) (hlt:id < s.nx) :
  iS P T id s ρ F W (.ptr id 0) (s.set id (some (.cells z.cells t true true))) (Instr.alloc t true (.tuple #[])):=by
 obtain ⟨v,h1,rfl⟩:=rC hT h;obtain ⟨r1,r2,r3⟩:=DO hR hid hlt (jL (T:=T) (F:=F) (ρ:=ρ) v) t true;refine ⟨.pointer (some ⟨W.heap.size,0,none⟩),_,_,F,?_,.ptr _ _ _ _ (cQ _ _),r1,r2,r3,bH _⟩;simp only [Instr.alloc,Sem.run_bind,h1,Result.andThen_ok,newVar,newRow,run_newObj,Sem.run_pure];rfl
theorem aZy (hR:R T F ρ s W) {t:TypeId} {x:AV} (hx:x.cells.all AV.one=true) {v:Value} (hv:VR T F ρ x v) {id:Nat} (hid:ρ id=none) (hlt:id < s.nx) :
  iS P T id s ρ F W (.ptr id 0) (s.set id (some (.cells x.cells t true true))) (Instr.box t v):=by
 obtain ⟨r1,r2,r3⟩:=DO hR hid hlt (vG hx hv).1 t true;refine ⟨.pointer (some ⟨W.heap.size,0,none⟩),_,_,F,?_,.ptr _ _ _ _ (cQ _ _),r1,r2,r3,bH _⟩;simp only [Instr.box,Sem.run_bind,newVar,newRow,run_newObj,Result.andThen_ok,Sem.run_pure];rfl
theorem FP (z off:Nat) (v:Value) (C:Array Value):(v.cells.zipIdx.foldl (fun cs (p:Value×Nat)=>cs.setIfInBounds (off+p.2) p.1) C)=mR C off v.cells.toList:=by
 have key:∀ (l:List Value) (k:Nat) (C:Array Value),(l.zipIdx k).foldl (fun cs (p:Value×Nat)=>cs.setIfInBounds (off+p.2) p.1) C=mR C (off+k) l:=by
  intro l
  induction l with
  | nil=>intro k C;rfl
  | cons a l ih=>intro k C;simp only [List.zipIdx_cons,List.foldl_cons,mR];rw [ih];rfl
 rw [<- Array.foldl_toList,Array.toList_zipIdx];exact key _ 0 C
def PR (T:Ty) (F:Fz) (ρ:fD) (ps:List (Nat×AV)) (qs:List (Nat×Value)):Prop:=ps.length=qs.length/\∀ i (h:i < ps.length) (h':i < qs.length),ps[i].1=qs[i].1/\VR T F ρ ps[i].2 qs[i].2
theorem PR.tail {p:Nat×AV} {q:Nat×Value} {ps:List (Nat×AV)} {qs:List (Nat×Value)} (h:PR T F ρ (p::ps) (q::qs)):p.1=q.1/\VR T F ρ p.2 q.2/\PR T F ρ ps qs :=
 ⟨(h.2 0 (by simp) (by simp)).1,(h.2 0 (by simp) (by simp)).2,by have:=h.1;simpa using this,fun i a b=>h.2 (i+1) (by simp;omega) (by simp;omega)⟩
theorem US (yM:Nat->Option (Nat×Nat)):∀ (ps:List (Nat×AV)) (qs:List (Nat×Value)) (c:List AV) (C:Array Value) (c':List AV),PR T F ρ ps qs->CR T F ρ c C.toList->lJ yM c ps=some c' ->
  ∃ C',Instr.fill yM C qs=some C'/\CR T F ρ c' C'.toList:=by
 intro ps
 induction ps with
 | nil =>intro qs c C c' hp hc h;have:qs=[]:=m034 (by have:=hp.1;simpa using this.symm);subst this;simp only [lJ,m000] at h;subst h;exact ⟨C,rfl,hc⟩
 | cons p ps ih =>
  intro qs c C c' hp hc h
  cases qs with
  | nil=>have:=hp.1;simp at this
  | cons q qs =>
   obtain ⟨i,a⟩:=p;obtain ⟨j,v⟩:=q;obtain ⟨h1,h2,h3⟩:=hp.tail;simp only at h1 h2;subst h1;simp only [lJ] at h
   cases hpl:yM i with
   | none=>rw [hpl] at h;cases h
   | some oz =>
    obtain ⟨off,z⟩:=oz;rw [hpl] at h;simp only at h
    split at h
    ·rename_i hcond;obtain ⟨q1,q2,q3⟩:=hcond;obtain ⟨hcr,_⟩:=vG q3 h2;have hlen:v.cells.size=z:=by have:=hcr.1;simp at this;omega
     have hCl:C.size=c.length:=by have:=hc.1;simp at this;omega
     simp only [Instr.fill,hpl];have hcnd:(decide (v.cells.size≠z)||decide (off+v.cells.size > C.size))=false:=by simp [hlen];omega
     rw [if_neg (by rw [hcnd];simp)];rw [FP z off v C];refine ih qs _ _ c' h3 ?_ h;obtain ⟨l1,l2⟩:=tM v.cells.toList a.cells c C off hcr (by omega) (by omega) (fun j x y=>by have:=hc.2 j x (by simpa using y);rwa [Array.getElem_toList] at this);exact ⟨by rw [l1];simp [nN,hCl],fun j x y=>by rw [Array.getElem_toList];exact l2 j x (by simpa using y)⟩
    ·cases h
theorem aAl (hT:dO P T):∀ (fs:List Field) (l:List (Nat×Nat)),rQ T fs=some l->fs.mapM (fun f=>(P.info? f.type).map fun i=>(f.offset,i.size))=some l:=by
 intro fs
 induction fs with
 | nil=>intro l h;simp only [rQ,m000] at h;subst h;rfl
 | cons f fs ih =>
  intro l h;simp only [rQ] at h
  split at h
  ·rename_i i l' h1 h2;simp only [m000] at h;subst h;simp [List.mapM_cons,hT _ _ h1,ih _ h2]
  ·cases h
theorem PR.of_map {α:Type} (ps:List (Nat×α)) (f:α->AV) (g:α->Value) (h:∀ x,VR T F ρ (f x) (g x)):PR T F ρ (ps.map fun p=>(p.1,f p.2)) (ps.map fun p=>(p.1,g p.2)) :=
 ⟨by simp,fun i a b=>by simp;exact h _⟩
theorem aLb (hT:dO P T) {t:TypeId} {ps:List (Nat×AV)} {qs:Array (Nat×Value)} (hp:PR T F ρ ps qs.toList) {r:AV} (h:DP T t ps=some r):cX P T F ρ W r (Instr.build t qs):=by
 unfold DP at h
 cases hz:zero T t with
 | none=>rw [hz] at h;cases h
 | some zv =>
  obtain ⟨v,hv,rfl⟩:=rC hT hz
  cases hd:dZ T t with
  | none=>rw [hz,hd] at h;cases hov:ofV v<;>rw [hov] at h<;>cases h
  | some d =>
   rw [hz,hd] at h
   cases hov:ofV v with
   | agg zc =>
    rw [hov] at h;have hcr:=jL (T:=T) (F:=F) (ρ:=ρ) v;rw [hov] at hcr;simp only [AV.cells] at hcr;have hu:=cH hT hd
    cases d with
    | struct fs =>
     simp only at h
     cases hpl:rQ T fs.toList with
     | none=>rw [hpl] at h;cases h
     | some l =>
      rw [hpl] at h;simp only [Option.bind_some] at h
      cases hf:lJ (fun i=>l[i]?) zc ps with
      | none=>rw [hf] at h;cases h
      | some c' =>
       rw [hf] at h;simp only [Option.map_some,m000] at h;subst h;obtain ⟨C',k1,k2⟩:=US (fun i=>l[i]?) ps qs.toList zc v.cells c' hp hcr hf;refine ⟨.agg C',?_,VR.agg_cr k2⟩;have hrun:=run_places W fs.toList l (aAl hT _ _ hpl)
       have hmm:(fs.mapM fun f=>(do pure (f.offset,<- sizeOf f.type):Sem (Nat×Nat))).run P W=.ok l.toArray W:=by
        rw [Array.mapM_eq_mapM_toList];have e:(fun f:Field=>(do pure (f.offset,<- sizeOf f.type):Sem (Nat×Nat)))=fun f=>Prod.mk f.offset <$> sizeOf f.type:=rfl
        rw [Sem.run_map,e,hrun];rfl
       simp only [Instr.build,Sem.run_bind,hv,run_underlying hu,Result.andThen_ok,hmm];have e2:(fun i:Nat=>(l.toArray)[i]?)=fun i:Nat=>l[i]?:=by funext i;simp
       rw [e2,k1];rfl
    | array n e =>
     simp only at h
     cases hl:eN T e with
     | none=>rw [hl] at h;cases h
     | some zz =>
      obtain ⟨z,ag⟩:=zz;rw [hl] at h;simp only [Option.bind_some] at h
      cases hf:lJ (fun i=>some (i * z,z)) zc ps with
      | none=>rw [hf] at h;cases h
      | some c' =>rw [hf] at h;simp only [Option.map_some,m000] at h;subst h;obtain ⟨C',k1,k2⟩:=US _ ps qs.toList zc v.cells c' hp hcr hf;refine ⟨.agg C',?_,VR.agg_cr k2⟩;simp only [Instr.build,Sem.run_bind,hv,run_underlying hu,Result.andThen_ok,bA hT hl,k1];rfl
    | _=>cases h
   | _=>rw [hov] at h;cases h
theorem aIn (hT:dO P T) {t:TypeId} {f:Nat} {x r:AV} (h:JP T t f x=some r) {u:Value} (hu:VR T F ρ x u):cX P T F ρ W r (Instr.field t u f):=by
 unfold JP at h
 cases hd:dZ T t with
 | none=>rw [hd] at h;cases h
 | some d =>
  rw [hd] at h
  cases d with
  | struct fs =>
   cases x with
   | agg cs =>
    simp only at h;obtain ⟨vs,rfl,hcr⟩:=oI hu
    cases hf:fs[f]? with
    | none=>rw [hf] at h;cases h
    | some fd =>
     rw [hf] at h;simp only [Option.bind_some] at h
     cases hl:eN T fd.type with
     | none=>rw [hl] at h;cases h
     | some zz =>obtain ⟨z,ag⟩:=zz;rw [hl] at h;simp only [Option.bind_some] at h;obtain ⟨v,k1,k2⟩:=part_ok (W:=W) hT hl hcr h;refine ⟨v,?_,k2⟩;simp only [Instr.field,Sem.run_bind,run_underlying (cH hT hd),Result.andThen_ok,hf,asAgg,Sem.run_pure,k1]
   | _=>cases h
  | _=>cases h
theorem GQ {n:Nat} {x r:AV} (h:aD n x=some r) {u:Value} (hu:VR T F ρ x u):∃ β off,u=.pointer (some ⟨β,off,none⟩)/\VR T F ρ r (.pointer (some ⟨β,off+n,none⟩)):=by
 unfold aD at h
 split at h
 ·simp only [m000] at h;subst h
  cases hu with
  | ptr _ _ β z hρ=>exact ⟨β,_,rfl,.ptr _ _ _ _ hρ⟩
 ·simp only [m000] at h;subst h
  cases hu with
  | pel _ _ β b w hf hv=>exact ⟨β,_,rfl,by rw [m066];exact .pel _ _ β b w hf hv⟩
 ·cases h
theorem JZ (hT:dO P T) {t:TypeId} {f:Nat} {x r:AV} (h:AK T t f x=some r) {u:Value} (hu:VR T F ρ x u):cX P T F ρ W r (Instr.fieldAt t u f):=by
 unfold AK at h
 cases hd:dZ T t with
 | none=>rw [hd] at h;cases h
 | some d =>
  rw [hd] at h
  cases d with
  | struct fs =>
   simp only at h
   cases hf:fs[f]? with
   | none=>rw [hf] at h;cases h
   | some fd =>
    rw [hf] at h;simp only [Option.bind_some] at h
    cases hl:eN T fd.type with
    | none=>rw [hl] at h;cases h
    | some zz =>
     obtain ⟨z,ag⟩:=zz;rw [hl] at h;simp only [Option.bind_some] at h
     split at h
     ·cases h
     ·rename_i hz;obtain ⟨β,off,rfl,k⟩:=GQ h hu;refine ⟨_,?_,k⟩;simp only [Instr.fieldAt,Sem.run_bind,run_underlying (cH hT hd),Result.andThen_ok,hf,Instr.sureAddr,Sem.run_pure,fieldPlace,bA hT hl,if_neg hz,Addr.add_lit]
  | _=>cases h
theorem CF {i:Int} {n j:Nat} (h:zK i n=some j):0<=i/\i < n/\j=i.toNat:=by
 unfold zK at h
 split at h
 ·rename_i hc;simp only [m000] at h;exact ⟨hc.1,hc.2,h.symm⟩
 ·cases h
theorem lO {ex:Bool} {l:List AV} {u:Value} (h:VR T F ρ (.sl ex l) u):∃ a c,u=.slice a l.length c/\l.length<=c/\(ex=true->c=l.length) /\
  (l≠[]->∃ β b z,a=some ⟨β,b,none⟩/\(∀ i (h:i < l.length),l[i].cells.length=z)/\∃ w:Nat->Nat->Value,(∀ i j,i < l.length->j < z->F ⟨β,b+i * z+j,none⟩=some (w i j)) /\
   ∀ i j (h:i < l.length) (h2:j < l[i].cells.length),VR T F ρ l[i].cells[j] (w i j)):=by
 cases h with
 | sl0 _ a c h _=>exact ⟨a,c,rfl,hO _,h,fun hne=>absurd rfl hne⟩
 | sl _ _ β b z c w hc hx hz hf hv=>exact ⟨_,c,rfl,hc,hx,fun _=>⟨β,b,z,rfl,hz,w,hf,hv⟩⟩
theorem HU {ex:Bool} {l:List AV} {a:Option Addr} {n c:Nat} (h:VR T F ρ (.sl ex l) (.slice a n c)):a=none->c=0:=by
 cases h with
 | sl0 _ _ _ _ hn=>exact hn
 | sl _ _ β b z c w hc hx hz hf hv=>intro h;cases h
theorem IK (hT:dO P T) (hR:R T F ρ s W) {t:TypeId} {x ix r:AV} (h:AM T t x ix=some r) {u v:Value} (hu:VR T F ρ x u) (hv:VR T F ρ ix v):cX P T F ρ W r (Instr.indexAt t u v):=by
 unfold AM at h
 cases hi:pF ix with
 | none=>rw [hi] at h;cases h
 | some i =>
  obtain ⟨k,rfl⟩:=EG hi hv;rw [hi] at h;simp only [Option.bind_some] at h
  cases hd:dZ T t with
  | none=>rw [hd] at h;cases h
  | some d =>
   have hun:=cH hT hd;rw [hd] at h
   cases d with
   | slice e =>
    simp only at h
    cases x with
    | sl ex l =>
     simp only at h
     cases hx:zK i l.length with
     | none=>rw [hx] at h;cases h
     | some j =>
      obtain ⟨h0,h1,rfl⟩:=CF hx;rw [hx] at h;simp only [Option.bind_some] at h;have hj:i.toNat < l.length:=by omega
      rw [m004 hj] at h;simp only [Option.bind_some] at h
      cases hl:eN T e with
      | none=>rw [hl] at h;cases h
      | some zz =>
       obtain ⟨z',ag⟩:=zz;rw [hl] at h;simp only [Option.bind_some] at h
       split at h
       ·rename_i hzz;simp only [m000] at h;subst h;obtain ⟨a,c,rfl,hc,_,hne⟩:=lO hu;obtain ⟨β,b,z,rfl,hz,w,hf,hvv⟩:=hne (by intro e;subst e;simp at hj);have hz':z=z':=by rw [<- hz _ hj];exact hzz
        subst hz';refine ⟨.pointer (some ⟨β,b+i.toNat * z+0,none⟩),?_,.pel _ 0 β (b+i.toNat * z) (w i.toNat) (fun q hq=>hf _ _ hj (by rw [<- hz _ hj];exact hq)) (fun q hq=>hvv _ _ hj hq)⟩;simp only [Instr.indexAt,Sem.run_bind,asIntOf,Sem.run_pure,Result.andThen_ok,run_underlying hun];rw [if_pos ⟨h0,h1⟩];simp only [Sem.run_bind,bA hT hl,Result.andThen_ok,Sem.run_pure,Addr.add_lit,Nat.add_zero]
       ·cases h
    | ref id off n cap e' =>
     simp only at h
     cases hx:zK i n with
     | none=>rw [hx] at h;cases h
     | some j =>
      obtain ⟨h0,h1,rfl⟩:=CF hx;rw [hx] at h;simp only [Option.bind_some] at h
      cases hl:eN T e with
      | none=>rw [hl] at h;cases h
      | some zz =>
       obtain ⟨z',ag⟩:=zz;rw [hl] at h;simp only [Option.map_some,m000] at h;subst h
       cases hu with
       | ref _ _ _ _ _ β size c z ag' hρ hz hn hk hk2 =>refine ⟨.pointer (some ⟨β,off+i.toNat * z',none⟩),?_,.ptr _ _ _ _ hρ⟩;simp only [Instr.indexAt,Sem.run_bind,asIntOf,Sem.run_pure,Result.andThen_ok,run_underlying hun];rw [if_pos ⟨h0,h1⟩];simp only [Sem.run_bind,bA hT hl,Result.andThen_ok,Sem.run_pure,Addr.add_lit]
    | _=>cases h
   | array n e =>
    simp only at h
    cases hx:zK i n with
    | none=>rw [hx] at h;cases h
    | some j =>
     obtain ⟨h0,h1,rfl⟩:=CF hx;rw [hx] at h;simp only [Option.bind_some] at h
     cases hl:eN T e with
     | none=>rw [hl] at h;cases h
     | some zz =>
      obtain ⟨z',ag⟩:=zz;rw [hl] at h;simp only [Option.bind_some] at h
      split at h
      ·rename_i hn2;obtain ⟨β,off,rfl,k2⟩:=GQ h hu;refine ⟨_,?_,k2⟩;simp only [Instr.indexAt,Sem.run_bind,asIntOf,Sem.run_pure,Result.andThen_ok,run_underlying hun,Instr.sureAddr];rw [if_pos ⟨h0,h1⟩];simp only [Sem.run_bind,bA hT hl,Result.andThen_ok,Sem.run_pure,Addr.add_lit]
      ·cases h
   | _=>cases h
theorem aEs (hT:dO P T) {t:TypeId} {x ix r:AV} (h:yE T t x ix=some r) {u v:Value} (hu:VR T F ρ x u) (hv:VR T F ρ ix v):cX P T F ρ W r (Instr.index t u v):=by
 unfold yE at h
 cases hi:pF ix with
 | none=>rw [hi] at h;cases h
 | some i =>
  obtain ⟨k,rfl⟩:=EG hi hv;rw [hi] at h;simp only [Option.bind_some] at h
  cases hd:dZ T t with
  | none=>rw [hd] at h;cases x<;>cases h
  | some d =>
   have hun:=cH hT hd;rw [hd] at h
   cases x with
   | str b =>
    cases d with
    | string =>
     simp only at h
     cases hx:zK i b.length with
     | none=>rw [hx] at h;cases h
     | some j =>
      obtain ⟨h0,h1,rfl⟩:=CF hx;rw [hx] at h;have hj:i.toNat < b.length:=by omega
      simp only [Option.bind_some,m004 hj,Option.map_some,m000] at h;subst h
      cases hu with
      | str _ bb hb =>
       have hsz:i.toNat < bb.size:=by rw [<- hb] at hj;simpa using hj
       refine ⟨.int .u8 b[i.toNat].toNat,?_,.int _ _⟩;simp only [Instr.index,Sem.run_bind,asIntOf,Sem.run_pure,Result.andThen_ok,run_underlying hun];have e:(if 0<=i then bb[i.toNat]? else none)=some b[i.toNat]:=by rw [if_pos h0,getElem?_pos bb i.toNat hsz];congr 1;subst hb;simp [ByteArray.getElem_eq_getElem_data]
       rw [e];rfl
    | _=>cases h
   | agg cs =>
    cases d with
    | array n e =>
     simp only at h
     cases hx:zK i n with
     | none=>rw [hx] at h;cases h
     | some j =>
      obtain ⟨h0,h1,rfl⟩:=CF hx;rw [hx] at h;simp only [Option.bind_some] at h
      cases hl:eN T e with
      | none=>rw [hl] at h;cases h
      | some zz =>obtain ⟨z',ag⟩:=zz;rw [hl] at h;simp only [Option.bind_some] at h;obtain ⟨vs,rfl,hcr⟩:=oI hu;obtain ⟨w,k1,k2⟩:=part_ok (W:=W) hT hl hcr h;refine ⟨w,?_,k2⟩;simp only [Instr.index,Sem.run_bind,asIntOf,Sem.run_pure,Result.andThen_ok,run_underlying hun];rw [if_pos ⟨h0,h1⟩];simp only [Sem.run_bind,bA hT hl,Result.andThen_ok,k1]
    | _=>cases h
   | _=>cases h
end
end Go.Proofs.YtdehdahimkcakaaGreatDoor.Ai
namespace Go.Proofs.YtdehdahimkcakaaGreatDoor.Ai
open Go
section
variable {P:Program} {T:Ty} {F:Fz} {ρ:fD} {s:St} {W:World}
def ER (T:Ty) (F:Fz) (ρ:fD) (z:Nat) (l:List AV) (C:Array Value):Prop:=l.length * z<=C.size/\(∀ i (h:i < l.length),l[i].cells.length=z) /\
 ∀ i j (h:i < l.length) (h2:j < l[i].cells.length),∃ v,C[i * z+j]?=some v/\VR T F ρ l[i].cells[j] v
theorem rS {i n z j:Nat} (hi:i < n) (hj:j < z):i * z+j < n * z:=by have:(i+1) * z<=n * z:=zQ z (by omega);rw [pX,Nat.one_mul] at this;omega
theorem SZ (hR:R T F ρ s W) {z:Nat} {l:List AV} {C:Array Value} (h:ER T F ρ z l C) (e:TypeId) (fr:Nat×Nat) (ex:Bool) (c:Nat) (hc:l.length<=c) (hx:ex=true->c=l.length) (id:Nat) :
  ∃ F',VR T F' ρ (.sl ex l) (.slice (some ⟨W.heap.size,0,none⟩) l.length c)/\R T F' ρ s (W.alloc (.cells C e fr))/\dM s ρ F W s ρ F' (W.alloc (.cells C e fr)):=by
 obtain ⟨r1,r2⟩:=hR.cold C e fr;refine ⟨_,?_,r1,r2⟩;obtain ⟨h1,h2,h3⟩:=h;by_cases hl:l=[]
 ·subst hl;exact .sl0 ex _ _ (by simpa using hx) (fun h=>nomatch h)
 ·refine .sl ex l W.heap.size 0 z c (fun i j=>C.getD (i * z+j) undef) hc hx h2 (fun i j hi hj=>?_) (fun i j hi hj=>?_)
  ·have hlt:i * z+j < C.size:=HT (rS hi hj) h1;rw [m023,UE hlt,m016 hlt];simp [Array.getD,hlt]
  ·obtain ⟨v,k1,k2⟩:=h3 i j hi hj
   have hlt:i * z+j < C.size:=by
    rcases zP (i * z+j) C.size with h' | h'
    ·exact h'
    ·rw [Array.getElem?_eq_none h'] at k1;cases k1
   have:C.getD (i * z+j) undef=v:=by rw [m016 hlt] at k1;simp only [Array.getD,hlt,dif_pos,m000] at k1 ⊢;exact k1
   rw [this];exact k2.mono r2.fz (rE.refl _)
theorem NI (vs:List Value):∀ (C:Array Value) (off j:Nat),off+vs.length<=C.size->(mR C off vs)[j]?=if off<=j/\j < off+vs.length then vs[j - off]? else C[j]?:=by
 induction vs with
 | nil=>intro C off j _;simp [mR];omega
 | cons v vs ih =>
  intro C off j h;simp only [List.length_cons] at h;rw [mR,ih _ _ _ (by simp;omega),m029];by_cases h1:off+1<=j/\j < off+1+vs.length
  ·rw [if_pos h1,if_pos (by simp;omega),show j - off=(j - (off+1))+1 by omega,List.getElem?_cons_succ]
  ·rw [if_neg h1];by_cases h2:off=j
   ·subst h2;rw [if_pos rfl,if_pos (by omega),if_pos (by simp)];simp
   ·rw [if_neg h2,if_neg (by simp;omega)]
theorem aJh (z:Nat):∀ (ps:List (Nat×AV)) (qs:List (Nat×Value)) (l:List AV) (C:Array Value) (l':List AV),PR T F ρ ps qs->ER T F ρ z l C->iM z l ps=some l' ->
  ∃ C',Instr.fill (fun i=>some (i * z,z)) C qs=some C'/\ER T F ρ z l' C'/\l'.length=l.length:=by
 intro ps
 induction ps with
 | nil =>intro qs l C l' hp hc h;have:qs=[]:=m034 (by have:=hp.1;simpa using this.symm);subst this;simp only [iM,m000] at h;subst h;exact ⟨C,rfl,hc,rfl⟩
 | cons p ps ih =>
  intro qs l C l' hp hc h
  cases qs with
  | nil=>have:=hp.1;simp at this
  | cons q qs =>
   obtain ⟨i,a⟩:=p;obtain ⟨j,v⟩:=q;obtain ⟨h1,h2,h3⟩:=hp.tail;simp only at h1 h2;subst h1;simp only [iM] at h
   split at h
   ·rename_i hcond;obtain ⟨q1,q2,q3⟩:=hcond;obtain ⟨hcr,_⟩:=vG q3 h2;obtain ⟨e1,e2,e3⟩:=hc;have hlen:v.cells.size=z:=by have:=hcr.1;simp at this;omega
    have hiz:i * z+z<=C.size:=by have:(i+1) * z<=l.length * z:=zQ z (by omega);rw [pX,Nat.one_mul] at this;omega
    simp only [Instr.fill];have hcnd:(decide (v.cells.size≠z)||decide (i * z+v.cells.size > C.size))=false:=by simp [hlen];omega
    rw [if_neg (by rw [hcnd];simp),FP z (i * z) v C]
    have hER:ER T F ρ z (l.set i a) (mR C (i * z) v.cells.toList):=by
     refine ⟨by simpa [nN] using e1,fun k hk=>?_,fun k m hk hm=>?_⟩
     ·rw [List.getElem_set];split
      ·exact q1
      ·exact e2 k (by simpa using hk)
     ·have hsz:(l.set i a)[k].cells.length=z:=by
       rw [List.getElem_set];split
       ·exact q1
       ·exact e2 k (by simpa using hk)
      have hm':m < z:=by omega
      rw [NI _ _ _ _ (by simp;omega)];by_cases hik:i=k
      ·subst hik;rw [if_pos (by simp;omega)];have hx:(l.set i a)[i]=a:=by simp
       have hma:m < a.cells.length:=by omega
       have hmv:m < v.cells.toList.length:=by rw [<- hcr.1];exact hma
       refine ⟨v.cells.toList[m],by rw [show i * z+m - i * z=m by omega];exact m004 hmv,?_⟩;have:=hcr.2 m hma hmv;simpa only [hx] using this
      ·have hne:¬ (i * z<=k * z+m/\k * z+m < i * z+v.cells.toList.length):=by
        simp only [Array.length_toList,hlen];intro ⟨g1,g2⟩;rcases Nat.lt_or_gt_of_ne hik with hlt | hgt
        ·have:(i+1) * z<=k * z:=zQ z (by omega);rw [pX,Nat.one_mul] at this;omega
        ·have:(k+1) * z<=i * z:=zQ z (by omega);rw [pX,Nat.one_mul] at this;omega
       rw [if_neg hne];have hx:(l.set i a)[k]=l[k]'(by simpa using hk):=by rw [List.getElem_set,if_neg hik]
       obtain ⟨v',w1,w2⟩:=e3 k m (by simpa using hk) (by have:=e2 k (by simpa using hk);omega);exact ⟨v',w1,by simpa only [hx] using w2⟩
    obtain ⟨C',k1,k2,k3⟩:=ih qs _ _ l' h3 hER h;exact ⟨C',k1,k2,by rw [k3];simp⟩
   ·cases h
theorem ZU (z n:Nat) (zs:Array Value) (hz:zs.size=z) (h0:0 < z):∀ i j,i < n->j < z->((Array.range (n * z)).map (zs[· % zs.size]!))[i * z+j]?=zs[j]?:=by
 intro i j hi hj;have hlt:i * z+j < n * z:=rS hi hj;rw [Array.getElem?_map,Array.getElem?_range];rw [if_pos hlt];have:(i * z+j) % zs.size=j:=by rw [hz,Nat.add_comm,Nat.add_mul_mod_self_right,Nat.mod_eq_of_lt hj]
 simp only [Option.map_some,this];rw [getElem!_pos zs j (by omega),m016 (by omega)]
theorem aYz {zv:AV} {v:Value} (hcr:CR T F ρ zv.cells v.cells.toList) {z n:Nat} (hz:zv.cells.length=z) (h0:0 < z):ER T F ρ z (List.replicate n zv) ((Array.range (n * z)).map (v.cells[· % v.cells.size]!)):=by
 have hvs:v.cells.size=z:=by have:=hcr.1;simp at this;omega
 refine ⟨by simp,fun i hi=>by simp [hz],fun i j hi hj=>?_⟩;simp only [List.length_replicate] at hi;simp only [List.getElem_replicate] at hj ⊢;rw [ZU z n v.cells hvs h0 i j hi (by omega)];exact ⟨v.cells[j]'(by omega),m016 (by omega),by have:=hcr.2 j hj (by simp;omega);rwa [Array.getElem_toList] at this⟩
theorem SC (hT:dO P T) (hR:R T F ρ s W) {t:TypeId} {n:Nat} {ps:List (Nat×AV)} {qs:Array (Nat×Value)} (hp:PR T F ρ ps qs.toList) {r:AV} (h:iQ T t n ps=some r) (id:Nat) :
  iS P T id s ρ F W r s (Instr.buildSlice t n qs):=by
 unfold iQ at h
 cases hd:dZ T t with
 | none=>rw [hd] at h;cases h
 | some d =>
  rw [hd] at h
  cases d with
  | slice e =>
   simp only at h
   cases hl:eN T e with
   | none=>rw [hl] at h;cases h
   | some zz =>
    obtain ⟨z,ag⟩:=zz
    cases hz:zero T e with
    | none=>rw [hl,hz] at h;cases h
    | some zv =>
     rw [hl,hz] at h;simp only at h
     split at h
     ·rename_i hc;obtain ⟨q1,q2,q3⟩:=hc;obtain ⟨v,hv,rfl⟩:=rC hT hz
      cases hs:iM z (List.replicate n (ofV v)) ps with
      | none=>rw [hs] at h;cases h
      | some l' =>
       rw [hs] at h;simp only [Option.map_some,m000] at h;subst h;obtain ⟨C',k1,k2,k3⟩:=aJh z ps qs.toList _ _ l' hp (aYz (n:=n) (jL v) q3 q2) hs;have hln:l'.length=n:=by rw [k3];simp
       obtain ⟨F',f1,f2,f3⟩:=SZ hR k2 e (0,0) true n (by omega) (fun _=>hln.symm) id;rw [hln] at f1;refine ⟨_,_,ρ,F',?_,f1,f2,f3,fun _ _ _=>rfl,bH _⟩;have hnz:¬ n * z > 2 ^ 24:=by omega
       by_cases h0:n * z=0
       ·have hn0:n=0:=by rcases Nat.mul_eq_zero.1 h0 with h | h<;>omega
        subst hn0;simp only [Instr.buildSlice,Sem.run_bind,run_underlying (cH hT hd),Result.andThen_ok,bA hT hl,if_neg hnz,if_pos h0,Sem.run_pure];have e0:(Array.range (0 * z)).map (fun i=>(#[]:Array Value)[i % (#[]:Array Value).size]!)=(Array.range (0 * z)).map (v.cells[· % v.cells.size]!):=by simp
        rw [e0,k1];rfl
       ·simp only [Instr.buildSlice,Sem.run_bind,run_underlying (cH hT hd),Result.andThen_ok,bA hT hl,if_neg hnz,if_neg h0,hv,Sem.run_pure];rw [k1];rfl
     ·cases h
  | _=>cases h
theorem aGg {zv:AV} {v:Value} (hcr:CR T F ρ zv.cells v.cells.toList) {z:Nat} (n:Nat) (hz:zv.cells.length=z) (h0:0 < z):CR T F ρ (List.replicate n zv.cells).flatten ((Array.range (n * z)).map (v.cells[· % v.cells.size]!)).toList:=by
 have hvs:v.cells.size=z:=by have:=hcr.1;simp at this;omega
 have hfl:∀ n,((List.replicate n zv.cells).flatten).length=n * z:=by
  intro n
  induction n with
  | zero=>simp
  | succ n ih=>rw [List.replicate_succ,List.flatten_cons,m006,ih,hz,vL];omega
 have hget:∀ n k,k < n * z->((List.replicate n zv.cells).flatten)[k]?=zv.cells[k % z]?:=by
  intro n
  induction n with
  | zero=>intro k hk;simp at hk
  | succ n ih =>
   intro k hk;rw [List.replicate_succ,List.flatten_cons];by_cases hkz:k < z
   ·rw [m051 (by omega),Nat.mod_eq_of_lt hkz]
   ·rw [List.getElem?_append_right (by omega),hz,ih (k - z) (by rw [vL] at hk;omega)];congr 1;rw [<- Nat.mod_eq_sub_mod (by omega)]
 refine ⟨by rw [hfl];simp,fun i a b=>?_⟩;have hi:i < n * z:=by rw [hfl] at a;exact a
 have hm:i % z < z:=Nat.mod_lt _ h0;have e1:((List.replicate n zv.cells).flatten)[i]=zv.cells[i % z]'(by omega):=by have:=hget n i hi;rw [m004 a,m004 (by omega)] at this;simpa using this
 have e2:(((Array.range (n * z)).map (v.cells[· % v.cells.size]!)).toList)[i]=v.cells[i % z]'(by omega):=by simp only [Array.getElem_toList,Array.getElem_map,Array.getElem_range,hvs];rw [getElem!_pos v.cells (i % z) (by omega)]
 rw [e1,e2];have:=hcr.2 (i % z) (by omega) (by simp;omega)
 rwa [Array.getElem_toList] at this
theorem IY (hT:dO P T) (hR:R T F ρ s W) {t et:TypeId} (hu:dZ T t=some (.slice et)) {z b:Nat} {ag:Bool} (hl:eN T et=some (z,ag)) (hb:dN T et=some b) {zv:AV} (hz:zero T et=some zv)
  {n c:AV} {i:Int} (hn:pF n=some i) (hc:pF c=some i) (h0:0<=i) (h1:i * b<=most) (h2:i<=most) (h3:zv.cells.length=z) (h4:0 < z)
  {u v:Value} (hvn:VR T F ρ n u) (hvc:VR T F ρ c v) {id:Nat} (hid:ρ id=none) (hlt:id < s.nx) :
  iS P T id s ρ F W (.ref id 0 i.toNat (some i.toNat) et) (s.set id (some (.cells (List.replicate i.toNat zv.cells).flatten et true true))) (Instr.makeSlice t u v):=by
 obtain ⟨k1,rfl⟩:=EG hn hvn;obtain ⟨k2,rfl⟩:=EG hc hvc;obtain ⟨zr,hzr,rfl⟩:=rC hT hz;obtain ⟨ib,hib,hib2⟩:=xO hT hb;have hcr:=aGg (jL (T:=T) (F:=F) (ρ:=ρ) zr) i.toNat h3 h4;obtain ⟨r1,r2,r3⟩:=DO hR hid hlt hcr et true;have hsz:((Array.range (i.toNat * z)).map (zr.cells[· % zr.cells.size]!)).size=i.toNat * z:=by simp
 refine ⟨.slice (some ⟨W.heap.size,0,none⟩) i.toNat i.toNat,_,_,F,?_,.ref _ 0 _ _ _ W.heap.size _ i.toNat z ag (cQ _ _) hl (bH _) (fun k hk=>by cases hk;exact ⟨rfl,by rw [hsz];omega⟩) (fun hk=>by cases hk),r1,r2,r3,bH _⟩;have hm:(most:Int)=1099511627776:=by decide
 have hw:IntKind.i64.wrap i=i:=by have:=IntWalk.i64_in i (by omega);exact this
 have hbi:¬ ((ib.bytes:Int) * i > 2 ^ 48):=by rw [hib2,Int.mul_comm];omega
 simp only [Instr.makeSlice,Sem.run_bind,run_underlying (cH hT hu),Result.andThen_ok,asInt,asIntOf,Sem.run_pure,typeInfo,run_program,hib,hw];have e1:(decide (i < 0)||decide ((ib.bytes:Int) * i > 2 ^ 48)||decide (i < 0)||decide (i > i))=false:=by simp only [JX,decide_eq_false_iff_not];exact ⟨⟨⟨by omega,hbi⟩,by omega⟩,by omega⟩
 rw [if_neg (by rw [e1];simp)];simp only [run_askRoom,Sem.run_bind,bA hT hl,Result.andThen_ok];by_cases hnz:i.toNat * z=0
 ·have e0:(Array.range (i.toNat * z)).map (fun i=>(#[]:Array Value)[i % (#[]:Array Value).size]!)=(Array.range (i.toNat * z)).map (zr.cells[· % zr.cells.size]!):=by rw [hnz];simp
  simp only [if_pos hnz,Sem.run_bind,Sem.run_pure,Result.andThen_ok,newRow,run_newObj];rw [e0];rfl
 ·simp only [if_neg hnz,Sem.run_bind,hzr,Sem.run_pure,Result.andThen_ok,newRow,run_newObj];rfl
end
end Go.Proofs.YtdehdahimkcakaaGreatDoor.Ai
namespace Go.Proofs.YtdehdahimkcakaaGreatDoor.Ai
open Go
section
variable {P:Program} {T:Ty} {F:Fz} {ρ:fD} {s:St} {W:World}
def OV (T:Ty) (F:Fz) (ρ:fD):Option AV->Option Value->Prop
 | none,none=>True
 | some a,some v=>VR T F ρ a v
 | _,_=>False
theorem cW {k:IntKind} {i:Int} {y:Nat} (h0:0<=i) (h1:i<=y) (c:BoundsCode):(Instr.sliceBound (.int k i) y c).run P W=.ok i.toNat W:=by simp only [Instr.sliceBound,asIntOf,Sem.run_bind,Sem.run_pure,Result.andThen_ok];rw [if_pos ⟨h0,h1⟩];rfl
theorem mZ {n c C:Nat} (hc:c<=C) {lo hi mx:Option AV} {r:Nat×Nat×Nat} (h:eF n c lo hi mx=some r) {l' h' m':Option Value} (hl:OV T F ρ lo l') (hh:OV T F ρ hi h') (hm:OV T F ρ mx m') (b:Bool) :
  (Instr.sliceBounds b n C l' h' m').run P W=.ok (r.1,r.2.1,if mx.isSome then r.2.2 else C) W/\r.1<=r.2.1/\r.2.1<=r.2.2/\r.2.2<=c/\(mx=none->r.2.2=c):=by
 unfold eF at h
 split at h
 ·cases h
 rename_i hmh
 cases hmi:pK c mx with
 | none=>rw [hmi] at h;cases h
 | some m =>
  cases hhi:pK n hi with
  | none=>rw [hmi,hhi] at h;cases h
  | some hh2 =>
   cases hli:pK 0 lo with
   | none=>rw [hmi,hhi,hli] at h;cases h
   | some l =>
    rw [hmi,hhi,hli] at h;simp only [Option.bind_some] at h
    split at h
    ·rename_i hb;obtain ⟨b0,b1,b2,b3⟩:=hb;simp only [m000] at h;subst h;simp only;have hcm:mx=none->m.toNat=c:=fun e=>by subst e;simp only [pK,m000] at hmi;omega
     refine ⟨?_,by omega,by omega,by omega,hcm⟩
     have ho:∀ {o:Option AV} {o':Option Value} {d:Nat} {i:Int},OV T F ρ o o'->pK d o=some i->(o=none/\o'=none/\i=d)\/∃ k,o.isSome=true/\o'=some (.int k i):=by
      intro o o' d i hov hoi
      cases o with
      | none=>cases o' with
       | none=>left;simp only [pK,m000] at hoi;exact ⟨rfl,rfl,hoi.symm⟩
       | some v=>exact hov.elim
      | some a=>cases o' with
       | none=>exact hov.elim
       | some v =>obtain ⟨k,rfl⟩:=EG (show pF a=some i from hoi) hov;right;exact ⟨k,rfl,rfl⟩
     rcases ho hm hmi with ⟨rfl,rfl,rfl⟩ | ⟨km,hms,rfl⟩
     ·rcases ho hh hhi with ⟨rfl,rfl,rfl⟩ | ⟨kh,_,rfl⟩
      ·rcases ho hl hli with ⟨rfl,rfl,rfl⟩ | ⟨kl,_,rfl⟩
       ·simp [Instr.sliceBounds]
       ·simp only [Instr.sliceBounds,Sem.run_bind,Sem.run_pure,Result.andThen_ok];rw [cW (by omega) (by omega)];rfl
      ·rcases ho hl hli with ⟨rfl,rfl,rfl⟩ | ⟨kl,_,rfl⟩
       ·simp only [Instr.sliceBounds,Sem.run_bind,Sem.run_pure,Result.andThen_ok];rw [cW (by omega) (by omega)];rfl
       ·simp only [Instr.sliceBounds,Sem.run_bind,Sem.run_pure,Result.andThen_ok];rw [cW (by omega) (by omega)];simp only [Result.andThen_ok,Sem.run_bind];rw [cW (by omega) (by omega)];rfl
     ·rw [if_pos hms];rcases ho hh hhi with ⟨rfl,rfl,rfl⟩ | ⟨kh,_,rfl⟩
      ·rw [hms] at hmh;simp at hmh
      ·rcases ho hl hli with ⟨rfl,rfl,rfl⟩ | ⟨kl,_,rfl⟩
       ·simp only [Instr.sliceBounds,Sem.run_bind,Sem.run_pure,Result.andThen_ok];rw [cW (by omega) (by omega)];simp only [Result.andThen_ok,Sem.run_bind];rw [cW (by omega) (by omega)];rfl
       ·simp only [Instr.sliceBounds,Sem.run_bind,Sem.run_pure,Result.andThen_ok];rw [cW (by omega) (by omega)];simp only [Result.andThen_ok,Sem.run_bind];rw [cW (by omega) (by omega)];simp only [Result.andThen_ok,Sem.run_bind];rw [cW (by omega) (by omega)];rfl
    ·cases h
theorem YE (hT:dO P T) (hR:R T F ρ s W) {t:TypeId} {x r:AV} {lo hi mx:Option AV} (h:fJ T t x lo hi mx s=some r) {u:Value} {l' h' m':Option Value} (hu:VR T F ρ x u) (hl:OV T F ρ lo l') (hh:OV T F ρ hi h') (hm:OV T F ρ mx m') :
  cX P T F ρ W r (Instr.sliceAt t u l' h' m'):=by
 unfold fJ at h
 cases hd:dZ T t with
 | none=>rw [hd] at h;cases h
 | some d =>
  have hun:=cH hT hd;rw [hd] at h
  cases d with
  | string =>
   simp only at h
   cases x with
   | str b =>
    cases mx with
    | some a=>cases h
    | none =>
     simp only at h
     cases hb:eF b.length b.length lo hi none with
     | none=>rw [hb] at h;cases h
     | some q =>
      rw [hb] at h;simp only [Option.map_some,m000] at h;subst h
      cases hu with
      | str _ bb hbb =>
       have hsz:bb.size=b.length:=by rw [<- hbb];simp
       cases m' with
       | some v=>exact hm.elim
       | none =>
        obtain ⟨k1,k2,k3,k4,k5⟩:=mZ (P:=P) (W:=W) (T:=T) (F:=F) (ρ:=ρ) (bH _) hb hl hh (mx:=none) (m':=none) trivial false;refine ⟨.string (bb.extract q.1 q.2.1),?_,.str _ _ ?_⟩
        ·simp only [Instr.sliceAt,Sem.run_bind,run_underlying hun,Result.andThen_ok,Instr.slice,Option.isSome_none,m015,if_false];rw [hsz];simp only [Sem.run_bind,k1,Result.andThen_ok,Sem.run_pure]
        ·subst hbb;rw [Lib.extract_data]
   | _=>cases mx<;>cases h
  | slice e =>
   simp only at h
   cases hly:eN T e with
   | none=>rw [hly] at h;cases h
   | some zz =>
    obtain ⟨z,ag⟩:=zz;rw [hly] at h;simp only [Option.bind_some] at h
    cases x with
    | nils =>
     simp only at h
     cases hb:eF 0 0 lo hi mx with
     | none=>rw [hb] at h;cases h
     | some q =>
      rw [hb] at h;simp only [Option.map_some,m000] at h;subst h;cases hu;obtain ⟨k1,k2,k3,k4,k5⟩:=mZ (P:=P) (W:=W) (bH _) hb hl hh hm true;refine ⟨.slice none 0 0,?_,.nils⟩;have e1:q.1=0:=by omega
      have e2:q.2.1=0:=by omega
      have e3:q.2.2=0:=by omega
      simp only [Instr.sliceAt,Sem.run_bind,run_underlying hun,Result.andThen_ok,Instr.slice,k1,bA hT hly,e1,e2,e3,Sem.run_pure];have e4:(if mx.isSome=true then 0 else 0)=0:=by split<;>rfl
      simp [e4]
    | sl ex l =>
     simp only at h
     split at h
     ·rename_i hhd
      cases hb:eF l.length l.length lo hi mx with
      | none=>rw [hb] at h;cases h
      | some q =>
       rw [hb] at h;simp only [Option.map_some,m000] at h;subst h;obtain ⟨a,c,rfl,hc,hx,hne⟩:=lO hu;have hn0:=HU hu;obtain ⟨k1,k2,k3,k4,k5⟩:=mZ (P:=P) (W:=W) hc hb hl hh hm true;refine ⟨.slice (if (if mx.isSome then q.2.2 else c)=q.1 then a else a.map (·.add (q.1 * z))) (q.2.1 - q.1) ((if mx.isSome then q.2.2 else c) - q.1),?_,?_⟩
       ·simp only [Instr.sliceAt,Sem.run_bind,run_underlying hun,Result.andThen_ok,Instr.slice,k1,bA hT hly,Sem.run_pure]
       ·have hexc:∀ ex',ex'=(if mx.isSome then q.2.2==q.2.1 else ex&&q.2.1==l.length)->ex'=true->(if mx.isSome then q.2.2 else c) - q.1=q.2.1 - q.1:=by
         intro ex' he ht;rw [he] at ht;by_cases hs:mx.isSome=true
         ·rw [if_pos hs] at ht ⊢;have:q.2.2=q.2.1:=by simpa using ht
          omega
         ·rw [if_neg hs] at ht ⊢;simp only [bN,beq_iff_eq] at ht;have:=hx ht.1;omega
        have hlen:((l.drop q.1).take (q.2.1 - q.1)).length=q.2.1 - q.1:=by simp;omega
        by_cases hemp:q.2.1=q.1
        ·have:(l.drop q.1).take (q.2.1 - q.1)=[]:=by rw [hemp];simp
         have hz0:q.2.1 - q.1=0:=by omega
         rw [this,hz0]
         exact .sl0 _ _ _ (fun ht=>by have:=hexc _ rfl ht;omega) (fun hn=>by
          by_cases hM:(if mx.isSome then q.2.2 else c)=q.1
          ·rw [hM];omega
          ·rw [if_neg hM] at hn;have h0:=hn0 (by simpa using hn)
           split<;>omega)
        ·have hlne:l≠[]:=by intro e;subst e;simp at k4;omega
         obtain ⟨β,b,z',rfl,hz,w,hf,hv⟩:=hne hlne
         have hzz:z'=z:=by
          cases l with
          | nil=>exact absurd rfl hlne
          | cons v l=>have:=hz 0 (by simp);simp at hhd this;omega
         subst hzz;have hm1:¬ (if mx.isSome then q.2.2 else c)=q.1:=by split<;>omega
         rw [if_neg hm1];have hq:q.2.1 - q.1=((l.drop q.1).take (q.2.1 - q.1)).length:=hlen.symm
         have hgoal:VR T F ρ (.sl (if mx.isSome then q.2.2==q.2.1 else ex&&q.2.1==l.length) ((l.drop q.1).take (q.2.1 - q.1))) (.slice (some ⟨β,b+q.1 * z',none⟩) ((l.drop q.1).take (q.2.1 - q.1)).length ((if mx.isSome then q.2.2 else c) - q.1)):=by
          refine .sl _ _ β (b+q.1 * z') z' _ (fun i j=>w (q.1+i) j) (by rw [hlen];split<;>omega) (fun ht=>by rw [hlen];exact hexc _ rfl ht) (fun i hi=>?_) (fun i j hi hj=>?_) (fun i j hi hj=>?_)
          ·simp only [m072,List.getElem_drop];exact hz _ _
          ·rw [hlen] at hi;have:=hf (q.1+i) j (by omega) hj;rw [pX,<- m066] at this;exact this
          ·simp only [m072,List.getElem_drop] at hj ⊢;exact hv _ _ _ hj
         rw [hlen] at hgoal;simp only [Option.map_some,Addr.add_lit];exact hgoal
     ·cases h
    | ref id off n cap e' =>
     simp only at h
     cases hb0:s.h id with
     | none=>rw [hb0] at h;cases h
     | some bk =>
      rw [hb0] at h
      cases bk with
      | cells cc ee exx wr =>
       simp only at h
       split at h
       ·rename_i hcd;obtain ⟨rfl,hz0,hof⟩:=hcd
        cases hu with
        | ref _ _ _ _ _ β size c z2 ag2 hρ hz2 hn hk hk2 =>
         rw [hly] at hz2;cases hz2;obtain ⟨β2,z3,o,g1,g2,g3,g4⟩:=hR.lt hb0;rw [hρ] at g1;cases g1;have hcs:cc.length<=size:=by cases o<;>first | exact g3.2.2.1 | exact g3.elim
         have hroom:(yO cap (cc.length - off) z)<=c:=by
          cases cap with
          | some k=>have:=(hk k rfl).1;simp only [yO];omega
          | none =>simp only [yO];have:=hk2 rfl;refine (Nat.div_le_iff_le_mul_add_pred hz0).2 ?_;rw [Nat.mul_comm];omega
         cases hb:eF n (yO cap (cc.length - off) z) lo hi mx with
         | none=>rw [hb] at h;cases h
         | some q =>
          rw [hb] at h;simp only [Option.map_some,m000] at h;obtain ⟨k1,k2,k3,k4,k5⟩:=mZ (P:=P) (W:=W) hroom hb hl hh hm true;refine ⟨.slice (if (if mx.isSome then q.2.2 else c)=q.1 then some ⟨β,off,none⟩ else (some (⟨β,off,none⟩:Addr)).map (·.add (q.1 * z))) (q.2.1 - q.1) ((if mx.isSome then q.2.2 else c) - q.1),?_,?_⟩
          ·simp only [Instr.sliceAt,Sem.run_bind,run_underlying hun,Result.andThen_ok,Instr.slice,k1,bA hT hly,Sem.run_pure]
          ·have hM:q.2.1<=(if mx.isSome then q.2.2 else c)/\(if mx.isSome then q.2.2 else c)<=c:=by split<;>omega
           split at h
           ·rename_i hz1;subst h;rw [hz1.2,Nat.sub_self];exact .sl0 _ _ _ (fun ht=>by cases ht) (fun hn=>by first | (cases hn;done) | (by_cases hM:(if mx.isSome then q.2.2 else c)=q.1<;>simp [hM] at hn;done) | (by_cases hM:(if mx.isSome then q.2.2 else c)=q.1;· (rw [if_pos hM] at hn;cases hn);· (rw [if_neg hM] at hn;cases hn)))
           ·rename_i hz1;subst h
            have haddr:(if (if mx.isSome then q.2.2 else c)=q.1 then some (⟨β,off,none⟩:Addr) else (some (⟨β,off,none⟩:Addr)).map (·.add (q.1 * z)))=some ⟨β,off+q.1 * z,none⟩:=by
             by_cases hq:(if mx.isSome=true then q.2.2 else c)=q.1
             ·have:q.1=0:=by
               rcases MZ q.1 with h' | h'
               ·exact h'
               ·exact absurd ⟨by omega,by omega⟩ hz1
              rw [if_pos hq,this];simp
             ·rw [if_neg hq];simp only [Option.map_some,Addr.add_lit]
            rw [haddr];have hsplit:∀ M:Nat,q.1<=M->off+q.1 * z+(M - q.1) * z=off+M * z:=fun M hM=>by rw [m066,<- pX,Nat.add_sub_cancel' hM]
            refine .ref _ _ _ _ _ β size _ z ag hρ hly (by omega) (fun k hk'=>?_) (fun hk'=>?_)
            ·by_cases hs:mx.isSome=true
             ·rw [if_pos hs] at hk' ⊢;simp only [m000] at hk';refine ⟨hk',?_⟩;rw [hsplit _ (by omega)]
              have hle:off+c * z<=size:=by
               cases cap with
               | some k=>exact (hk k rfl).2
               | none=>have:=hk2 rfl;omega
              have:=zQ z (show q.2.2<=c by rw [if_pos hs] at hM;omega);omega
             ·rw [if_neg hs] at hk' ⊢
              cases cap with
              | none=>cases hk'
              | some k =>simp only [Option.map_some,m000] at hk';obtain ⟨e1,e2⟩:=hk k rfl;refine ⟨by omega,?_⟩;rw [hsplit _ (by rw [if_neg hs] at hM;omega)];exact e2
            ·by_cases hs:mx.isSome=true
             ·rw [if_pos hs] at hk';cases hk'
             ·rw [if_neg hs] at hk' ⊢
              cases cap with
              | some k=>cases hk'
              | none=>rw [hsplit _ (by rw [if_neg hs] at hM;omega)];exact hk2 rfl
       ·cases h
      | _=>cases h
    | _=>cases h
  | array n e =>
   simp only at h
   cases x with
   | ptr id off =>
    simp only at h
    cases hly:eN T e with
    | none=>rw [hly] at h;cases h
    | some zz =>
     obtain ⟨z,ag⟩:=zz;rw [hly] at h;simp only [Option.bind_some] at h
     cases hb0:s.h id with
     | none=>rw [hb0] at h;cases h
     | some bk =>
      rw [hb0] at h
      cases bk with
      | cells cc ee exx wr =>
       simp only at h
       split at h
       ·rename_i hcd
        cases hu with
        | ptr _ _ β size hρ =>
         obtain ⟨β2,z3,o,g1,g2,g3,g4⟩:=hR.lt hb0;rw [hρ] at g1;cases g1;have hcs:cc.length<=size:=by cases o<;>first | exact g3.2.2.1 | exact g3.elim
         cases hb:eF n n lo hi mx with
         | none=>rw [hb] at h;cases h
         | some q =>
          rw [hb] at h;simp only [Option.map_some,m000] at h;obtain ⟨k1,k2,k3,k4,k5⟩:=mZ (P:=P) (W:=W) (bH n) hb hl hh hm false
          have hMe:(if mx.isSome then q.2.2 else n)=q.2.2:=by
           cases mx with
           | none=>exact (k5 rfl).symm
           | some a=>rfl
          rw [hMe] at k1;refine ⟨.slice (some (if q.2.2=q.1 then ⟨β,off,none⟩ else (⟨β,off,none⟩:Addr).add (q.1 * z))) (q.2.1 - q.1) (q.2.2 - q.1),?_,?_⟩
          ·simp only [Instr.sliceAt,Sem.run_bind,run_underlying hun,Result.andThen_ok,Instr.sureAddr,Sem.run_pure,k1,bA hT hly]
          ·split at h
           ·rename_i hz1;subst h;rw [hz1.2,Nat.sub_self];exact .sl0 _ _ _ (fun ht=>by cases ht) (fun hn=>by first | (cases hn;done) | (by_cases hM:(if mx.isSome then q.2.2 else c)=q.1<;>simp [hM] at hn;done) | (by_cases hM:(if mx.isSome then q.2.2 else c)=q.1;· (rw [if_pos hM] at hn;cases hn);· (rw [if_neg hM] at hn;cases hn)))
           ·rename_i hz1;subst h
            have haddr:(if q.2.2=q.1 then (⟨β,off,none⟩:Addr) else (⟨β,off,none⟩:Addr).add (q.1 * z))=⟨β,off+q.1 * z,none⟩:=by
             split
             ·rename_i hq
              have:q.1=0:=by
               rcases MZ q.1 with h' | h'
               ·exact h'
               ·exact absurd ⟨by omega,by omega⟩ hz1
              rw [this];simp
             ·rw [Addr.add_lit]
            rw [haddr];refine .ref _ _ _ _ _ β size _ z ag hρ hly (by omega) (fun k hk'=>?_) (fun hk'=>by cases hk');simp only [m000] at hk';refine ⟨hk',?_⟩;rw [m066,<- pX,Nat.add_sub_cancel' (by omega)];have:=zQ z (show q.2.2<=n by omega);omega
       ·cases h
      | _=>cases h
   | _=>cases h
  | _=>cases h
end
end Go.Proofs.YtdehdahimkcakaaGreatDoor.Ai
namespace Go.Proofs.YtdehdahimkcakaaGreatDoor.Ai
open Go
section
variable {P:Program} {T:Ty} {F:Fz} {ρ:fD} {s:St} {W:World}
theorem SW {x:AV} {n:Int} (h:aBa x=some n) {u:Value} (hu:VR T F ρ x u):u=.int .u8 n:=by
 unfold aBa at h
 split at h
 ·simp only [m000] at h;subst h;cases hu;rfl
 ·cases h
theorem FU:∀ (l:List AV) (ns:List Int),fW l=some ns->ns.length=l.length:=by
 intro l
 induction l with
 | nil=>intro ns h;simp only [fW,m000] at h;subst h;rfl
 | cons v l ih =>
  intro ns h;simp only [fW] at h
  split at h
  ·rename_i n ns' h1 h2;simp only [m000] at h;subst h;simp [ih _ h2]
  ·cases h
theorem GX:∀ (l:List AV) (ns:List Int),fW l=some ns->∀ i (a:i < l.length),aBa l[i]=some (ns.getD i 0):=by
 intro l
 induction l with
 | nil=>intro ns h i a;simp at a
 | cons v l ih =>
  intro ns h i a;simp only [fW] at h
  split at h
  ·rename_i n ns' h1 h2;simp only [m000] at h;subst h
   cases i with
   | zero=>simpa using h1
   | succ i =>have:=ih _ h2 i (by simpa using a);simpa using this
  ·cases h
theorem At.take {cs:List AV} {β b:Nat} (h:At T F ρ W cs β b) (off n:Nat):At T F ρ W ((cs.drop off).take n) β (b+off):=by
 obtain ⟨g,hg⟩:=h;refine ⟨fun j=>g (off+j),fun j hj=>?_⟩;have hj2:off+j < cs.length:=by simp at hj;omega
 have:=hg (off+j) hj2;rw [m066];refine ⟨this.1,?_⟩;simp only [m072,List.getElem_drop];exact this.2
theorem NK {l:List AV} {ns:List Int} (h:fW l=some ns) {β b:Nat} (ha:At T F ρ W l β b) {src e dst:TypeId} (hs:P.underlying src=some (.slice e)) (he:P.underlying e=some (.int .u8)) (hd:P.underlying dst=some .string) (c:Nat) :
  cX P T F ρ W (.str (ns.map fun n=>UInt8.ofNat n.toNat)) (convert src dst (.slice (some ⟨β,b,none⟩) l.length c)):=by
 obtain ⟨g,hg⟩:=ha;refine ⟨_,run_convert_bytes_arg W src e hs he β b l.length c ns (FU l ns h) (fun i hi=>?_) dst hd,.str _ _ (by rw [strOfNums_data])⟩;obtain ⟨h1,h2⟩:=hg i hi;rw [h1,SW (GX l ns h i hi) h2]
theorem qL (hR:R T F ρ s W) {id β z:Nat} {c:List AV} {e:TypeId} {ex wr:Bool} (hb:s.h id=some (.cells c e ex wr)) (hρ:ρ id=some (β,z)):W.shape? β=some (e,z)/\c.length<=z:=by
 obtain ⟨β',z',o,h1,h2,h3,h4⟩:=hR.lt hb;rw [hρ] at h1;cases h1
 cases o with
 | cells C e' fr =>obtain ⟨rfl,k2,k3,k4,k5,k6⟩:=h3;exact ⟨by simp [World.shape?,h2,k2],k3⟩
 | _=>exact h3.elim
theorem PK {e:TypeId} {z:Nat} (hz:P.cellsOf e=z) (h0:0 < z) (count:Nat) (hn:1<=count):liesAt P P.depth e count 0 e 1=true:=by
 have hd:P.depth=(2 * (P.types.size+Made.depth)+1)+1:=rfl;have hz0:¬ z=0:=by omega
 rw [hd];simp only [liesAt,uN];left;rw [hd];simp [rowAt,hz,hz0,hn,sameLayout]
theorem uM (hT:dO P T) {dst e:TypeId} (hd:P.underlying dst=some (.slice e)) (he:P.underlying e=some (.int .u8)) {src:TypeId} {ds:TypeDesc} (hs:P.underlying src=some ds) (hR:R T F ρ s W) (b:ByteArray) (id:Nat) :
  iS P T id s ρ F W (.sl false (b.data.toList.map fun c=>.int .u8 c.toNat)) s (convert src dst (.string b)):=by
 have hrunc:(choose (.appendCap b.size 0 e)).run P W=.ok ((Question.appendCap b.size 0 e).cut (W.tape W.drawn (.appendCap b.size 0 e))) W.drew:=by rw [run_choose_drew];simp [Question.forced]
 generalize hcap:(Question.appendCap b.size 0 e).cut (W.tape W.drawn (.appendCap b.size 0 e))=cap at hrunc;have hge:b.size<=cap:=by rw [<- hcap];exact grownCap_ge W b.size 0 e
 let C:Array Value:=(b.data.map fun x=>Value.int .u8 x.toNat)++Array.replicate (cap - b.size) (.int .u8 0)
 have hbs:b.data.toList.length=b.size:=by rw [Array.length_toList];rfl
 have hCs:C.size=cap:=by have:b.data.size=b.size:=rfl;simp only [C,Array.size_append,Array.size_map,Array.size_replicate,this];omega
 have hRd:R T F ρ s W.drew:=⟨hR.blk,hR.inj,hR.fz,hR.fresh⟩
 have hER:ER T F ρ 1 (b.data.toList.map fun c=>.int .u8 c.toNat) C:=by
  refine ⟨by rw [hCs,m002,hbs,FJ];exact hge,fun i hi=>by rw [m070];rfl,fun i j hi hj=>?_⟩;have hj0:j=0:=by simp [AV.cells] at hj;exact hj
  subst hj0;simp at hi;refine ⟨.int .u8 (b.data[i]'hi).toNat,?_,?_⟩
  ·simp only [FJ,Nat.add_zero,C];rw [Array.getElem?_append_left (by simpa using hi)];simp [hi]
  ·simp only [m070,AV.cells,List.getElem_cons_zero,Array.getElem_toList];exact .int _ _
 obtain ⟨F',f1,f2,f3⟩:=SZ hRd hER e (cap,cap+1) false cap (by rw [m002,hbs];exact hge) (by intro h;cases h) id;refine ⟨.slice (some ⟨W.heap.size,0,none⟩) b.size cap,W.drew.alloc (.cells C e (cap,cap+1)),ρ,F',?_,?_,f2,?_,fun _ _ _=>rfl,bH _⟩
 ·have hw:(W.drew.alloc (.cells C e)).freeze ⟨W.heap.size,cap,none⟩ 1=W.drew.alloc (.cells C e (cap,cap+1)):=by
   unfold World.freeze World.alloc;simp only [Nat.one_ne_zero,if_false];congr 1;apply Array.ext_getElem?;intro i;rw [Array.getElem?_modify];have hsz:W.drew.heap.size=W.heap.size:=rfl;rw [Array.getElem?_push,Array.getElem?_push,hsz];by_cases hi:W.heap.size=i
   ·subst hi;simp
   ·rw [if_neg hi,if_neg (fun e=>hi e.symm),if_neg (fun e=>hi e.symm)]
  have hsh:(W.drew.alloc (.cells C e)).shape? W.heap.size=some (e,cap):=by
   have:(W.drew.heap.push (.cells C e))[W.heap.size]?=some (.cells C e):=by have hsz:W.drew.heap.size=W.heap.size:=rfl;rw [<- hsz,Array.getElem?_push,if_pos rfl]
   simp only [World.shape?,World.alloc,this,hCs]
  simp only [convert,Sem.run_bind,run_underlying hs,run_underlying hd,run_underlying he,Result.andThen_ok,Conv.stringToBytes,hrunc,newRow,run_newObj_alloc,Sem.run_pure,markStringish,run_shape];have e1:W.drew.heap.size=W.heap.size:=rfl;rw [e1];simp only [C] at hsh hw;simp only [hsh,Sem.run_bind,run_freeze,Result.andThen_ok,Sem.run_pure,hw,C]
 ·have:(b.data.toList.map fun c=>AV.int .u8 c.toNat).length=b.size:=by rw [m002];exact hbs
  rw [this] at f1;exact f1
 ·exact ⟨f3.rho,f3.fz,f3.os,f3.tape,f3.output,f3.size,f3.same,f3.born,f3.cold⟩
theorem aWf (hR:R T F ρ s W) {ex:Bool} {l:List AV} {β b z:Nat} {w:Nat->Nat->Value} (hz:∀ i (h:i < l.length),l[i].cells.length=z) (hf:∀ i j,i < l.length->j < z->F ⟨β,b+i * z+j,none⟩=some (w i j))
  (hv:∀ i j (h:i < l.length) (h2:j < l[i].cells.length),VR T F ρ l[i].cells[j] (w i j)) (h0:0 < z):At T F ρ W (l.flatMap AV.cells) β b:=by
 have hlen:∀ (l:List AV),(∀ i (h:i < l.length),l[i].cells.length=z)->(l.flatMap AV.cells).length=l.length * z:=by
  intro l
  induction l with
  | nil=>intro _;simp
  | cons v l ih =>intro h;rw [m024,m006,ih (fun i hi=>h (i+1) (by rw [List.length_cons];omega))];have:=h 0 (by simp);simp only [List.getElem_cons_zero] at this;rw [this,List.length_cons,vL];omega
 have hget:∀ (l:List AV),(∀ i (h:i < l.length),l[i].cells.length=z)->∀ k,k < l.length * z->(l.flatMap AV.cells)[k]?=(l[k / z]?).bind fun v=>v.cells[k % z]?:=by
  intro l
  induction l with
  | nil=>intro _ k hk;simp at hk
  | cons v l ih =>
   intro h k hk;have hv0:=h 0 (by simp);simp only [List.getElem_cons_zero] at hv0;rw [m024];by_cases hkz:k < z
   ·rw [m051 (by omega),Nat.div_eq_of_lt hkz,Nat.mod_eq_of_lt hkz];simp
   ·rw [List.getElem?_append_right (by omega),hv0,ih (fun i hi=>h (i+1) (by rw [List.length_cons];omega)) (k - z) (by rw [List.length_cons,vL] at hk;omega)];have e1:k / z=(k - z) / z+1:=by rw [Nat.div_eq k z,if_pos ⟨h0,by omega⟩]
    rw [e1,List.getElem?_cons_succ,<- Nat.mod_eq_sub_mod (by omega)]
 refine ⟨fun k=>w (k / z) (k % z),fun k hk=>?_⟩;rw [hlen l hz] at hk;have hi:k / z < l.length:=(Nat.div_lt_iff_lt_mul h0).2 hk;have hj:k % z < z:=Nat.mod_lt _ h0;have hF:=hf (k / z) (k % z) hi hj;have hsum:b+k / z * z+k % z=b+k:=by rw [m066,Nat.div_add_mod' k z]
 rw [hsum] at hF;refine ⟨(hR.fz _ _ hF).1,?_⟩;have hg:=hget l hz k hk;rw [m004 (by rw [hlen l hz];exact hk),m004 hi] at hg;simp only [Option.bind_some] at hg;rw [m004 (by rw [hz _ hi];exact hj)] at hg;simp only [m000] at hg;rw [hg];exact hv _ _ hi (by rw [hz _ hi];exact hj)
theorem MV:∀ (l:List AV) (ns:List Int),fW l=some ns->l.flatMap AV.cells=l:=by
 intro l
 induction l with
 | nil=>intro _ _;rfl
 | cons v l ih =>
  intro ns h;simp only [fW] at h
  split at h
  ·rename_i n ns' h1 h2;rw [m024,ih _ h2];unfold aBa at h1
   split at h1
   ·rfl
   ·cases h1
  ·cases h
theorem aEh (hT:dO P T) (hR:R T F ρ s W) {src dst:TypeId} {x r:AV} (h:kG T src dst x s=some r) {u:Value} (hu:VR T F ρ x u) (id:Nat):iS P T id s ρ F W r s (convert src dst u):=by
 unfold kG at h
 cases hs:dZ T src with
 | none=>rw [hs] at h;simp at h
 | some ds =>
  cases hd:dZ T dst with
  | none=>rw [hs,hd] at h;simp at h
  | some dd =>
   have hs':=cH hT hs;have hd':=cH hT hd;rw [hs,hd] at h
   split at h
   ·rename_i k k0 n h1 h2;simp only [m000] at h1 h2 h;subst h2 h;cases hu;refine cX.does hR id ⟨_,?_,.int _ _⟩;simp only [convert,Sem.run_bind,run_underlying hs',run_underlying hd',Result.andThen_ok];rfl
   ·rename_i b h1 h2;simp only [m000] at h1 h2 h;subst h2 h
    cases hu with
    | str _ bb hbb =>refine cX.does hR id ⟨_,?_,.str _ bb hbb⟩;simp only [convert,Sem.run_bind,run_underlying hs',run_underlying hd',Result.andThen_ok];rfl
   ·rename_i e b h1 h2;simp only [m000] at h1 h2;subst h2
    split at h
    ·rename_i he;simp only [m000] at h;subst h
     cases hu with
     | str _ bb hbb =>subst hbb;exact uM hT hd' (cH hT he) hs' hR bb id
    ·cases h
   ·rename_i e h1 h2 h3;simp only [m000] at h1 h2;subst h1 h2
    cases he:dZ T e with
    | none=>rw [he] at h;simp at h
    | some de =>
     rw [he] at h;have he':=cH hT he
     split at h
     ·rename_i h4;simp only [m000] at h4 h;subst h4 h;cases hu;exact cX.does hR id ⟨_,run_convert_bytes_nil W src e hs' he' 0 0 dst hd',.str _ _ rfl⟩
     ·rename_i ex l h4;simp only [m000] at h4;subst h4
      cases hns:fW l with
      | none=>rw [hns] at h;cases h
      | some ns =>
       rw [hns] at h;simp only [Option.map_some,m000] at h;subst h;obtain ⟨a,c,rfl,hc,hx,hne⟩:=lO hu;by_cases hl:l=[]
       ·subst hl;simp only [fW,m000] at hns;subst hns
        cases a with
        | none=>exact cX.does hR id ⟨_,run_convert_bytes_nil W src e hs' he' _ c dst hd',.str _ _ rfl⟩
        | some a =>refine cX.does hR id ⟨.string .empty,?_,.str _ _ rfl⟩;rw [List.length_nil,run_convert_bytes_string W src dst e _ 0 c hs' he' hd',run_bytesToString W a 0 c [] (by simp [loadCells,loadCellsFrom])];rfl
       ·obtain ⟨β,b,z,rfl,hz,w,hf,hv⟩:=hne hl
        have hz1:z=1:=by
         cases l with
         | nil=>exact absurd rfl hl
         | cons v l =>
          have:=hz 0 (by simp);simp only [fW] at hns
          split at hns
          ·rename_i n ns' h1 h2;unfold aBa at h1
           split at h1
           ·simp only [List.getElem_cons_zero] at this;exact this.symm
           ·cases h1
          ·cases hns
        have hat:=aWf hR (ex:=ex) hz hf hv (by omega);rw [MV l ns hns] at hat;exact cX.does hR id (NK hns hat hs' he' hd' c)
     ·rename_i ids off n cap ty h4;simp only [m000] at h4;subst h4
      cases hb:s.h ids with
      | none=>rw [hb] at h;cases h
      | some bk =>
       rw [hb] at h
       cases bk with
       | cells c e0 ex wr =>
        simp only at h
        split at h
        ·rename_i hle
         cases hns:fW ((c.drop off).take n) with
         | none=>rw [hns] at h;cases h
         | some ns =>
          rw [hns] at h;simp only [Option.map_some,m000] at h;subst h
          cases hu with
          | ref _ _ _ _ _ β size cc z ag hρ hz hn hk hk2 =>
           obtain ⟨β',z',q1,q2⟩:=hR.at hb;rw [hρ] at q1;cases q1;have hat:=q2.take off n;rw [m023] at hat;have hlen:((c.drop off).take n).length=n:=by simp;omega
           have:=NK (P:=P) hns hat hs' he' hd' cc;rw [hlen] at this;exact cX.does hR id this
        ·cases h
       | _=>cases h
     ·cases h
   ·rename_i t h1 h2;simp only [m000] at h1 h2 h;subst h1 h2 h;cases hu;refine cX.does hR id ⟨_,?_,.nilp⟩;simp only [convert,Sem.run_bind,run_underlying hs',run_underlying hd',Result.andThen_ok,Conv.unsafePointer];rfl
   ·rename_i t h1 h2;simp only [m000] at h1 h2 h;subst h1 h2 h;cases hu;refine cX.does hR id ⟨_,?_,.nilp⟩;simp only [convert,Sem.run_bind,run_underlying hs',run_underlying hd',Result.andThen_ok,Conv.unsafePointer];rfl
   ·rename_i t i0 off h1 h2;simp only [m000] at h1 h2;subst h1 h2
    cases hb:s.h i0 with
    | none=>rw [hb] at h;simp at h
    | some bk =>
     rw [hb] at h
     cases bk with
     | cells c e ex wr =>
      cases hl:eN T t with
      | none=>rw [hl] at h;simp at h
      | some zz =>
       obtain ⟨z,ag⟩:=zz;rw [hl] at h;simp only at h
       split at h
       ·rename_i hc;simp only [m000] at h;subst h
        cases hu with
        | ptr _ _ β size hρ =>obtain ⟨hsh,hle⟩:=qL hR hb hρ;obtain ⟨j,d,hj,hj2,_,_⟩:=mQ hT hl;refine cX.does hR id ⟨_,Lib.run_to_unsafe (P:=P) (w:=W) ⟨β,off,none⟩ hs' hd' hj (by omega) hsh (by simp only;omega),.ptr _ _ _ _ hρ⟩
       ·cases h
     | _=>simp at h
   ·rename_i u0 i0 off h1 h2;simp only [m000] at h1 h2;subst h1 h2
    cases hb:s.h i0 with
    | none=>rw [hb] at h;simp at h
    | some bk =>
     rw [hb] at h
     cases bk with
     | cells c e ex wr =>
      cases hl:eN T u0 with
      | none=>rw [hl] at h;simp at h
      | some zz =>
       obtain ⟨z,ag⟩:=zz;rw [hl] at h;simp only at h
       split at h
       ·rename_i hc;obtain ⟨rfl,rfl,hz0,hzc⟩:=hc;simp only [m000] at h;subst h
        cases hu with
        | ptr _ _ β size hρ =>
         obtain ⟨hsh,hle⟩:=qL hR hb hρ;obtain ⟨j,d,hj,hj2,_,_⟩:=mQ hT hl;have hcz:P.cellsOf e=z:=by simp [Program.cellsOf,hj,hj2]
         refine cX.does hR id ⟨_,Lib.run_from_unsafe (P:=P) (w:=W) ⟨β,0,none⟩ hs' hd' hj hsh (PK hcz hz0 _ ?_),.ptr _ _ _ _ hρ⟩;rw [hcz];exact (Nat.le_div_iff_mul_le hz0).2 (by omega)
       ·cases h
     | _=>simp at h
   ·cases h
end
end Go.Proofs.YtdehdahimkcakaaGreatDoor.Ai
end
