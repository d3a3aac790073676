/- Texts joined by wip/tools/pack.py: Read. -/
import Derived.ChangeOld
import Derived.Test.YtdehdahimkcakaaGreatDoorXi
open Nat renaming reduceAdd→Z0, reduceEqDiff→Z1
set_option linter.unusedSimpArgs false
set_option linter.unusedVariables false
namespace Go.Proofs.YtdehdahimkcakaaGreatDoor.Ai
open Go
noncomputable section
section
variable {H:Type} {enc:TypeId×Value->H} {P:Program} {T:Ty} {ρ:fD} {W W':World} {base:Nat} {held:Bool}
mutual
def dAV:DataW H->AV
 | .lit (.bool b)=>.bool b
 | .lit (.int k n)=>.int k n
 | .lit (.string s)=>.str s
 | .nil=>.sl false []
 | .slice l _=>.sl false (NF l)
 | .agg l=>.agg (IJ l)
 | _=>.undef
def NF:List (DataW H)->List AV
 | []=>[]
 | d::l=>dAV d::NF l
def IJ:List (DataW H)->List AV
 | []=>[]
 | d::l=>(dAV d).cells++IJ l
end
theorem aSx (l:List (DataW H)):NF l=l.map dAV:=by induction l with | nil=>rfl | cons d l ih=>simp [NF,ih]
def nY (T:Ty) (S:List Nat):List Field->Nat->Nat->Bool
 | [],o,z=>Nat.beq o z
 | f::fs,o,z=>match T f.type with
  | some i=>Nat.beq f.offset o&&dY f.type S&&nY T S fs (o+i.size) z
  | none=>false
def iO (T:Ty) (S:List Nat) (t:Nat):Bool:=match dZ T t,T t with
 | some .bool,some i | some (.int _),some i | some .string,some i=>Nat.beq i.size 1
 | some (.slice e),some i=>Nat.beq i.size 1&&dY e S&&match T e with
  | some j=>Nat.blt 0 j.size
  | none=>false
 | some (.array n e),some i=>dY e S&&match T e with
  | some j=>Nat.beq i.size (n * j.size)
  | none=>false
 | some (.struct fs),some i=>nY T S fs.toList 0 i.size
 | _,_=>false
theorem oN (hT:dO P T) {t:TypeId} {i:TypeInfo} (h:T t=some i):P.cellsOf t=i.size:=by unfold Program.cellsOf;rw [hT t i h];rfl
theorem nP {α β:Type} {f g:α->Option β} {p:α->β->Prop}:∀ {l:List α} {r:List β},l.mapM f=some r->(∀ x∈l,∀ y,f x=some y->g x=some y/\p x y)->l.mapM g=some r/\r.length=l.length/\∀ i (h:i < l.length) (h':i < r.length),p l[i] r[i]:=by
 intro l
 induction l with
 | nil=>intro r h _;simp at h;subst h;exact ⟨by simp,rfl,fun i h=>by simp at h⟩
 | cons a l ih =>
  intro r h hp;simp only [List.mapM_cons,Option.pure_def,Option.bind_eq_bind] at h ⊢
  cases ha:f a with
  | none=>rw [ha] at h;simp at h
  | some b =>
   rw [ha] at h
   cases hl:l.mapM f with
   | none=>rw [hl] at h;simp at h
   | some bs =>
    rw [hl] at h;simp at h;subst h;obtain ⟨k1,k2⟩:=hp a (m007 ..) b ha;obtain ⟨m1,m2,m3⟩:=ih hl fun x hx=>hp x (m005 _ hx);refine ⟨by rw [k1,m1];rfl,by simp [m2],fun i h h'=>?_⟩
    cases i with
    | zero=>exact k2
    | succ i=>exact m3 i (by simpa using h) (by simpa using h')
def SN (T:Ty) (ρ:fD) (W:World) (d:DataW H) (cs:List Value):Prop:=CR T W.cell? ρ (dAV d).cells cs
theorem RR {a:Addr} {n:Nat} {cs:List Value} (h:W.cells? base a n=some cs):cs.length=n/\(0 < n->a.spot=none)/\∀ j (hj:j < cs.length),W.cell? ⟨a.block,a.off+j,none⟩=some cs[j]:=by
 obtain ⟨_,hl,hc⟩:=World.cells?_some h;have key:∀ j (hj:j < cs.length),W.cell? (a.add j)=some cs[j]:=fun j hj=>by rw [hc j (by omega),m004 hj]
 have h0:0 < n->a.spot=none:=fun hn=>by
  have h1:=key 0 (by omega)
  cases hs:a.spot with
  | none=>rfl
  | some s =>
   simp only [World.cell?,Addr.add,if_pos,hs] at h1
   split at h1
   ·simp at h1
   ·cases h1
 refine ⟨hl,h0,fun j hj=>?_⟩;have h1:=key j hj;have hs:=h0 (by omega)
 have:a.add j=⟨a.block,a.off+j,none⟩:=by
  obtain ⟨ab,ao,asp⟩:=a;simp only at hs;subst hs;unfold Addr.add
  split
  ·rename_i h;subst h;rfl
  ·rfl
 rw [<- this];exact h1
theorem wU (a:Addr) (n:Nat):(a.add n).block=a.block/\(a.add n).off=a.off+n:=by
 unfold Addr.add
 split
 ·rename_i h;subst h;exact ⟨rfl,rfl⟩
 ·exact ⟨rfl,rfl⟩
theorem QN (hk:∀ a v,W.cell? a=some v->W'.cell? a=some v) {a:Addr} {n:Nat} {cs:List Value} (h:W.cells? base a n=some cs):W'.cells? base a n=some cs:=by
 unfold World.cells? at h ⊢
 split at h
 ·rename_i hb;rw [if_pos hb];exact (nP (p:=fun _ _=>True) h fun x _ y hy=>⟨hk _ _ hy,trivial⟩).1
 ·cases h
theorem JD (hT:dO P T) {S:List Nat} (hS:∀ t∈S,iO T S t=true) (hk:∀ a v,W.cell? a=some v->W'.cell? a=some v):∀ (n:Nat) (t:TypeId) (cs:List Value) (d:DataW H) (ps:List MemPlace),t∈S ->
  DataW.trod enc P W base (fun _=>true) held n t cs=some (d,ps)->SN T ρ W d cs/\cs.length=P.cellsOf t/\DataW.trod enc P W' base (fun b=>decide (b < W.heap.size)) held n t cs=some (d,ps):=by
 intro n
 induction n with
 | zero=>intro t cs d ps _ h;simp [DataW.trod] at h
 | succ n ih =>
  intro t cs d ps ht h;have hsh:=hS t ht;unfold iO at hsh
  cases hi:T t with
  | none=>rw [hi] at hsh;split at hsh<;>simp_all
  | some i =>
  have hco:=oN hT hi
  cases hu:dZ T t with
  | none=>rw [hu,hi] at hsh;simp at hsh
  | some ud =>
  have hP:P.underlying t=some ud:=cH hT hu;rw [hu,hi] at hsh
  cases ud with
  | bool =>
   have hsz:=jS hsh;unfold DataW.trod at h ⊢;rw [hP] at h ⊢
   match cs,h with
   | [.bool b],h =>simp only [m000,m001] at h ⊢;obtain ⟨rfl,rfl⟩:=h;exact ⟨CR.cons (.bool b) CR.nil,by rw [hco,hsz];rfl,rfl,rfl⟩
  | int k =>
   have hsz:=jS hsh;unfold DataW.trod at h ⊢;rw [hP] at h ⊢
   match cs,h with
   | [.int k' m],h =>
    simp only at h ⊢
    split at h
    ·rename_i hc;rw [if_pos hc];simp only [m000,m001] at h;obtain ⟨rfl,rfl⟩:=h;obtain ⟨rfl,_⟩:=hc;exact ⟨CR.cons (.int _ _) CR.nil,by rw [hco,hsz];rfl,rfl⟩
    ·cases h
  | string =>
   have hsz:=jS hsh;unfold DataW.trod at h ⊢;rw [hP] at h ⊢
   match cs,h with
   | [.string b],h =>
    simp only at h ⊢
    split at h
    ·rename_i hc;rw [if_pos hc];simp only [m000,m001] at h;obtain ⟨rfl,rfl⟩:=h;exact ⟨CR.cons (.str _ _ rfl) CR.nil,by rw [hco,hsz];rfl,rfl⟩
    ·cases h
  | slice e =>
   simp only [bN] at hsh;obtain ⟨⟨h1,h2⟩,h3⟩:=hsh;have hsz:=jS h1;have he:=bL.1 h2
   cases hj:T e with
   | none=>rw [hj] at h3;cases h3
   | some j =>
   rw [hj] at h3;have hz0:0 < P.cellsOf e:=by rw [oN hT hj];simpa [Nat.blt_eq] using h3
   unfold DataW.trod at h ⊢;rw [hP] at h ⊢
   match cs,h with
   | [.slice none 0 0],h =>simp only [m000,m001] at h ⊢;obtain ⟨rfl,rfl⟩:=h;exact ⟨CR.cons (.sl0 false none 0 (fun h=>nomatch h) (fun _=>rfl)) CR.nil,by rw [hco,hsz];rfl,rfl,rfl⟩
   | [.slice (some a) len cap],h =>
    simp only [if_true] at h ⊢
    split at h
    ·rename_i hc;rw [if_pos hc];simp only [m028,m022,m001] at h;obtain ⟨elems,hel,rest,hre,rfl,rfl⟩:=h
     have hat:∀ i y,(W.cells? base (a.add (i * P.cellsOf e)) (P.cellsOf e)).bind (DataW.trod enc P W base (fun _=>true) held n e)=some y ->
       (W'.cells? base (a.add (i * P.cellsOf e)) (P.cellsOf e)).bind (DataW.trod enc P W' base (fun b=>decide (b < W.heap.size)) held n e)=some y /\
       ((i=0->a.spot=none)/\a.block < W.heap.size/\(dAV y.1).cells.length=P.cellsOf e/\∃ w:Nat->Value,(∀ j,j < P.cellsOf e->W.cell? ⟨a.block,a.off+i * P.cellsOf e+j,none⟩=some (w j))/\∀ j (h:j < (dAV y.1).cells.length),VR T W.cell? ρ (dAV y.1).cells[j] (w j)):=fun i y hy=>by
      obtain ⟨ds,hd1,hd2⟩:=m028.1 hy;obtain ⟨y1,y2⟩:=y;obtain ⟨k1,k2,k3⟩:=ih e ds y1 y2 he hd2;obtain ⟨c1,c2,c3⟩:=RR hd1;refine ⟨by rw [QN hk hd1];exact k3,?_,by rw [<- (wU a (i * P.cellsOf e)).1];exact World.cells?_block hd1 hz0,by rw [k1.1,c1],fun j=>(ds[j]?).getD undef,fun j hj=>?_,fun j hj=>?_⟩
      ·intro h0;subst h0;have:=c2 hz0;rw [Nat.zero_mul] at this;exact this
      ·have hj':j < ds.length:=by omega
       have:=c3 j hj';rw [(wU a (i * P.cellsOf e)).1,(wU a (i * P.cellsOf e)).2] at this;simp only [m004 hj',Option.getD_some];exact this
      ·have hj':j < ds.length:=by rw [<- k1.1];exact hj
       have:=k1.2 j hj hj';simp only [m004 hj',Option.getD_some];exact this
     obtain ⟨m1,m2,m3⟩:=nP hel fun i _ y hy=>hat i y hy;obtain ⟨r1,r2,r3⟩:=nP hre fun j _ y hy=>hat (len+j) y hy;simp only [List.length_range] at m2 r2
     have hgoal:SN T ρ W (.slice (elems.map (·.1)) (rest.map (·.1))) [.slice (some a) len cap]:=by
      show CR T W.cell? ρ [.sl false (NF (elems.map (·.1)))] [.slice (some a) len cap];refine CR.cons ?_ CR.nil;rw [aSx];by_cases h0:len=0
      ·have:elems=[]:=m034 (by omega);subst this;subst h0;exact .sl0 false _ _ (fun h=>nomatch h) (fun h=>nomatch h)
      ·have hl:((elems.map (·.1)).map dAV).length=len:=by simp [m2]
       have hsp:=(m3 0 (by simp;omega) (by omega)).1 (by simp);have ea:a=⟨a.block,a.off,none⟩:=by cases a;simp only at hsp;subst hsp;rfl
       rw [ea];have hget:∀ i (h:i < elems.length),(dAV elems[i].1).cells.length=P.cellsOf e/\∃ w:Nat->Value,(∀ j,j < P.cellsOf e->W.cell? ⟨a.block,a.off+i * P.cellsOf e+j,none⟩=some (w j))/\∀ j (h:j < (dAV elems[i].1).cells.length),VR T W.cell? ρ (dAV elems[i].1).cells[j] (w j):=fun i h=>by have:=m3 i (by simp;omega) h;simp only [List.getElem_range] at this;exact this.2.2
       have hw:∃ w:Nat->Nat->Value,∀ i (h:i < elems.length),(∀ j,j < P.cellsOf e->W.cell? ⟨a.block,a.off+i * P.cellsOf e+j,none⟩=some (w i j))/\∀ j (h:j < (dAV elems[i].1).cells.length),VR T W.cell? ρ (dAV elems[i].1).cells[j] (w i j) :=
        ⟨fun i=>if h:i < elems.length then (hget i h).2.choose else fun _=>undef,fun i h=>by simp only [dif_pos h];exact (hget i h).2.choose_spec⟩
       obtain ⟨w,hw⟩:=hw;have:=VR.sl (T:=T) (F:=W.cell?) (ρ:=ρ) false ((elems.map (·.1)).map dAV) a.block a.off (P.cellsOf e) cap w (by rw [hl];exact hc.2.1) (fun h=>nomatch h) (fun i h=>by simp only [m070];exact (hget i (by simpa using h)).1) (fun i j hi hj=>(hw i (by simpa using hi)).1 j hj) (fun i j hi hj=>by simp only [m070] at hj ⊢;exact (hw i (by simpa using hi)).2 j hj);rw [hl] at this;exact this
     refine ⟨hgoal,by rw [hco,hsz];rfl,?_⟩;rw [m1];simp only [Option.bind_some];by_cases hb:a.block < W.heap.size
     ·simp only [hb,decide_true,if_true,r1,Option.map_some]
     ·have:cap - len=0:=by
       rcases MZ (cap - len) with h0 | h0
       ·exact h0
       ·have:=r3 0 (by simpa using h0) (by omega);exact absurd this.2.1 hb
      have hrest:rest=[]:=m034 (by omega);subst hrest;simp only [hb,decide_false,m015,if_false,Option.map_some]
    ·cases h
  | array m e =>
   simp only [bN] at hsh;obtain ⟨h2,h3⟩:=hsh;have he:=bL.1 h2
   cases hj:T e with
   | none=>rw [hj] at h3;cases h3
   | some j =>
   rw [hj] at h3;have hsz:P.cellsOf t=m * P.cellsOf e:=by rw [hco,oN hT hj];exact jS h3
   unfold DataW.trod at h ⊢;rw [hP] at h ⊢;have h:(if cs.length=P.cellsOf t then ((List.range m).mapM fun i=>DataW.trod enc P W base (fun _=>true) held n e ((cs.drop (i * P.cellsOf e)).take (P.cellsOf e))).map fun xs=>((.agg (xs.map (·.1)),xs.flatMap (·.2)):DataW H×List MemPlace) else none)=some (d,ps):=by revert h;cases cs<;>exact id
   have hg:(if cs.length=P.cellsOf t then ((List.range m).mapM fun i=>DataW.trod enc P W' base (fun b=>decide (b < W.heap.size)) held n e ((cs.drop (i * P.cellsOf e)).take (P.cellsOf e))).map fun xs=>((.agg (xs.map (·.1)),xs.flatMap (·.2)):DataW H×List MemPlace) else none)=some (d,ps)/\SN T ρ W d cs/\cs.length=P.cellsOf t:=by
    split at h
    ·rename_i hc;rw [if_pos hc];simp only [m022,m001] at h;obtain ⟨xs,hxs,rfl,rfl⟩:=h
     have key:∀ (k o:Nat) (xs:List (DataW H×List MemPlace)),o+k=m->((List.range' o k).mapM fun i=>DataW.trod enc P W base (fun _=>true) held n e ((cs.drop (i * P.cellsOf e)).take (P.cellsOf e)))=some xs ->
       ((List.range' o k).mapM fun i=>DataW.trod enc P W' base (fun b=>decide (b < W.heap.size)) held n e ((cs.drop (i * P.cellsOf e)).take (P.cellsOf e)))=some xs/\CR T W.cell? ρ (IJ (xs.map (·.1))) (cs.drop (o * P.cellsOf e)):=by
      intro k
      induction k with
      | zero =>
       intro o xs ho hx;simp at hx;subst hx;refine ⟨by simp,?_⟩;have:cs.drop (o * P.cellsOf e)=[]:=by apply m044;rw [hc,hsz,show o=m by omega];exact bH _
       rw [this];exact CR.nil
      | succ k ihk =>
       intro o xs ho hx;rw [List.range'_succ] at hx ⊢;simp only [List.mapM_cons,Option.pure_def,Option.bind_eq_bind] at hx ⊢
       cases ha:DataW.trod enc P W base (fun _=>true) held n e ((cs.drop (o * P.cellsOf e)).take (P.cellsOf e)) with
       | none=>rw [ha] at hx;simp at hx
       | some y =>
       rw [ha] at hx
       cases hl:(List.range' (o+1) k).mapM fun i=>DataW.trod enc P W base (fun _=>true) held n e ((cs.drop (i * P.cellsOf e)).take (P.cellsOf e)) with
       | none=>rw [hl] at hx;simp at hx
       | some ys =>
       rw [hl] at hx;simp at hx;subst hx;obtain ⟨y1,y2⟩:=y;obtain ⟨k1,k2,k3⟩:=ih _ _ _ _ he ha;obtain ⟨q1,q2⟩:=ihk (o+1) ys (by omega) hl;refine ⟨by rw [k3,q1];rfl,?_⟩;simp only [m039,IJ];have hsplit:cs.drop (o * P.cellsOf e)=(cs.drop (o * P.cellsOf e)).take (P.cellsOf e)++cs.drop ((o+1) * P.cellsOf e):=by rw [pX,Nat.one_mul,<- List.drop_drop];exact (List.take_append_drop _ _).symm
       rw [hsplit];exact CR.append k1 q2
     rw [List.range_eq_range'] at hxs ⊢;obtain ⟨q1,q2⟩:=key m 0 xs (by omega) hxs;refine ⟨by rw [q1];rfl,?_,hc⟩;show CR T W.cell? ρ (IJ (xs.map (·.1))) cs;simpa using q2
    ·cases h
   refine ⟨hg.2.1,hg.2.2,?_⟩;have:=hg.1;revert this;cases cs<;>exact id
  | struct fs =>
   unfold DataW.trod at h ⊢;rw [hP] at h ⊢;have h:(if cs.length=P.cellsOf t then (fs.toList.mapM fun f=>DataW.trod enc P W base (fun _=>true) held n f.type ((cs.drop f.offset).take (P.cellsOf f.type))).map fun xs=>((.agg (xs.map (·.1)),xs.flatMap (·.2)):DataW H×List MemPlace) else none)=some (d,ps):=by revert h;cases cs<;>exact id
   have hg:(if cs.length=P.cellsOf t then (fs.toList.mapM fun f=>DataW.trod enc P W' base (fun b=>decide (b < W.heap.size)) held n f.type ((cs.drop f.offset).take (P.cellsOf f.type))).map fun xs=>((.agg (xs.map (·.1)),xs.flatMap (·.2)):DataW H×List MemPlace) else none)=some (d,ps)/\SN T ρ W d cs/\cs.length=P.cellsOf t:=by
    split at h
    ·rename_i hc;rw [if_pos hc];simp only [m022,m001] at h;obtain ⟨xs,hxs,rfl,rfl⟩:=h
     have key:∀ (l:List Field) (o:Nat) (xs:List (DataW H×List MemPlace)),nY T S l o i.size=true->o<=cs.length->(l.mapM fun f=>DataW.trod enc P W base (fun _=>true) held n f.type ((cs.drop f.offset).take (P.cellsOf f.type)))=some xs ->
       (l.mapM fun f=>DataW.trod enc P W' base (fun b=>decide (b < W.heap.size)) held n f.type ((cs.drop f.offset).take (P.cellsOf f.type)))=some xs/\CR T W.cell? ρ (IJ (xs.map (·.1))) (cs.drop o):=by
      intro l
      induction l with
      | nil =>
       intro o xs hf ho hx;simp at hx;subst hx;have:o=i.size:=jS hf;refine ⟨by simp,?_⟩;have:cs.drop o=[]:=by apply m044;rw [hc,hco,this];exact bH _
       rw [this];exact CR.nil
      | cons f l ihl =>
       intro o xs hf ho hx;simp only [nY] at hf
       cases hfi:T f.type with
       | none=>rw [hfi] at hf;cases hf
       | some fi =>
       rw [hfi] at hf;simp only [bN] at hf;obtain ⟨⟨f1,f2⟩,f3⟩:=hf;have f1:=jS f1;have f2:=bL.1 f2;have hfc:=oN hT hfi;simp only [List.mapM_cons,Option.pure_def,Option.bind_eq_bind] at hx ⊢
       cases ha:DataW.trod enc P W base (fun _=>true) held n f.type ((cs.drop f.offset).take (P.cellsOf f.type)) with
       | none=>rw [ha] at hx;simp at hx
       | some y =>
       rw [ha] at hx
       cases hl:l.mapM fun f=>DataW.trod enc P W base (fun _=>true) held n f.type ((cs.drop f.offset).take (P.cellsOf f.type)) with
       | none=>rw [hl] at hx;simp at hx
       | some ys =>
       rw [hl] at hx;simp at hx;subst hx;obtain ⟨y1,y2⟩:=y;obtain ⟨k1,k2,k3⟩:=ih _ _ _ _ f2 ha;have hle:o+fi.size<=cs.length:=by simp only [m020,List.length_drop,f1,hfc] at k2;omega
       obtain ⟨q1,q2⟩:=ihl (o+fi.size) ys f3 hle hl;refine ⟨by rw [k3,q1];rfl,?_⟩;simp only [m039,IJ];have hsplit:cs.drop o=(cs.drop f.offset).take (P.cellsOf f.type)++cs.drop (o+fi.size):=by rw [f1,hfc,<- List.drop_drop];exact (List.take_append_drop _ _).symm
       rw [hsplit];exact CR.append k1 q2
     obtain ⟨q1,q2⟩:=key fs.toList 0 xs hsh (hO _) hxs;refine ⟨by rw [q1];rfl,?_,hc⟩;show CR T W.cell? ρ (IJ (xs.map (·.1))) cs;simpa using q2
    ·cases h
   refine ⟨hg.2.1,hg.2.2,?_⟩;have:=hg.1;revert this;cases cs<;>exact id
  | _=>simp at hsh
end
end
end Go.Proofs.YtdehdahimkcakaaGreatDoor.Ai
