/- Texts joined by wip/tools/pack.py: SimC,SimD. -/
import Derived.Deep.AppendSrc
import Derived.Lib.UnsafeStr
import Derived.MapKept
import Derived.Test.YtdehdahimkcakaaGreatDoorXd
open Nat renaming reduceAdd→Z0, reduceEqDiff→Z1
set_option linter.unusedSimpArgs false
set_option linter.unusedVariables false
noncomputable section
namespace Go.Proofs.YtdehdahimkcakaaGreatDoor.Ai
open Go
section
variable {P:Program} {T:Ty} {F:Fz} {ρ:fD} {s:St} {W:World}
theorem At.src {c:List AV} {β b:Nat} (h:At T F ρ W c β b):∃ news:List Value,CR T F ρ c news/\∀ j v,news[j]?=some v->W.cell? ((⟨β,b,none⟩:Addr).add j)=some v:=by
 obtain ⟨g,hg⟩:=h;refine ⟨(List.range c.length).map g,⟨by simp,fun i a b=>by simpa using (hg i a).2⟩,fun j v hj=>?_⟩
 have hlt:j < c.length:=by
  rcases zP j c.length with h' | h'
  ·exact h'
  ·rw [List.getElem?_eq_none (by simpa using h')] at hj;cases hj
 rw [m047,List.getElem?_range hlt] at hj;simp only [Option.map_some,m000] at hj;subst hj;rw [Addr.add_lit];exact (hg j hlt).1
theorem aJd {c:List AV} {vs:List Value} (h:CR T F ρ c vs) (h1:c.all AV.one=true):∀ u∈vs,u.oneCell'=true:=by
 intro u hu;obtain ⟨i,hi,rfl⟩:=List.getElem_of_mem hu;have hi':i < c.length:=by rw [h.1];exact hi
 exact aKl (m032.1 h1 _ (List.getElem_mem hi')) (h.2 i hi' hi)
structure sN (P:Program) (T:Ty) (F:Fz) (ρ:fD) (W:World) (z:Nat) (c:List AV) (u:Value) (n:Nat) (news:List Value):Prop where
 len:∀ W',(Builtin.lenOf u).run P W'=.ok n W'
 size:c.length=n * z
 cr:CR T F ρ c news
 cells:∀ k,k<=n->∀ W',(∀ a v,W.cell? a=some v->W'.cell? a=some v)->(Builtin.firstCells z k u).run P W'=.ok (news.take (k * z)).toArray W'
theorem sN.of_at {c:List AV} {β b z n cap:Nat} (h:At T F ρ W c β b) (hc:c.length=n * z):∃ news,sN P T F ρ W z c (.slice (some ⟨β,b,none⟩) n cap) n news:=by
 obtain ⟨news,h1,h2⟩:=h.src;refine ⟨news,fun _=>rfl,hc,h1,fun k hk W' hW=>run_firstCells_some W' z k _ n cap _ ?_ fun j v hj=>?_⟩
 ·have:=zQ z hk;have:=h1.1;simp;omega
 ·rw [List.getElem?_take] at hj
  split at hj
  ·exact hW _ _ (h2 j v hj)
  ·cases hj
theorem LY {l:List AV} {z:Nat} (h:∀ i (h:i < l.length),l[i].cells.length=z):(l.flatMap AV.cells).length=l.length * z:=by
 induction l with
 | nil=>simp
 | cons v l ih =>have:=h 0 (by simp);simp only [List.getElem_cons_zero] at this;rw [m024,m006,ih (fun i hi=>h (i+1) (by rw [List.length_cons];omega)),this,List.length_cons,vL];omega
theorem JE (hR:R T F ρ s W) {z:Nat} (h0:0 < z) {x:AV} {c:List AV} (h:aR z x s=some c) {u:Value} (hu:VR T F ρ x u):∃ n news,sN P T F ρ W z c u n news:=by
 unfold aR at h
 split at h
 ·simp only [m000] at h;subst h;cases hu;exact ⟨0,[],fun _=>rfl,by simp,CR.nil,fun k hk W' _=>by rw [Nat.le_zero.1 hk];simpa using run_firstCells_none W' z 0 0 0⟩
 ·simp only [m000] at h;subst h
  cases hu with
  | emp a c=>exact ⟨0,[],fun _=>rfl,by simp,CR.nil,fun k hk W' _=>by rw [Nat.le_zero.1 hk];simp [Builtin.firstCells,loadCells,loadCellsFrom]⟩
 ·rename_i b
  split at h
  ·rename_i hz1;subst hz1;simp only [m000] at h;subst h
   cases hu with
   | str _ bb hbb =>
    subst hbb;have hbs:bb.data.toList.length=bb.size:=by rw [Array.length_toList];rfl
    refine ⟨bb.size,byteCells bb,fun _=>rfl,by rw [m002,hbs,FJ],⟨by rw [m002,hbs,byteCells_length],fun i a b=>?_⟩,fun k hk W' _=>?_⟩
    ·simp only [byteCells,m070];exact .int _ _
    ·simp only [Builtin.firstCells,Sem.run_pure,FJ];congr 1;apply Array.ext';simp only [Array.toList_map,byteCells];rw [Lib.extract_data,m048,Nat.sub_zero,List.map_take]
  ·cases h
 ·rename_i ex l
  split at h
  ·rename_i hall;simp only [m000] at h;subst h;obtain ⟨a,cp,rfl,hc,hx,hne⟩:=lO hu;have hzl:∀ i (h:i < l.length),l[i].cells.length=z:=fun i hi=>by have:=m032.1 hall _ (List.getElem_mem hi);simpa using this
   by_cases hl:l=[]
   ·subst hl;refine ⟨0,[],fun _=>rfl,by simp,CR.nil,fun k hk W' _=>?_⟩;rw [Nat.le_zero.1 hk]
    cases a with
    | none=>simpa using run_firstCells_none W' z 0 0 cp
    | some a=>simp [Builtin.firstCells,loadCells,loadCellsFrom]
   ·obtain ⟨β,b,z',rfl,hz',w,hf,hv⟩:=hne hl;have:z'=z:=by have hp:=List.length_pos_iff.2 hl;rw [<- hz' 0 hp,hzl 0 hp]
    subst this;obtain ⟨news,hg⟩:=sN.of_at (P:=P) (cap:=cp) (aWf hR (ex:=ex) hz' hf hv h0) (LY hz');exact ⟨_,news,hg⟩
  ·cases h
 ·rename_i id off n cap e
  cases hb:s.h id with
  | none=>rw [hb] at h;cases h
  | some bk =>
   rw [hb] at h
   cases bk with
   | cells cc e0 ex wr =>
    simp only at h
    split at h
    ·rename_i hle;simp only [m000] at h;subst h
     cases hu with
     | ref _ _ _ _ _ β size cp z1 ag hρ hz1 hn hk hk2 =>obtain ⟨β',z',q1,q2⟩:=hR.at hb;rw [hρ] at q1;cases q1;have hat:=q2.take off (n * z);rw [m023] at hat;obtain ⟨news,hg⟩:=sN.of_at (P:=P) (cap:=cp) hat (n:=n) (z:=z) (by simp;omega);exact ⟨_,news,hg⟩
    ·cases h
   | _=>cases h
 ·cases h
theorem sN.all {z:Nat} {c:List AV} {u:Value} {n:Nat} {news:List Value} (h:sN P T F ρ W z c u n news) {W':World} (hW:∀ a v,W.cell? a=some v->W'.cell? a=some v) :
  (Builtin.firstCells z n u).run P W'=.ok news.toArray W':=by
 have:=h.cells n (bH _) W' hW
 rwa [m014 (by rw [<- h.cr.1,h.size];exact bH _)] at this
theorem sY (W:World):∀ a v,W.cell? a=some v->W.drew.cell? a=some v:=fun _ _ h=>h
structure WK (P:Program) (T:Ty) (F:Fz) (ρ:fD) (W:World) (e:TypeId) (i:TypeInfo) (ats:Array TypeId) (u:Value) (nc:List AV) (m:Nat) (news:List Value):Prop where
 kind:∃ tx d,ats[1]?=some tx/\P.underlying tx=some d/\((((∃ e',d=.slice e')\/d=.string)/\(∀ W',(Builtin.lenOf u).run P W'=.ok m W')/\(Builtin.firstCells i.size m u).run P W=.ok news.toArray W/\(Builtin.firstCells i.size m u).run P W.drew=.ok news.toArray W.drew) \/
  (∃ k,d=.int k)/\∃ k j zr,u=.int k j/\0<=j/\j<=most/\j * i.bytes<=most/\m=j.toNat/\i.zero=some zr/\news=(Builtin.zeroCells zr.cells m).toList)
 cr:CR T F ρ nc news
 size:nc.length=m * i.size
 one:nc.all AV.one=true
theorem OS {e:TypeId} {i:TypeInfo} {ats:Array TypeId} {u:Value} {nc:List AV} {m:Nat} {news:List Value} (hf:WK P T F ρ W e i ats u nc m news) {t:TypeId} (hat:ats[0]?=some t) (ht:P.underlying t=some (.slice e)) (hi:P.info? e=some i) (h0:0 < i.size)
  {ty:TypeId} {b off sLen sCap:Nat} (hroom:sLen+m<=sCap) (hc:∀ j,j < news.length->(W.cell? ⟨b,off+sLen * i.size+j,none⟩).isSome=true) (hfr:∀ j,j < news.length->W.frozen? ⟨b,off+sLen * i.size+j,none⟩=false) :
  (Builtin.append_ ats ty #[.slice (some ⟨b,off,none⟩) sLen sCap,u]).run P W=.ok (.slice (some ⟨b,off,none⟩) (sLen+m) sCap) (W.setCells b (off+sLen * i.size) news):=by
 have hst:=run_storeCells_cells (P:=P) b (off+sLen * i.size) news 0 W (by simpa using hc) (by simpa using hfr) (aJd hf.cr hf.one);simp only [Nat.add_zero] at hst;obtain ⟨tx,d,h1,h2,h3 | h3⟩:=hf.kind
 ·obtain ⟨hd,hl,hn,_⟩:=h3;rcases hd with ⟨e',rfl⟩ | rfl<;>simp [Builtin.append_,hat,h1,run_underlying ht,run_underlying h2,sizeOf,typeInfo,hi,hl,hroom,hn,Addr.add_lit,hst]
 ·obtain ⟨⟨k,rfl⟩,k',j,zr,rfl,p0,p1,p2,rfl,hz,rfl⟩:=h3;have hm:(most:Int)=1099511627776:=by decide
  have hw:IntKind.i64.wrap j=j:=IntWalk.i64_in j (by omega);have q0:¬ j < 0:=by omega
  have q1:¬ (281474976710656 < j * (i.bytes:Int)):=by omega
  by_cases hnz:j=0
  ·subst hnz;simp only [Int.toNat_zero] at *;have e0:(Builtin.zeroCells zr.cells 0).toList=[]:=by simp [Builtin.zeroCells]
   rw [e0] at hst ⊢;have hr:sLen<=sCap:=by omega
   simp [Builtin.append_,hat,h1,run_underlying ht,run_underlying h2,sizeOf,typeInfo,hi,asInt,asIntOf,hw,hr,hz,Addr.add_lit,zeroValue,storeCells,World.setCells]
  ·have hj:j.toNat≠0:=by omega
   have hs0:i.size≠0:=by omega
   simp [Builtin.append_,hat,h1,run_underlying ht,run_underlying h2,sizeOf,typeInfo,hi,asInt,asIntOf,hw,q0,q1,hroom,hz,Addr.add_lit,zeroValue,hst,hs0,p0];intro h';exfalso;rcases Nat.mul_eq_zero.1 h' with h' | h'<;>omega
theorem aJe {e:TypeId} {i:TypeInfo} {ats:Array TypeId} {u:Value} {nc:List AV} {m:Nat} {news:List Value} (hf:WK P T F ρ W e i ats u nc m news) {t:TypeId} (hat:ats[0]?=some t) (ht:P.underlying t=some (.slice e)) (hi:P.info? e=some i) (h0:0 < i.size)
  {z:Value} (hz:i.zero=some z) {ty:TypeId} {base:Option Addr} {sLen sCap:Nat} {olds:List Value} (hold:(Builtin.firstCells i.size sLen (.slice base sLen sCap)).run P W.drew=.ok olds.toArray W.drew)
  (hg:sCap < sLen+m) (hb1:(sLen+m) * i.bytes<=most) (hb2:sLen+m<=most) :
  (Builtin.append_ ats ty #[.slice base sLen sCap,u]).run P W=.ok (.slice (some ⟨W.heap.size,0,none⟩) (sLen+m) (grownCap W (sLen+m) sCap e))
    (W.drew.alloc (.cells ((olds++news).toArray++Builtin.zeroCells z.cells (grownCap W (sLen+m) sCap e - (sLen+m))) e)):=by
 have hm:most=1099511627776:=by decide
 have hfit:Builtin.nextslicecap (sLen+m) sCap * i.bytes<=281474976710656:=growslice_fits hg (by omega);have hn:¬ (sLen+m<=sCap):=by omega
 have h63':¬ (9223372036854775807 < ((sLen:Int)+(m:Int))):=by omega
 have h48':¬ (281474976710656 < Builtin.nextslicecap (sLen+m) sCap * i.bytes):=by omega
 obtain ⟨tx,d,h1,h2,h3 | h3⟩:=hf.kind
 ·obtain ⟨hd,hl,_,hcD⟩:=h3
  rcases hd with ⟨e',rfl⟩ | rfl <;>
   (simp [Builtin.append_,hat,h1,run_underlying ht,run_underlying h2,sizeOf,typeInfo,zeroValue,hi,hz,hl,hn,h63',h48',Question.forced,hcD,hold,newRow,grownCap]
    congr 2;apply Array.ext'
    simp [m019])
 ·obtain ⟨⟨k,rfl⟩,k',j,zr,rfl,p0,p1,p2,rfl,hz2,rfl⟩:=h3;rw [hz] at hz2;cases hz2;have hm':(most:Int)=1099511627776:=by decide
  have hw:IntKind.i64.wrap j=j:=IntWalk.i64_in j (by omega);have q0:¬ j < 0:=by omega
  have q1:¬ (281474976710656 < j * (i.bytes:Int)):=by omega
  have hs0:i.size≠0:=by omega
  have h63'':¬ (9223372036854775807 < ((sLen:Int)+max j 0)):=by
   have:max j 0=j:=by omega
   rw [this];omega
  by_cases hnz:j=0
  ·subst hnz;have e0:(Builtin.zeroCells z.cells 0).toList=[]:=by simp [Builtin.zeroCells]
   simp only [Int.toNat_zero] at *;rw [e0];have hn':¬ (sLen<=sCap):=by omega
   have h63n:¬ (9223372036854775807 < (sLen:Int)):=by omega
   have h48n:¬ (281474976710656 < Builtin.nextslicecap sLen sCap * i.bytes):=by simpa using h48'
   simp [Builtin.append_,hat,h1,run_underlying ht,run_underlying h2,sizeOf,typeInfo,zeroValue,hi,hz,asInt,asIntOf,hw,hn',h63n,h48n,Question.forced,hold,newRow,grownCap]
  ·have hj:¬ j<=0:=by omega
   simp [Builtin.append_,hat,h1,run_underlying ht,run_underlying h2,sizeOf,typeInfo,zeroValue,hi,hz,asInt,asIntOf,hw,q0,q1,hs0,hn,hj,h63',h63'',h48',Question.forced,hold,newRow,grownCap];have hjz:¬ j.toNat * i.size=0:=by intro h';rcases Nat.mul_eq_zero.1 h' with h' | h'<;>omega
   rw [if_neg hjz];congr 3;apply Array.ext';simp [m019]
theorem R.renew (h:R T F ρ s W) {id nid β z:Nat} {b b':mK} {o':Obj} (hb:s.h id=some b) (hr:ρ id=some (β,z)) (ho:OR T F ρ z b' o') (hnone:ρ nid=none) (hlt:nid < s.nx) :
  R T F (xF ρ nid (β,z)) ((s.set id none).set nid (some b')) (dV W β o')/\dM s ρ F W ((s.set id none).set nid (some b')) (xF ρ nid (β,z)) F (dV W β o'):=by
 have hle:=UB hnone (β,z);obtain ⟨β0,z0,o0,k1,k2,k3,k4⟩:=h.lt hb;rw [hr] at k1;cases k1;have hne:id≠nid:=fun e=>by rw [e,hnone] at hr;cases hr
 have hother:∀ γ,γ≠β->(dV W β o').heap[γ]?=W.heap[γ]?:=fun γ hγ=>by simp only [dV];rw [m029];rw [if_neg (Ne.symm hγ)]
 have hlive:∀ i,i≠nid->((s.set id none).set nid (some b')).h i≠none->s.h i≠none/\i≠id:=fun i hi hl=>by
  rw [gK _ _ hi] at hl;by_cases hii:i=id
  ·subst hii;simp at hl
  ·rw [gK _ _ hii] at hl;exact ⟨hl,hii⟩
 refine ⟨⟨?_,?_,?_,?_⟩,⟨hle,oA.refl _,rfl,rfl,rfl,by simp [dV],fun γ hγ hl=>hother γ fun e=>hl ⟨id,z,by rw [hb];simp,by rw [e];exact hr⟩,?_,fun _ _ h _ _=>h⟩⟩
 ·intro i c hc;by_cases hii:i=nid
  ·subst hii;rw [DH] at hc;cases hc;exact ⟨β,z,o',cQ _ _,by simp only [dV];rw [m029];simp [k4],ho.mono (oA.refl _) hle⟩
  ·obtain ⟨hl,hni⟩:=hlive i hii (by rw [hc];simp);rw [gK _ _ hii,gK _ _ hni] at hc;obtain ⟨γ,z',o,h1,h2,h3,h4⟩:=h.lt hc;refine ⟨γ,z',o,hle _ _ h1,?_,h3.mono (oA.refl _) hle⟩;rw [hother γ]
   ·exact h2
   ·intro e;subst e;exact hni (h.inj i id γ z' z hl (by rw [hb];simp) h1 hr)
 ·intro i j γ z1 z2 hi hj h1 h2;by_cases hii:i=nid
  ·by_cases hjj:j=nid
   ·rw [hii,hjj]
   ·subst hii;rw [cQ] at h1;cases h1;rw [dT hjj] at h2;obtain ⟨hl,hni⟩:=hlive j hjj hj;exact absurd (h.inj j id β z2 z hl (by rw [hb];simp) h2 hr) hni
  ·by_cases hjj:j=nid
   ·subst hjj;rw [cQ] at h2;cases h2;rw [dT hii] at h1;obtain ⟨hl,hni⟩:=hlive i hii hi;exact absurd (h.inj i id β z1 z hl (by rw [hb];simp) h1 hr) hni
   ·rw [dT hii] at h1;rw [dT hjj] at h2;exact h.inj i j γ z1 z2 (hlive i hii hi).1 (hlive j hjj hj).1 h1 h2
 ·intro a v ha;obtain ⟨h1,h2⟩:=h.fz a v ha;have hnb:a.block≠β:=fun e=>h2 id z (by rw [hb];simp) (by rw [e];exact hr);refine ⟨?_,fun i z' hi hc=>?_⟩
  ·unfold World.cell? at h1 ⊢;rw [hother _ hnb];exact h1
  ·by_cases hii:i=nid
   ·subst hii;rw [cQ] at hc;simp only [m000,m001] at hc;exact hnb hc.1.symm
   ·rw [dT hii] at hc;exact h2 i z' (hlive i hii hi).1 hc
 ·intro i hi;have hi2:s.nx<=i:=hi;rw [dT (by omega)];exact h.fresh i hi2
 ·intro γ ⟨i,z',hi,hc⟩ hγ;by_cases hii:i=nid
  ·subst hii;rw [cQ] at hc;cases hc;exact ⟨id,z,by rw [hb];simp,hr⟩
  ·rw [dT hii] at hc;exact ⟨i,z',(hlive i hii hi).1,hc⟩
theorem AL (hT:dO P T) (hR:R T F ρ s W) {e:TypeId} {z b:Nat} {ag:Bool} (hl:eN T e=some (z,ag)) (hbb:dN T e=some b) {zv:AV} (hz:zero T e=some zv) (hzl:zv.cells.length=z) (h0:0 < z)
  {base:Option Addr} {sLen sCap m:Nat} {olds news:List Value} {oc nc:List AV} {i:TypeInfo} (hi:P.info? e=some i)
  (hold:(Builtin.firstCells i.size sLen (.slice base sLen sCap)).run P W.drew=.ok olds.toArray W.drew) (ho:CR T F ρ oc olds) (hol:oc.length=sLen * i.size)
  {ats:Array TypeId} {u:Value} (hf:WK P T F ρ W e i ats u nc m news) {t ty:TypeId} (hat:ats[0]?=some t) (ht:P.underlying t=some (.slice e)) (hg:sCap < sLen+m) {id:Nat} (hid:ρ id=none) (hlt:id < s.nx) {r:AV} {s':St} (h:eC e z b (oc++nc) id s=some (r,s')) :
  iS P T id s ρ F W r s' (Builtin.append_ ats ty #[.slice base sLen sCap,u]):=by
 unfold eC at h
 split at h
 ·rename_i hfits;simp only [kD,m000,m001] at h;obtain ⟨rfl,rfl⟩:=h;obtain ⟨i1,d1,hi1,hs1,_,_⟩:=mQ hT hl;rw [hi] at hi1;cases hi1;obtain ⟨i2,hi2,hb2⟩:=xO hT hbb;rw [hi] at hi2;cases hi2;obtain ⟨i3,zr,hi3,hz3,rfl⟩:=JH hT hz;rw [hi] at hi3;cases hi3;have hlen:(oc++nc).length=(sLen+m) * z:=by rw [m006,hol,hf.size,hs1,pX]
  have hdiv:(oc++nc).length / z=sLen+m:=by rw [hlen];exact CD _ h0
  rw [hdiv] at hfits ⊢;simp only [jA,bN,Nat.ble_eq] at hfits;have hrun:=aJe (ty:=ty) hf hat ht hi (by omega) hz3 hold hg (by rw [hb2];exact hfits.1) hfits.2;have hge:=grownCap_ge W (sLen+m) sCap e;generalize grownCap W (sLen+m) sCap e=cap at hrun hge;have hzs:zr.cells.size=z:=by have:=(jL (T:=T) (F:=F) (ρ:=ρ) zr).1;simp at this;omega
  have hcr:=ho.append hf.cr;have hnl:(olds++news).length=(sLen+m) * z:=by rw [<- hcr.1];exact hlen
  have hCs:(((olds++news).toArray++Builtin.zeroCells zr.cells (cap - (sLen+m))):Array Value).size=cap * z:=by rw [Array.size_append,size_zeroCells,List.size_toArray,hnl,hzs,<- pX,Nat.add_sub_cancel' hge]
  have hRd:R T F ρ s W.drew:=⟨hR.blk,hR.inj,hR.fz,hR.fresh⟩;have hle:(sLen+m) * z<=cap * z:=zQ z hge
  obtain ⟨r1,r2⟩:=hRd.born (s':=s.set id (some (.cells (oc++nc) e false true))) hid (.cells (oc++nc) e false true) (.cells ((olds++news).toArray++Builtin.zeroCells zr.cells (cap - (sLen+m))) e) (cap * z)
   ⟨rfl,hCs,by rw [hlen];exact hle,(by intro h;cases h),fun j a b=>by
    have hj:j < (olds++news).length:=by rw [<- hcr.1];exact a
    rw [Array.getElem_append_left (by simpa using hj)];have:=hcr.2 j a hj
    simpa using this,fun _ j _ hh=>by simp at hh⟩ rfl (bH _) hlt
  refine ⟨_,_,_,F,hrun,VR.ref id 0 _ none e W.heap.size (cap * z) cap z ag (cQ _ _) hl hge (fun k hk=>by cases hk) (fun _=>by omega),r1,⟨r2.rho,r2.fz,r2.os,r2.tape,r2.output,r2.size,r2.same,r2.born,r2.cold⟩,fun i _ hi=>dT hi _,bH _⟩
 ·cases h
theorem iS.of_drop (hR:R T F ρ s W) {id0 d:Nat} {r:AV} {s':St} {m:Sem Value} (h:iS P T id0 (s.set d none) ρ F W r s' m):iS P T id0 s ρ F W r s' m:=by obtain ⟨v,W',ρ',F',h1,h2,h3,h4,h5,h6⟩:=h;exact ⟨v,W',ρ',F',h1,h2,h3,(hR.drop d).2.trans h4,h5,h6⟩
theorem aLq (hR:R T F ρ s W) {id β size off:Nat} {c xs:List AV} {vs:List Value} {e:TypeId} {ex:Bool} (hb:s.h id=some (.cells c e ex true)) (hρ:ρ id=some (β,size)) (hcr:CR T F ρ xs vs) (hle:off+xs.length<=c.length) :
  (∀ j,j < vs.length->(W.cell? ⟨β,off+j,none⟩).isSome=true)/\(∀ j,j < vs.length->W.frozen? ⟨β,off+j,none⟩=false) /\
  R T F ρ (s.set id (some (.cells (cD c off xs) e ex true))) (W.setCells β off vs)/\dM s ρ F W (s.set id (some (.cells (cD c off xs) e ex true))) ρ F (W.setCells β off vs):=by
 obtain ⟨β',z',o,k1,k2,k3,k4⟩:=hR.lt hb;rw [hρ] at k1;cases k1
 cases o with
 | cells C e' fr =>
  obtain ⟨rfl,m2,m3,m4,m5,m6⟩:=k3;have hlen:=hcr.1;refine ⟨fun j hj=>?_,fun j hj=>?_,?_⟩
  ·have:off+j < C.size:=by omega
   simp [World.cell?,k2,this]
  ·have:=m6 rfl (off+j) (by omega);simp only [World.frozen?,k2];simpa using this
  ·obtain ⟨l1,l2⟩:=tM vs xs c C off hcr (by omega) (by omega) m5;have hor:OR T F ρ size (.cells (cD c off xs) e' ex true) (.cells (mR C off vs) e' fr):=⟨rfl,by rw [nN];exact m2,by rw [l1];exact m3,fun hx=>by rw [l1];exact m4 hx,fun j a b=>l2 j a b,m6⟩;have hput:=hR.put (b':=.cells (cD c off xs) e' ex true) (o':=.cells (mR C off vs) e' fr) hb hρ hor
   have hW:W.setCells β off vs=dV W β (.cells (mR C off vs) e' fr):=by
    rw [kQ vs W β off C e' fr k2]
    split
    ·rename_i hn;subst hn;have hw:W.heap[β]=.cells C e' fr:=by rw [m016 k4] at k2;simpa using k2
     cases W;simp only [dV,mR];congr 1;apply Array.ext_getElem?;intro i;rw [m029]
     split
     ·rename_i e;subst e;simp at k4;simp [k4];exact hw
     ·rfl
    ·rfl
   rw [hW];exact hput
 | _=>exact k3.elim
end
end Go.Proofs.YtdehdahimkcakaaGreatDoor.Ai
namespace Go.Proofs.YtdehdahimkcakaaGreatDoor.Ai
open Go
section
variable {P:Program} {T:Ty} {F:Fz} {ρ:fD} {s:St} {W:World}
theorem iF {e:TypeId} {i:TypeInfo} {ats:Array TypeId} {u:Value} {m:Nat} {news:List Value} (hf:WK P T F ρ W e i ats u [] m news) {t:TypeId} (hat:ats[0]?=some t) (ht:P.underlying t=some (.slice e)) (hi:P.info? e=some i) (h0:0 < i.size)
  {ty:TypeId} {base:Option Addr} {n cap:Nat} (hle:n<=cap):(Builtin.append_ ats ty #[.slice base n cap,u]).run P W=.ok (.slice base n cap) W:=by
 have hm0:m=0:=by have:=hf.size;simp only [List.length_nil] at this;rcases Nat.mul_eq_zero.1 this.symm with h | h<;>omega
 have hnews:news=[]:=m034 (by rw [<- hf.cr.1];rfl);subst hm0 hnews;obtain ⟨tx,d,h1,h2,h3 | h3⟩:=hf.kind
 ·obtain ⟨hd,hl,hn,_⟩:=h3;rcases hd with ⟨e',rfl⟩ | rfl<;>cases base<;>simp [Builtin.append_,hat,h1,run_underlying ht,run_underlying h2,sizeOf,typeInfo,hi,hl,hle,hn,storeCells]
 ·obtain ⟨⟨k,rfl⟩,k',j,zr,rfl,p0,p1,p2,hj,hz,hzc⟩:=h3;have hj0:j=0:=by omega
  subst hj0;have hw:IntKind.i64.wrap 0=0:=by decide
  cases base<;>simp [Builtin.append_,hat,h1,run_underlying ht,run_underlying h2,sizeOf,typeInfo,hi,asInt,asIntOf,hw,hle,hz,zeroValue,storeCells]
theorem tR (hT:dO P T) (hR:R T F ρ s W) {e:TypeId} {z b:Nat} {ag:Bool} (hl:eN T e=some (z,ag)) (hbb:dN T e=some b) {zv:AV} (hz:zero T e=some zv) (hzl:zv.cells.length=z) (h0:0 < z)
  {i:TypeInfo} (hi:P.info? e=some i) {ats:Array TypeId} {u:Value} {nc:List AV} {m:Nat} {news:List Value} (hf:(nc.all AV.one=true)->WK P T F ρ W e i ats u nc m news) {t ty:TypeId} (hat:ats[0]?=some t) (ht:P.underlying t=some (.slice e))
  {x:AV} {v:Value} (hv:VR T F ρ x v) {id0:Nat} (hid:ρ id0=none) (hlt:id0 < s.nx) {r:AV} {s':St} (h:bM e z b x nc id0 s=some (r,s')):iS P T id0 s ρ F W r s' (Builtin.append_ ats ty #[v,u]):=by
 obtain ⟨i1,d1,hi1,hs1,_,_⟩:=mQ hT hl;rw [hi] at hi1;cases hi1;have h0i:0 < i.size:=by omega
 unfold bM at h
 split at h
 ·rename_i hemp;have hnil:nc=[]:=by simpa using hemp
  subst hnil;have hf:=hf rfl
  split at h
  ·simp only [m000,m001] at h;obtain ⟨rfl,rfl⟩:=h;cases hv;exact cX.does hR id0 ⟨_,iF hf hat ht hi h0i (bH _),.nils⟩
  ·simp only [m000,m001] at h;obtain ⟨rfl,rfl⟩:=h;obtain ⟨a,c,rfl,hc,hx,hne⟩:=lO hv;exact cX.does hR id0 ⟨_,iF hf hat ht hi h0i hc,hv⟩
  ·simp only [m000,m001] at h;obtain ⟨rfl,rfl⟩:=h;have hv':=hv
   cases hv with
   | ref _ _ _ _ _ β size c z' ag' hρ hz' hn hk hk2=>exact cX.does hR id0 ⟨_,iF hf hat ht hi h0i hn,hv'⟩
  ·cases h
 ·rename_i hemp
  split at h
  ·cases h
  ·rename_i hone;have hone':nc.all AV.one=true:=by simpa using hone
   have hf:=hf hone';have hsz:nc.length=m * z:=by rw [hf.size,hs1]
   have hdiv:nc.length / z=m:=by rw [hsz];exact CD _ h0
   have hm0:0 < m:=by
    rcases MZ m with h' | h'
    ·subst h';rw [Nat.zero_mul] at hsz;exact absurd (m034 hsz) (by simpa using hemp)
    ·exact h'
   split at h
   ·cases hv;refine AL (base:=none) (sLen:=0) (sCap:=0) (olds:=[]) (oc:=[]) hT hR hl hbb hz hzl h0 hi (run_firstCells_none W.drew i.size 0 0 0) CR.nil (by simp) hf hat ht (by omega) hid hlt ?_;rw [List.nil_append];exact h
   ·rename_i l
    split at h
    ·rename_i hall;have hv':=hv;obtain ⟨a,c,rfl,hc,hx,hne⟩:=lO hv;obtain ⟨n,olds,hg⟩:=JE (P:=P) hR h0 (x:=.sl true l) (c:=l.flatMap AV.cells) (by simp only [aR];rw [if_pos hall]) hv';have hn:n=l.length:=by have h1:=hg.len W;simp only [Builtin.lenOf,Sem.run_pure,Result.ok.injEq] at h1;exact h1.1.symm
     subst hn;have:=hg.all (sY W);rw [<- hs1] at this;refine AL (olds:=olds) (oc:=l.flatMap AV.cells) hT hR hl hbb hz hzl h0 hi this hg.cr (by rw [hg.size,hs1]) hf hat ht (by have:=hx rfl;omega) hid hlt h
    ·cases h
   ·rename_i id off n cap e1
    cases hb:s.h id with
    | none=>rw [hb] at h;simp at h
    | some bk =>
     rw [hb] at h
     cases bk with
     | cells c e' ex wr =>
      cases wr with
      | false=>simp at h
      | true =>
       simp only at h
       split at h
       ·rename_i hc0;obtain ⟨hle,rfl⟩:=hc0
        cases hv with
        | ref _ _ _ _ _ β size cp z' ag' hρ hz' hn hk hk2 =>
         rw [hl] at hz';cases hz';obtain ⟨hsh,hcs⟩:=qL hR hb hρ;obtain ⟨β',z',q1,q2⟩:=hR.at hb;rw [hρ] at q1;cases q1;have hat0:=q2.take off (n * z);rw [m023] at hat0;obtain ⟨olds,hg⟩:=sN.of_at (P:=P) (cap:=cp) hat0 (n:=n) (z:=z) (by simp;omega);have hold:=hg.all (sY W);rw [<- hs1] at hold;have hinplace:n+m<=cp->off+n * z+nc.length<=c.length->iS P T id0 s ρ F W (.ref id off (n+m) cap e1) (s.set id (some (.cells (cD c (off+n * z) nc) e' ex true))) (Builtin.append_ ats ty #[.slice (some ⟨β,off,none⟩) n cp,u]):=by intro hcap hfit;obtain ⟨p1,p2,p3,p4⟩:=aLq (vs:=news) hR hb hρ hf.cr hfit;refine ⟨_,_,ρ,F,OS hf hat ht hi h0i hcap (by rw [hs1];exact p1) (by rw [hs1];exact p2),.ref _ _ _ _ _ β size cp z ag hρ hl hcap hk hk2,by rw [hs1];exact p3,by rw [hs1];exact p4,fun _ _ _=>rfl,bH _⟩
         split at h
         ·rename_i k;obtain ⟨hck,hks⟩:=hk k rfl;rw [hdiv] at h
          split at h
          ·rename_i hroom
           split at h
           ·rename_i hfit;simp only [m000,m001] at h;obtain ⟨rfl,rfl⟩:=h;exact hinplace (by omega) hfit
           ·cases h
          ·rename_i hroom;have e1':(c.take (off+n * z)).drop off=(c.drop off).take (n * z):=by rw [List.drop_take];congr 1;omega
           rw [e1'] at h;exact AL hT hR hl hbb hz hzl h0 hi hold hg.cr (by rw [hg.size,hs1]) hf hat ht (by omega) hid hlt h
         ·have hsize:=hk2 rfl;rw [hdiv] at h
          split at h
          ·rename_i hfit;simp only [m000,m001] at h;obtain ⟨rfl,rfl⟩:=h;refine hinplace ?_ hfit;have h2:(n+m) * z<=cp * z:=by rw [pX];omega
           exact Nat.le_of_mul_le_mul_right h2 h0
          ·rename_i hfit
           split at h
           ·rename_i hc1;obtain ⟨hend,rfl,rfl⟩:=hc1;rw [m023] at hend hsize;have hcc:(c.drop 0).take (n * z)=c:=by rw [m048,hend];exact m045
            rw [hcc] at hg;by_cases hroom:n+m<=cp
            ·
             unfold eC at h
             split at h
             ·simp only [kD,m000,m001] at h;obtain ⟨rfl,rfl⟩:=h;obtain ⟨β',z',o,k1,k2,k3,k4⟩:=hR.lt hb;rw [hρ] at k1;cases k1
              cases o with
              | cells C e'' fr =>
               obtain ⟨rfl,m2,m3,m4,m5,m6⟩:=k3;have hnl:news.length=m * z:=by rw [<- hf.cr.1];exact hsz
               have hfits:n * z+m * z<=size:=by rw [<- pX,<- hsize];exact zQ z hroom
               have hlen2:(c++nc).length=(n+m) * z:=by rw [m006,<- hend,hsz,pX]
               have hd2:(c++nc).length / z=n+m:=by rw [hlen2];exact CD _ h0
               have hor:OR T F ρ size (.cells (c++nc) e'' false true) (.cells (mR C (n * z) news) e'' fr):=by
                refine ⟨rfl,by rw [nN];exact m2,by rw [hlen2,pX];exact hfits,(by intro h;cases h),fun j a b=>?_,m6⟩;have hg2:=NI news C (n * z) j (by rw [m2,hnl];exact hfits);rw [m016 b] at hg2;rw [m006] at a;by_cases hj:j < c.length
                ·rw [if_neg (by omega),m016 (by omega)] at hg2;simp only [m000] at hg2;rw [hg2,List.getElem_append_left hj];exact m5 j hj (by omega)
                ·have hjn:j - n * z < news.length:=by omega
                 rw [if_pos ⟨by omega,by omega⟩,m004 hjn] at hg2;simp only [m000] at hg2;rw [hg2,List.getElem_append_right (by omega)];have:=hf.cr.2 (j - n * z) (by omega) hjn;simp only [<- hend];exact this
               obtain ⟨r1,r2⟩:=hR.renew (b':=.cells (c++nc) e'' false true) hb hρ hor hid hlt;have hW:W.setCells β (0+n * i.size) news=dV W β (.cells (mR C (n * z) news) e'' fr):=by rw [hs1,m023,kQ news W β (n * z) C e'' fr k2,if_neg];intro hn0;rw [hn0,List.length_nil] at hnl;rcases Nat.mul_eq_zero.1 hnl.symm with h' | h'<;>omega
               have hrun:=OS (ty:=ty) (b:=β) (off:=0) (sLen:=n) (sCap:=cp) hf hat ht hi h0i hroom (fun j hj=>by
                have:0+n * i.size+j < C.size:=by rw [hs1,m2];omega
                simp only [World.cell?,k2]
                simp;omega) (fun j hj=>by
                have:=m6 rfl (0+n * i.size+j) (by rw [hs1];omega);simp only [World.frozen?,k2]
                simpa using this)
               rw [hW] at hrun;rw [hd2];refine ⟨_,_,_,F,hrun,VR.ref id0 0 _ none e'' β size cp z ag (cQ _ _) hl hroom (fun k hk=>by cases hk) (fun _=>by omega),r1,r2,fun i _ hi=>dT hi _,bH _⟩
              | _=>exact k3.elim
             ·cases h
            ·refine iS.of_drop hR (d:=id) ?_;exact AL hT (hR.drop id).1 hl hbb hz hzl h0 hi hold hg.cr (by rw [hg.size,hs1]) hf hat ht (by omega) hid hlt h
           ·cases h
       ·cases h
     | _=>simp at h
   ·cases h
end
end Go.Proofs.YtdehdahimkcakaaGreatDoor.Ai
namespace Go.Proofs.YtdehdahimkcakaaGreatDoor.Ai
open Go
section
variable {P:Program} {T:Ty} {F:Fz} {ρ:fD} {s:St} {W:World}
theorem aJy (hT:dO P T) (hR:R T F ρ s W) {e:TypeId} {z:Nat} {ag:Bool} (hl:eN T e=some (z,ag)) (h0:0 < z) {ats:Array TypeId} {t ty:TypeId} (hat:ats[0]?=some t) (ht:P.underlying t=some (.slice e))
  {u v:Value} {c:List AV} {m:Nat} {news:List Value} (hg:sN P T F ρ W z c u m news) {x:AV} (hv:VR T F ρ x v) {r:AV} {s':St} (h:oX z x c s=some (r,s')) (id0:Nat):iS P T id0 s ρ F W r s' (Builtin.copy_ ats ty #[v,u]):=by
 have h00:∀ a c,(Builtin.copy_ ats ty #[.slice a 0 c,u]).run P W=.ok (.int .i64 0) W:=fun a c=>by have hc:=hg.cells 0 (hO _) W (fun _ _ h=>h);rw [Nat.zero_mul,List.take_zero] at hc;cases a<;>simp [Builtin.copy_,hat,run_underlying ht,hg.len,bA hT hl,hc,storeCells,goInt]
 unfold oX at h
 split at h
 ·simp only [m000,m001] at h;obtain ⟨rfl,rfl⟩:=h;cases hv;exact cX.does hR id0 ⟨_,h00 _ _,.int _ _⟩
 ·simp only [m000,m001] at h;obtain ⟨rfl,rfl⟩:=h;cases hv;exact cX.does hR id0 ⟨_,h00 _ _,.int _ _⟩
 ·simp only [m000,m001] at h;obtain ⟨rfl,rfl⟩:=h;obtain ⟨a,c',rfl,_,_,_⟩:=lO hv;exact cX.does hR id0 ⟨_,h00 _ _,.int _ _⟩
 ·rename_i id off n cap e1;simp only at h;have hdiv:c.length / z=m:=by rw [hg.size];exact CD _ h0
  rw [hdiv] at h
  cases hb:s.h id with
  | none=>rw [hb] at h;simp at h
  | some bk =>
   rw [hb] at h
   cases bk with
   | cells cc e' ex wr =>
    cases wr with
    | false=>simp at h
    | true =>
     simp only at h
     split at h
     ·rename_i hc;obtain ⟨hle,hone⟩:=hc;simp only [m000,m001] at h;obtain ⟨rfl,rfl⟩:=h
      cases hv with
      | ref _ _ _ _ _ β size cp z' ag' hρ hz' hn hk hk2 =>
       have hk1:min m n * z<=m * z:=zQ z (Nat.min_le_left _ _);have hcr:CR T F ρ (c.take (min m n * z)) (news.take (min m n * z)):=hg.cr.take _;have hlen:(c.take (min m n * z)).length=min m n * z:=by rw [m020,hg.size];omega
       obtain ⟨p1,p2,p3,p4⟩:=aLq hR hb hρ hcr (by rw [hlen];exact hle);have hst:=run_storeCells_cells (P:=P) β off (news.take (min m n * z)) 0 W (by simpa using p1) (by simpa using p2) (aJd hcr hone);simp only [Nat.add_zero] at hst;have hc:=hg.cells (min m n) (Nat.min_le_left _ _) W (fun _ _ h=>h);refine ⟨_,_,ρ,F,?_,.int _ _,p3,p4,fun _ _ _=>rfl,bH _⟩;have hmin:Nat.min m n=min m n:=rfl;simp [Builtin.copy_,hat,run_underlying ht,hg.len,bA hT hl,hmin,hc,hst,goInt]
     ·cases h
   | _=>simp at h
 ·cases h
theorem bBt (hT:dO P T) (hR:R T F ρ s W) {ats:Array TypeId} {t ty:TypeId} (hat:ats[0]?=some t) {d:TypeDesc} (ht:P.underlying t=some d) {x:AV} (hd:bDg d x=true) {n:Int} (h:tE x s=some n) {v:Value} (hv:VR T F ρ x v):cX P T F ρ W (.int .i64 n) (Builtin.len_ ats ty #[v]):=by
 unfold bDg at hd;unfold tE at h
 split at hd
 ·simp only [m000] at h;subst h
  cases hv with
  | str _ b hb =>refine ⟨.int .i64 b.size,by simp [Builtin.len_,hat,run_underlying ht,goInt],?_⟩;subst hb;rw [Array.length_toList];exact .int _ _
 ·simp only [m000] at h;subst h;cases hv;exact ⟨_,by simp [Builtin.len_,hat,run_underlying ht,goInt],.int _ _⟩
 ·simp only [m000] at h;subst h;cases hv;exact ⟨_,by simp [Builtin.len_,hat,run_underlying ht,goInt],.int _ _⟩
 ·simp only [m000] at h;subst h;obtain ⟨a,c,rfl,_,_,_⟩:=lO hv;exact ⟨_,by simp [Builtin.len_,hat,run_underlying ht,goInt],.int _ _⟩
 ·simp only [m000] at h;subst h;cases hv;exact ⟨_,by simp [Builtin.len_,hat,run_underlying ht,goInt],.int _ _⟩
 ·simp only [m000] at h;subst h;cases hv;exact ⟨_,by simp [Builtin.len_,hat,run_underlying ht,goInt],.int _ _⟩
 ·rename_i id;simp only at h
  cases hb:s.h id with
  | none=>rw [hb] at h;simp at h
  | some bk =>
   rw [hb] at h
   cases bk with
   | map m =>
    simp only [m000] at h;subst h
    cases hv with
    | map _ β z hρ =>
     obtain ⟨β',z',o,k1,k2,k3,k4⟩:=hR.lt hb;rw [hρ] at k1;cases k1
     cases o with
     | map es cl =>
      refine ⟨.int .i64 es.size,?_,by rw [k3.1];exact .int _ _⟩;have hget:(getObj β).run P W=.ok (.map es cl) W:=by simp [getObj,Sem.run,k2]
      simp [Builtin.len_,hat,run_underlying ht,goInt,hget]
     | _=>exact k3.elim
   | _=>simp at h
 ·cases hd
theorem bDa (hT:dO P T) {ats:Array TypeId} {t e ty:TypeId} (hat:ats[0]?=some t) (ht:P.underlying t=some (.slice e)) {x:AV} {n:Int} (h:QA x=some n) {v:Value} (hv:VR T F ρ x v):cX P T F ρ W (.int .i64 n) (Builtin.cap_ ats ty #[v]):=by
 unfold QA at h
 split at h
 ·simp only [m000] at h;subst h;cases hv;exact ⟨_,by simp [Builtin.cap_,hat,run_underlying ht,goInt],.int _ _⟩
 ·simp only [m000] at h;subst h;obtain ⟨a,c,rfl,_,hx,_⟩:=lO hv;exact ⟨.int .i64 c,by simp [Builtin.cap_,hat,run_underlying ht,goInt],by rw [hx rfl];exact .int _ _⟩
 ·simp only [m000] at h;subst h
  cases hv with
  | ref _ _ _ _ _ β size c z ag hρ hz hn hk hk2 =>rename_i k;exact ⟨.int .i64 c,by simp [Builtin.cap_,hat,run_underlying ht,goInt],by rw [(hk _ rfl).1];exact .int _ _⟩
 ·cases h
theorem JT (hR:R T F ρ s W) {ats:Array TypeId} {ty:TypeId} {v:Value} {id off n:Nat} {e e':TypeId} {c:List AV} {ex wr:Bool} (hb:s.h id=some (.cells c e' ex wr)) (ho:off < c.length) (hv:VR T F ρ (.ref id off n none e) v) :
  cX P T F ρ W (.ptr id off) (Builtin.unsafeSliceData_ ats ty #[v]):=by
 cases hv with
 | ref _ _ _ _ _ β size cp z ag hρ hz hn hk hk2 =>
  obtain ⟨hsh,hle⟩:=qL hR hb hρ;have hc:cp≠0:=by intro h;have:=hk2 rfl;rw [h,Nat.zero_mul] at this;omega
  exact ⟨_,Lib.run_unsafeSliceData_row W ats ty _ n cp hc,.ptr _ _ _ _ hρ⟩
theorem zS (hT:dO P T) (hR:R T F ρ s W) {pt it ty:TypeId} {e:TypeId} (hp:P.underlying pt=some (.pointer e)) {id:Nat} {c:List AV} {ex wr:Bool} (hb:s.h id=some (.cells c e ex wr)) {ag:Bool} (hl:eN T e=some (1,ag))
  {n:Int} (h0:0 < n) (h1:n.toNat<=c.length) (h2:n<=most) {ns:List Int} (hns:fW (c.take n.toNat)=some ns) (hall:ns.all (fun n=>decide (0<=n)&&decide (n < 256))=true) {v:Value} (hv:VR T F ρ (.ptr id 0) v) (id0:Nat) :
  iS P T id0 s ρ F W (.str (ns.map fun n=>UInt8.ofNat n.toNat)) (s.set id (some (.cells c e ex false))) (Builtin.unsafeString_ #[pt,it] ty #[v,.int .i64 n]):=by
 cases hv with
 | ptr _ _ β z hρ =>
  obtain ⟨hsh,hle⟩:=qL hR hb hρ;obtain ⟨i,d,hi,hs,_,_⟩:=mQ hT hl;have hc1:P.cellsOf e=1:=by simp [Program.cellsOf,hi,hs]
  obtain ⟨β',z',q1,q2⟩:=hR.at hb;rw [hρ] at q1;cases q1;have hm':(most:Int)=1099511627776:=by decide
  have hlen:(c.take n.toNat).length=n.toNat:=by rw [m020];omega
  have hnl:=FU _ _ hns;rw [hlen] at hnl
  let l:List UInt8:=ns.map fun n=>UInt8.ofNat n.toNat
  have hll:l.length=n.toNat:=by simp [l,hnl]
  have hlz:(l.length:Int)=n:=by rw [hll];omega
  obtain ⟨g,hg⟩:=q2
  have hrun:=Lib.run_unsafeString_row (P:=P) W pt it ty e hp hc1 β z hsh l (by intro h;rw [h] at hll;simp at hll;omega) (by rw [hll];omega) (by omega) (fun j x hx=>by
   have hj:j < n.toNat:=by
    rcases zP j l.length with h | h
    ·omega
    ·rw [List.getElem?_eq_none h] at hx;cases hx
   have hjn:j < ns.length:=by omega
   have hjc:j < c.length:=by omega
   rw [m047,m004 hjn] at hx;simp only [Option.map_some,m000] at hx;obtain ⟨k1,k2⟩:=hg j hjc;have k3:=GX _ _ hns j (by rw [hlen];exact hj);simp only [m072] at k3;have k4:=SW k3 k2;have k5:ns.getD j 0=ns[j]:=by simp [List.getD,m004 hjn]
   rw [Addr.add_lit,k1,k4,k5,<- hx];have k6:=m032.1 hall _ (List.getElem_mem hjn);simp only [bN,decide_eq_true_eq] at k6;congr 2;rw [UInt8.toNat_ofNat']
   omega)
  rw [hlz] at hrun;obtain ⟨β',z',o,k1,k2,k3,k4⟩:=hR.lt hb;rw [hρ] at k1;cases k1
  cases o with
  | cells C e' fr =>
   obtain ⟨rfl,m2,m3,m4,m5,m6⟩:=k3
   obtain ⟨fr',hfr⟩:∃ fr',W.freeze ⟨β,0,none⟩ l.length=dV W β (.cells C e' fr'):=by
    refine ⟨if fr.1==fr.2 then (0,0+l.length) else (min fr.1 0,max fr.2 (0+l.length)),?_⟩
    unfold World.freeze dV;rw [if_neg (by omega)];congr 1;apply Array.ext_getElem?;intro j;rw [Array.getElem?_modify,m029];by_cases hj:β=j
    ·subst hj;have hw:W.heap[β]=.cells C e' fr:=by rw [m016 k4] at k2;simpa using k2
     simp [k4,hw]
    ·rw [if_neg hj,if_neg hj]
   have hor:OR T F ρ z (.cells c e' ex false) (.cells C e' fr'):=⟨rfl,m2,m3,m4,m5,by intro h;cases h⟩;obtain ⟨r1,r2⟩:=hR.put (b':=.cells c e' ex false) hb hρ hor;exact ⟨_,_,ρ,F,hrun.trans (by rw [hfr]),.str _ _ rfl,r1,r2,fun _ _ _=>rfl,bH _⟩
  | _=>exact k3.elim
theorem aJj {f:Int->Int->Bool} {m2:Value->Value->Sem Value} (hf:∀ k a k' b,(m2 (.int k a) (.int k' b)).run P W=.ok (.int k (if f b a then b else a)) W) {args:List AV} {r:AV} (h:FG f args=some r) {us:Array Value} (hcr:CR T F ρ args us.toList) :
  ∃ x y,us=#[x,y]/\cX P T F ρ W r ([y].foldlM m2 x):=by
 unfold FG at h
 split at h
 ·rename_i k a k' b
  split at h
  ·rename_i hk;subst hk;simp only [m000] at h;subst h;obtain ⟨us⟩:=us;simp only at hcr ⊢
   match us,hcr with
   | [u,v],hcr =>have h1:=hcr.2 0 (by simp) (by simp);have h2:=hcr.2 1 (by simp) (by simp);simp only [List.getElem_cons_zero,List.getElem_cons_succ] at h1 h2;cases h1;cases h2;refine ⟨_,_,rfl,_,?_,.int _ _⟩;simp only [List.foldlM_cons,List.foldlM_nil,Sem.run_bind,hf,Result.andThen_ok,Sem.run_pure]
   | [],hcr=>exact absurd hcr.1 (by simp)
   | [_],hcr=>exact absurd hcr.1 (by simp)
   | _::_::_::_,hcr=>exact absurd hcr.1 (by simp)
  ·cases h
 ·cases h
end
end Go.Proofs.YtdehdahimkcakaaGreatDoor.Ai
namespace Go.Proofs.YtdehdahimkcakaaGreatDoor.Ai
open Go Go.MapKept
section
variable {P:Program} {T:Ty} {F:Fz} {ρ:fD} {s:St} {W:World}
theorem RF {kd:TypeDesc} {k:AV} (h:BT kd k=true) {u:Value} (hu:VR T F ρ k u):IsKey kd u:=by
 unfold BT at h
 split at h
 ·cases hu;simpa [IsKey] using h
 ·cases hu;trivial
 ·cases h
theorem UT {kd:TypeDesc} {k a:AV} {b:Bool} (hk:BT kd k=true) (h:jZ k a=some b) {u v:Value} (hu:VR T F ρ k u) (hv:VR T F ρ a v):Instr.sameNow kd u v=some b/\(b=true->u=v):=by
 unfold BT at hk
 split at hk
 ·rename_i k1 k2 n;unfold jZ at h
  split at h
  ·rename_i j a' j' b' e1;cases e1
   split at h
   ·rename_i hkk;subst hkk;simp only [m000] at h;subst h;cases hu;cases hv;refine ⟨by simp [Instr.sameNow],fun h=>by simp at h;rw [h]⟩
   ·cases h
  ·rename_i e1;cases e1
  ·rename_i e1;cases e1
  ·cases h
 ·rename_i x;unfold jZ at h
  split at h
  all_goals (first | cases h | skip)
  all_goals (first | (rename_i e1;cases e1;done) | skip)
  rename_i x' y e1;cases e1
  cases hu with
  | str _ c hc=>cases hv with
   | str _ d hd =>
    have hiff:(c==d)=(x==y):=by
     rw [Bool.eq_iff_iff,bytes_beq,beq_iff_eq,<- hc,<- hd];constructor
     ·intro h;rw [h]
     ·intro h;apply ByteArray.ext;apply Array.ext';exact h
    refine ⟨by simp only [Instr.sameNow,hiff],fun h=>?_⟩;have h':(x==y)=true:=h;rw [<- hiff,bytes_beq] at h';rw [h']
 ·cases hk
def MR (T:Ty) (F:Fz) (ρ:fD) (m:List (AV×AV)) (es:List MapEntry):Prop :=
 m.length=es.length/\∀ j (h:j < m.length) (h':j < es.length),aFv m[j].1=true/\VR T F ρ m[j].1 es[j].key/\VR T F ρ m[j].2 es[j].val
theorem MR.tail {p:AV×AV} {e:MapEntry} {m:List (AV×AV)} {es:List MapEntry} (h:MR T F ρ (p::m) (e::es)):VR T F ρ p.1 e.key/\VR T F ρ p.2 e.val/\MR T F ρ m es :=
 ⟨(h.2 0 (by simp) (by simp)).2.1,(h.2 0 (by simp) (by simp)).2.2,by have:=h.1;simpa using this,fun j a b=>h.2 (j+1) (by simp;omega) (by simp;omega)⟩
theorem FY {kd:TypeDesc} {k:AV} (hk:BT kd k=true) {u:Value} (hu:VR T F ρ k u):∀ (m:List (AV×AV)) (es:List MapEntry) (i:Nat),MR T F ρ m es->find k m=some none->Instr.findNow kd u es i=some none/\∀ x,jF k x m=m++[(k,x)]:=by
 intro m
 induction m with
 | nil =>intro es i hm h;have:es=[]:=m034 (by rw [<- hm.1];rfl);subst this;exact ⟨rfl,fun _=>rfl⟩
 | cons p m ih =>
  intro es i hm h
  cases es with
  | nil=>exact absurd hm.1 (by simp)
  | cons e es =>
   obtain ⟨a,v⟩:=p;obtain ⟨h1,h2,h3⟩:=hm.tail;simp only [find] at h
   cases hc:jZ k a with
   | none=>rw [hc] at h;cases h
   | some b =>
    rw [hc] at h
    cases b with
    | true=>simp at h
    | false =>obtain ⟨g1,g2⟩:=ih es (i+1) h3 h;obtain ⟨q1,_⟩:=UT hk hc hu h1;refine ⟨by simp [Instr.findNow,q1,g1],fun x=>?_⟩;simp only [jF,hc];simp [g2 x]
theorem GF {kd:TypeDesc} {k:AV} (hk:BT kd k=true) {u:Value} (hu:VR T F ρ k u) {v:AV}:∀ (m:List (AV×AV)) (es:List MapEntry) (i:Nat),MR T F ρ m es->find k m=some (some v) ->
  ∃ j e,es[j]?=some e/\j < m.length/\Instr.findNow kd u es i=some (some (i+j,e.val))/\VR T F ρ v e.val/\e.key=u/\∀ x,jF k x m=m.set j (k,x):=by
 intro m
 induction m with
 | nil=>intro es i hm h;cases h
 | cons p m ih =>
  intro es i hm h
  cases es with
  | nil=>exact absurd hm.1 (by simp)
  | cons e es =>
   obtain ⟨a,v'⟩:=p;obtain ⟨h1,h2,h3⟩:=hm.tail;simp only [find] at h
   cases hc:jZ k a with
   | none=>rw [hc] at h;cases h
   | some b =>
    rw [hc] at h;obtain ⟨q1,q2⟩:=UT hk hc hu h1
    cases b with
    | true =>simp only [m000] at h;subst h;refine ⟨0,e,rfl,by simp,by simp [Instr.findNow,q1],h2,(q2 rfl).symm,fun x=>?_⟩;simp [jF,hc]
    | false =>obtain ⟨j,e',g1,g2,g3,g4,g5,g6⟩:=ih es (i+1) h3 h;refine ⟨j+1,e',by simpa using g1,by simp;omega,by simp [Instr.findNow,q1,g3];omega,g4,g5,fun x=>?_⟩;simp only [jF,hc];simp [g6 x]
theorem aCs (hR:R T F ρ s W) {id:Nat} {m:List (AV×AV)} (hb:s.h id=some (.map m)):∃ β z es cl,ρ id=some (β,z)/\W.heap[β]?=some (.map es cl)/\MR T F ρ m es.toList:=by
 obtain ⟨β,z,o,k1,k2,k3,k4⟩:=hR.lt hb
 cases o with
 | map es cl =>refine ⟨β,z,es,cl,k1,k2,by simpa using k3.1,fun j a b=>?_⟩;have:=k3.2 j a (by simpa using b);simpa using this
 | _=>exact k3.elim
theorem WU (hT:dO P T) (hR:R T F ρ s W) {t:TypeId} {m k r:AV} {ok:Bool} (h:hJ T t m k ok s=some r) {u v:Value} (hu:VR T F ρ m u) (hv:VR T F ρ k v):cX P T F ρ W r (Instr.lookup t u v ok):=by
 unfold hJ at h
 cases hd:dZ T t with
 | none=>rw [hd] at h;cases h
 | some d =>
  rw [hd] at h
  cases d with
  | map kt e =>
   simp only at h
   cases hkd:dZ T kt with
   | none=>rw [hkd] at h;cases h
   | some kd =>
    rw [hkd] at h;simp only [Option.bind_some] at h
    split at h
    ·rename_i hk
     cases hz:zero T e with
     | none=>rw [hz] at h;cases h
     | some zv =>
      rw [hz] at h;simp only [Option.bind_some] at h;obtain ⟨zr,hzr,rfl⟩:=rC hT hz
      cases he:qY m k s with
      | none=>rw [he] at h;cases h
      | some KU =>
       rw [he] at h;simp only [Option.map_some,m000] at h
       have key:∃ es:Array MapEntry,(∃ M,MR T F ρ M es.toList/\find k M=some KU) /\
         ((u=.map none/\es=#[])\/∃ β cl,u=.map (some β)/\W.heap[β]?=some (.map es cl)):=by
        unfold qY at he
        split at he
        ·simp only [m000] at he;subst he;cases hu;exact ⟨#[],⟨[],⟨rfl,fun j h=>by simp at h⟩,rfl⟩,.inl ⟨rfl,rfl⟩⟩
        ·rename_i id
         cases hb:s.h id with
         | none=>rw [hb] at he;cases he
         | some bk =>
          rw [hb] at he
          cases bk with
          | map M =>
           simp only at he
           cases hu with
           | map _ β z hρ =>obtain ⟨β',z',es,cl,k1,k2,k3⟩:=aCs hR hb;rw [hρ] at k1;cases k1;exact ⟨es,⟨M,k3,he⟩,.inr ⟨β,cl,rfl,k2⟩⟩
          | _=>cases he
        ·cases he
       obtain ⟨es,⟨M,hM,hfind⟩,hes⟩:=key;have hck:=run_checkKey (P:=P) (w:=W) (cH hT hkd) (RF hk hv) es.isEmpty 9999
       have hfk:∃ a,(Instr.findKey kt v es.toList).run P W=.ok a W/\((KU=none/\a=none)\/∃ x j w,KU=some x/\a=some (j,w)/\VR T F ρ x w):=by
        cases KU with
        | none =>obtain ⟨g1,_⟩:=FY hk hv M es.toList 0 hM hfind;exact ⟨none,run_findKey (cH hT hkd) g1,.inl ⟨rfl,rfl⟩⟩
        | some x =>obtain ⟨j,e',g1,g2,g3,g4,g5,g6⟩:=GF hk hv M es.toList 0 hM hfind;exact ⟨_,run_findKey (cH hT hkd) g3,.inr ⟨x,_,_,rfl,rfl,g4⟩⟩
       obtain ⟨a,ha,hcase⟩:=hfk
       have hbool:∀ (x:AV) (w:Value),VR T F ρ x w->∀ b,VR T F ρ (.tup [x,.bool b]) (.tuple #[w,.bool b]):=fun x w hx b=>by
        refine .tup _ _ rfl fun i h h'=>?_
        match i,h with
        | 0,_=>exact hx
        | 1,_=>exact .bool b
       rcases hcase with ⟨rfl,rfl⟩ | ⟨x,j,w,rfl,rfl,hxw⟩
       ·refine ⟨if ok then .tuple #[zr,.bool false] else zr,?_,?_⟩
        ·rcases hes with ⟨rfl,rfl⟩ | ⟨β,cl,rfl,k2⟩
         ·simp only [Instr.lookup,Sem.run_bind,run_underlying (cH hT hd),Result.andThen_ok,Sem.run_pure,hck,ha,hzr]
         ·simp only [Instr.lookup,Sem.run_bind,run_underlying (cH hT hd),Result.andThen_ok,MapKept.run_getObj_map k2,Sem.run_pure,hck,ha,hzr]
        ·subst h;cases ok
         ·exact QU zr
         ·exact hbool _ _ (QU zr) false
       ·refine ⟨if ok then .tuple #[w,.bool true] else w,?_,?_⟩
        ·rcases hes with ⟨rfl,rfl⟩ | ⟨β,cl,rfl,k2⟩
         ·simp only [Instr.lookup,Sem.run_bind,run_underlying (cH hT hd),Result.andThen_ok,Sem.run_pure,hck,ha]
         ·simp only [Instr.lookup,Sem.run_bind,run_underlying (cH hT hd),Result.andThen_ok,MapKept.run_getObj_map k2,Sem.run_pure,hck,ha]
        ·subst h;cases ok
         ·exact hxw
         ·exact hbool _ _ hxw true
    ·cases h
  | _=>cases h
theorem aCg (hT:dO P T) (hR:R T F ρ s W) {t:TypeId} {m k x:AV} {s':St} (h:iC T t m k x s=some s') {u v w:Value} (hu:VR T F ρ m u) (hv:VR T F ρ k v) (hw:VR T F ρ x w) (id0:Nat):TA P T id0 s ρ F W s' (Instr.mapUpdate t u v w):=by
 unfold iC at h
 cases hd:dZ T t with
 | none=>rw [hd] at h;cases h
 | some d =>
  rw [hd] at h
  cases d with
  | map kt e =>
   simp only at h
   cases hkd:dZ T kt with
   | none=>rw [hkd] at h;cases h
   | some kd =>
    rw [hkd] at h;simp only [Option.bind_some] at h
    split at h
    ·rename_i id
     cases hb:s.h id with
     | none=>rw [hb] at h;cases h
     | some bk =>
      rw [hb] at h
      cases bk with
      | map M =>
       simp only at h
       split at h
       ·rename_i hk
        cases hu with
        | map _ β z hρ =>
         obtain ⟨β',z',es,cl,k1,k2,k3⟩:=aCs hR hb;rw [hρ] at k1;cases k1;have hck:=run_checkKey (P:=P) (w:=W) (cH hT hkd) (RF hk hv) false 9999
         have hok:aFv k=true:=by
          unfold BT at hk
          split at hk<;>first | rfl | cases hk
         cases hf:find k M with
         | none=>rw [hf] at h;cases h
         | some KU =>
          rw [hf] at h;simp only [Option.map_some,m000] at h;subst h
          cases KU with
          | none =>
           obtain ⟨g1,g2⟩:=FY hk hv M es.toList 0 k3 hf;have hfk:=run_findKey (P:=P) (w:=W) (cH hT hkd) g1
           have hor:OR T F ρ z (.map (jF k x M)) (.map (es.push { key:=v,val:=w,born:=cl }) (cl+1)):=by
            rw [g2 x];have hl:=k3.1;simp only [Array.length_toList] at hl;refine ⟨by simp [hl],fun j a b=>?_⟩;rw [m006] at a;by_cases hj:j < M.length
            ·rw [List.getElem_append_left hj,Array.getElem_push_lt (by omega)];have:=k3.2 j hj (by simp;omega);simpa using this
            ·have hje:j=M.length:=by simp at a;omega
             subst hje;have e1:(M++[(k,x)])[M.length]=(k,x):=by simp
             have e2:(es.push { key:=v,val:=w,born:=cl })[M.length]={ key:=v,val:=w,born:=cl }:=by simp [hl]
             rw [e1,e2];exact ⟨hok,hv,hw⟩
           obtain ⟨r1,r2⟩:=hR.put (b':=.map (jF k x M)) hb hρ hor;refine ⟨_,ρ,F,?_,r1,r2,fun _ _ _=>rfl,bH _⟩;simp only [Instr.mapUpdate,Sem.run_bind,run_underlying (cH hT hd),Result.andThen_ok,MapKept.run_getObj_map k2,hck,hfk,MapKept.run_setObj_map _ k2];rfl
          | some y =>
           obtain ⟨j,e',g1,g2,g3,g4,g5,g6⟩:=GF hk hv M es.toList 0 k3 hf;have hfk:=run_findKey (P:=P) (w:=W) (cH hT hkd) g3;rw [m023] at hfk;have hge:es[j]?=some e':=by simpa using g1
           have hor:OR T F ρ z (.map (jF k x M)) (.map (es.modify j fun e=>{ e with key:=v,val:=w }) cl):=by
            rw [g6 x];have hl:=k3.1;simp only [Array.length_toList] at hl;refine ⟨by simp [hl],fun i a b=>?_⟩;rw [List.length_set] at a;rw [List.getElem_set,Array.getElem_modify]
            split
            ·exact ⟨hok,hv,hw⟩
            ·have:=k3.2 i a (by simp;omega);simpa using this
           obtain ⟨r1,r2⟩:=hR.put (b':=.map (jF k x M)) hb hρ hor;refine ⟨_,ρ,F,?_,r1,r2,fun _ _ _=>rfl,bH _⟩;have hst:=run_keyThatStays (P:=P) (w:=W) (RF hk hv);simp only [Instr.mapUpdate,Sem.run_bind,run_underlying (cH hT hd),Result.andThen_ok,MapKept.run_getObj_map k2,hck,hfk,hge,Option.map_some,Option.getD_some,g5,hst,MapKept.run_setObj_map _ k2];rfl
       ·cases h
      | _=>cases h
    ·cases h
  | _=>cases h
theorem PT (hR:R T F ρ s W) (t:TypeId) {id:Nat} (hid:ρ id=none) (hlt:id < s.nx):iS P T id s ρ F W (.map id) (s.set id (some (.map []))) (Instr.makeMap t none):=by obtain ⟨r1,r2⟩:=hR.born (s':=s.set id (some (.map []))) hid (.map []) (.map #[] 0) 0 ⟨rfl,fun j h=>by simp at h⟩ rfl (bH _) hlt;refine ⟨.map (some W.heap.size),_,_,F,?_,.map _ _ _ (cQ _ _),r1,r2,fun i _ hi=>dT hi _,bH _⟩;simp only [Instr.makeMap,Sem.run_bind,run_newObj_alloc,Result.andThen_ok,Sem.run_pure]
end
end Go.Proofs.YtdehdahimkcakaaGreatDoor.Ai
end
noncomputable section
namespace Go.Proofs.YtdehdahimkcakaaGreatDoor.Ai
open Go
section
variable {P:Program} {T:Ty} {F:Fz} {ρ:fD} {s:St} {W:World}
def ET (T:Ty) (id:Nat) (s:St) (ρ:fD) (F:Fz) (W:World) (r:AV) (s':St) (v:Value) (W':World):Prop :=
 ∃ ρ' F',VR T F' ρ' r v/\R T F' ρ' s' W'/\dM s ρ F W s' ρ' F' W'/\(∀ i,i < s.nx->i≠id->ρ' i=ρ i)/\s.nx<=s'.nx
def cY (P:Program) (T:Ty) (id:Nat) (s:St) (ρ:fD) (F:Fz) (W:World) (r:AV) (s':St) (m:Sem Next):Prop :=
 (∃ v W',m.run P W=.ok (.value v) W'/\ET T id s ρ F W r s' v W')\/(∃ W',m.run P W=.ok .skip W'/\ET T id s ρ F W r s' undef W') \/
 ∃ f args,m.run P W=.ok (.enter f args) W/\Calls P f args W (fun | .returned v,W'=>ET T id s ρ F W r s' v W' | _,_=>False)
theorem iS.next {id:Nat} {r:AV} {s':St} {m:Sem Value} (h:iS P T id s ρ F W r s' m):cY P T id s ρ F W r s' (do pure (.value (<- m))):=by obtain ⟨v,W',ρ',F',h1,h2,h3,h4,h5,h6⟩:=h;exact .inl ⟨v,W',by simp only [Sem.run_bind,h1,Result.andThen_ok,Sem.run_pure],ρ',F',h2,h3,h4,h5,h6⟩
theorem TA.next {id:Nat} {s':St} {m:Sem Unit} (h:TA P T id s ρ F W s' m):cY P T id s ρ F W (.tup []) s' (do m;pure .skip):=by obtain ⟨W',ρ',F',h1,h3,h4,h5,h6⟩:=h;exact .inr (.inl ⟨W',by simp only [Sem.run_bind,h1,Result.andThen_ok,Sem.run_pure],ρ',F',.tup _ _ rfl (fun i h=>by simp at h),h3,h4,h5,h6⟩)
def GlobOk (T:Ty) (glob:Nat->Option (List AV)) (F:Fz) (W:World):Prop:=∀ g cs,glob g=some cs->(∃ w:Nat->Value,∀ j (h:j < cs.length),F ⟨g,j,none⟩=some (w j)/\VR T F (fun _=>none) cs[j] (w j)) /\
 (cs≠[]->∃ C e fr,W.heap[g]?=some (.cells C e fr)/\C.size=cs.length)
theorem GlobOk.mono {T:Ty} {glob:Nat->Option (List AV)} {F F':Fz} {W:World} (h:GlobOk T glob F W) (hF:oA F F'):GlobOk T glob F' W:=fun g cs hg=>by obtain ⟨⟨w,hw⟩,h2⟩:=h g cs hg;exact ⟨⟨w,fun j hj=>⟨hF _ _ (hw j hj).1,(hw j hj).2.mono hF (rE.refl _)⟩⟩,h2⟩
theorem GlobOk.step {T:Ty} {glob:Nat->Option (List AV)} {F F':Fz} {ρ ρ':fD} {s s':St} {W W':World} (h:GlobOk T glob F W) (hR:R T F ρ s W) (hS:dM s ρ F W s' ρ' F' W'):GlobOk T glob F' W':=fun g cs hg=>by
 obtain ⟨⟨w,hw⟩,h2⟩:=h g cs hg;refine ⟨⟨w,fun j hj=>⟨hS.fz _ _ (hw j hj).1,(hw j hj).2.mono hS.fz (rE.refl _)⟩⟩,fun hne=>?_⟩;obtain ⟨C,e,fr,h3,h4⟩:=h2 hne;have hpos:0 < cs.length:=List.length_pos_iff.2 hne;have hcold:=(hR.fz _ _ (hw 0 hpos).1).2
 have hlt:g < W.heap.size:=by
  rcases zP g W.heap.size with h | h
  ·exact h
  ·rw [Array.getElem?_eq_none h] at h3;cases h3
 exact ⟨C,e,fr,by rw [hS.same g hlt fun ⟨i,z,hi,hz⟩=>hcold i z hi hz];exact h3,h4⟩
def lK (P:Program) (X:Cx):Prop:=∀ (dr:Bool) (f:FuncId) (args:List AV) (s:St) (r:AV) (s':St),X.call dr f args s=some (r,s') ->
 ∀ (vals:Array Value) (ρ:fD) (F:Fz) (W:World),CR X.P F ρ args vals.toList->R X.P F ρ s W->GlobOk X.P X.glob F W ->
  ∀ id0,cY P X.P id0 s ρ F W r s' (callFunc f vals)
def TM (T:Ty) (F:Fz) (ρ:fD) (tm:List AV) (ts:Array Value):Prop:=tm.length<=ts.size/\∀ i (h:i < tm.length) (h':i < ts.size),VR T F ρ tm[i] ts[i]
theorem TM.mono {F':Fz} {ρ':fD} {tm:List AV} {ts:Array Value} (h:TM T F ρ tm ts) (hF:oA F F') (hρ:rE ρ ρ'):TM T F' ρ' tm ts:=⟨h.1,fun i a b=>(h.2 i a b).mono hF hρ⟩
theorem TM.gt {tm:List AV} {ts:Array Value} (h:TM T F ρ tm ts) (t:Nat):VR T F ρ (Ai.gt tm t) (ts.getD t undef):=by
 unfold Ai.gt;by_cases ht:t < tm.length
 ·have h2:t < ts.size:=HT ht h.1;have e1:tm.getD t .undef=tm[t]:=by simp [List.getD,m004 ht]
  have e2:ts.getD t undef=ts[t]:=by simp [Array.getD,h2]
  rw [e1,e2];exact h.2 t ht h2
 ·have e1:tm.getD t .undef=.undef:=by simp [List.getD,List.getElem?_eq_none (Nat.not_lt.1 ht)]
  rw [e1];exact .undef _
theorem TM.put {tm:List AV} {ts:Array Value} (h:TM T F ρ tm ts) {x:AV} {v:Value} (hx:VR T F ρ x v) (d:Option Nat) (ds:List Deferred):TM T F ρ (Ai.put tm d x) ((⟨ts,ds⟩:Act).put d v).tmps:=by
 cases d with
 | none=>exact h
 | some d =>
  refine ⟨by simpa [Ai.put,Act.put] using h.1,fun i a b=>?_⟩;simp only [Ai.put,Act.put] at a b ⊢;rw [List.getElem_set,Array.getElem_setIfInBounds (by simpa using b)]
  split
  ·exact hx
  ·exact h.2 i _ _
theorem aOa {X:Cx} (hG:GlobOk X.P X.glob F W) {tm:List AV} {ts:Array Value} (h:TM X.P F ρ tm ts) (ds:List Deferred) (x:Operand):VR X.P F ρ (ev X (gt tm) x) ((⟨ts,ds⟩:Act).eval x):=by
 cases x with
 | tmp t=>exact h.gt t
 | const v=>exact QU v
 | global g =>
  simp only [ev,Act.eval]
  cases hg:X.glob g with
  | none=>exact .undef _
  | some cs =>obtain ⟨w,hw⟩:=(hG g cs hg).1;exact .pel cs 0 g 0 w (fun j hj=>by rw [m023];exact (hw j hj).1) (fun j hj=>(hw j hj).2.mono (oA.refl _) (fun _ _ h=>by cases h))
 | func f=>exact .fn f [] [] #[] #[] rfl rfl (fun i h=>by simp at h) (fun i h=>by simp at h)
theorem JL {α:Type} (l:Array α) (f:α->AV) (g:α->Value) (h:∀ x,VR T F ρ (f x) (g x)):CR T F ρ (l.toList.map f) (l.map g).toList:=by rw [Array.toList_map];exact ⟨by simp,fun i a b=>by simp only [m070];exact h _⟩
theorem CR.two {x y:AV} {us:Array Value} (h:CR T F ρ [x,y] us.toList):∃ u v,us=#[u,v]/\VR T F ρ x u/\VR T F ρ y v:=by
 obtain ⟨us⟩:=us
 match us,h with
 | [u,v],h=>exact ⟨u,v,rfl,h.2 0 (by simp) (by simp),h.2 1 (by simp) (by simp)⟩
 | [],h=>exact absurd h.1 (by simp)
 | [_],h=>exact absurd h.1 (by simp)
 | _::_::_::_,h=>exact absurd h.1 (by simp)
theorem CR.single {x:AV} {us:Array Value} (h:CR T F ρ [x] us.toList):∃ u,us=#[u]/\VR T F ρ x u:=by
 obtain ⟨us⟩:=us
 match us,h with
 | [u],h=>exact ⟨u,rfl,h.2 0 (by simp) (by simp)⟩
 | [],h=>exact absurd h.1 (by simp)
 | _::_::_,h=>exact absurd h.1 (by simp)
theorem KY (ats:Array TypeId) (ty:TypeId) (cs:Array Bool) (us:Array Value):builtin .len ats ty cs us=(do pure (.value (<- Builtin.len_ ats ty us))):=rfl
theorem LS (ats:Array TypeId) (ty:TypeId) (cs:Array Bool) (us:Array Value):builtin .cap ats ty cs us=(do pure (.value (<- Builtin.cap_ ats ty us))):=rfl
theorem KL (ats:Array TypeId) (ty:TypeId) (cs:Array Bool) (us:Array Value):builtin .min ats ty cs us=(do pure (.value (<- Builtin.min_ ats ty us))):=rfl
theorem NP (ats:Array TypeId) (ty:TypeId) (cs:Array Bool) (us:Array Value):builtin .max ats ty cs us=(do pure (.value (<- Builtin.max_ ats ty us))):=rfl
theorem AQ (ats:Array TypeId) (ty:TypeId) (cs:Array Bool) (us:Array Value):builtin .append ats ty cs us=(do pure (.value (<- Builtin.append_ ats ty us))):=rfl
theorem JW (ats:Array TypeId) (ty:TypeId) (cs:Array Bool) (us:Array Value):builtin .copy ats ty cs us=(do pure (.value (<- Builtin.copy_ ats ty us))):=rfl
theorem oB (ats:Array TypeId) (ty:TypeId) (cs:Array Bool) (us:Array Value):builtin .unsafeSliceData ats ty cs us=(do pure (.value (<- Builtin.unsafeSliceData_ ats ty us))):=rfl
theorem rB (ats:Array TypeId) (ty:TypeId) (cs:Array Bool) (us:Array Value):builtin .unsafeString ats ty cs us=(do pure (.value (<- Builtin.unsafeString_ ats ty us))):=rfl
theorem ND (hT:dO P T) {e:TypeId} {i:TypeInfo} {ats:Array TypeId} {u:Value} {nc:List AV} {m:Nat} {news:List Value} {tx:TypeId} {d:TypeDesc} (h1:ats[1]?=some tx) (h2:P.underlying tx=some d) (h3:(∃ e',d=.slice e')\/d=.string)
  (hg:sN P T F ρ W i.size nc u m news) (hone:nc.all AV.one=true):WK P T F ρ W e i ats u nc m news :=
 ⟨⟨tx,d,h1,h2,.inl ⟨h3,hg.len,hg.all (fun _ _ h=>h),hg.all (sY W)⟩⟩,hg.cr,hg.size,hone⟩
theorem SM {X:Cx} (hT:dO P X.P) (hR:R X.P F ρ s W) {b:Builtin} {ats:Array TypeId} {args:List AV} {r:AV} {s':St} {id0:Nat} (hid:ρ id0=none) (hlt:id0 < s.nx) (h:bG X b ats args id0 s=some (r,s')) {us:Array Value} (hu:CR X.P F ρ args us.toList) (ty:TypeId) (cs:Array Bool) :
  cY P X.P id0 s ρ F W r s' (builtin b ats ty cs us):=by
 have hat:∀ {i:Nat} {d:TypeDesc},(ats[i]?).bind (dZ X.P)=some d->∃ t,ats[i]?=some t/\P.underlying t=some d:=fun {i d} hd=>by
  cases ht:ats[i]? with
  | none=>rw [ht] at hd;cases hd
  | some t=>rw [ht] at hd;exact ⟨t,rfl,cH hT hd⟩
 unfold bG at h
 split at h
 ·
  obtain ⟨u,rfl,hv⟩:=hu.single;rw [KY];refine iS.next ?_
  cases hd:(ats[0]?).bind (dZ X.P) with
  | none=>rw [hd] at h;cases h
  | some d =>
   rw [hd] at h;simp only [Option.bind_some] at h
   split at h
   ·rename_i x hl;obtain ⟨t,ht,hun⟩:=hat hd
    cases hn:tE x s with
    | none=>rw [hn] at h;cases h
    | some n =>rw [hn] at h;simp only [Option.map_some,m000,m001] at h;obtain ⟨rfl,rfl⟩:=h;exact cX.does hR id0 (bBt (ty:=ty) hT hR ht hun hl hn hv)
   ·cases h
 ·
  rename_i x;obtain ⟨u,rfl,hv⟩:=hu.single;rw [LS];refine iS.next ?_
  cases hd:(ats[0]?).bind (dZ X.P) with
  | none=>rw [hd] at h;cases h
  | some d =>
   rw [hd] at h;simp only [Option.bind_some] at h;obtain ⟨t,ht,hun⟩:=hat hd
   split at h
   ·cases hn:QA x with
    | none=>rw [hn] at h;cases h
    | some n =>rw [hn] at h;simp only [Option.map_some,m000,m001] at h;obtain ⟨rfl,rfl⟩:=h;exact cX.does hR id0 (bDa (ty:=ty) hT ht hun hn hv)
   ·cases h
 ·
  rw [KL];refine iS.next ?_
  cases hm:FG (fun y x=>decide (y < x)) args with
  | none=>rw [hm] at h;cases h
  | some r =>rw [hm] at h;simp only [Option.map_some,m000,m001] at h;obtain ⟨rfl,rfl⟩:=h;obtain ⟨x,y,rfl,hs⟩:=aJj (P:=P) (W:=W) (m2:=Builtin.min2) (fun k a k' b=>by simp [Builtin.min2]) hm hu;exact cX.does hR id0 hs
 ·
  rw [NP];refine iS.next ?_
  cases hm:FG (fun y x=>decide (x < y)) args with
  | none=>rw [hm] at h;cases h
  | some r =>rw [hm] at h;simp only [Option.map_some,m000,m001] at h;obtain ⟨rfl,rfl⟩:=h;obtain ⟨x,y,rfl,hs⟩:=aJj (P:=P) (W:=W) (m2:=Builtin.max2) (fun k a k' b=>by simp [Builtin.max2]) hm hu;exact cX.does hR id0 hs
 ·
  rename_i x y;obtain ⟨u,v,rfl,hux,hvy⟩:=hu.two;rw [AQ];refine iS.next ?_
  split at h
  ·
   rename_i e k hd0 hd1;obtain ⟨t,ht,hun⟩:=hat hd0;obtain ⟨tx,htx,hunx⟩:=hat hd1
   split at h
   ·rename_i z ag b zv k' n hl hb hz
    split at h
    ·rename_i hc;obtain ⟨h0,h1,h2,h3,h4⟩:=hc;obtain ⟨i,d,hi,hs,_,_⟩:=mQ hT hl;obtain ⟨i2,hi2,hb2⟩:=xO hT hb;rw [hi] at hi2;cases hi2;obtain ⟨i3,zr,hi3,hz3,rfl⟩:=JH hT hz;rw [hi] at hi3;cases hi3;have hcr:=aGg (jL (T:=X.P) (F:=F) (ρ:=ρ) zr) n.toNat h4 h0;have hzs:zr.cells.size=z:=by have:=(jL (T:=X.P) (F:=F) (ρ:=ρ) zr).1;simp at this;omega
     have hzc:(Array.range (n.toNat * z)).map (zr.cells[· % zr.cells.size]!)=Builtin.zeroCells zr.cells n.toNat:=by simp only [Builtin.zeroCells,hzs]
     rw [hzc] at hcr;cases hvy;refine tR (ty:=ty) (news:=(Builtin.zeroCells zr.cells n.toNat).toList) hT hR hl hb hz h4 h0 hi (m:=n.toNat) (fun hone=>?_) ht hun hux hid hlt h;refine ⟨⟨tx,_,htx,hunx,.inr ⟨⟨_,rfl⟩,_,n,zr,rfl,h1,h3,by rw [hb2];exact h2,rfl,hz3,rfl⟩⟩,hcr,?_,hone⟩;rw [hcr.1];simp [size_zeroCells,hzs,hs]
    ·cases h
   ·cases h
  ·rename_i e e2 hd0 hd1;obtain ⟨t,ht,hun⟩:=hat hd0;obtain ⟨tx,htx,hunx⟩:=hat hd1
   split at h
   ·rename_i z ag b zv hl hb hz
    split at h
    ·rename_i hc;obtain ⟨h0,h1⟩:=hc;obtain ⟨i,d,hi,hs,_,_⟩:=mQ hT hl
     cases hsrc:aR z y s with
     | none=>rw [hsrc] at h;cases h
     | some nc =>rw [hsrc] at h;simp only [Option.bind_some] at h;obtain ⟨m,news,hg⟩:=JE (P:=P) hR h0 hsrc hvy;rw [<- hs] at hg;exact tR (ty:=ty) hT hR hl hb hz h1 h0 hi (fun hone=>ND hT htx hunx (.inl ⟨_,rfl⟩) hg hone) ht hun hux hid hlt h
    ·cases h
   ·cases h
  ·rename_i e hd0 hd1;obtain ⟨t,ht,hun⟩:=hat hd0;obtain ⟨tx,htx,hunx⟩:=hat hd1
   split at h
   ·rename_i z ag b zv hl hb hz
    split at h
    ·rename_i hc;obtain ⟨h0,h1⟩:=hc;obtain ⟨i,d,hi,hs,_,_⟩:=mQ hT hl
     cases hsrc:aR z y s with
     | none=>rw [hsrc] at h;cases h
     | some nc =>rw [hsrc] at h;simp only [Option.bind_some] at h;obtain ⟨m,news,hg⟩:=JE (P:=P) hR h0 hsrc hvy;rw [<- hs] at hg;exact tR (ty:=ty) hT hR hl hb hz h1 h0 hi (fun hone=>ND hT htx hunx (.inr rfl) hg hone) ht hun hux hid hlt h
    ·cases h
   ·cases h
  ·cases h
 ·
  rename_i x y;obtain ⟨u,v,rfl,hux,hvy⟩:=hu.two;rw [JW];refine iS.next ?_
  split at h
  ·rename_i e hd0;obtain ⟨t,ht,hun⟩:=hat hd0
   split at h
   ·rename_i z ag hl
    split at h
    ·cases h
    ·rename_i hz0
     cases hsrc:aR z y s with
     | none=>rw [hsrc] at h;cases h
     | some nc =>rw [hsrc] at h;simp only [Option.bind_some] at h;obtain ⟨m,news,hg⟩:=JE (P:=P) hR (by omega) hsrc hvy;exact aJy (ty:=ty) hT hR hl (by omega) ht hun hg hux h id0
   ·cases h
  ·cases h
 ·
  obtain ⟨u,rfl,hv⟩:=hu.single;rw [oB];refine iS.next ?_
  split at h
  ·simp only [m000,m001] at h;obtain ⟨rfl,rfl⟩:=h;cases hv;exact cX.does hR id0 ⟨_,Lib.run_unsafeSliceData_nil W ats ty 0 0,.nilp⟩
  ·rename_i id off n cap e
   cases hb:s.h id with
   | none=>rw [hb] at h;cases h
   | some bk =>
    rw [hb] at h
    cases bk with
    | cells c e' ex wr =>
     simp only at h
     split at h
     ·rename_i hc;obtain ⟨ho,hcap⟩:=hc;have:cap=none:=by simpa using hcap
      subst this;simp only [m000,m001] at h;obtain ⟨rfl,rfl⟩:=h;exact cX.does hR id0 (JT (ats:=ats) (ty:=ty) hR hb ho hv)
     ·cases h
    | _=>cases h
  ·cases h
 ·
  rename_i p n;obtain ⟨u,v,rfl,hux,hvy⟩:=hu.two;rw [rB];refine iS.next ?_
  split at h
  ·rename_i pt it hats;have hats':ats=#[pt,it]:=Array.ext' (by simpa using hats);subst hats'
   split at h
   ·rename_i e1 id n hd
    cases hb:s.h id with
    | none=>rw [hb] at h;cases h
    | some bk =>
     rw [hb] at h
     cases bk with
     | cells c e ex wr =>
      simp only at h
      split at h
      ·rename_i ag hl
       split at h
       ·rename_i hc;obtain ⟨rfl,h0,h1,h2⟩:=hc
        cases hns:fW (c.take n.toNat) with
        | none=>rw [hns] at h;cases h
        | some ns =>
         rw [hns] at h;simp only [Option.bind_some] at h
         split at h
         ·rename_i hall;simp only [m000,m001] at h;obtain ⟨rfl,rfl⟩:=h;cases hvy;exact zS (ty:=ty) (it:=it) hT hR (cH hT hd) hb hl h0 h1 h2 hns hall hux id0
         ·cases h
       ·cases h
      ·cases h
     | _=>cases h
   ·simp only [m000,m001] at h;obtain ⟨rfl,rfl⟩:=h;cases hux;cases hvy;exact cX.does hR id0 ⟨_,Lib.run_unsafeString_none W pt it ty none,.str _ _ rfl⟩
   ·simp only [m000,m001] at h;obtain ⟨rfl,rfl⟩:=h;cases hvy
    cases hux with
    | ptr id off β z hρ=>exact cX.does hR id0 ⟨.string .empty,Lib.run_unsafeString_none (P:=P) W pt it ty (some _),.str [] .empty rfl⟩
   ·cases h
  ·cases h
 ·cases h
end
end Go.Proofs.YtdehdahimkcakaaGreatDoor.Ai
namespace Go.Proofs.YtdehdahimkcakaaGreatDoor.Ai
open Go
section
variable {P:Program} {T:Ty} {F:Fz} {ρ:fD} {s:St} {W:World}
theorem cY.congr {id:Nat} {r:AV} {s':St} {m m':Sem Next} (h:cY P T id s ρ F W r s' m) (e:m'.run P W=m.run P W):cY P T id s ρ F W r s' m':=by unfold cY at h ⊢;rw [e];exact h
theorem cX.next {id:Nat} {r:AV} {m:Sem Value} (hR:R T F ρ s W) (h:cX P T F ρ W r m):cY P T id s ρ F W r s (do pure (.value (<- m))):=(cX.does hR id h).next
theorem cY.pure {id:Nat} {r:AV} (hR:R T F ρ s W) {v:Value} (h:VR T F ρ r v):cY P T id s ρ F W r s (Pure.pure (.value v)) :=
 .inl ⟨v,W,rfl,ρ,F,h,hR,dM.refl _ _ _ _,fun _ _ _=>rfl,bH _⟩
theorem aMt {f:FuncId} {as bs:List AV} {v:Value} (h:VR T F ρ (.fn f as bs) v):∃ us vs:Array Value,v=.func (.func f) us vs/\CR T F ρ as us.toList/\CR T F ρ bs vs.toList:=by
 cases h with
 | fn _ _ _ us vs h1 h2 ha hb=>exact ⟨us,vs,rfl,⟨by simpa using h1,fun i a b=>by rw [Array.getElem_toList];exact ha i a _⟩,⟨by simpa using h2,fun i a b=>by rw [Array.getElem_toList];exact hb i a _⟩⟩
theorem UY {vs:List AV} {v:Value} (h:VR T F ρ (.tup vs) v):∃ us:Array Value,v=.tuple us/\CR T F ρ vs us.toList:=by
 cases h with
 | tup _ us h1 ha=>exact ⟨us,rfl,by simpa using h1,fun i a b=>by rw [Array.getElem_toList];exact ha i a _⟩
theorem RL {f:Operand->AV} {g:Operand->Value} (h:∀ x,VR T F ρ (f x) (g x)) (o:Option Operand):OV T F ρ (o.map f) (o.map g):=by
 cases o with
 | none=>trivial
 | some x=>exact h x
theorem aEl {f:Operand->AV} {g:Operand->Value} (h:∀ x,VR T F ρ (f x) (g x)) (parts:Array (Nat×Operand)) :
  PR T F ρ (parts.toList.map fun p=>(p.1,f p.2)) (parts.map fun (i,x)=>(i,g x)).toList:=by
 rw [Array.toList_map];exact PR.of_map _ f g h
theorem QF {X:Cx} (hT:dO P X.P) (hE:xU P X.P X.eqOk) (hC:lK P X) (hR:R X.P F ρ s W) (hG:GlobOk X.P X.glob F W) {dr:Bool} {id:Nat} (hid:ρ id=none) (hlt:id < s.nx) {e:Operand->AV} {g:Operand->Value} (he:∀ x,VR X.P F ρ (e x) (g x))
  {o:Oper} {r:AV} {s':St} (h:fX X dr id e o s=some (r,s')):cY P X.P id s ρ F W r s' (execOp g o):=by
 have hv:∀ {q:Option AV},q.map (·,s)=some (r,s')->q=some r/\s'=s:=fun {q} hq=>by
  cases q with
  | none=>cases hq
  | some x=>simp only [Option.map_some,m000,m001] at hq;exact ⟨by rw [hq.1],hq.2.symm⟩
 unfold fX at h;simp only at h
 split at h
 ·rename_i x ho;simp only [m000,m001] at h;obtain ⟨rfl,rfl⟩:=h;simp only [execOp,ho];exact cY.pure hR (he x)
 ·rename_i x ho;simp only [m000,m001] at h;obtain ⟨rfl,rfl⟩:=h;simp only [execOp,ho];exact cY.pure hR (he x)
 ·rename_i c a b ho
  cases hb:KA (e c) with
  | none=>rw [hb] at h;cases h
  | some t =>
   rw [hb] at h;simp only [Option.bind_some,m000,m001] at h;obtain ⟨rfl,rfl⟩:=h;have hc:=aEo hb (he c);refine cY.congr (m:=Pure.pure (.value (if t then g a else g b))) (cY.pure hR ?_) ?_
   ·cases t
    ·exact he b
    ·exact he a
   ·simp only [execOp,ho,hc,asBool,Sem.run_bind,Sem.run_pure,Result.andThen_ok]
 ·rename_i t ho
  cases hz:zero X.P t with
  | none=>rw [hz] at h;cases h
  | some z =>rw [hz] at h;simp only [Option.map_some,m000,m001] at h;obtain ⟨rfl,rfl⟩:=h;simp only [execOp,ho];exact (aMl hT hR hz hid hlt).next
 ·rename_i t x ho
  split at h
  ·rename_i hone;simp only [m000,m001] at h;obtain ⟨rfl,rfl⟩:=h;simp only [execOp,ho];exact (aZy hR hone (he x) hid hlt).next
  ·cases h
 ·rename_i t parts ho;obtain ⟨h1,rfl⟩:=hv h;simp only [execOp,ho];exact (aLb hT (aEl he parts) h1).next hR
 ·rename_i t n parts ho;obtain ⟨h1,rfl⟩:=hv h;simp only [execOp,ho];exact (SC hT hR (aEl he parts) h1 id).next
 ·rename_i t a ho
  cases hl:eN X.P t with
  | none=>rw [hl] at h;cases h
  | some zz =>obtain ⟨z,ag⟩:=zz;rw [hl] at h;simp only [Option.bind_some] at h;obtain ⟨h1,rfl⟩:=hv h;simp only [execOp,ho];exact (UJ hT hR hl h1 (he a)).next hR
 ·rename_i t a x ho
  cases hl:eN X.P t with
  | none=>rw [hl] at h;cases h
  | some zz =>
   obtain ⟨z,ag⟩:=zz;rw [hl] at h;simp only [Option.bind_some] at h
   cases hs:Ai.store z (e a) (e x) s with
   | none=>rw [hs] at h;cases h
   | some s1 =>rw [hs] at h;simp only [Option.map_some,m000,m001] at h;obtain ⟨rfl,rfl⟩:=h;simp only [execOp,ho];exact (aHz hT hR hl hs (he a) (he x) id).next
 ·rename_i x ho;have hx:=he x
  split at h
  ·rename_i i off hex;simp only [m000,m001] at h;obtain ⟨rfl,rfl⟩:=h;rw [hex] at hx;refine cY.congr (m:=Pure.pure (.value (g x))) (cY.pure hR hx) ?_;cases hgx:g x<;>rw [hgx] at hx<;>first | (cases hx;done) | skip
   simp only [execOp,ho,hgx];cases hx;rfl
  ·rename_i i off hex;simp only [m000,m001] at h;obtain ⟨rfl,rfl⟩:=h;rw [hex] at hx;refine cY.congr (m:=Pure.pure (.value (g x))) (cY.pure hR hx) ?_;cases hgx:g x<;>rw [hgx] at hx<;>first | (cases hx;done) | skip
   simp only [execOp,ho,hgx];cases hx;rfl
  ·rename_i f a c hex;simp only [m000,m001] at h;obtain ⟨rfl,rfl⟩:=h;rw [hex] at hx;obtain ⟨us,vs,hgx,_,_⟩:=aMt hx;refine cY.congr (m:=Pure.pure (.value (g x))) (cY.pure hR hx) ?_;simp only [execOp,ho,hgx]
  ·cases h
 ·rename_i op t x y d ho;obtain ⟨h1,rfl⟩:=hv h;simp only [execOp,ho];exact (bBl hT hE h1 (he x) (he y) x y).next hR
 ·rename_i op t x ho;obtain ⟨h1,rfl⟩:=hv h;simp only [execOp,ho];exact (bEr h1 (he x)).next hR
 ·rename_i src dst x ho;obtain ⟨h1,rfl⟩:=hv h;simp only [execOp,ho];exact (aEh hT hR h1 (he x) id).next
 ·rename_i t x ho
  cases hd:dZ X.P t with
  | none=>rw [hd] at h;cases h
  | some d =>
   rw [hd] at h;have hni:(∀ m,d≠.interface m)/\r=.iface t (e x)/\s'=s:=by cases d<;>first | (cases h;done) | (simp only [m000,m001] at h;exact ⟨(by intro m hm;cases hm),h.1.symm,h.2.symm⟩)
   obtain ⟨hni,rfl,rfl⟩:=hni;refine cY.congr (m:=Pure.pure (.value (.iface t (g x)))) (cY.pure hR (.iface _ _ _ (he x))) ?_;simp only [execOp,ho,Instr.makeInterface,Sem.run_bind,run_underlying (cH hT hd),Result.andThen_ok];cases d<;>first | rfl | exact absurd rfl (hni _)
 ·rename_i f first captured ho
  simp only [m000,m001] at h;obtain ⟨rfl,rfl⟩:=h;refine cY.congr (m:=Pure.pure (.value (.func (.func f) (first.map g) (captured.map g)))) (cY.pure hR ?_) ?_
  ·have h1:=JL (T:=X.P) (F:=F) (ρ:=ρ) first e g he
   have h2:=JL (T:=X.P) (F:=F) (ρ:=ρ) captured e g he;exact .fn f _ _ _ _ (by simp) (by simp) (fun i a b=>by have:=h1.2 i a (by simpa using b);rwa [Array.getElem_toList] at this) (fun i a b=>by have:=h2.2 i a (by simpa using b);rwa [Array.getElem_toList] at this)
  ·simp only [execOp,ho,Instr.makeFunc,Sem.run_bind,Sem.run_pure,Result.andThen_ok]
 ·rename_i t ho;simp only [m000,m001] at h;obtain ⟨rfl,rfl⟩:=h;simp only [execOp,ho];exact (PT hR t hid hlt).next
 ·rename_i t n c ho
  cases hd:dZ X.P t with
  | none=>rw [hd] at h;cases h
  | some d =>
   rw [hd] at h
   cases d with
   | slice et =>
    simp only at h
    split at h
    ·rename_i z ag b zv i j hl hb hz hn hc
     split at h
     ·rename_i hcd;obtain ⟨q1,rfl,q3,q4,q5,q6⟩:=hcd;simp only [m000,m001] at h;obtain ⟨rfl,rfl⟩:=h;simp only [execOp,ho];exact (IY hT hR hd hl hb hz hn hc q1 q3 q4 q5 q6 (he n) (he c) hid hlt).next
     ·cases h
    ·cases h
   | _=>cases h
 ·rename_i t x lo hi mx ho;obtain ⟨h1,rfl⟩:=hv h;simp only [execOp,ho];exact (YE hT hR h1 (he x) (RL he lo) (RL he hi) (RL he mx)).next hR
 ·rename_i t x f ho;obtain ⟨h1,rfl⟩:=hv h;simp only [execOp,ho];exact (JZ hT h1 (he x)).next hR
 ·rename_i t x f ho;obtain ⟨h1,rfl⟩:=hv h;simp only [execOp,ho];exact (aIn hT h1 (he x)).next hR
 ·rename_i t x i ho;obtain ⟨h1,rfl⟩:=hv h;simp only [execOp,ho];exact (IK hT hR h1 (he x) (he i)).next hR
 ·rename_i t x i ho;obtain ⟨h1,rfl⟩:=hv h;simp only [execOp,ho];exact (aEs hT h1 (he x) (he i)).next hR
 ·rename_i t m k ok ho;obtain ⟨h1,rfl⟩:=hv h;simp only [execOp,ho];exact (WU hT hR h1 (he m) (he k)).next hR
 ·rename_i t m k x ho
  cases hm:iC X.P t (e m) (e k) (e x) s with
  | none=>rw [hm] at h;cases h
  | some s1 =>rw [hm] at h;simp only [Option.map_some,m000,m001] at h;obtain ⟨rfl,rfl⟩:=h;simp only [execOp,ho];exact (aCg hT hR hm (he m) (he k) (he x) id).next
 ·rename_i t i ho
  split at h
  ·rename_i vs hex;obtain ⟨h1,rfl⟩:=hv h;have ht:=he t;rw [hex] at ht;obtain ⟨us,hus,hcr⟩:=UY ht;obtain ⟨v,k1,k2⟩:=hcr.get? h1;refine cY.congr (m:=Pure.pure (.value v)) (cY.pure hR k2) ?_;have:us[i]?=some v:=by simpa using k1
   simp only [execOp,ho,hus,Instr.extract,this,Sem.run_bind,Sem.run_pure,Result.andThen_ok]
  ·cases h
 ·rename_i c ho
  split at h
  ·rename_i b hb;have key:∃ cs,(execOp g o).run P W=(builtin b c.argTypes o.type cs (c.args.map g)).run P W:=by refine ⟨c.args.map fun | .const _=>true | _=>false,?_⟩;simp only [execOp,ho,resolve,hb,Sem.run_bind,Sem.run_pure,Result.andThen_ok,invoke];rfl
   obtain ⟨cs,hcs⟩:=key;exact (SM (P:=P) hT hR hid hlt h (JL c.args e g he) o.type cs).congr hcs
  ·rename_i f hf
   split at h
   ·rename_i f' a cap hex;have hfv:=he f;rw [hex] at hfv;obtain ⟨us,vs,hgf,h1,h2⟩:=aMt hfv;have hcr:CR X.P F ρ (a++c.args.toList.map e++cap) (us++c.args.map g++vs).toList:=by rw [Array.toList_append,Array.toList_append];exact (h1.append (JL c.args e g he)).append h2
    refine (hC dr f' _ s r s' h _ ρ F W hcr hR hG id).congr ?_;simp only [execOp,ho,resolve,hf,hgf,Deferred.ofValue,Sem.run_bind,Sem.run_pure,Result.andThen_ok,invoke]
   ·cases h
  ·cases h
 ·cases h
end
end Go.Proofs.YtdehdahimkcakaaGreatDoor.Ai
namespace Go.Proofs.YtdehdahimkcakaaGreatDoor.Ai
open Go
section
variable {P:Program} {T:Ty} {F:Fz} {ρ:fD} {s:St} {W:World}
theorem aFi {x:AV} {v:Value} (h:VR T F ρ x v) (h1:∀ b,x≠.bool b) (h2:x≠.undef):∀ b,v≠.bool b:=by
 intro b hb;subst hb;cases h
 ·exact h2 rfl
 ·exact h1 _ rfl
theorem HD {tm:List AV} {ts:Array Value} (h:TM T F ρ tm ts) {ops:Array Oper} {o:Oper} {w:Bool} (hw:bD ops.toList (gt tm) o=some w):Region.wanted o (yielded ops ts)=w:=by
 unfold bD at hw;unfold Region.wanted
 cases hg:o.guard with
 | none=>rw [hg] at hw;simp only [m000] at hw;exact hw
 | some jw =>
  obtain ⟨j,want⟩:=jw;rw [hg] at hw;simp only at hw ⊢;rw [Array.getElem?_toList] at hw;unfold yielded
  cases hd:(ops[j]?).bind (·.dst) with
  | none=>rw [hd] at hw;simp only [m000] at hw;subst hw;rfl
  | some d =>
   rw [hd] at hw;simp only [Option.bind_some] at hw ⊢;have hv:=h.gt d
   split at hw
   ·rename_i b hb;simp only [m000] at hw;subst hw;rw [hb] at hv
    cases hts:ts[d]? with
    | none =>
     have:ts.getD d undef=undef:=by simp [Array.getD_eq_getD_getElem?,hts]
     rw [this] at hv;cases hv
    | some v =>
     have:ts.getD d undef=v:=by simp [Array.getD_eq_getD_getElem?,hts]
     rw [this] at hv;cases hv;rfl
   ·cases hw
   ·rename_i h1 h2;simp only [m000] at hw;subst hw;have hnb:=aFi hv h1 h2
    cases hts:ts[d]? with
    | none=>rfl
    | some v =>
     have:ts.getD d undef=v:=by simp [Array.getD_eq_getD_getElem?,hts]
     rw [this] at hnb;cases v<;>first | rfl | exact absurd rfl (hnb _)
theorem aMc (X:Cx) (dr:Bool) (base:Nat) (all:List Oper) (i:Nat) (tm:List AV) (s:St):iR X dr base all [] i tm s=some (tm,s):=rfl
theorem YO (X:Cx) (dr:Bool) (base:Nat) (all:List Oper) (o:Oper) (l:List Oper) (i:Nat) (tm:List AV) (s:St):iR X dr base all (o::l) i tm s =
  (bD all (gt tm) o).bind fun w=>cond w ((fX X dr (base+i) (ev X (gt tm)) o s).bind fun r=>iR X dr base all l (i+1) (put tm o.dst r.1) r.2) (iR X dr base all l (i+1) (put tm o.dst (.tup [])) s):=rfl
theorem oL (a:Act) (d:Option Tmp) (v:Value):(a.put d v).defers=a.defers:=by cases d<;>rfl
theorem aSj {X:Cx} (hT:dO P X.P) (hE:xU P X.P X.eqOk) (hC:lK P X) (hR:R X.P F ρ s W) (hG:GlobOk X.P X.glob F W) {dr:Bool} {id:Nat} (hid:ρ id=none) (hlt:id < s.nx) {tm:List AV} {a:Act} (hTM:TM X.P F ρ tm a.tmps) (hdf:a.defers=[])
  {o:Oper} {r:AV} {s':St} (h:fX X dr id (ev X (gt tm)) o s=some (r,s')) {next:Act->World->Prop} {Q:Exit->Act->World->Prop}
  (hn:∀ a' W' ρ' F',TM X.P F' ρ' (put tm o.dst r) a'.tmps->R X.P F' ρ' s' W'->dM s ρ F W s' ρ' F' W'->(∀ i,i < s.nx->i≠id->ρ' i=ρ i)->s.nx<=s'.nx->a'.defers=[]->next a' W'):o.wp P a W next Q:=by
 obtain ⟨ts,ds⟩:=a;simp only at hTM hdf;subst hdf;have hfin:∀ v W',ET X.P id s ρ F W r s' v W'->next ((⟨ts,[]⟩:Act).put o.dst v) W':=by intro v W' ⟨ρ',F',h1,h2,h3,h4,h5⟩;exact hn _ _ ρ' F' ((hTM.mono h3.fz h3.rho).put h1 o.dst []) h2 h3 h4 h5 (oL _ _ _)
 unfold Oper.wp;rcases QF hT hE hC hR hG hid hlt (fun x=>aOa hG hTM [] x) h with ⟨v,W',h1,h2⟩ | ⟨W',h1,h2⟩ | ⟨f,args,h1,h2⟩
 ·rw [h1,Oper.upon_value];exact hfin _ _ h2
 ·rw [h1,Oper.upon_skip];exact hfin _ _ h2
 ·rw [h1,Oper.upon_enter];refine h2.mono ?_;intro e W' he
  cases e with
  | returned v=>exact hfin _ _ he
  | panicked c=>exact he.elim
  | outgrown=>exact he.elim
theorem aTf {X:Cx} (hT:dO P X.P) (hE:xU P X.P X.eqOk) (hC:lK P X) {dr:Bool} {ops:Array Oper} {base:Nat} {Q:Exit->Act->World->Prop} {tm':List AV} {s':St}:∀ (l:List Oper) (i:Nat) (tm:List AV) (s:St) (ρ:fD) (F:Fz) (W:World) (a:Act),
  ops.toList.drop i=l->R X.P F ρ s W->GlobOk X.P X.glob F W->TM X.P F ρ tm a.tmps->a.defers=[]->(∀ j,i<=j->j < ops.size->ρ (base+j)=none)->base+ops.size<=s.nx->iR X dr base ops.toList l i tm s=some (tm',s') ->
  (∀ a' W' ρ' F',TM X.P F' ρ' tm' a'.tmps->R X.P F' ρ' s' W'->dM s ρ F W s' ρ' F' W'->(∀ k,k < base->ρ' k=ρ k)->s.nx<=s'.nx->a'.defers=[]->Q .normal a' W') ->
  wpOps P ops Q (List.range' i l.length) a W:=by
 intro l
 induction l with
 | nil =>intro i tm s ρ F W a hl hR hG hTM hdf hfree hnx h hq;rw [aMc] at h;simp only [m000,m001] at h;obtain ⟨rfl,rfl⟩:=h;exact hq a W ρ F hTM hR (dM.refl _ _ _ _) (fun _ _=>rfl) (bH _) hdf
 | cons o l ih =>
  intro i tm s ρ F W a hl hR hG hTM hdf hfree hnx h hq;have hi:i < ops.size:=by have:=congrArg List.length hl;simp at this;omega
  have hoi:ops[i]?=some o:=by
   have h1:ops.toList[i]?=some o:=by have:=congrArg (·[0]?) hl;simpa using this
   simpa using h1
  have hl':ops.toList.drop (i+1)=l:=by
   have:(ops.toList.drop i).drop 1=l:=by rw [hl];rfl
   rwa [List.drop_drop] at this
  rw [YO] at h;rw [List.length_cons,List.range'_succ];simp only [wpOps,hoi]
  cases hw:bD ops.toList (gt tm) o with
  | none=>rw [hw] at h;cases h
  | some w =>
   rw [hw] at h;simp only [Option.bind_some] at h;rw [HD hTM hw]
   cases w with
   | true =>
    simp only [cond_true,if_true] at h ⊢
    cases ho:fX X dr (base+i) (ev X (gt tm)) o s with
    | none=>rw [ho] at h;cases h
    | some r =>
     obtain ⟨r,s1⟩:=r;rw [ho] at h;simp only [Option.bind_some] at h;left;refine aSj hT hE hC hR hG (hfree i (bH _) hi) (by omega) hTM hdf ho ?_;intro a1 W1 ρ1 F1 k1 k2 k3 k4 k5 k6;refine ih (i+1) _ s1 ρ1 F1 W1 a1 hl' k2 (hG.step hR k3) k1 k6 (fun j hj hj2=>?_) (by omega) h ?_
     ·rw [k4 _ (by omega) (by omega)];exact hfree j (by omega) hj2
     ·intro a2 W2 ρ2 F2 m1 m2 m3 m4 m5 m6;exact hq a2 W2 ρ2 F2 m1 m2 (k3.trans m3) (fun k hk=>(m4 k hk).trans (k4 k (by omega) (by omega))) (by omega) m6
   | false =>simp only [cond_false,m015,if_false] at h ⊢;obtain ⟨ts,ds⟩:=a;refine ih (i+1) _ s ρ F W _ hl' hR hG (hTM.put (.tup [] #[] rfl (fun i h=>by simp at h)) o.dst ds) (by rw [oL];exact hdf) (fun j hj hj2=>hfree j (by omega) hj2) hnx h hq
end
end Go.Proofs.YtdehdahimkcakaaGreatDoor.Ai
namespace Go.Proofs.YtdehdahimkcakaaGreatDoor.Ai
open Go
section
variable {P:Program} {T:Ty} {F:Fz} {ρ:fD} {s:St} {W:World}
structure nX (T:Ty) (s:St) (ρ:fD) (F:Fz) (W:World) (tm':List AV) (s':St) (a':Act) (W':World):Prop where
 ex:∃ ρ' F',TM T F' ρ' tm' a'.tmps/\R T F' ρ' s' W'/\dM s ρ F W s' ρ' F' W'/\Old s.nx ρ ρ'
 nx:s.nx<=s'.nx
 df:a'.defers=[]
theorem nX.trans {s1 s2:St} {tm1 tm2:List AV} {a1 a2:Act} {W1 W2:World} {ρ1:fD} {F1:Fz} (h1:dM s ρ F W s1 ρ1 F1 W1) (h2:Old s.nx ρ ρ1) (h3:s.nx<=s1.nx) (k:nX T s1 ρ1 F1 W1 tm2 s2 a2 W2):nX T s ρ F W tm2 s2 a2 W2:=by obtain ⟨⟨ρ2,F2,k1,k2,k3,k4⟩,k5,k6⟩:=k;exact ⟨⟨ρ2,F2,k1,k2,h1.trans k3,fun i hi=>(k4 i (by omega)).trans (h2 i hi)⟩,by omega,k6⟩
def exq:Ex->Exit
 | .nm=>.normal
 | .ex i=>.exit i
 | .gt l=>.goto l
 | .rt=>.ret
def DL (P:Program) (X:Cx):Prop:=∀ (ops:Array Oper) (tm:List AV) (s:St) (ρ:fD) (F:Fz) (W:World) (a:Act) (base:Nat) (tm':List AV) (s':St),
 R X.P F ρ s W->GlobOk X.P X.glob F W->TM X.P F ρ tm a.tmps->a.defers=[]->(∀ j,j < ops.size->ρ (base+j)=none)->base+ops.size<=s.nx->drawn X base ops.toList tm s=some (tm',s') ->
 ∀ Q:Exit->Act->World->Prop,(∀ a' W' ρ' F',TM X.P F' ρ' tm' a'.tmps->R X.P F' ρ' s' W'->dM s ρ F W s' ρ' F' W'->(∀ k,k < base->ρ' k=ρ k)->s.nx<=s'.nx->a'.defers=[]->Q .normal a' W') ->
  ∀ t,wpOps P ops Q (Region.linearise .any ops t) a W
def sQ (P:Program) (c:Code) (Q:Exit->Act->World->Prop) (a:Act) (w:World):Prop :=
 ∀ (b:Frame) (k:List Item) (cs:List Frame),∃ e a' w',Q e a' w'/\Arrives P (lone (b.at a (.code c::.inLoop c::k)) cs w) b k cs e a' w'
theorem sQ.loop {c:Code} {Q:Exit->Act->World->Prop} {a:Act} {w:World} (h:sQ P c Q a w):(Code.loop c).wp P Q a w:=fun b k cs=>by obtain ⟨e,a',w',h1,h2⟩:=h b k cs;exact ⟨e,a',w',h1,.of_steps (.one step_loop) h2⟩
theorem sQ.unroll {c:Code} {Q:Exit->Act->World->Prop} {a:Act} {w:World} (h:c.wp P (Exit.then (sQ P c Q) Q) a w):sQ P c Q a w:=by
 intro b k cs;obtain ⟨e,a₁,w₁,hq,harr⟩:=h b (.inLoop c::k) cs
 cases e with
 | normal =>obtain ⟨e₂,a₂,w₂,hq₂,harr₂⟩:=hq b k cs;exact ⟨e₂,a₂,w₂,hq₂,.of_steps (Steps.trans harr (.one step_inLoop)) harr₂⟩
 | exit id=>exact ⟨_,a₁,w₁,hq,.pass (x:=.inLoop c) rfl (fun _ _=>.inl (by simp)) harr⟩
 | goto l=>exact ⟨_,a₁,w₁,hq,.pass (x:=.inLoop c) rfl (fun _ _=>.inl (by simp)) harr⟩
 | ret=>exact ⟨_,a₁,w₁,hq,.pass (x:=.inLoop c) rfl (fun _ _=>.inl (by simp)) harr⟩
 | panic ch=>exact ⟨_,a₁,w₁,hq,.pass (x:=.inLoop c) rfl (fun _ _=>.inl (by simp)) harr⟩
 | outgrown=>exact ⟨_,a₁,w₁,hq,.pass (x:=.inLoop c) rfl (fun _ _=>.inl (by simp)) harr⟩
def aOe (P:Program) (X:Cx) (wp:(Exit->Act->World->Prop)->Act->World->Prop) (out:List AV->St->CB):Prop :=
 ∀ (tm:List AV) (s:St) (e:Ex) (tm':List AV) (s':St),out tm s=some (e,tm',s')->∀ (ρ:fD) (F:Fz) (W:World) (a:Act),R X.P F ρ s W->GlobOk X.P X.glob F W->TM X.P F ρ tm a.tmps->a.defers=[] ->
  ∀ Q:Exit->Act->World->Prop,(∀ a' W',nX X.P s ρ F W tm' s' a' W'->Q (exq e) a' W')->wp Q a W
def aNs (P:Program) (X:Cx) (loopf:Code->List AV->St->CB):Prop:=∀ c,aOe P X (sQ P c) (loopf c)
theorem YM (X:Cx) (lf):code X lf .skip=fun tm s=>some (.nm,tm,s):=rfl
theorem KI (X:Cx) (lf) (id ops dr):code X lf (.region id ops dr)=fun tm s=>(cond dr (drawn X s.nx ops.toList tm ⟨s.h,s.nx+ops.size⟩) (iR X false s.nx ops.toList ops.toList 0 tm ⟨s.h,s.nx+ops.size⟩)).map fun r=>(.nm,r.1,r.2):=rfl
theorem aOf (X:Cx) (lf) (a b):code X lf (.seq a b)=fun tm s=>GC (code X lf a tm s) (code X lf b):=rfl
theorem XY (X:Cx) (lf) (c a b):code X lf (.cond c a b)=fun tm s=>(KA (ev X (gt tm) c)).bind fun t=>cond t (code X lf a tm s) (code X lf b tm s):=rfl
theorem PI (X:Cx) (lf) (id c):code X lf (.block id c)=fun tm s=>blk id (code X lf c tm s):=rfl
theorem aBd (X:Cx) (lf) (c):code X lf (.loop c)=fun tm s=>lf c tm s:=rfl
theorem XC (X:Cx) (lf) (id):code X lf (.exit id)=fun tm s=>some (.ex id,tm,s):=rfl
theorem SB (X:Cx) (lf) (c):code X lf (.scope c)=fun tm s=>XP (code X lf c tm s):=rfl
theorem PO (X:Cx) (lf) (id):code X lf (.label id)=fun tm s=>some (.nm,tm,s):=rfl
theorem XB (X:Cx) (lf) (id):code X lf (.goto id)=fun tm s=>some (.gt id,tm,s):=rfl
theorem aOd (X:Cx) (lf):code X lf .ret=fun tm s=>some (.rt,tm,s):=rfl
theorem nX.here {tm:List AV} {a:Act} (hR:R T F ρ s W) (hTM:TM T F ρ tm a.tmps) (hdf:a.defers=[]):nX T s ρ F W tm s a W :=
 ⟨⟨ρ,F,hTM,hR,dM.refl _ _ _ _,fun _ _=>rfl⟩,bH _,hdf⟩
theorem R.advance (h:R T F ρ s W) (n:Nat):R T F ρ ⟨s.h,s.nx+n⟩ W:=⟨h.blk,h.inj,h.fz,fun i hi=>h.fresh i (by have:s.nx+n<=i:=hi;omega)⟩
theorem dM.advance {ρ':fD} {F':Fz} {W':World} {s':St} {n:Nat} (h:dM ⟨s.h,s.nx+n⟩ ρ F W s' ρ' F' W'):dM s ρ F W s' ρ' F' W':=⟨h.rho,h.fz,h.os,h.tape,h.output,h.size,h.same,h.born,h.cold⟩
theorem R.drew (h:R T F ρ s W):R T F ρ s W.drew:=⟨h.blk,h.inj,h.fz,h.fresh⟩
theorem dM.drew {ρ':fD} {F':Fz} {W':World} {s':St} (h:dM s ρ F W.drew s' ρ' F' W'):dM s ρ F W s' ρ' F' W':=⟨h.rho,h.fz,h.os,h.tape,h.output,h.size,h.same,h.born,h.cold⟩
theorem TV {X:Cx} (hm:P.follows .mixedOrders=true) (hT:dO P X.P) (hE:xU P X.P X.eqOk) (hC:lK P X) (hD:DL P X) {lf:Code->List AV->St->CB} (hL:aNs P X lf) (c:Code):aOe P X (c.wp P) (code X lf c):=by
 induction c with
 | skip =>intro tm s e tm' s' h ρ F W a hR hG hTM hdf Q hQ;rw [YM] at h;simp only [m000,m001] at h;obtain ⟨rfl,rfl,rfl⟩:=h;exact wp_skip (hQ _ _ (nX.here hR hTM hdf))
 | region id ops dr =>
  intro tm s e tm' s' h ρ F W a hR hG hTM hdf Q hQ;rw [KI] at h;simp only at h;have hfree:∀ j,j < ops.size->ρ (s.nx+j)=none:=fun j hj=>hR.fresh _ (by omega)
  cases dr with
  | false =>
   simp only [cond_false] at h
   cases ho:iR X false s.nx ops.toList ops.toList 0 tm ⟨s.h,s.nx+ops.size⟩ with
   | none=>rw [ho] at h;cases h
   | some r =>obtain ⟨tm1,s1⟩:=r;rw [ho] at h;simp only [Option.map_some,m000,m001] at h;obtain ⟨rfl,rfl,rfl⟩:=h;refine wp_region ?_;rw [List.range_eq_range',show ops.size=ops.toList.length by simp];refine aTf hT hE hC ops.toList 0 tm ⟨s.h,s.nx+ops.size⟩ ρ F W a rfl (hR.advance _) hG hTM hdf (fun j _ hj=>hfree j hj) (bH _) ho ?_;intro a' W' ρ' F' k1 k2 k3 k4 k5 k6;refine hQ _ _ ⟨⟨ρ',F',k1,k2,k3.advance,fun i hi=>k4 i hi⟩,?_,k6⟩;have:s.nx+ops.size<=s1.nx:=k5;omega
  | true =>
   simp only [cond_true] at h
   cases ho:drawn X s.nx ops.toList tm ⟨s.h,s.nx+ops.size⟩ with
   | none=>rw [ho] at h;cases h
   | some r =>
    obtain ⟨tm1,s1⟩:=r;rw [ho] at h;simp only [Option.map_some,m000,m001] at h;obtain ⟨rfl,rfl,rfl⟩:=h;refine wp_region_draw fun t=>?_
    have key:=hD ops tm ⟨s.h,s.nx+ops.size⟩ ρ F W.drew a s.nx tm1 s1 (hR.advance _).drew hG hTM hdf hfree (bH _) ho Q (fun a' W' ρ' F' k1 k2 k3 k4 k5 k6=>by
     refine hQ _ _ ⟨⟨ρ',F',k1,k2,k3.drew.advance,fun i hi=>k4 i hi⟩,?_,k6⟩;have:s.nx+ops.size<=s1.nx:=k5
     omega)
    simp only [Region.schedule,hm,m033,if_true];exact key _
 | seq x y ihx ihy =>
  intro tm s e tm' s' h ρ F W a hR hG hTM hdf Q hQ;rw [aOf] at h;simp only at h;refine wp_seq ?_
  cases hx:code X lf x tm s with
  | none=>rw [hx] at h;cases h
  | some r =>
   obtain ⟨e1,tm1,s1⟩:=r;rw [hx] at h;refine ihx tm s e1 tm1 s1 hx ρ F W a hR hG hTM hdf _ ?_;intro a1 W1 haf
   cases e1 with
   | nm =>simp only [GC] at h;obtain ⟨⟨ρ1,F1,k1,k2,k3,k4⟩,k5,k6⟩:=haf;refine ihy tm1 s1 e tm' s' h ρ1 F1 W1 a1 k2 (hG.step hR k3) k1 k6 Q ?_;intro a2 W2 haf2;exact hQ _ _ (nX.trans (tm1:=tm1) (a1:=a1) k3 k4 k5 haf2)
   | ex i=>simp only [GC,m000,m001] at h;obtain ⟨rfl,rfl,rfl⟩:=h;exact hQ _ _ haf
   | gt i=>simp only [GC,m000,m001] at h;obtain ⟨rfl,rfl,rfl⟩:=h;exact hQ _ _ haf
   | rt=>simp only [GC,m000,m001] at h;obtain ⟨rfl,rfl,rfl⟩:=h;exact hQ _ _ haf
 | cond c x y ihx ihy =>
  intro tm s e tm' s' h ρ F W a hR hG hTM hdf Q hQ;rw [XY] at h;simp only at h
  cases hb:KA (ev X (gt tm) c) with
  | none=>rw [hb] at h;cases h
  | some t =>
   rw [hb] at h;simp only [Option.bind_some] at h;have hc:a.eval c=.bool t:=aEo hb (aOa hG hTM a.defers c);refine wp_cond hc ?_
   cases t with
   | true=>exact ihx tm s e tm' s' h ρ F W a hR hG hTM hdf Q hQ
   | false=>exact ihy tm s e tm' s' h ρ F W a hR hG hTM hdf Q hQ
 | block id c ih =>
  intro tm s e tm' s' h ρ F W a hR hG hTM hdf Q hQ;rw [PI] at h;simp only at h;refine wp_block ?_
  cases hx:code X lf c tm s with
  | none=>rw [hx] at h;cases h
  | some r =>
   obtain ⟨e1,tm1,s1⟩:=r;rw [hx] at h;refine ih tm s e1 tm1 s1 hx ρ F W a hR hG hTM hdf _ ?_;intro a1 W1 haf
   cases e1 with
   | ex i =>
    simp only [blk] at h;simp only [exq,Exit.inBlock]
    split at h
    ·rename_i hi;simp only [m000,m001] at h;obtain ⟨rfl,rfl,rfl⟩:=h;rw [if_pos hi];exact hQ _ _ haf
    ·rename_i hi;simp only [m000,m001] at h;obtain ⟨rfl,rfl,rfl⟩:=h;rw [if_neg hi];exact hQ _ _ haf
   | nm=>simp only [blk,m000,m001] at h;obtain ⟨rfl,rfl,rfl⟩:=h;exact hQ _ _ haf
   | gt i=>simp only [blk,m000,m001] at h;obtain ⟨rfl,rfl,rfl⟩:=h;exact hQ _ _ haf
   | rt=>simp only [blk,m000,m001] at h;obtain ⟨rfl,rfl,rfl⟩:=h;exact hQ _ _ haf
 | loop c ih =>intro tm s e tm' s' h ρ F W a hR hG hTM hdf Q hQ;rw [aBd] at h;exact (hL c tm s e tm' s' h ρ F W a hR hG hTM hdf Q hQ).loop
 | rangeFunc f ps x y=>intro tm s e tm' s' h;cases h
 | exit id =>intro tm s e tm' s' h ρ F W a hR hG hTM hdf Q hQ;rw [XC] at h;simp only [m000,m001] at h;obtain ⟨rfl,rfl,rfl⟩:=h;exact wp_exit (hQ _ _ (nX.here hR hTM hdf))
 | scope c ih =>
  intro tm s e tm' s' h ρ F W a hR hG hTM hdf Q hQ;rw [SB] at h;simp only at h;refine wp_scope_straight ?_
  cases hx:code X lf c tm s with
  | none=>rw [hx] at h;cases h
  | some r =>
   obtain ⟨e1,tm1,s1⟩:=r;rw [hx] at h;refine ih tm s e1 tm1 s1 hx ρ F W a hR hG hTM hdf _ ?_;intro a1 W1 haf
   cases e1 with
   | gt i=>cases h
   | _=>simp only [XP,m000,m001] at h;obtain ⟨rfl,rfl,rfl⟩:=h;exact hQ _ _ haf
 | label l =>intro tm s e tm' s' h ρ F W a hR hG hTM hdf Q hQ;rw [PO] at h;simp only [m000,m001] at h;obtain ⟨rfl,rfl,rfl⟩:=h;exact wp_label (hQ _ _ (nX.here hR hTM hdf))
 | goto l =>intro tm s e tm' s' h ρ F W a hR hG hTM hdf Q hQ;rw [XB] at h;simp only [m000,m001] at h;obtain ⟨rfl,rfl,rfl⟩:=h;exact wp_goto (hQ _ _ (nX.here hR hTM hdf))
 | ret =>intro tm s e tm' s' h ρ F W a hR hG hTM hdf Q hQ;rw [aOd] at h;simp only [m000,m001] at h;obtain ⟨rfl,rfl,rfl⟩:=h;exact wp_ret (hQ _ _ (nX.here hR hTM hdf))
 | refuse why=>intro tm s e tm' s' h;cases h
theorem DR (m:Nat):∀ (l:List AV) (i:Nat),(mask m i l).length=l.length:=by
 intro l
 induction l with
 | nil=>intro i;rfl
 | cons v l ih=>intro i;simp [mask,ih]
theorem aNt (m:Nat):∀ (l:List AV) (i j:Nat) (h:j < (mask m i l).length) (h':j < l.length),(mask m i l)[j]=l[j]\/(mask m i l)[j]=.undef:=by
 intro l
 induction l with
 | nil=>intro i j h h';simp at h'
 | cons v l ih =>
  intro i j h h'
  cases j with
  | zero =>
   simp only [mask,List.getElem_cons_zero];cases bO m i
   ·exact .inr rfl
   ·exact .inl rfl
  | succ j =>simp only [mask,List.getElem_cons_succ];exact ih (i+1) j (by simpa [mask] using h) (by simpa using h')
theorem TM.mask {tm:List AV} {ts:Array Value} (h:TM T F ρ tm ts) (m i:Nat):TM T F ρ (Ai.mask m i tm) ts:=by
 refine ⟨by rw [DR];exact h.1,fun j a b=>?_⟩;have hj:j < tm.length:=by rwa [DR] at a
 rcases aNt m tm i j a hj with e | e
 ·rw [e];exact h.2 j hj b
 ·rw [e];exact .undef _
theorem RD (X:Cx) (kp n:Nat):gR X kp (n+1)=fun c tm s=>GC (code X (gR X kp n) c tm s) fun tm s=>gR X kp n c (mask kp 0 tm) s:=rfl
theorem aRr {X:Cx} (hm:P.follows .mixedOrders=true) (hT:dO P X.P) (hE:xU P X.P X.eqOk) (hC:lK P X) (hD:DL P X) (kp n:Nat):aNs P X (gR X kp n):=by
 induction n with
 | zero=>intro c tm s e tm' s' h;cases h
 | succ n ih =>
  intro c tm s e tm' s' h ρ F W a hR hG hTM hdf Q hQ;rw [RD] at h;simp only at h;refine sQ.unroll ?_
  cases hx:code X (gR X kp n) c tm s with
  | none=>rw [hx] at h;cases h
  | some r =>
   obtain ⟨e1,tm1,s1⟩:=r;rw [hx] at h;refine TV hm hT hE hC hD ih c tm s e1 tm1 s1 hx ρ F W a hR hG hTM hdf _ ?_;intro a1 W1 haf
   cases e1 with
   | nm =>simp only [GC] at h;obtain ⟨⟨ρ1,F1,k1,k2,k3,k4⟩,k5,k6⟩:=haf;refine ih c (mask kp 0 tm1) s1 e tm' s' h ρ1 F1 W1 a1 k2 (hG.step hR k3) (k1.mask kp 0) k6 Q ?_;intro a2 W2 haf2;exact hQ _ _ (nX.trans (tm1:=tm1) (a1:=a1) k3 k4 k5 haf2)
   | ex i=>simp only [GC,m000,m001] at h;obtain ⟨rfl,rfl,rfl⟩:=h;exact hQ _ _ haf
   | gt i=>simp only [GC,m000,m001] at h;obtain ⟨rfl,rfl,rfl⟩:=h;exact hQ _ _ haf
   | rt=>simp only [GC,m000,m001] at h;obtain ⟨rfl,rfl,rfl⟩:=h;exact hQ _ _ haf
end
end Go.Proofs.YtdehdahimkcakaaGreatDoor.Ai
namespace Go.Proofs.YtdehdahimkcakaaGreatDoor.Ai
open Go
section
variable {P:Program} {T:Ty} {F:Fz} {ρ ρ':fD} {s:St} {W:World}
theorem gL:∀ (l:List AV),aW l=true->∀ i (h:i < l.length),l[i].closed=true:=by
 intro l
 induction l with
 | nil=>intro _ i h;simp at h
 | cons v l ih =>
  intro h i hi;simp only [aW,bN] at h
  cases i with
  | zero=>exact h.1
  | succ i=>exact ih h.2 i (by simpa using hi)
theorem HJ:∀ (l:List AV),NS l=true->∀ i (h:i < l.length),l[i].flat=true:=by
 intro l
 induction l with
 | nil=>intro _ i h;simp at h
 | cons v l ih =>
  intro h i hi;simp only [NS,bN] at h
  cases i with
  | zero=>exact h.1
  | succ i=>exact ih h.2 i (by simpa using hi)
theorem IC {v:AV} (h:v.closed=true):∀ j (hj:j < v.cells.length),v.cells[j].closed=true:=by
 intro j hj;by_cases hagg:∃ cs,v=.agg cs
 ·obtain ⟨cs,rfl⟩:=hagg;simp only [AV.closed] at h;exact gL cs h j hj
 ·have ha:v.cells=[v]:=by cases v<;>first | rfl | exact absurd ⟨_,rfl⟩ hagg
  simp only [ha] at hj ⊢;have:j=0:=by simpa using hj
  subst this;exact h
theorem GB {F':Fz} {a:AV} {v:Value} (h:VR T F ρ a v) (hF:oA F F') (hc:a.closed=true):VR T F' ρ' a v:=by
 induction h with
 | undef v=>exact .undef v
 | bool b=>exact .bool b
 | int k n=>exact .int k n
 | str s b h=>exact .str s b h
 | nilp=>exact .nilp
 | ptr=>simp [AV.closed] at hc
 | pel cs off β b w hf hv ih =>simp only [AV.closed] at hc;exact .pel cs off β b w (fun j hj=>hF _ _ (hf j hj)) (fun j hj=>ih j hj (gL cs hc j hj))
 | nils=>simp [AV.closed] at hc
 | emp=>simp [AV.closed] at hc
 | sl0 ex a c h hn=>exact .sl0 ex a c h hn
 | sl ex l β b z c w hc' hx hz hf hv ih =>simp only [AV.closed,bN] at hc;exact .sl ex l β b z c w hc' hx hz (fun i j hi hj=>hF _ _ (hf i j hi hj)) (fun i j hi hj=>ih i j hi hj (IC (gL l hc.2 i hi) j hj))
 | ref=>simp [AV.closed] at hc
 | nilm=>exact .nilm
 | map=>simp [AV.closed] at hc
 | nilc=>exact .nilc
 | chan=>simp [AV.closed] at hc
 | nilf=>exact .nilf
 | fn f as bs us vs h1 h2 ha hb iha ihb =>simp only [AV.closed,bN] at hc;exact .fn f as bs us vs h1 h2 (fun i a b=>iha i a b (gL as hc.1 i a)) (fun i a b=>ihb i a b (gL bs hc.2 i a))
 | nili=>exact .nili
 | iface=>simp [AV.closed] at hc
 | agg cs vs hl h ih =>simp only [AV.closed] at hc;exact .agg cs vs hl (fun i a b=>ih i a b (gL cs hc i a))
 | tup cs vs hl h ih =>simp only [AV.closed] at hc;exact .tup cs vs hl (fun i a b=>ih i a b (gL cs hc i a))
theorem aTr {F':Fz} {a:AV} {v:Value} (h:VR T F ρ a v) (hc:a.flat=true):VR T F' ρ' a v:=by
 induction h with
 | bool b=>exact .bool b
 | int k n=>exact .int k n
 | str s b h=>exact .str s b h
 | nilp=>exact .nilp
 | nilm=>exact .nilm
 | nilc=>exact .nilc
 | nilf=>exact .nilf
 | nili=>exact .nili
 | agg cs vs hl h ih =>simp only [AV.flat] at hc;exact .agg cs vs hl (fun i a b=>ih i a b (HJ cs hc i a))
 | tup cs vs hl h ih =>simp only [AV.flat] at hc;exact .tup cs vs hl (fun i a b=>ih i a b (HJ cs hc i a))
 | _=>simp [AV.flat] at hc
def BL (T:Ty) (F:Fz) (ρ:fD) (s:St) (id:Nat):Prop:=∀ c e ex wr,s.h id=some (.cells c e ex wr)->∃ β z,ρ id=some (β,z)/\∀ j (h:j < c.length),∃ v,F ⟨β,j,none⟩=some v/\VR T F ρ c[j] v
theorem BL.mono {F':Fz} {id:Nat} (h:BL T F ρ s id) (hF:oA F F'):BL T F' ρ s id:=fun c e ex wr hb=>by obtain ⟨β,z,h1,h2⟩:=h c e ex wr hb;exact ⟨β,z,h1,fun j hj=>by obtain ⟨v,k1,k2⟩:=h2 j hj;exact ⟨v,hF _ _ k1,k2.mono hF (rE.refl _)⟩⟩
theorem pL {f:AV->Option (AV×List Nat)}:∀ (l l':List AV) (ids:List Nat),dJ f l=some (l',ids)->l'.length=l.length/\∀ i (h:i < l.length) (h':i < l'.length),∃ ji,f l[i]=some (l'[i],ji)/\∀ x∈ji,x∈ids:=by
 intro l
 induction l with
 | nil=>intro l' ids h;simp only [dJ,m000,m001] at h;obtain ⟨rfl,rfl⟩:=h;exact ⟨rfl,fun i h=>by simp at h⟩
 | cons v l ih =>
  intro l' ids h;simp only [dJ] at h
  split at h
  ·rename_i a i b j h1 h2;simp only [m000,m001] at h;obtain ⟨rfl,rfl⟩:=h;obtain ⟨g1,g2⟩:=ih _ _ h2;refine ⟨by simp [g1],fun n hn hn'=>?_⟩
   cases n with
   | zero=>exact ⟨i,h1,fun x hx=>m041 _ hx⟩
   | succ n =>obtain ⟨ji,k1,k2⟩:=g2 n (by simpa using hn) (by simpa using hn');exact ⟨ji,k1,fun x hx=>m049 _ (k2 x hx)⟩
  ·cases h
theorem pV {f:AV->Option (AV×List Nat)} {p:Nat->Prop} (hf:∀ v a j,f v=some (a,j)->∀ x∈j,p x):∀ (l l':List AV) (ids:List Nat),dJ f l=some (l',ids)->∀ x∈ids,p x:=by
 intro l
 induction l with
 | nil=>intro l' ids h;simp only [dJ,m000,m001] at h;obtain ⟨rfl,rfl⟩:=h;intro x hx;cases hx
 | cons v l ih =>
  intro l' ids h;simp only [dJ] at h
  split at h
  ·rename_i a i b j h1 h2;simp only [m000,m001] at h;obtain ⟨rfl,rfl⟩:=h;intro x hx;rcases m003.1 hx with hx | hx
   ·exact hf _ _ _ h1 x hx
   ·exact ih _ _ h2 x hx
  ·cases h
theorem aFx {f:AV->Option (AV×List Nat)}:∀ (l:List AV),(mB f l).1.length=l.length/\∀ i (h:i < l.length) (h':i < (mB f l).1.length),(mB f l).1[i]=.undef\/∃ ji,f l[i]=some ((mB f l).1[i],ji)/\∀ x∈ji,x∈(mB f l).2:=by
 intro l
 induction l with
 | nil=>exact ⟨rfl,fun i h=>by simp at h⟩
 | cons v l ih =>
  obtain ⟨g1,g2⟩:=ih;rcases hf:f v with _ | ⟨a,j⟩
  ·have e:mB f (v::l)=(.undef::(mB f l).1,(mB f l).2):=by simp only [mB,hf]
   rw [e];refine ⟨by simp [g1],fun i hi hi'=>?_⟩
   cases i with
   | zero=>exact .inl rfl
   | succ i=>simpa using g2 i (by simpa using hi) (by simpa using hi')
  ·have e:mB f (v::l)=(a::(mB f l).1,j++(mB f l).2):=by simp only [mB,hf]
   rw [e];refine ⟨by simp [g1],fun i hi hi'=>?_⟩
   cases i with
   | zero=>exact .inr ⟨j,by simpa using hf,fun x hx=>m041 _ hx⟩
   | succ i =>
    rcases g2 i (by simpa using hi) (by simpa using hi') with h | ⟨ji,k1,k2⟩
    ·exact .inl (by simpa using h)
    ·exact .inr ⟨ji,by simpa using k1,fun x hx=>m049 _ (k2 x hx)⟩
theorem aHe {f:AV->Option (AV×List Nat)} {p:Nat->Prop} (hf:∀ v a j,f v=some (a,j)->∀ x∈j,p x):∀ (l:List AV),∀ x∈(mB f l).2,p x:=by
 intro l
 induction l with
 | nil=>intro x hx;cases hx
 | cons v l ih =>
  intro x hx;simp only [mB] at hx
  cases hv:f v with
  | none=>rw [hv] at hx;exact ih x hx
  | some q =>
   obtain ⟨a,j⟩:=q;rw [hv] at hx;rcases m003.1 hx with hx | hx
   ·exact hf _ _ _ hv x hx
   ·exact ih x hx
def AD (s:St) (id:Nat):Prop:=∃ c e ex wr,s.h id=some (.cells c e ex wr)
theorem IU:∀ (k:Nat) (v a:AV) (ids:List Nat),pur T s k v=some (a,ids)->∀ x∈ids,AD s x:=by
 intro k
 induction k with
 | zero =>
  intro v a ids h;unfold pur at h
  split at h
  ·simp only [m000,m001] at h;obtain ⟨rfl,rfl⟩:=h;intro x hx;cases hx
  ·cases h
 | succ k ih =>
  intro v a ids h;unfold pur at h
  split at h
  ·simp only [m000,m001] at h;obtain ⟨rfl,rfl⟩:=h;intro x hx;cases hx
  ·rename_i hnc;simp only at h
   split at h
   ·simp only [m000,m001] at h;obtain ⟨rfl,rfl⟩:=h;intro x hx;cases hx
   ·simp only [m000,m001] at h;obtain ⟨rfl,rfl⟩:=h;intro x hx;cases hx
   ·cases hp:dJ (pur T s k) _ with
    | none=>rw [hp] at h;cases h
    | some r =>rw [hp] at h;simp only [Option.map_some,m000,m001] at h;obtain ⟨rfl,rfl⟩:=h;exact pV ih _ _ _ hp
   ·rename_i id off n cap e
    split at h
    ·rename_i c e' ex wr z ag hb hl
     split at h
     ·cases hp:dJ (pur T s k) ((c.drop off).take (n * z)) with
      | none=>rw [hp] at h;cases h
      | some r =>
       rw [hp] at h;simp only [Option.bind_some] at h
       split at h
       ·simp only [m000,m001] at h;obtain ⟨rfl,rfl⟩:=h;intro x hx
        cases hx with
        | head=>exact ⟨c,e',ex,wr,hb⟩
        | tail _ hx=>exact pV ih _ _ _ hp x hx
       ·cases h
     ·cases h
    ·cases h
   ·rename_i id off
    split at h
    ·rename_i c e' ex wr hb;simp only [m000,m001] at h;obtain ⟨rfl,rfl⟩:=h;intro x hx
     cases hx with
     | head=>exact ⟨c,e',ex,wr,hb⟩
     | tail _ hx=>exact aHe ih _ x hx
    ·cases h
   ·cases hp:dJ (pur T s k) _ with
    | none=>rw [hp] at h;cases h
    | some r =>rw [hp] at h;simp only [Option.map_some,m000,m001] at h;obtain ⟨rfl,rfl⟩:=h;exact pV ih _ _ _ hp
   ·cases hp:dJ (pur T s k) _ with
    | none=>rw [hp] at h;cases h
    | some r =>rw [hp] at h;simp only [Option.map_some,m000,m001] at h;obtain ⟨rfl,rfl⟩:=h;exact pV ih _ _ _ hp
   ·cases h
theorem WH (z:Nat):∀ (n:Nat) (l:List AV),(nO z n l).length=n:=by
 intro n
 induction n with
 | zero=>intro l;rfl
 | succ n ih=>intro l;simp [nO,ih]
theorem wT (z:Nat):∀ (n:Nat) (l:List AV) (i:Nat) (h:i < (nO z n l).length),(nO z n l)[i]=.agg ((l.drop (i * z)).take z):=by
 intro n
 induction n with
 | zero=>intro l i h;simp [nO] at h
 | succ n ih =>
  intro l i h
  cases i with
  | zero=>simp [nO]
  | succ i =>simp only [nO,List.getElem_cons_succ];rw [ih,List.drop_drop,vL,Nat.add_comm]
theorem oH {v:AV} (h:iK v=true):v.cells=[v]:=by cases v<;>first | rfl | cases h
theorem SH:∀ (k:Nat) (v a:AV) (ids:List Nat),pur T s k v=some (a,ids)->(∀ id∈ids,BL T F ρ s id) ->
  (∀ u,VR T F ρ v u->VR T F ρ' a u)/\(iK v=true->iK a=true)/\(∀ cs,v=.agg cs->∃ cs',a=.agg cs'):=by
 intro k
 induction k with
 | zero =>
  intro v a ids h hh;unfold pur at h
  split at h
  ·rename_i hc;simp only [m000,m001] at h;obtain ⟨rfl,rfl⟩:=h;exact ⟨fun u hu=>GB hu (oA.refl _) hc,fun h=>h,fun cs hcs=>⟨cs,hcs⟩⟩
  ·cases h
 | succ k ih =>
  intro v a ids h hh;unfold pur at h
  split at h
  ·rename_i hc;simp only [m000,m001] at h;obtain ⟨rfl,rfl⟩:=h;exact ⟨fun u hu=>GB hu (oA.refl _) hc,fun h=>h,fun cs hcs=>⟨cs,hcs⟩⟩
  ·rename_i hnc;simp only at h
   split at h
   ·simp only [m000,m001] at h;obtain ⟨rfl,rfl⟩:=h;exact ⟨fun u hu=>by cases hu;exact .sl0 false none 0 (by intro h;cases h) (fun _=>rfl),fun _=>rfl,fun cs hcs=>by cases hcs⟩
   ·simp only [m000,m001] at h;obtain ⟨rfl,rfl⟩:=h;exact ⟨fun u hu=>by cases hu;exact .sl0 false _ _ (by intro h;cases h) (fun h=>nomatch h),fun _=>rfl,fun cs hcs=>by cases hcs⟩
   ·rename_i ex l
    cases hp:dJ (pur T s k) l with
    | none=>rw [hp] at h;cases h
    | some r =>
     obtain ⟨l',j⟩:=r;rw [hp] at h;simp only [Option.map_some,m000,m001] at h;obtain ⟨rfl,rfl⟩:=h;obtain ⟨g1,g2⟩:=pL _ _ _ hp;refine ⟨fun u hu=>?_,fun _=>rfl,fun cs hcs=>by cases hcs⟩;obtain ⟨ad,c,rfl,hc,hx,hne⟩:=lO hu;have hn0:=HU hu;by_cases hl:l=[]
     ·subst hl;have:l'=[]:=m034 (by rw [g1];rfl);subst this;exact .sl0 false _ _ (by intro h;cases h) hn0
     ·obtain ⟨β,b,z,rfl,hz,w,hf,hv⟩:=hne hl;rw [<- g1]
      have hcells:∀ i (hi:i < l'.length),l'[i].cells.length=z/\∀ m (hm:m < l'[i].cells.length),VR T F ρ' l'[i].cells[m] (w i m):=by
       intro i hi;have hi0:i < l.length:=by omega
       obtain ⟨ji,k1,k2⟩:=g2 i hi0 hi;obtain ⟨q1,q2,q3⟩:=ih _ _ _ k1 (fun x hx=>hh x (k2 x hx));by_cases hagg:∃ cs,l[i]=.agg cs
       ·obtain ⟨cs,hcs⟩:=hagg;obtain ⟨cs',hcs'⟩:=q3 cs hcs;have hlen:cs.length=z:=by have:=hz i hi0;rw [hcs] at this;exact this
        have hvv:VR T F ρ (.agg cs) (.agg ((List.range cs.length).map (w i)).toArray):=by refine .agg cs _ (by simp) fun m hm hm'=>?_;have:=hv i m hi0 (by rw [hcs];exact hm);simp only [hcs] at this;simpa [AV.cells] using this
        rw [hcs] at q1;have hva:=q1 _ hvv;rw [hcs'] at hva;obtain ⟨us,hus,hcr⟩:=oI hva;simp only [Value.agg.injEq] at hus;subst hus;have hcl:=hcr.1;simp only [m002,List.length_range] at hcl;refine ⟨by rw [hcs'];show cs'.length=z;omega,fun m hm=>?_⟩;have hm':m < cs'.length:=by rw [hcs'] at hm;exact hm
        have:=hcr.2 m hm' (by simp;omega);simp only [hcs',AV.cells];simpa using this
       ·have hna:iK l[i]=true:=by cases hli:l[i]<;>first | rfl | exact absurd ⟨_,hli⟩ hagg
        have hc1:=oH hna;have hc2:=oH (q2 hna);have hlen:=hz i hi0;rw [hc1] at hlen;refine ⟨by rw [hc2];exact hlen,fun m hm=>?_⟩;have hm0:m=0:=by rw [hc2] at hm;simpa using hm
        subst hm0;have:=hv i 0 hi0 (by rw [hc1];simp);simp only [hc1,List.getElem_cons_zero] at this;simp only [hc2,List.getElem_cons_zero];exact q1 _ this
      exact .sl false l' β b z c w (by omega) (by intro h;cases h) (fun i hi=>(hcells i hi).1) (fun i m hi hm=>hf i m (by omega) hm) (fun i m hi hm=>(hcells i hi).2 m hm)
   ·rename_i id off n cap e
    split at h
    ·rename_i c e' ex wr z ag hb hl
     split at h
     ·rename_i hcd;obtain ⟨hle,hz0⟩:=hcd
      cases hp:dJ (pur T s k) ((c.drop off).take (n * z)) with
      | none=>rw [hp] at h;cases h
      | some r =>
       obtain ⟨l',j⟩:=r;rw [hp] at h;simp only [Option.bind_some] at h
       split at h
       ·rename_i hag;simp only [m000,m001] at h;obtain ⟨rfl,rfl⟩:=h;obtain ⟨g1,g2⟩:=pL _ _ _ hp;refine ⟨fun u hu=>?_,fun _=>rfl,fun cs hcs=>by cases hcs⟩
        cases hu with
        | ref _ _ _ _ _ β size cp z' ag' hρ hz' hn hk hk2 =>
         obtain ⟨β',z'',m1,m2⟩:=hh id (m007 ..) c e' ex wr hb;rw [hρ] at m1;cases m1;have hlen:l'.length=n * z:=by rw [g1];simp;omega
         have hcell:∀ i,i < n * z->∀ (hi:i < l'.length),∃ w,F ⟨β,off+i,none⟩=some w/\VR T F ρ' l'[i] w:=by
          intro i hi hi';have hi0:i < ((c.drop off).take (n * z)).length:=by rw [<- g1];exact hi'
          obtain ⟨ji,k1,k2⟩:=g2 i hi0 hi';obtain ⟨q1,_,_⟩:=ih _ _ _ k1 (fun x hx=>hh x (m005 _ (k2 x hx)));obtain ⟨w,w1,w2⟩:=m2 (off+i) (by omega);refine ⟨w,w1,q1 w ?_⟩;simp only [m072,List.getElem_drop];exact w2
         let g:Nat->Value:=fun i=>(F ⟨β,off+i,none⟩).getD undef
         have hg:∀ i,i < n * z->∀ (hi:i < l'.length),F ⟨β,off+i,none⟩=some (g i)/\VR T F ρ' l'[i] (g i):=by
          intro i hi hi';obtain ⟨w,w1,w2⟩:=hcell i hi hi';have:g i=w:=by simp [g,w1]
          rw [this];exact ⟨w1,w2⟩
         cases ag with
         | true =>
          simp only [if_true];have hcl:=WH z n l';have:=VR.sl (T:=T) (F:=F) (ρ:=ρ') false (nO z n l') β off z cp (fun i j=>g (i * z+j)) (by rw [hcl];exact hn) (by intro h;cases h) (fun i hi=>?_) (fun i j hi hj=>?_) (fun i j hi hj=>?_)
          ·rw [hcl] at this;exact this
          ·rw [wT];rw [hcl] at hi;have:=zQ z (show i+1<=n from hi);rw [vL] at this;simp only [AV.cells,m020,List.length_drop];omega
          ·rw [hcl] at hi;have hlt:=rS hi hj;have:=(hg (i * z+j) hlt (by omega)).1;rw [<- m066] at this;exact this
          ·rw [hcl] at hi;have hj':j < z:=by rw [wT] at hj;simp only [AV.cells,m020] at hj;omega
           have hlt:=rS hi hj';have:=(hg (i * z+j) hlt (by omega)).2;simp only [wT,AV.cells,m072,List.getElem_drop];exact this
         | false =>
          simp only [m026,bN] at hag;have hz1:z=1:=jS hag.1;subst hz1;simp only [m015,if_false];rw [FJ] at hlen hg;have hna:∀ i (hi:i < l'.length),l'[i].cells=[l'[i]]:=fun i hi=>oH (m032.1 hag.2 _ (List.getElem_mem hi));have:=VR.sl (T:=T) (F:=F) (ρ:=ρ') false l' β off 1 cp (fun i j=>g i) (by omega) (by intro h;cases h) (fun i hi=>by rw [hna i hi];rfl) (fun i j hi hj=>?_) (fun i j hi hj=>?_)
          ·rw [hlen] at this;exact this
          ·have hj0:j=0:=by omega
           subst hj0;rw [FJ,Nat.add_zero];exact (hg i (by omega) hi).1
          ·have hj0:j=0:=by rw [hna i hi] at hj;simpa using hj
           subst hj0;simp only [hna i hi,List.getElem_cons_zero];exact (hg i (by omega) hi).2
       ·cases h
     ·cases h
    ·cases h
   ·rename_i id off
    split at h
    ·rename_i c e' ex wr hb;simp only [m000,m001] at h;obtain ⟨rfl,rfl⟩:=h;refine ⟨fun u hu=>?_,fun _=>rfl,fun cs hcs=>by cases hcs⟩
     cases hu with
     | ptr _ _ β z hρ =>
      obtain ⟨β',z',m1,m2⟩:=hh id (m007 ..) c e' ex wr hb;rw [hρ] at m1;cases m1;obtain ⟨g1,g2⟩:=aFx (f:=pur T s k) c
      let g:Nat->Value:=fun i=>(F ⟨β,i,none⟩).getD undef
      have:=VR.pel (T:=T) (F:=F) (ρ:=ρ') (mB (pur T s k) c).1 off β 0 g (fun j hj=>?_) (fun j hj=>?_)
      ·rw [m023] at this;exact this
      ·obtain ⟨w,w1,w2⟩:=m2 j (by omega);rw [m023];simp [g,w1]
      ·obtain ⟨w,w1,w2⟩:=m2 j (by omega);have hgw:g j=w:=by simp [g,w1]
       rw [hgw];rcases g2 j (by omega) hj with h | ⟨ji,k1,k2⟩
       ·rw [h];exact .undef _
       ·exact (ih _ _ _ k1 (fun x hx=>hh x (m005 _ (k2 x hx)))).1 _ w2
    ·cases h
   ·rename_i cs
    cases hp:dJ (pur T s k) cs with
    | none=>rw [hp] at h;cases h
    | some r =>obtain ⟨l',j⟩:=r;rw [hp] at h;simp only [Option.map_some,m000,m001] at h;obtain ⟨rfl,rfl⟩:=h;obtain ⟨g1,g2⟩:=pL _ _ _ hp;refine ⟨fun u hu=>?_,(by intro h;cases h),fun cs hcs=>⟨_,rfl⟩⟩;obtain ⟨vs,rfl,hcr⟩:=oI hu;refine VR.agg_cr ⟨by rw [g1];exact hcr.1,fun i a b=>?_⟩;obtain ⟨ji,k1,k2⟩:=g2 i (by omega) a;exact (ih _ _ _ k1 (fun x hx=>hh x (k2 x hx))).1 _ (hcr.2 i (by omega) b)
   ·rename_i cs
    cases hp:dJ (pur T s k) cs with
    | none=>rw [hp] at h;cases h
    | some r =>obtain ⟨l',j⟩:=r;rw [hp] at h;simp only [Option.map_some,m000,m001] at h;obtain ⟨rfl,rfl⟩:=h;obtain ⟨g1,g2⟩:=pL _ _ _ hp;refine ⟨fun u hu=>?_,fun h=>rfl,fun cs hcs=>by cases hcs⟩;obtain ⟨vs,rfl,hcr⟩:=UY hu;refine .tup _ _ (by rw [g1,hcr.1];simp) fun i a b=>?_;obtain ⟨ji,k1,k2⟩:=g2 i (by omega) a;have:=(ih _ _ _ k1 (fun x hx=>hh x (k2 x hx))).1 _ (hcr.2 i (by omega) (by simpa using b));simpa using this
   ·cases h
end
end Go.Proofs.YtdehdahimkcakaaGreatDoor.Ai
namespace Go.Proofs.YtdehdahimkcakaaGreatDoor.Ai
open Go
section
variable {P:Program} {T:Ty} {F:Fz} {ρ ρ':fD} {s:St} {W:World}
theorem BL.of_freeze (hR:R T F ρ s W) {id:Nat} {c:List AV} {e:TypeId} {ex wr:Bool} (hb:s.h id=some (.cells c e ex wr)) :
  ∃ F',oA F F'/\R T F' ρ (s.set id none) W/\dM s ρ F W (s.set id none) ρ F' W/\BL T F' ρ s id:=by
 obtain ⟨β,z,C,fr,h1,h2,h3,h4,h5,h6⟩:=hR.freeze hb;refine ⟨_,h6.fz,h5,h6,fun c' e' ex' wr' hb'=>?_⟩;rw [hb] at hb';cases hb';refine ⟨β,z,h1,fun j hj=>⟨C[j]'(by omega),?_,(h4 j hj (by omega)).mono h6.fz (rE.refl _)⟩⟩;rw [UE hj];exact m016 (by omega)
theorem drop_cons (s:St) (n:Nat) (l:List Nat):s.drop (n::l)=(s.set n none).drop l:=rfl
theorem IB:∀ (l:List Nat) (s:St),(s.drop l).nx=s.nx:=by
 intro l
 induction l with
 | nil=>intro s;rfl
 | cons n l ih=>intro s;rw [drop_cons,ih];rfl
theorem tI {s0:St}:∀ (ids:List Nat) (s:St) (F:Fz),R T F ρ s W->(∀ id∈ids,(s.h id=s0.h id/\AD s0 id)\/BL T F ρ s0 id) ->
  ∃ F',oA F F'/\R T F' ρ (s.drop ids) W/\dM s ρ F W (s.drop ids) ρ F' W/\∀ id∈ids,BL T F' ρ s0 id:=by
 intro ids
 induction ids with
 | nil=>intro s F hR _;exact ⟨F,oA.refl _,hR,dM.refl _ _ _ _,fun id h=>by cases h⟩
 | cons n l ih =>
  intro s F hR hh
  have step1:∃ F1,oA F F1/\R T F1 ρ (s.set n none) W/\dM s ρ F W (s.set n none) ρ F1 W/\BL T F1 ρ s0 n:=by
   rcases hh n (m007 ..) with ⟨h1,c,e,ex,wr,h2⟩ | h1
   ·obtain ⟨F1,g1,g2,g3,g4⟩:=BL.of_freeze hR (h1.trans h2);exact ⟨F1,g1,g2,g3,fun c' e' ex' wr' hb'=>g4 c' e' ex' wr' (h1.trans hb')⟩
   ·exact ⟨F,oA.refl _,(hR.drop n).1,(hR.drop n).2,h1⟩
  obtain ⟨F1,g1,g2,g3,g4⟩:=step1
  obtain ⟨F2,k1,k2,k3,k4⟩:=ih (s.set n none) F1 g2 (fun id hid=>by
   by_cases hin:id=n
   ·subst hin;exact .inr g4
   ·rcases hh id (m005 _ hid) with ⟨h1,h2⟩ | h1
    ·exact .inl ⟨by rw [gK _ _ hin];exact h1,h2⟩
    ·exact .inr (h1.mono g1))
  refine ⟨F2,g1.trans k1,k2,g3.trans k3,fun id hid=>?_⟩
  cases hid with
  | head=>exact g4.mono k1
  | tail _ h=>exact k4 id h
theorem OZ (hR:R T F ρ s W) {k:Nat} {l l':List AV} {ids:List Nat} (h:dJ (pur T s k) l=some (l',ids)) {us:List Value} (hcr:CR T F ρ l us) :
  ∃ F',oA F F'/\R T F' ρ (s.drop ids) W/\dM s ρ F W (s.drop ids) ρ F' W/\∀ ρ',CR T F' ρ' l' us:=by
 have hids:=pV (p:=AD s) (IU k) _ _ _ h;obtain ⟨F',g1,g2,g3,g4⟩:=tI (s0:=s) ids s F hR (fun id hid=>.inl ⟨rfl,hids id hid⟩);refine ⟨F',g1,g2,g3,fun ρ'=>?_⟩;obtain ⟨q1,q2⟩:=pL _ _ _ h;refine ⟨by rw [q1];exact hcr.1,fun i a b=>?_⟩;obtain ⟨ji,k1,k2⟩:=q2 i (by omega) a;exact (SH k _ _ _ k1 (fun x hx=>g4 x (k2 x hx))).1 _ ((hcr.2 i (by omega) b).mono g1 (rE.refl _))
theorem aDs (hR:R T F ρ s W) {k:Nat} {v a:AV} {ids:List Nat} (h:pur T s k v=some (a,ids)) {u:Value} (hu:VR T F ρ v u) :
  ∃ F',oA F F'/\R T F' ρ (s.drop ids) W/\dM s ρ F W (s.drop ids) ρ F' W/\∀ ρ',VR T F' ρ' a u:=by
 have hids:=IU k _ _ _ h;obtain ⟨F',g1,g2,g3,g4⟩:=tI (s0:=s) ids s F hR (fun id hid=>.inl ⟨rfl,hids id hid⟩);exact ⟨F',g1,g2,g3,fun ρ'=>(SH k _ _ _ h g4).1 _ (hu.mono g1 (rE.refl _))⟩
def ρ0:fD:=fun _=>none
theorem R.none (hR:R T F ρ s W):R T F ρ0 St.empty W :=
 ⟨(by intro id b h;cases h),fun i j β z z' h=>absurd rfl h,fun a v h=>⟨(hR.fz a v h).1,fun i z h=>absurd rfl h⟩,fun i _=>rfl⟩
theorem apart (hR:R T F ρ s W) {s2:St} {ρ2:fD} {F2:Fz} {W2:World} (hS:dM St.empty ρ0 F W s2 ρ2 F2 W2) (hfz:∀ a v,F2 a=some v->W2.cell? a=some v) :
  R T F2 ρ s W2/\dM s ρ F W s ρ F2 W2:=by
 have hdead:∀ β,¬ uV ρ0 St.empty β:=fun β ⟨i,z,h,_⟩=>h rfl;refine ⟨⟨fun id b hb=>?_,hR.inj,fun a v ha=>⟨hfz a v ha,fun i z hi hc=>?_⟩,hR.fresh⟩,⟨rE.refl _,hS.fz,hS.os,hS.tape,hS.output,hS.size,fun β hβ _=>hS.same β hβ (hdead β),fun _ h _=>h,fun a v ha hb _=>hS.cold a v ha hb (hdead _)⟩⟩
 ·obtain ⟨β,z,o,h1,h2,h3,h4⟩:=hR.lt hb;exact ⟨β,z,o,h1,by rw [hS.same β h4 (hdead β)];exact h2,h3.mono hS.fz (rE.refl _)⟩
 ·obtain ⟨b,hb⟩:=Option.ne_none_iff_exists'.1 hi;obtain ⟨β,z',o,h1,h2,h3,h4⟩:=hR.lt hb;rw [hc] at h1;cases h1;exact (hR.fz a v (hS.cold a v ha h4 (hdead _))).2 i z hi hc
theorem PB (hR:R T F ρ s W) {s2:St} {ρ2:fD} {F1 F2:Fz} {W2:World} (hF:oA F F1) (hS:dM St.empty ρ0 F1 W s2 ρ2 F2 W2) :
  R T F ρ s W2/\dM s ρ F W s ρ F W2:=by
 have hdead:∀ β,¬ uV ρ0 St.empty β:=fun β ⟨i,z,h,_⟩=>h rfl;refine ⟨⟨fun id b hb=>?_,hR.inj,fun a v ha=>⟨?_,(hR.fz a v ha).2⟩,hR.fresh⟩,⟨rE.refl _,oA.refl _,hS.os,hS.tape,hS.output,hS.size,fun β hβ _=>hS.same β hβ (hdead β),fun _ h _=>h,fun _ _ h _ _=>h⟩⟩
 ·obtain ⟨β,z,o,h1,h2,h3,h4⟩:=hR.lt hb;exact ⟨β,z,o,h1,by rw [hS.same β h4 (hdead β)];exact h2,h3⟩
 ·have h1:=(hR.fz a v ha).1;have h2:=wE h1;unfold World.cell? at h1 ⊢;rw [hS.same a.block h2 (hdead _)];exact h1
theorem cY.map {T':Ty} {id id':Nat} {s' s1 s1':St} {r r1:AV} {ρ1:fD} {F1:Fz} {m:Sem Next} (h:cY P T id s ρ F W r s' m) (hm:∀ v W',ET T id s ρ F W r s' v W'->ET T' id' s1 ρ1 F1 W r1 s1' v W'):cY P T' id' s1 ρ1 F1 W r1 s1' m:=by
 rcases h with ⟨v,W',h1,h2⟩ | ⟨W',h1,h2⟩ | ⟨f,args,h1,h2⟩
 ·exact .inl ⟨v,W',h1,hm _ _ h2⟩
 ·exact .inr (.inl ⟨W',h1,hm _ _ h2⟩)
 ·refine .inr (.inr ⟨f,args,h1,h2.mono fun e W' he=>?_⟩)
  cases e with
  | returned v=>exact hm _ _ he
  | panicked c=>exact he
  | outgrown=>exact he
theorem CR.uncons {a:List AV} {x:AV} {us:List Value} (h:CR T F ρ (x::a) us):∃ u us',us=u::us'/\VR T F ρ x u/\CR T F ρ a us':=by
 cases us with
 | nil=>have:=h.1;simp at this
 | cons u us=>exact ⟨u,us,rfl,h.2 0 (by simp) (by simp),h.drop 1⟩
theorem aTh (hR:R T F ρ s W):∀ {m:List Bool} {as as':List AV} {ids:List Nat} {us:List Value},qF T s m as=some (as',ids)->CR T F ρ as us ->
  ∃ F',oA F F'/\R T F' ρ (s.drop ids) W/\dM s ρ F W (s.drop ids) ρ F' W/\CR T F' ρ as' us:=by
 intro m as as' ids us h hu
 have key:∀ (m:List Bool) (as as':List AV) (ids:List Nat),qF T s m as=some (as',ids)->(∀ x∈ids,AD s x)/\∀ (F':Fz),oA F F'->(∀ id∈ids,BL T F' ρ s id)->∀ us,CR T F ρ as us->CR T F' ρ as' us:=by
  intro m
  induction m with
  | nil =>intro as as' ids h;simp only [qF,m000,m001] at h;obtain ⟨rfl,rfl⟩:=h;exact ⟨fun x hx=>by (cases hx),fun F' g _ us hu=>hu.mono g (rE.refl _)⟩
  | cons b m ih =>
   intro as as' ids h
   cases as with
   | nil =>simp only [qF,m000,m001] at h;obtain ⟨rfl,rfl⟩:=h;exact ⟨fun x hx=>by (cases hx),fun F' g _ us hu=>hu.mono g (rE.refl _)⟩
   | cons a as =>
    simp only [qF] at h
    cases hq:qF T s m as with
    | none=>rw [hq] at h;cases h
    | some q =>
     obtain ⟨q1,q2⟩:=q;rw [hq] at h;simp only [Option.bind_some] at h;obtain ⟨i1,i2⟩:=ih as q1 q2 hq
     cases b with
     | false =>simp only [cond_false,m000,m001] at h;obtain ⟨rfl,rfl⟩:=h;refine ⟨i1,fun F' g hh us hu=>?_⟩;obtain ⟨u,us,rfl,h1,h2⟩:=hu.uncons;exact CR.cons (h1.mono g (rE.refl _)) (i2 F' g hh us h2)
     | true =>
      simp only [cond_true] at h
      cases hp:pur T s 12 a with
      | none=>rw [hp] at h;cases h
      | some v =>obtain ⟨v,vi⟩:=v;rw [hp] at h;simp only [Option.map_some,m000,m001] at h;obtain ⟨rfl,rfl⟩:=h;refine ⟨fun x hx=>(m003.1 hx).elim (IU 12 _ _ _ hp x) (i1 x),fun F' g hh us hu=>?_⟩;obtain ⟨u,us,rfl,h1,h2⟩:=hu.uncons;exact CR.cons ((SH 12 _ _ _ hp fun id hi=>hh id (m041 _ hi)).1 _ (h1.mono g (rE.refl _))) (i2 F' g (fun id hi=>hh id (m049 _ hi)) us h2)
 obtain ⟨k1,k2⟩:=key m as as' ids h;obtain ⟨F',g1,g2,g3,g4⟩:=tI (s0:=s) ids s F hR (fun id hid=>.inl ⟨rfl,k1 id hid⟩);exact ⟨F',g1,g2,g3,k2 F' g1 g4 us hu⟩
def aOr (P:Program) (E:lX) (cl:FuncId->List AV->St->Option (AV×St)):Prop:=∀ (f:FuncId) (args:List AV) (s:St) (r:AV) (s':St),cl f args s=some (r,s') ->
 ∀ (vals:Array Value) (ρ:fD) (F:Fz) (W:World),CR E.P F ρ args vals.toList->R E.P F ρ s W->GlobOk E.P E.glob F W->cY P E.P s.nx s ρ F W r s' (callFunc f vals)
theorem ET.weaken {id:Nat} {r:AV} {s':St} {v:Value} {W':World} (h:ET T s.nx s ρ F W r s' v W'):ET T id s ρ F W r s' v W':=by obtain ⟨ρ1,F1,h1,h2,h3,h4,h5⟩:=h;exact ⟨ρ1,F1,h1,h2,h3,fun i hi _=>h4 i hi (by omega),h5⟩
theorem aMe {E:lX} {cl:FuncId->List AV->St->Option (AV×St)} (h:aOr P E cl) (f:FuncId):lK P (cx E cl f):=by
 intro dr g args s r s' hc vals ρ F W hcr hR hG id0;have hG:GlobOk E.P E.glob F W:=hG;have hc:gW E cl f dr g args s=some (r,s'):=hc;unfold gW at hc
 split at hc
 ·cases hp:dJ (pur E.P s 12) args with
  | none=>rw [hp] at hc;cases hc
  | some as =>
   obtain ⟨as,ids⟩:=as;rw [hp] at hc;simp only [Option.bind_some] at hc
   cases hr:cl g as St.empty with
   | none=>rw [hr] at hc;cases hc
   | some r2 =>
    obtain ⟨r2,s2⟩:=r2;rw [hr] at hc;simp only [Option.bind_some] at hc
    cases hv:pur E.P s2 12 r2 with
    | none=>rw [hv] at hc;cases hc
    | some v =>
     obtain ⟨v,ids2⟩:=v;rw [hv] at hc;simp only [Option.bind_some] at hc;obtain ⟨F1,g1,g2,g3,g4⟩:=OZ hR hp hcr;refine (h g as St.empty r2 s2 hr vals ρ0 F1 W (g4 ρ0) g2.none (hG.mono g1)).map ?_;intro u W' ⟨ρ2,F2,k1,k2,k3,k4,k5⟩;obtain ⟨F3,m1,m2,m3,m4⟩:=aDs k2 hv k1;have hS:=k3.trans m3;have hfz:∀ a v,F3 a=some v->W'.cell? a=some v:=fun a v ha=>(m2.fz a v ha).1
     split at hc
     ·rename_i hemp;simp only [m000,m001] at hc;obtain ⟨rfl,rfl⟩:=hc;by_cases hflat:v.flat=true
      ·obtain ⟨q1,q2⟩:=PB hR g1 hS;exact ⟨ρ,F,aTr (m4 ρ) hflat,q1,q2,fun _ _ _=>rfl,bH _⟩
      ·have hnil:ids=[]:=by
        simp only [uN,hflat,or_false] at hemp;simpa using hemp
       subst hnil;obtain ⟨q1,q2⟩:=apart g2 hS hfz;exact ⟨ρ,F3,m4 ρ,q1,g3.trans q2,fun _ _ _=>rfl,bH _⟩
     ·split at hc
      ·cases hc
      ·simp only [m000,m001] at hc;obtain ⟨rfl,rfl⟩:=hc;obtain ⟨q1,q2⟩:=apart g2 hS hfz;exact ⟨ρ,F3,m4 ρ,q1,g3.trans q2,fun _ _ _=>rfl,by rw [IB];exact bH _⟩
 ·have hdr:dr=false:=by
   cases dr with
   | false=>rfl
   | true=>simp at hc
  subst hdr;simp only [m015,if_false] at hc
  split at hc
  ·cases hq:qF E.P s (E.se g) args with
   | none=>rw [hq] at hc;cases hc
   | some q =>
    obtain ⟨as,ids⟩:=q;rw [hq] at hc;simp only [Option.bind_some] at hc
    cases hr:cl g as (s.drop ids) with
    | none=>rw [hr] at hc;cases hc
    | some r2 =>
     obtain ⟨r2,s2⟩:=r2;rw [hr] at hc;simp only [Option.bind_some] at hc;obtain ⟨F1,g1,g2,g3,g4⟩:=aTh hR hq hcr;refine (h g as (s.drop ids) r2 s2 hr vals ρ F1 W g4 g2 (hG.mono g1)).map ?_;intro u W' hgood
     cases hv:pur E.P s2 12 r2 with
     | none=>rw [hv] at hc;cases hc
     | some v =>obtain ⟨v,ids2⟩:=v;rw [hv] at hc;simp only [Option.map_some,m000,m001] at hc;obtain ⟨rfl,rfl⟩:=hc;obtain ⟨ρ2,F2,k1,k2,k3,k4,k5⟩:=hgood;rw [IB] at k4 k5;obtain ⟨F3,m1,m2,m3,m4⟩:=aDs k2 hv k1;exact ⟨ρ2,F3,m4 ρ2,m2,(g3.trans k3).trans m3,fun i hi _=>k4 i hi (by omega),by rw [IB];exact k5⟩
  ·exact (h g args s r s' hc vals ρ F W hcr hR hG).map fun u W' hgood=>hgood.weaken
def aIk (ts:Array Value):ResultVar->Sem Value
 | .tmp t=>pure (ts.getD t undef)
 | .cell a t=>do loadVar t (<- asAddr (ts.getD a undef))
theorem aTa {E:lX} (hT:dO P E.P) (hR:R E.P F ρ s W) {tm:List AV} {ts:Array Value} (hTM:TM E.P F ρ tm ts):∀ (l:List ResultVar) (vs:List AV),FI E.P (gt tm) s l=some vs ->
  ∃ us:List Value,(l.mapM (aIk ts)).run P W=.ok us W/\CR E.P F ρ vs us:=by
 intro l
 induction l with
 | nil=>intro vs h;simp only [FI,m000] at h;subst h;exact ⟨[],by simp,CR.nil⟩
 | cons x l ih =>
  intro vs h
  cases x with
  | tmp t =>
   simp only [FI] at h
   cases hl:FI E.P (gt tm) s l with
   | none=>rw [hl] at h;cases h
   | some vs' =>rw [hl] at h;simp only [Option.map_some,m000] at h;subst h;obtain ⟨us,h1,h2⟩:=ih _ hl;exact ⟨ts.getD t undef::us,by simp only [List.mapM_cons,aIk,Sem.run_bind,Sem.run_pure,Result.andThen_ok,h1],CR.cons (hTM.gt t) h2⟩
  | cell a t =>
   simp only [FI] at h
   cases hly:eN E.P t with
   | none=>rw [hly] at h;cases h
   | some y =>
    obtain ⟨z,ag⟩:=y;rw [hly] at h;simp only [Option.bind_some] at h
    cases hld:load z ag (gt tm a) s with
    | none=>rw [hld] at h;cases h
    | some v =>
     rw [hld] at h;simp only [Option.bind_some] at h
     cases hl:FI E.P (gt tm) s l with
     | none=>rw [hl] at h;cases h
     | some vs' =>
      rw [hl] at h;simp only [Option.map_some,m000] at h;subst h;obtain ⟨us,h1,h2⟩:=ih _ hl;obtain ⟨u,k1,k2⟩:=UJ hT hR hly hld (hTM.gt a)
      have hk:(aIk ts (.cell a t)).run P W=.ok u W:=by
       have hptr:∃ ad,ts.getD a undef=.pointer (some ad):=by
        have hv:=hTM.gt a;revert hv;generalize ts.getD a undef=w;intro hv;unfold load at hld
        split at hld
        ·rename_i e;rw [e] at hv;cases hv;exact ⟨_,rfl⟩
        ·rename_i e;rw [e] at hv;cases hv;exact ⟨_,rfl⟩
        ·cases hld
       obtain ⟨ad,had⟩:=hptr;simp only [aIk];rw [had] at k1 ⊢;exact k1
      exact ⟨u::us,by simp only [List.mapM_cons,Sem.run_bind,Sem.run_pure,Result.andThen_ok,h1,hk],CR.cons k2 h2⟩
theorem aCi {E:lX} (hT:dO P E.P) (hR:R E.P F ρ s W) {tm:List AV} {ts:Array Value} (hTM:TM E.P F ρ tm ts) {fn:Func} {r:AV} (h:iB E.P fn (gt tm) s=some r):∃ v,(results fn ts).run P W=.ok v W/\VR E.P F ρ r v:=by
 unfold iB at h
 cases hr:FI E.P (gt tm) s fn.results.toList with
 | none=>rw [hr] at h;cases h
 | some vs =>
  rw [hr] at h;simp only [Option.map_some,m000] at h;obtain ⟨us,h1,h2⟩:=aTa hT hR hTM _ _ hr
  have hrun:(results fn ts).run P W=.ok (if h:us.toArray.size=1 then us.toArray[0] else .tuple us.toArray) W:=by
   have e:results fn ts=(do let vs <- fn.results.mapM (aIk ts);pure (if h:vs.size=1 then vs[0] else .tuple vs)):=by unfold results;congr 1
   rw [e,Array.mapM_eq_mapM_toList];simp only [Sem.run_bind,Sem.run_map,h1,Result.andThen_ok,Sem.run_pure]
  refine ⟨_,hrun,?_⟩;subst h
  match vs,us,h2 with
  | [v],[u],h2=>exact h2.2 0 (by simp) (by simp)
  | [],[],h2=>exact .tup _ _ rfl (fun i h=>by simp at h)
  | a::b::l,a'::b'::l',h2 =>
   have:¬ ((a'::b'::l').toArray.size=1):=by simp
   rw [dif_neg this];exact .tup _ _ (by simpa using h2.1) (fun i x y=>by simpa using h2.2 i x (by simpa using y))
  | [],_::_,h2=>exact absurd h2.1 (by simp)
  | _::_,[],h2=>exact absurd h2.1 (by simp)
  | [_],_::_::_,h2=>exact absurd h2.1 (by simp)
  | _::_::_,[_],h2=>exact absurd h2.1 (by simp)
structure AZ (P:Program) (E:lX):Prop where
 mixed:P.follows .mixedOrders=true
 ty:dO P E.P
 eq:xU P E.P E.eqOk
 fns:∀ f fn,E.fns f=some fn->P.funcs[f]?=some fn/\fn.name≠"runtime.NumGoroutine"
 prim:∀ f g,E.prim f=some g->∀ (args:List AV) (s:St) (r:AV) (s':St),g args s=some (r,s') ->
  ∀ (vals:Array Value) (ρ:fD) (F:Fz) (W:World),CR E.P F ρ args vals.toList->R E.P F ρ s W->GlobOk E.P E.glob F W->cY P E.P s.nx s ρ F W r s' (callFunc f vals)
theorem RK (E:lX) (n:Nat):cL E (n+1)=fun f args s=>match E.prim f with
   | some g=>g args s
   | none=>match E.fns f with
    | none=>none
    | some fn=>match fn.body with
     | none=>none
     | some c=>lV E.P fn (code (cx E (cL E n) f) (gR (cx E (cL E n) f) (E.kp f) n) c (fR fn args) s):=rfl
theorem aJz {E:lX} (hE:AZ P E) (hDr:∀ (cl:FuncId->List AV->St->Option (AV×St)) (f:FuncId),lK P (cx E cl f)->DL P (cx E cl f)) (n:Nat):aOr P E (cL E n):=by
 induction n with
 | zero=>intro f args s r s' h;cases h
 | succ n ih =>
  intro f args s r s' h vals ρ F W hcr hR hG;rw [RK] at h;simp only at h
  cases hp:E.prim f with
  | some g =>rw [hp] at h;exact hE.prim f g hp args s r s' h vals ρ F W hcr hR hG
  | none =>
   rw [hp] at h;simp only at h
   cases hf:E.fns f with
   | none=>rw [hf] at h;cases h
   | some fn =>
    rw [hf] at h;simp only at h
    cases hb:fn.body with
    | none=>rw [hb] at h;cases h
    | some c =>
     rw [hb] at h;simp only at h;obtain ⟨hpf,hname⟩:=hE.fns f fn hf;have hC:=aMe (P:=P) ih f;have hD:DL P (cx E (cL E n) f):=hDr _ _ hC;have hT:dO P (cx E (cL E n) f).P:=hE.ty;have hEq:xU P (cx E (cL E n) f).P (cx E (cL E n) f).eqOk:=hE.eq;have hL:=aRr hE.mixed hT hEq hC hD (E.kp f) n;refine .inr (.inr ⟨f,vals,?_,?_⟩)
     ·have hnm:(fn.name == "runtime.NumGoroutine")=false:=by simpa using hname
      simp only [callFunc,Sem.run_bind,run_program,Result.andThen_ok,hpf,hnm,hb,Option.isNone_some,m015,if_false,Sem.run_pure]
     ·cases hcode:code (cx E (cL E n) f) (gR (cx E (cL E n) f) (E.kp f) n) c (fR fn args) s with
      | none=>rw [hcode] at h;cases h
      | some out =>
       obtain ⟨e,tm',s1⟩:=out;rw [hcode] at h
       have hfin:(e=.nm\/e=.rt)/\∃ q,iB E.P fn (gt tm') s1=some q/\r=q/\s'=s1:=by
        cases e with
        | nm =>
         simp only [lV] at h
         cases hq:iB E.P fn (gt tm') s1 with
         | none=>rw [hq] at h;cases h
         | some q=>rw [hq] at h;simp only [Option.map_some,m000,m001] at h;exact ⟨.inl rfl,q,rfl,h.1.symm,h.2.symm⟩
        | rt =>
         simp only [lV] at h
         cases hq:iB E.P fn (gt tm') s1 with
         | none=>rw [hq] at h;cases h
         | some q=>rw [hq] at h;simp only [Option.map_some,m000,m001] at h;exact ⟨.inr rfl,q,rfl,h.1.symm,h.2.symm⟩
        | ex i=>simp [lV] at h
        | gt l=>simp [lV] at h
       obtain ⟨he,q,hq,rfl,rfl⟩:=hfin;have hlen:args.length=vals.size:=by simpa using hcr.1
       have hTM:TM E.P F ρ (fR fn args) (vals++Array.replicate (fn.ntmps - vals.size) undef):=by
        refine ⟨by simp [fR,hlen],fun i a b=>?_⟩;simp only [fR];by_cases hi:i < args.length
        ·rw [List.getElem_append_left hi,Array.getElem_append_left (by omega)];have:=hcr.2 i hi (by simp;omega);simpa using this
        ·rw [List.getElem_append_right (by omega),Array.getElem_append_right (by omega)];simp only [List.getElem_replicate,Array.getElem_replicate];exact .tup [] #[] rfl (fun i h=>by simp at h)
       refine calls_of_wp hpf hb ?_;refine TV hE.mixed hT hEq hC hD hL c (fR fn args) s e tm' s' hcode ρ F W ⟨_,[]⟩ hR hG hTM rfl _ ?_;intro a' W' haf;obtain ⟨⟨ρ',F',k1,k2,k3,k4⟩,k5,k6⟩:=haf;obtain ⟨v,hv1,hv2⟩:=aCi (E:=E) hE.ty k2 k1 hq;have hgood:ET E.P s.nx s ρ F W r s' v W':=⟨ρ',F',hv2,k2,k3,fun i hi _=>k4 i hi,k5⟩;rcases he with rfl | rfl
       ·exact ⟨k6,v,hv1,hgood⟩
       ·exact ⟨k6,v,hv1,hgood⟩
end
end Go.Proofs.YtdehdahimkcakaaGreatDoor.Ai
end
