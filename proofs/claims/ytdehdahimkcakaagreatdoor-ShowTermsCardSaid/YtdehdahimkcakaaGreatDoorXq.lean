/- Texts joined by wip/tools/pack.py: Row,Sx,Dc,Kit,Tf,Str,Na,Li,Lt,Wh,Um,Un,Uk,Ua,Fi,Bd,Es,Sh. -/
import Derived.Test.YtdehdahimkcakaaGreatDoorCards
import Derived.Test.YtdehdahimkcakaaGreatDoorTie
import Derived.ProofKit
import Derived.LaidMore
import Derived.Lay
import Derived.SevenTiedAt
import Derived.Test.YtdehdahimkcakaaGreatDoorXp
open Nat renaming reduceAdd→Z0, reduceEqDiff→Z1
set_option linter.unusedSimpArgs false
set_option linter.unusedVariables false
set_option maxHeartbeats 4000000
set_option maxRecDepth 100000
namespace Go.Proofs.YtdehdahimkcakaaGreatDoor
open Go Ai
noncomputable section
theorem own:ownKnob Tryz.prog.godebug=none:=by kernel_rfl
def pO:List Nat:=[3,4,5,9,22,24,25,27,30,31,32,33,34,49,65,67,69,72,74,79,93,109,119,151,159,190,192,193,211,298,300,301,310,317,318]
theorem WX:(pO.all fun t=>iO Tryz.ty pO t)=true:=by kernel_rfl
theorem plain_ok:∀ t∈pO,iO mEv.P pO t=true:=fun t ht=>m032.1 WX t ht
theorem glob_of {laid:List (String×DataW Unit)} (hp:(laid.all fun x=>x.2.handleName?.isNone)=true) {W:World} (h:laidMetH Tryz.prog laid W)
  (hg:∀ g cs,Tryz.glob g=some cs->∃ nd∈laid,Tryz.prog.globalNamed nd.1=some g/\(∃ t∈pO,(Tryz.prog.globals[g]?).map (·.type)=some t)/\cs=(dAV nd.2).cells):GlobOk mEv.P mEv.glob W.cell? W:=by
 rw [MakeChecks.laidMetH_plain _ _ _ hp] at h;exact aTx env_ok.ty plain_ok h hg
section
variable {H:Type}
def qJ (T:Ty) (t:TypeId):Option (List TypeId):=match dZ T t with
 | some (.struct fs)=>some (fs.toList.map (·.type))
 | _=>none
def aXa (T:Ty) (t:TypeId):Option IntKind:=match dZ T t with
 | some (.int k)=>some k
 | _=>none
def aDm (T:Ty) (t:TypeId):Option TypeId:=match dZ T t with
 | some (.slice e)=>some e
 | _=>none
def UK (T:Ty) (t:TypeId):Nat:=match dZ T t with
 | some .bool=>1
 | some .string=>2
 | _=>0
variable {T:Ty} {n:Nat} {t:TypeId} {d:DataW H}
theorem Ai.TyD.struct {ts:List TypeId} (h:qJ T t=some ts) (hd:TyD T n t d):∃ m l,n=m+1/\d=.agg l/\l.length=ts.length/\∀ (i:Nat) t x,ts[i]?=some t->l[i]?=some x->TyD T m t x:=by
 cases n with
 | zero=>exact hd.elim
 | succ m =>
  unfold qJ at h;unfold TyD at hd
  split at h
  ·rename_i fs hu;rw [hu] at hd;obtain ⟨l,rfl,h1,h2⟩:=hd;cases h;refine ⟨m,l,rfl,rfl,by simp [h1],fun i t x ht hx=>?_⟩;obtain ⟨hi,rfl⟩:=m012.1 hx;have:=h2 i hi (by omega);have e:fs[i].type=t:=by rw [m047,m022] at ht;obtain ⟨f,hf,rfl⟩:=ht;rw [Array.getElem?_toList,m016 (by omega)] at hf;cases hf;rfl
   rw [<- e];exact this
  ·cases h
theorem Ai.TyD.int {k:IntKind} (h:aXa T t=some k) (hd:TyD T n t d):∃ m,d=.lit (.int k m)/\(Lit.int k m).wf=true:=by
 cases n with
 | zero=>exact hd.elim
 | succ m =>
  unfold aXa at h;unfold TyD at hd
  split at h
  ·rename_i k' hu;rw [hu] at hd;cases h;exact hd
  ·cases h
theorem Ai.TyD.bool (h:UK T t=1) (hd:TyD T n t d):∃ b,d=.lit (.bool b):=by
 cases n with
 | zero=>exact hd.elim
 | succ m =>
  unfold UK at h;unfold TyD at hd
  split at h
  ·rename_i hu;rw [hu] at hd;exact hd
  ·cases h
  ·cases h
theorem Ai.TyD.str (h:UK T t=2) (hd:TyD T n t d):∃ s,d=.lit (.string s)/\s.length<=maxLen:=by
 cases n with
 | zero=>exact hd.elim
 | succ m =>
  unfold UK at h;unfold TyD at hd
  split at h
  ·cases h
  ·rename_i hu;rw [hu] at hd;exact hd
  ·cases h
theorem Ai.TyD.list {e:TypeId} (h:aDm T t=some e) (hd:TyD T n t d):∃ (m:Nat) (l:List (DataW H)),n=m+1/\dAV d=.sl false (NF l)/\l.length<=maxLen/\∀ x∈l,TyD T m e x:=by
 cases n with
 | zero=>exact hd.elim
 | succ m =>
  unfold aDm at h;unfold TyD at hd
  split at h
  ·rename_i hu;rw [hu] at hd;cases h;rcases hd with rfl | ⟨l,r,rfl,h1,h2⟩
   ·exact ⟨m,[],rfl,rfl,by simp,fun _ h=>by cases h⟩
   ·exact ⟨m,l,rfl,rfl,h1,h2⟩
  ·cases h
def sM (n:Int):Bool:=(Lit.int .i64 n).wf
inductive Sx:Type where
 | mk (l:Bool) (k:Int) (x:List UInt8) (p a:Int) (items:List Sx)
mutual
def Sx.av:Sx->AV
 | .mk l k x p a items=>.agg [.bool l,.int .i64 k,.str x,.int .i64 p,.int .i64 a,.sl false (Sx.avs items)]
def Sx.avs:List Sx->List AV
 | []=>[]
 | s::l=>s.av::Sx.avs l
end
theorem Sx.avs_eq (l:List Sx):Sx.avs l=l.map Sx.av:=by induction l with | nil=>rfl | cons s l ih=>simp [Sx.avs,ih]
mutual
def Sx.ok:Sx->Bool
 | .mk _ k x p a items=>sM k&&decide (x.length<=maxLen)&&sM p&&sM a&&decide (items.length<=maxLen)&&Sx.oks items
def Sx.oks:List Sx->Bool
 | []=>true
 | s::l=>s.ok&&Sx.oks l
end
end
end
noncomputable section
mutual
theorem RQ {p:Sx->Prop} (h:∀ l k x p' a items,(∀ s∈items,p s)->p (.mk l k x p' a items)):(s:Sx)->p s
 | .mk l k x p' a items=>h l k x p' a items (UW h items)
theorem UW {p:Sx->Prop} (h:∀ l k x p' a items,(∀ s∈items,p s)->p (.mk l k x p' a items)):(l:List Sx)->∀ s∈l,p s
 | []=>fun _ h=>nomatch h
 | s::l=>fun t ht=>(m013.1 ht).elim (fun e=>e ▸ RQ h s) (UW h l t)
end
mutual
theorem cZ:(s:Sx)->s.av.closed=true
 | .mk l k x p a items=>by simp only [Sx.av,AV.closed,aW,DE items,m027,gA]
theorem DE:(l:List Sx)->aW (Sx.avs l)=true
 | []=>rfl
 | s::l=>by simp only [Sx.avs,aW,cZ s,DE l,gA]
end
theorem dD (s:Sx):s.av.cells.all AV.one=true:=by cases s;rfl
theorem eA (s:Sx):s.av.cells.length=6:=by cases s;rfl
theorem qX (l k x p a items):(Sx.mk l k x p a items).av.cells=[.bool l,.int .i64 k,.str x,.int .i64 p,.int .i64 a,.sl false (Sx.avs items)]:=rfl
theorem dR (s:Sx):Ai.part 6 true 0 s.av.cells=some s.av:=by cases s;rfl
theorem aTd {l:List Sx} (h:Sx.oks l=true):∀ s∈l,s.ok=true:=by
 induction l with
 | nil=>intro s hs;cases hs
 | cons a l ih =>
  simp only [Sx.oks,bN] at h;intro s hs;rcases m013.1 hs with rfl | hs
  ·exact h.1
  ·exact ih h.2 s hs
theorem LO {l k x p a items} (h:(Sx.mk l k x p a items).ok=true):items.length<=maxLen/\∀ s∈items,s.ok=true:=by simp only [Sx.ok,bN,decide_eq_true_eq] at h;exact ⟨h.1.2,aTd h.2⟩
theorem lQ (l:List Sx):(Sx.avs l).length=l.length:=by rw [Sx.avs_eq,m002]
theorem aNh (ex:Bool) (l:List Sx) (i:Nat) (s:Sx) (h:l[i]?=some s):cA 6 (.sl ex (Sx.avs l)) (.int .i64 (i:Int))=some (.pel s.av.cells 0):=by obtain ⟨hi,rfl⟩:=m012.1 h;rw [Sx.avs_eq];simp [cA,pF,zK,hi,eA]
theorem cF (i n:Nat) (h:i < n) (hn:n<=maxLen):IntKind.i64.wrap ((i:Int)+1)=((i+1:Nat):Int):=by have:maxLen=9223372036854775807:=rfl;rw [IntWalk.i64_in _ (by omega)];rfl
theorem cK {α:Type} (l:List α) (i:Nat) (y:α) (h:l[i]?=some y):l.drop i=y::l.drop (i+1):=by obtain ⟨h',e⟩:=m012.1 h;rw [<- e];exact List.drop_eq_getElem_cons h'
mutual
def Sx.size:Sx->Int
 | .mk _ _ _ _ _ items=>Sx.sizes items 1
def Sx.sizes:List Sx->Int->Int
 | [],n=>n
 | s::l,n=>cond (decide (n<=5000)) (Sx.sizes l (IntKind.i64.wrap (n+s.size))) n
end
mutual
def Sx.dep:Sx->Int->Int
 | .mk l _ _ _ _ items,most=>cond (!l||most==0) 0 (IntKind.i64.wrap (Sx.deps items most 0+1))
def Sx.deps:List Sx->Int->Int->Int
 | [],_,n=>n
 | s::l,most,n=>Sx.deps l most (cond (decide (s.dep (IntKind.i64.wrap (most - 1)) > n)) (s.dep (IntKind.i64.wrap (most - 1))) n)
end
def Sx.depth (s:Sx):Int:=s.dep 65
end
noncomputable section
structure Dc:Type where
 nm:List UInt8
 so:Int
 mac:Bool
 ps:List (List UInt8×Int)
 body:Sx
def pmA (p:List UInt8×Int):AV:=.agg [.str p.1,.int .i64 p.2]
def Dc.av (d:Dc):AV:=.agg (.str d.nm::.int .i64 d.so::.bool d.mac::.sl false (d.ps.map pmA)::d.body.av.cells)
def Dc.ok (d:Dc):Bool:=decide (d.nm.length<=maxLen)&&sM d.so&&decide (d.ps.length<=maxLen)&&d.body.ok
theorem iG {α:Type} (f:α->AV) (l:List α) (h:∀ x,(f x).closed=true):aW (l.map f)=true:=by
 induction l with
 | nil=>rfl
 | cons x l ih=>simp only [m039,aW,h,ih,gA]
end
noncomputable section
section
variable {s s':St} {n m i j:Nat} {o p:Option mK}
theorem set_set:(s.set i o).set i p=s.set i p:=by show (⟨_,_⟩:St)=⟨_,_⟩;congr 1;funext k;show cond (Nat.beq k i) p (cond (Nat.beq k i) o (s.h k))=cond (Nat.beq k i) p (s.h k);cases Nat.beq k i<;>rfl
theorem adv_set:(adv s n).set i o=adv (s.set i o) n:=rfl
theorem adv_drop (l:List Nat):(adv s n).drop l=adv (s.drop l) n:=by
 induction l generalizing s with
 | nil=>rfl
 | cons a l ih=>exact ih (s:=s.set a none)
theorem adv_two:adv (adv s n) m=adv s (n+m):=by simp [adv,m066]
theorem get_set:(s.set n o).h m=if m=n then o else s.h m:=by
 by_cases h:m=n
 ·subst h;rw [if_pos rfl,aG]
 ·rw [if_neg h,aF h]
theorem nx_drop (l:List Nat):(s.drop l).nx=s.nx:=by
 induction l generalizing s with
 | nil=>rfl
 | cons a l ih=>exact ih
theorem get_drop' (l:List Nat):(s.drop l).h m=if m∈l then none else s.h m:=by
 induction l generalizing s with
 | nil=>simp [St.drop]
 | cons a l ih =>
  show ((s.set a none).drop l).h m=_;rw [ih,get_set];by_cases h1:m∈l
  ·simp [h1]
  ·by_cases h2:m=a<;>simp [h1,h2]
theorem idOf_ref {i a n:Nat} {c:Option Nat} {e:TypeId}:aS (.ref i a n c e)=[i]:=rfl
theorem idOf_nils:aS .nils=[]:=rfl
theorem idOf_ptr {i a:Nat}:aS (.ptr i a)=[i]:=rfl
theorem idOf_sl {ex:Bool} {l:List AV}:aS (.sl ex l)=[]:=rfl
theorem idOf_pel {l:List AV} {n:Nat}:aS (.pel l n)=[]:=rfl
theorem drop_nil:s.drop []=s:=rfl
theorem drop_cons {l:List Nat}:s.drop (i::l)=(s.set i none).drop l:=rfl
theorem wantV_tup {l:List AV} {w:Bool}:aB (.tup l) w=some false:=rfl
theorem resC_nil:bW []=some []:=rfl
theorem resC_some {v:AV} {l:List (Option AV)}:bW (some v::l)=(bW l).map (v::·):=rfl
theorem retP_some {v:AV} {Q:AV->Prop}:bT (some v) Q=Q v:=rfl
theorem map_some' {α β:Type} {f:α->β} {a:α}:Option.map f (some a)=some (f a):=rfl
theorem tupV_one {v:AV}:bY [v]=v:=rfl
theorem tupV_two {v w:AV}:bY [v,w]=.tup [v,w]:=rfl
structure EF (M:List Nat) (s s':St):Prop where
 nx:s.nx<=s'.nx
 h:∀ j,j < s.nx->j ∉ M->s'.h j=s.h j
 fr:aK s'
theorem EF.refl (M:List Nat) (fr:aK s):EF M s s:=⟨bH _,fun _ _ _=>rfl,fr⟩
theorem EF.adv {M:List Nat} (h:EF M s s'):EF M s (adv s' n):=⟨by have:=h.nx;show s.nx<=s'.nx+n;omega,h.h,h.fr.adv⟩
theorem EF.set {M:List Nat} (h:EF M s s') (hi:i < s'.nx) (hm:s.nx<=i\/i∈M):EF M s (s'.set i o) :=
 ⟨h.nx,fun j hj hn=>by rw [get_set,if_neg (by rintro rfl;rcases hm with hm | hm;omega;exact hn hm)];exact h.h j hj hn,h.fr.set hi⟩
theorem EF.drop {M l:List Nat} (h:EF M s s') (hm:∀ i∈l,s.nx<=i\/i∈M):EF M s (s'.drop l) :=
 ⟨by rw [nx_drop];exact h.nx,fun j hj hn=>by rw [get_drop',if_neg (fun hl=>by rcases hm j hl with hm | hm;omega;exact hn hm)];exact h.h j hj hn,
  fun j hj=>by rw [nx_drop] at hj;rw [get_drop'];split;rfl;exact h.fr j hj⟩
theorem EF.trans {M M':List Nat} {s'':St} (h:EF M s s') (k:EF M' s' s'') (hm:∀ i∈M',s.nx<=i\/i∈M):EF M s s'' :=
 ⟨FN h.nx k.nx,fun j hj hn=>by
  rw [k.h j (HT hj h.nx) (fun hl=>by rcases hm j hl with hm | hm;omega;exact hn hm)];exact h.h j hj hn,k.fr⟩
theorem EF.sub {M M':List Nat} (h:EF M s s') (hm:∀ i∈M,s.nx<=i\/i∈M'):EF M' s s' :=
 ⟨h.nx,fun j hj hn=>h.h j hj fun hl=>by rcases hm j hl with hm | hm;omega;exact hn hm,h.fr⟩
theorem dP (fr:aK s) (k:Nat) (h:i < s.nx+k):aK (Ai.adv (s.set i o) k):=by have:aK (Ai.adv s k):=fr.adv;rw [<- adv_set];exact this.set h
theorem jH (fr:aK s) (l:List Nat) (k:Nat) (h:i < s.nx+k):aK (Ai.adv ((s.drop l).set i o) k):=by
 have h1:aK (s.drop l):=fun j hj=>by rw [nx_drop] at hj;rw [get_drop'];split;rfl;exact fr j hj
 exact dP h1 k (by rw [nx_drop];exact h)
theorem PY (fr:aK s) (l:List Nat):aK (s.drop l):=fun j hj=>by rw [nx_drop] at hj;rw [get_drop'];split;rfl;exact fr j hj
end
section
variable {t e:TypeId} {z b id:Nat} {ag:Bool} {s s':St} {x:AV} {vs:List AV}
theorem Gw.id_lt (g:Gw e z 0 s x vs) (fr:aK s):∀ j∈aS x,j < s.nx:=by
 obtain ⟨_,⟨rfl,_⟩ | ⟨i,_,rfl,hs⟩⟩:=g
 ·intro j hj;cases hj
 ·intro j hj;simp only [aS,m013,m052,or_false] at hj;subst hj;refine Nat.lt_of_not_le fun hc=>?_;rw [fr _ hc] at hs;cases hs
theorem Gw.keep (g:Gw e z 0 s x vs) (h:∀ j∈aS x,s'.h j=s.h j):Gw e z 0 s' x vs:=by
 obtain ⟨h1,⟨rfl,rfl⟩ | ⟨i,hi,rfl,hs⟩⟩:=g
 ·exact ⟨h1,.inl ⟨rfl,rfl⟩⟩
 ·exact ⟨h1,.inr ⟨i,hi,rfl,by rw [h i (by simp [aS])];exact hs⟩⟩
theorem Gw.ext {M:List Nat} (g:Gw e z 0 s x vs) (fr:aK s) (h:EF M s s') (hd:∀ j∈aS x,j ∉ M):Gw e z 0 s' x vs :=
 g.keep fun j hj=>h.h j (g.id_lt fr j hj) (hd j hj)
theorem Gw.here (h:∀ v∈vs,v.cells.length=z/\v.cells.all AV.one=true) {s0:St} {n k:Nat} (hk:k=vs.length):Gw e z 0 (Ai.adv (s0.set id (some (.cells (vs.flatMap AV.cells) e false true))) n) (.ref id 0 k none e) vs:=by subst hk;exact ⟨h,.inr ⟨id,hO _,rfl,by rw [adv_h,aG]⟩⟩
theorem Gw.one (g:Gw e z 0 s x vs):x.cells=[x]/\x.one=true:=by obtain ⟨h1,⟨rfl,rfl⟩ | ⟨i,hi,rfl,hs⟩⟩:=g<;>exact ⟨rfl,rfl⟩
theorem aSt (h:gI t e z ag b) (g:Gw e z 0 s x vs) {v:AV} (hv:v.cells.length=z) (ho:v.cells.all AV.one=true) (hf:jA (vs.length+1) b=true) (ex:Bool) (id:Nat) :
  bt .append #[t,t] [x,.sl ex [v]] id s=some (.ref id 0 (vs.length+1) none e,(s.drop (aS x)).set id (some (.cells ((vs++[v]).flatMap AV.cells) e false true))):=by
 rw [mO h];have hsrc:aR z (.sl ex [v]) s=some v.cells:=by simp [aR,hv]
 rw [hsrc,Option.bind_some];have hne:v.cells≠[]:=fun hh=>by rw [hh] at hv;have:=h.pos;simp at hv;omega
 have hem:v.cells.isEmpty=false:=by cases hc:v.cells with | nil=>exact absurd hc hne | cons a b=>rfl
 have hdiv:v.cells.length / z=1:=by rw [hv];exact Nat.div_self h.pos
 obtain ⟨h1,⟨rfl,rfl⟩ | ⟨i,hi,rfl,hs⟩⟩:=g
 ·have hf':jA 1 b=true:=by simpa using hf
  unfold bM;simp [hem,ho,eC,hdiv,hf',kD,aS,St.drop]
 ·have hfl:=eX h1;have hlen:(vs.flatMap AV.cells++v.cells).length / z=vs.length+1:=by rw [m006,hfl,hv,<- vL,CD _ h.pos]
  have hgt:¬ (vs.length * z+v.cells.length<=(vs.flatMap AV.cells).length):=by rw [hfl,hv];have:=h.pos;omega
  unfold bM;simp only [hem,ho,m025,m015,if_false,hs,m023,hfl,bH,and_self,if_true];rw [if_neg (by rw [hv];have:=h.pos;omega)];simp only [eC,hlen,hf,if_true,kD,aS,St.drop];simp
theorem KE (h:gI t e z ag b) (g:Gw e z 0 s x vs) {ws:List AV} (hw:∀ v∈ws,v.cells.length=z/\v.cells.all AV.one=true) (hne:ws≠[]) (hf:jA (vs.length+ws.length) b=true) (ex:Bool) (id:Nat) :
  bt .append #[t,t] [x,.sl ex ws] id s=some (.ref id 0 (vs.length+ws.length) none e,(s.drop (aS x)).set id (some (.cells ((vs++ws).flatMap AV.cells) e false true))):=by
 rw [mO h];have hall:ws.all (fun v=>v.cells.length==z)=true:=m032.2 fun v hv=>by simp [(hw v hv).1]
 have hsrc:aR z (.sl ex ws) s=some (ws.flatMap AV.cells):=by simp [aR,hall]
 rw [hsrc,Option.bind_some];have hwl:=eX hw;have hpos:0 < ws.length:=List.length_pos_iff.2 hne;have hmul:0 < ws.length * z:=Nat.mul_pos hpos h.pos
 have hem:(ws.flatMap AV.cells).isEmpty=false:=by
  cases hc:ws.flatMap AV.cells with
  | nil=>rw [hc] at hwl;simp at hwl;omega
  | cons a b=>rfl
 have hones:(ws.flatMap AV.cells).all AV.one=true:=by rw [m032];intro y hy;obtain ⟨v,hv,hy⟩:=List.mem_flatMap.1 hy;exact m032.1 (hw v hv).2 y hy
 have hdiv:(ws.flatMap AV.cells).length / z=ws.length:=by rw [hwl];exact CD _ h.pos
 obtain ⟨h1,⟨rfl,rfl⟩ | ⟨i,hi,rfl,hs⟩⟩:=g
 ·have hf':jA ws.length b=true:=by simpa using hf
  unfold bM;simp only [hem,hones,eC,hdiv,hf',kD,aS,St.drop,m025,m015,if_false,if_true,List.length_nil,m023,List.nil_append]
 ·have hfl:=eX h1;have hlen:(vs.flatMap AV.cells++ws.flatMap AV.cells).length / z=vs.length+ws.length:=by rw [m006,hfl,hwl,<- pX,CD _ h.pos]
  unfold bM;simp only [hem,hones,m025,m015,if_false,hs,m023,hfl,bH,and_self,if_true];rw [if_neg (by rw [hwl];omega)];simp only [eC,hlen,hf,if_true,kD,aS,St.drop];simp
theorem iF (h:gI t e z ag b) (g:Gw e z 0 s x vs) (ex:Bool) (id:Nat):bt .append #[t,t] [x,.sl ex []] id s=some (x,s):=by
 rw [mO h];have hsrc:aR z (.sl ex []) s=some []:=by simp [aR]
 rw [hsrc,Option.bind_some];obtain ⟨h1,⟨rfl,rfl⟩ | ⟨i,hi,rfl,hs⟩⟩:=g<;>rfl
theorem rL {n b:Nat} (h:n * b<=2 ^ 40) (h2:n<=2 ^ 40):jA n b=true:=by
 have h1:n * b<=Ai.most:=by unfold Ai.most;omega
 have h2:n<=Ai.most:=by unfold Ai.most;omega
 simp only [jA,Nat.ble_eq_true_of_le h1,Nat.ble_eq_true_of_le h2,gA]
theorem LL {α:Type} {f:α->AV} (h:gI t e z ag b) (he:∀ a,(f a).cells.length=z) (ex:Bool) (l:List α) {k:Nat} (hk:k<=l.length) (kd:IntKind):jM t (.sl ex (l.map f)) none (some (.int kd (k:Int))) none s=some (.sl (ex&&k==l.length) ((l.take k).map f)):=by
 have hh:((l.map f).isEmpty||((l.map f).head?).any fun v=>v.cells.length==z)=true:=by
  cases l with
  | nil=>rfl
  | cons a l=>simp [he]
 simp only [jM,fJ,h.u,h.l,Option.bind_some];rw [if_pos hh];simp [eF,pK,pF,hk]
theorem OU {α:Type} {f:α->AV} (h:gI t e z ag b) (he:∀ a,(f a).cells.length=z) (ex:Bool) (l:List α) {k:Nat} (hk:k<=l.length) (kd:IntKind):jM t (.sl ex (l.map f)) (some (.int kd (k:Int))) none none s=some (.sl ex ((l.drop k).map f)):=by
 have hh:((l.map f).isEmpty||((l.map f).head?).any fun v=>v.cells.length==z)=true:=by
  cases l with
  | nil=>rfl
  | cons a l=>simp [he]
 simp only [jM,fJ,h.u,h.l,Option.bind_some];rw [if_pos hh];simp [eF,pK,pF,hk];exact m014 (by simp)
theorem pM:∀ l:List Nat,tH l []=true
 | []=>rfl
 | _::l=>by simp only [tH,dY,m027,m031];exact pM l
theorem aIo {m k:Nat}:bO m k=decide ((m >>> k) % 2=1):=by
 unfold bO
 cases h:Nat.beq ((m >>> k) % 2) 1 with
 | true=>exact (decide_eq_true (jS h)).symm
 | false=>exact (decide_eq_false (Nat.ne_of_beq_eq_false h)).symm
theorem aKi (h:gI t e z ag b) {i n k:Nat} {c:List AV} {e':TypeId} {ex wr:Bool} (hs:s.h i=some (.cells c e' ex wr)) (hn:n * z<=c.length) (hk:k<=c.length / z) (kd:IntKind):jM t (.ref i 0 n none e) none (some (.int kd (k:Int))) none s=some (.ref i 0 k none e):=by
 have hp:=h.pos;have h1:eF n (yO none (c.length - 0) z) none (some (.int kd (k:Int))) none=some (0,k,c.length / z):=by unfold eF pK pF yO;simp only [Option.isSome_none,Option.isNone_some,m071,m015,if_false,Option.bind_some,Nat.sub_zero];rw [if_pos ⟨by omega,by omega,by omega,by omega⟩];simp only [Int.toNat_natCast,Int.toNat_zero]
 have h2:jM t (.ref i 0 n none e) none (some (.int kd (k:Int))) none s=(if e=e/\0 < z/\0<=c.length then (eF n (yO none (c.length - 0) z) none (some (.int kd (k:Int))) none).map fun r =>
   if r.1≠0/\r.2.1=r.1 then .sl false [] else .ref i (0+r.1 * z) (r.2.1 - r.1) none e else none):=by
  simp only [jM,fJ,h.u,h.l,Option.bind_some,hs];rfl
 rw [h2,h1,if_pos ⟨rfl,hp,hO _⟩];simp
theorem nJ {id off:Nat} {v:AV} {c:List AV} {e:TypeId} {ex:Bool} {s:St} (h:s.h id=some (.cells c e ex true)) (ho:off < c.length) (hv:v.cells=[v]) (hone:v.one=true):bQ 1 (.ptr id off) v s=some (s.set id (some (.cells (c.set off v) e ex true))):=by show Ai.store 1 (.ptr id off) v s=_;unfold Ai.store;simp only [h];rw [if_pos ⟨by rw [hv];rfl,by omega,by rw [hv];simp [hone]⟩,hv];rfl
structure FX {α:Type} (f:α->AV) (z:Nat):Prop where
 len:∀ a,(f a).cells.length=z
 ones:∀ a,(f a).cells.all AV.one=true
theorem bP {α:Type} {f:α->AV} {z:Nat} (hf:FX f z) (ex:Bool) {l:List α} {i:Nat} {a:α} (h:l[i]?=some a) (k:IntKind):cA z (.sl ex (l.map f)) (.int k (i:Int))=some (.pel (f a).cells 0):=by obtain ⟨hi,rfl⟩:=m012.1 h;simp [cA,pF,zK,hi,hf.len]
theorem aGw {e:TypeId} {z i id off n:Nat} {c:Option Nat} (h:i < n) (k:IntKind):cA z (.ref id off n c e) (.int k (i:Int))=some (.ptr id (off+i * z)):=by simp [cA,pF,zK,h]
theorem vM (h:∀ v∈vs,v.cells.length=z) {i:Nat} {v:AV} (hi:vs[i]?=some v) {k:Nat} (hk:k < z):(vs.flatMap AV.cells)[i * z+k]?=v.cells[k]?:=by
 induction vs generalizing i with
 | nil=>cases hi
 | cons a l ih =>
  have ha:=h a (m007 ..);rw [m024]
  cases i with
  | zero =>simp only [List.getElem?_cons_zero,m000] at hi;subst hi;rw [Nat.zero_mul,m023,m051 (by omega)]
  | succ i =>
   rw [List.getElem?_append_right (by rw [ha,vL];omega),ha];have:(i+1) * z+k - z=i * z+k:=by rw [vL];omega
   rw [this];exact ih (fun x hx=>h x (m005 _ hx)) (by simpa using hi)
theorem HR (h:∀ v∈vs,v.cells.length=z) {i:Nat} {v:AV} (hi:vs[i]?=some v):((vs.flatMap AV.cells).drop (i * z)).take z=v.cells/\i * z+z<=(vs.flatMap AV.cells).length:=by
 induction vs generalizing i with
 | nil=>cases hi
 | cons a l ih =>
  have ha:=h a (m007 ..);rw [m024]
  cases i with
  | zero =>simp only [List.getElem?_cons_zero,m000] at hi;subst hi;rw [Nat.zero_mul,m023,m048,List.take_left' ha,m006];exact ⟨rfl,by omega⟩
  | succ i =>obtain ⟨h1,h2⟩:=ih (fun x hx=>h x (m005 _ hx)) (by simpa using hi);rw [List.drop_append,m006,ha,vL,m044 (by omega),List.nil_append,Nat.add_sub_cancel];exact ⟨h1,by omega⟩
theorem iL {h:FuncId} {args:List AV} {l:List Nat} {v:AV} {K:aC} (hc:aU mEv h args v) (hcl:∀ x∈args,x.closed=true) (hk:K v s):dW mEv h args l s K:=by
 have hcl2:aW args=true:=by
  clear hc
  induction args with
  | nil=>rfl
  | cons x l ih=>simp only [aW,hcl x (m007 ..),ih fun y hy=>hcl y (m005 _ hy),gA]
 exact .mk args [] v (iH 12 hcl2) hc rfl hk
theorem eR {h:FuncId} {args args2:List AV} {ids:List Nat} {v:AV} {K:aC} (hp:dJ (pur mEv.P s 12) args=some (args2,ids)) (hc:aU mEv h args2 v) (hk:K v (if ids.isEmpty||v.flat then s else s.drop ids)):aE mEv h args s K:=.mk args2 ids v hp hc hk
theorem kM {h:FuncId} {args:List AV} {s:St} {K:aC} (hz:mEv.fz h=false) (hc:∃ r s',WideC mEv h args s r s'/\K r s'):aY mEv h args s K:=by obtain ⟨r,s',h1,h2⟩:=hc;exact .mk (by rw [hz];exact ⟨r,s',h1,h2⟩)
theorem TZ {h:FuncId} {args:List AV} {s:St} {K:aC} (hz:mEv.fz h=true) (hs:mEv.se h=[]) (hc:∃ r s',WideC mEv h args s r s'/\aA (pur mEv.P s' 12 r) fun v=>K v.1 (s'.drop v.2)):aY mEv h args s K:=by
 exact .mk (by
  rw [hz,hs,cond_true];show aA (some (args,[])) _;rw [Bnd_some]
  exact hc)
abbrev cU (v:AV):aC:=fun r s'=>∃ ids,pur mEv.P s' 12 r=some (v,ids)
theorem bC {h:FuncId} {args:List AV} {v:AV} (hw:∃ r s',WideC mEv h args St.empty r s'/\cU v r s'):aU mEv h args v:=AC hw
theorem aI {v:AV} {s:St} (h:v.closed=true):cU v v s:=⟨[],bE 12 h⟩
theorem lE {α:Type} {f:α->AV} {z:Nat} (h1:∀ a,(f a).cells.length=z) (h2:∀ a,(f a).cells.all AV.one=true) (l:List α):∀ v∈l.map f,v.cells.length=z/\v.cells.all AV.one=true:=fun v hv=>by obtain ⟨a,_,rfl⟩:=m021.1 hv;exact ⟨h1 a,h2 a⟩
theorem kZ {α:Type} (f:α->AV) (l:List α) (h:∀ x∈l,(f x).closed=true):aW (l.map f)=true:=by
 induction l with
 | nil=>rfl
 | cons x l ih=>simp only [m039,aW,h x (m007 ..),ih fun y hy=>h y (m005 _ hy),gA]
theorem xW {l:List AV} (h:aW l=true):(AV.sl false l).closed=true:=by simp only [AV.closed,m027,m031,h]
theorem cJ {α:Type} (f:α->AV) (l:List α) (h:∀ x∈l,(f x).closed=true):(AV.sl false (l.map f)).closed=true:=xW (kZ f l h)
theorem bCc {ex:Bool} {l:List AV} {k:Nat} (h:aW l=true):∃ ids,pur mEv.P s (k+1) (.sl ex l)=some (.sl false l,ids)/\ids=[]:=by
 cases ex with
 | false=>exact ⟨[],bE _ (xW h),rfl⟩
 | true =>refine ⟨[],?_,rfl⟩;unfold pur;rw [if_neg (by simp [AV.closed])];simp only [iH k h,Option.map_some]
theorem Gw.not_closed (g:Gw e z 0 s x vs):x.closed=false:=by obtain ⟨_,⟨rfl,_⟩ | ⟨_,_,rfl,_⟩⟩:=g<;>rfl
theorem aUh (h:gI t e z true b) (g:Gw e z 0 s x vs) (hc:∀ v∈vs,v.closed=true) (ha:∀ v∈vs,v=.agg v.cells) (k:Nat):pur mEv.P s (k+1) x=some (.sl false vs,aS x):=by
 obtain ⟨h1,⟨rfl,rfl⟩ | ⟨i,hi,rfl,hs⟩⟩:=g
 ·rfl
 ·have h2:eN mEv.P e=some (z,true):=h.l;have hp:=iH (s:=s) k (mP hc);have hfl:=eX h1;have hnc:(AV.ref i 0 vs.length none e).closed=false:=rfl;unfold pur;rw [hnc,if_neg (by simp)];simp only [hs,h2,hfl,m023,bH,h.pos,and_self,if_true,m048];rw [show (vs.flatMap AV.cells).take (vs.length * z)=vs.flatMap AV.cells from m014 (by rw [hfl];exact bH _)];simp only [hp,Option.bind_some,m033,if_true,SE h1 ha,aS]
theorem aKp (h:gI t e 1 false b) (g:Gw e 1 0 s x vs) (hc:∀ v∈vs,v.closed=true) (ha:∀ v∈vs,iK v=true) (k:Nat):pur mEv.P s (k+1) x=some (.sl false vs,aS x):=by
 obtain ⟨h1,⟨rfl,rfl⟩ | ⟨i,hi,rfl,hs⟩⟩:=g
 ·rfl
 ·have h2:eN mEv.P e=some (1,false):=h.l;have hp:=iH (s:=s) k (mP hc);have hfl:=eX h1;have hone:vs.flatMap AV.cells=vs:=jO fun v hv=>by have:=ha v hv;cases v<;>first | rfl | cases this
  have hall:vs.all iK=true:=m032.2 ha;rw [hone] at hp;have hnc:(AV.ref i 0 vs.length none e).closed=false:=rfl;unfold pur;rw [hnc,if_neg (by simp)];simp only [hs,h2,hfl,m023,FJ,bH,Nat.lt_one_iff,and_self,if_true,m048,hone];rw [show vs.take vs.length=vs from m045];simp [hp,aS];exact ha
section
variable {α:Type} {f:α->AV} {l:List α}
theorem hI (h:gI t e z ag b) (he:FX f z) (g:Gw e z 0 s x (l.map f)) (hf:(l.length+1) * b<=2 ^ 40) (hf2:l.length+1<=2 ^ 40) (a:α) (ex:Bool) (id:Nat) :
  bt .append #[t,t] [x,.sl ex [f a]] id s=some (.ref id 0 (l.length+1) none e,(s.drop (aS x)).set id (some (.cells (((l++[a]).map f).flatMap AV.cells) e false true))):=by
 have:=aSt h g (he.len a) (he.ones a) (by rw [m002];exact rL hf hf2) ex id;rw [m002] at this;rw [this,m038];rfl
theorem DJ (h:gI t e z ag b) (he:FX f z) (g:Gw e z 0 s x (l.map f)) {k:List α} (hk:k≠[]) (hf:(l.length+k.length) * b<=2 ^ 40) (hf2:l.length+k.length<=2 ^ 40) (ex:Bool) (id:Nat) :
  bt .append #[t,t] [x,.sl ex (k.map f)] id s=some (.ref id 0 (l.length+k.length) none e,(s.drop (aS x)).set id (some (.cells (((l++k).map f).flatMap AV.cells) e false true))):=by
 have:=KE h g (lE he.len he.ones k) (by simpa using hk) (by rw [m002,m002];exact rL hf hf2) ex id;rw [m002,m002] at this;rw [this,m038]
theorem tV (he:FX f z) {id k n:Nat} {s0:St} (hk:k=l.length):Gw e z 0 (Ai.adv (s0.set id (some (.cells ((l.map f).flatMap AV.cells) e false true))) n) (.ref id 0 k none e) (l.map f):=by refine Gw.here (lE he.len he.ones _) ?_;rw [m002];exact hk
theorem mH (he:FX f z) {a:α} {id n:Nat} {s0:St}:Gw e z 0 (Ai.adv (s0.set id (some (.cells (((l++[a]).map f).flatMap AV.cells) e false true))) n) (.ref id 0 (l.length+1) none e) ((l++[a]).map f) :=
 tV he (by simp)
theorem uB (h:gI t e z true b) (g:Gw e z 0 s x (l.map f)) (h1:∀ a∈l,(f a).closed=true) (h2:∀ a∈l,f a=.agg (f a).cells) (k:Nat):∃ ids,pur mEv.P s (k+1) x=some (.sl false (l.map f),ids)/\ids=aS x :=
 ⟨_,aUh h g (fun v hv=>by obtain ⟨a,ha,rfl⟩:=m021.1 hv;exact h1 a ha) (fun v hv=>by obtain ⟨a,ha,rfl⟩:=m021.1 hv;exact h2 a ha) k,rfl⟩
theorem nM (h:gI t e 1 false b) (g:Gw e 1 0 s x (l.map f)) (h1:∀ a∈l,(f a).closed=true) (h2:∀ a∈l,iK (f a)=true) (k:Nat):∃ ids,pur mEv.P s (k+1) x=some (.sl false (l.map f),ids)/\ids=aS x :=
 ⟨_,aKp h g (fun v hv=>by obtain ⟨a,ha,rfl⟩:=m021.1 hv;exact h1 a ha) (fun v hv=>by obtain ⟨a,ha,rfl⟩:=m021.1 hv;exact h2 a ha) k,rfl⟩
theorem nH {x v:AV} {ids:List Nat} (h:∃ ids',pur mEv.P s 12 x=some (v,ids')/\ids'=ids):cU v x s:=by obtain ⟨i,h1,_⟩:=h;exact ⟨i,h1⟩
end
theorem PM (h:gI t e z ag b) {zv:AV} (hz:zero Tryz.ty e=some zv) (n:Nat) (h1:n * b<=2 ^ 40) (h2:n<=2 ^ 40) (k k':IntKind) (id:Nat) (s:St) :
  mkS Tryz.ty t (.int k n) (.int k' n) id s=some (.ref id 0 n (some n) e,s.set id (some (.cells (List.replicate n zv.cells).flatten e true true))):=by
 have hl:zv.cells.length=z:=by have:=h.zr;rw [hz] at this;simpa using this
 have hm:(n:Int) * ((b:Nat):Int)<=(most:Int)/\(n:Int)<=(most:Int):=by have:(most:Nat)=2 ^ 40:=rfl;rw [this];refine ⟨?_,by omega⟩;have:((n * b:Nat):Int)<=((2 ^ 40:Nat):Int):=Int.ofNat_le.2 h1;rw [Int.natCast_mul] at this;exact this
 unfold mkS;simp only [h.u,h.l,h.b,hz,pF];rw [if_pos ⟨by omega,trivial,hm.1,hm.2,hl,h.pos⟩,Int.toNat_natCast]
theorem DG {v:AV} (n:Nat):(List.replicate n [v]).flatten=List.replicate n v:=by
 induction n with
 | zero=>rfl
 | succ n ih=>rw [List.replicate_succ,List.flatten_cons,ih,List.replicate_succ];rfl
theorem TF {α:Type} {f:α->AV} {l:List α} {c:Option Nat} {ex wr:Bool} {e':TypeId} (h:gI t e 1 false b) (hs:s.h id=some (.cells (l.map f) e' ex wr)) (h1:∀ a∈l,(f a).closed=true) (h2:∀ a∈l,iK (f a)=true) (k:Nat):pur mEv.P s (k+1) (.ref id 0 l.length c e)=some (.sl false (l.map f),[id]):=by
 have h3:eN mEv.P e=some (1,false):=h.l;have hp:dJ (pur mEv.P s k) (l.map f)=some (l.map f,[]):=iH (s:=s) k (kZ f l h1);have hnc:(AV.ref id 0 l.length c e).closed=false:=rfl;have hall:(l.map f).all iK=true:=m032.2 fun v hv=>by obtain ⟨a,ha,rfl⟩:=m021.1 hv;exact h2 a ha
 have htk:((l.map f).drop 0).take (l.length * 1)=l.map f:=by rw [m048,FJ];exact m014 (by simp)
 have e1:pur mEv.P s (k+1) (.ref id 0 l.length c e)=if 0+l.length * 1<=(l.map f).length/\0 < 1 then
      (dJ (pur mEv.P s k) (((l.map f).drop 0).take (l.length * 1))).bind fun r=>if false||(Nat.beq 1 1&&r.1.all iK) then some (.sl false (if false then nO 1 l.length r.1 else r.1),id::r.2) else none else none:=by
  conv=>lhs;unfold pur
  rw [hnc,if_neg (by simp)];simp only [hs,h3]
 rw [e1,if_pos ⟨by simp,by decide⟩,htk,hp];simp;exact h2
theorem aDz:∀ (ws c:List AV) (n:Nat),ws.length=n->n<=c.length->cD c 0 ws=ws++c.drop n:=by
 have key:∀ (ws fF c:List AV),ws.length<=c.length->cD (fF++c) fF.length ws=fF++ws++c.drop ws.length:=by
  intro ws
  induction ws with
  | nil=>intro fF c _;simp [cD]
  | cons v l ih =>
   intro fF c h
   match c,h with
   | y::c,h =>
    simp only [cD];have e:(fF++y::c).set fF.length v=(fF++[v])++c:=by simp
    have:=ih (fF++[v]) c (by simpa using h);rw [e];simpa using this
 intro ws c n h1 h2;have:=key ws [] c (by omega);simpa [h1] using this
theorem aPo {α:Type} {f:α->AV} {l:List α} {c:List AV} {cp:Option Nat} {e':TypeId} {ex ex2:Bool} {n k:Nat} (h:gI t e 1 false b) (hf:FX f 1) (hf1:∀ a,(f a).cells=[f a]) (hs:s.h id=some (.cells c e' ex2 true)) (hc:c.length=n) (hn:n<=l.length) :
  bt .copy #[t,t] [.ref id 0 n cp e,.sl ex (l.map f)] k s=some (.int .i64 n,s.set id (some (.cells ((l.take n).map f) e' ex2 true))):=by
 have h1:dZ (bX mEv).P t=some (.slice e):=h.u;have h2:eN (bX mEv).P e=some (1,false):=h.l;have hall:(l.map f).all (fun v=>v.cells.length==1)=true:=m032.2 fun v hv=>by obtain ⟨a,_,rfl⟩:=m021.1 hv;simp [hf.len]
 have hflat:(l.map f).flatMap AV.cells=l.map f:=jO fun v hv=>by obtain ⟨a,_,rfl⟩:=m021.1 hv;exact hf1 a
 have hones:((l.map f).take n).all AV.one=true:=by rw [m032];intro v hv;obtain ⟨a,_,rfl⟩:=m021.1 (List.mem_of_mem_take hv);have:=hf.ones a;rw [hf1] at this;simpa using this
 have hsrc:aR 1 (.sl ex (l.map f)) s=some (l.map f):=by simp only [aR,hall,if_true,hflat]
 have hmin:min ((l.map f).length / 1) n=n:=by rw [m002,Nat.div_one];omega
 have hset:cD c 0 ((l.map f).take n)=(l.take n).map f:=by rw [aDz _ c n (by rw [m020,m002];omega) (by omega),m037 (by omega),m011,List.map_take]
 have hcp:oX 1 (.ref id 0 n cp e) (l.map f) s=some (.int .i64 n,s.set id (some (.cells ((l.take n).map f) e' ex2 true))):=by unfold oX;simp only [hs,hmin,FJ,m023];rw [if_pos ⟨by omega,hones⟩,hset]
 simp only [bt,bG,List.getElem?_toArray,List.getElem?_cons_zero,Option.bind_some,h1,h2,Nat.one_ne_zero,if_false,hsrc,hcp]
theorem rO {e:TypeId} {i id n:Nat} {c:Option Nat} (h:i < n) (k:IntKind):cA 1 (.ref id 0 n c e) (.int k (i:Int))=some (.ptr id i):=by have:=aGw (e:=e) (z:=1) (id:=id) (off:=0) (c:=c) h k;rw [this];simp
theorem bIp {k:Nat} (h:k < 2 ^ 63):IntKind.i64.wrap (k:Int)=(k:Int):=IntWalk.i64_in _ (by omega)
end
theorem aNr:(false==true)=false:=rfl
theorem aOp:(true==false)=false:=rfl
theorem wx:type_of% (And.intro @and_true <| And.intro @true_and <| And.intro @shiftP_ptr <| And.intro @shiftP_pel <| And.intro @Bnd_some <| And.intro @IfP_bool <| And.intro @Gd_some <| And.intro @ld_ptr <| And.intro @ld_pel <| And.intro @adv_h <| And.intro @adv_nx <| And.intro @set_nx <| And.intro @part_one <| And.intro @un_not <| And.intro @wantV_bool <| And.intro @pickV_bool <| And.intro @extr_tup <| And.intro @bin_lss <| And.intro @bin_leq <| And.intro @bin_gtr <| And.intro @bin_geq <| And.intro @bin_eql <| And.intro @bin_neq <| And.intro @bin_seql <| And.intro @bin_sneq <| And.intro @bin_add <| And.intro @bin_sub <| And.intro @m015 <| And.intro @m025 <| And.intro @m027 <| And.intro @Bnd_none <| And.intro @get_set <| And.intro @nx_drop <| And.intro @get_drop' <| And.intro @adv_set <| And.intro @adv_two <| And.intro @adv_drop <| And.intro @set_set <| And.intro @m066 <| And.intro @Nat.add_left_cancel_iff <| And.intro @Nat.left_eq_add <| And.intro @Nat.add_eq_left <| And.intro @Nat.add_zero <| And.intro @wantV_tup <| And.intro @resC_nil <| And.intro @resC_some <| And.intro @retP_some <| And.intro @map_some' <| And.intro @tupV_one <| And.intro @tupV_two <| And.intro @idOf_ref <| And.intro @idOf_nils <| And.intro @idOf_ptr <| And.intro @idOf_sl <| And.intro @idOf_pel <| And.intro @drop_nil <| And.intro @drop_cons <| And.intro @bin_mul <| And.intro @m078 <| And.intro @Bool.or_false <| And.intro @m059 <| And.intro @m071 <| And.intro @m031 <| And.intro @m035 <| And.intro @m033 <| And.intro @m026 <| And.intro aNr aOp):=And.intro @and_true <| And.intro @true_and <| And.intro @shiftP_ptr <| And.intro @shiftP_pel <| And.intro @Bnd_some <| And.intro @IfP_bool <| And.intro @Gd_some <| And.intro @ld_ptr <| And.intro @ld_pel <| And.intro @adv_h <| And.intro @adv_nx <| And.intro @set_nx <| And.intro @part_one <| And.intro @un_not <| And.intro @wantV_bool <| And.intro @pickV_bool <| And.intro @extr_tup <| And.intro @bin_lss <| And.intro @bin_leq <| And.intro @bin_gtr <| And.intro @bin_geq <| And.intro @bin_eql <| And.intro @bin_neq <| And.intro @bin_seql <| And.intro @bin_sneq <| And.intro @bin_add <| And.intro @bin_sub <| And.intro @m015 <| And.intro @m025 <| And.intro @m027 <| And.intro @Bnd_none <| And.intro @get_set <| And.intro @nx_drop <| And.intro @get_drop' <| And.intro @adv_set <| And.intro @adv_two <| And.intro @adv_drop <| And.intro @set_set <| And.intro @m066 <| And.intro @Nat.add_left_cancel_iff <| And.intro @Nat.left_eq_add <| And.intro @Nat.add_eq_left <| And.intro @Nat.add_zero <| And.intro @wantV_tup <| And.intro @resC_nil <| And.intro @resC_some <| And.intro @retP_some <| And.intro @map_some' <| And.intro @tupV_one <| And.intro @tupV_two <| And.intro @idOf_ref <| And.intro @idOf_nils <| And.intro @idOf_ptr <| And.intro @idOf_sl <| And.intro @idOf_pel <| And.intro @drop_nil <| And.intro @drop_cons <| And.intro @bin_mul <| And.intro @m078 <| And.intro @Bool.or_false <| And.intro @m059 <| And.intro @m071 <| And.intro @m031 <| And.intro @m035 <| And.intro @m033 <| And.intro @m026 <| And.intro aNr aOp
end
noncomputable section
theorem bPd (a b:Bool):bn .eql 4 (.bool a) (.bool b)=some (.bool (a==b)):=by kernel_rfl
theorem bKm (a b:Bool):bn .neq 4 (.bool a) (.bool b)=some (.bool !(a==b)):=by kernel_rfl
theorem bAz (x:List UInt8) (id:Nat) (s:St):bt .len #[9] [.str x] id s=some (.int .i64 x.length,s):=by kernel_rfl
theorem HZ:gI 22 211 1 false 4:=⟨by kernel_rfl,by kernel_rfl,by kernel_rfl,by kernel_rfl,by decide⟩
theorem kJ (ex:Bool) (l:List AV) (id:Nat) (s:St):bt .len #[22] [.sl ex l] id s=some (.int .i64 l.length,s):=by kernel_rfl
theorem aTg:zr 24=some (.agg [.bool false,.nils]):=by kernel_rfl
theorem bAo (l:List (Nat×AV)):eE 24 l=(lJ (fun i=>[(0,1),(1,1)][i]?) [.bool false,.nils] l).map .agg:=by kernel_rfl
theorem aRk:gI 25 109 2 true 16:=⟨by kernel_rfl,by kernel_rfl,by kernel_rfl,by kernel_rfl,by decide⟩
theorem kI (ex:Bool) (l:List AV) (id:Nat) (s:St):bt .len #[25] [.sl ex l] id s=some (.int .i64 l.length,s):=by kernel_rfl
theorem bKt (l:List (Nat×AV)):eE 27 l=(lJ (fun i=>[(0,1),(1,1),(2,2),(4,1)][i]?) [.int .i64 0,.bool false,.bool false,.nils,.nils] l).map .agg:=by kernel_rfl
theorem nB:gI 31 33 6 true 72:=⟨by kernel_rfl,by kernel_rfl,by kernel_rfl,by kernel_rfl,by decide⟩
theorem zB (ex:Bool) (l:List AV) (id:Nat) (s:St):bt .len #[31] [.sl ex l] id s=some (.int .i64 l.length,s):=by kernel_rfl
theorem aDi (id:Nat) (s:St):bt .len #[31] [.nils] id s=some (.int .i64 0,s):=by kernel_rfl
theorem bKj (i o n:Nat) (c:Option Nat) (e:TypeId) (id:Nat) (s:St):bt .len #[31] [.ref i o n c e] id s=some (.int .i64 n,s):=by kernel_rfl
theorem bJc {x:AV} {l:List AV} {s:St} (g:Gw 33 6 0 s x l) (id:Nat):bt .len #[31] [x] id s=some (.int .i64 l.length,s):=by
 obtain ⟨_,⟨rfl,rfl⟩ | ⟨i,_,rfl,_⟩⟩:=g
 ·exact aDi id s
 ·exact bKj ..
theorem bMf:zr 31=some (.nils):=by kernel_rfl
theorem jV:zr 33=some (.agg [.bool false,.int .i64 0,.str [],.int .i64 0,.int .i64 0,.nils]):=by kernel_rfl
theorem aYr (l:List (Nat×AV)):eE 33 l=(lJ (fun i=>[(0,1),(1,3),(4,1),(5,1)][i]?) [.bool false,.int .i64 0,.str [],.int .i64 0,.int .i64 0,.nils] l).map .agg:=by kernel_rfl
theorem aDr (i o:Nat):bn .eql 51 (.ptr i o) .nilp=some (.bool false):=by kernel_rfl
theorem bHo:gI 52 9 1 false 16:=⟨by kernel_rfl,by kernel_rfl,by kernel_rfl,by kernel_rfl,by decide⟩
theorem bDm (id:Nat) (s:St):bt .len #[52] [.nils] id s=some (.int .i64 0,s):=by kernel_rfl
theorem aXd (i o n:Nat) (c:Option Nat) (e:TypeId) (id:Nat) (s:St):bt .len #[52] [.ref i o n c e] id s=some (.int .i64 n,s):=by kernel_rfl
theorem bDn {x:AV} {l:List AV} {s:St} (g:Gw 9 1 0 s x l) (id:Nat):bt .len #[52] [x] id s=some (.int .i64 l.length,s):=by
 obtain ⟨_,⟨rfl,rfl⟩ | ⟨i,_,rfl,_⟩⟩:=g
 ·exact bDm id s
 ·exact aXd ..
theorem SJ:gI 56 101 7 true 112:=⟨by kernel_rfl,by kernel_rfl,by kernel_rfl,by kernel_rfl,by decide⟩
theorem uQ (ex:Bool) (l:List AV) (id:Nat) (s:St):bt .len #[56] [.sl ex l] id s=some (.int .i64 l.length,s):=by kernel_rfl
theorem bEe (id:Nat) (s:St):bt .len #[56] [.nils] id s=some (.int .i64 0,s):=by kernel_rfl
theorem bIg (i o n:Nat) (c:Option Nat) (e:TypeId) (id:Nat) (s:St):bt .len #[56] [.ref i o n c e] id s=some (.int .i64 n,s):=by kernel_rfl
theorem bFn {x:AV} {l:List AV} {s:St} (g:Gw 101 7 0 s x l) (id:Nat):bt .len #[56] [x] id s=some (.int .i64 l.length,s):=by
 obtain ⟨_,⟨rfl,rfl⟩ | ⟨i,_,rfl,_⟩⟩:=g
 ·exact bEe id s
 ·exact bIg ..
theorem bNr (l:List (Nat×AV)):eE 58 l=(lJ (fun i=>[(0,2),(2,1)][i]?) [.nils,.nilm,.nils] l).map .agg:=by kernel_rfl
theorem zH (ex:Bool) (l:List AV) (id:Nat) (s:St):bt .len #[69] [.sl ex l] id s=some (.int .i64 l.length,s):=by kernel_rfl
theorem JB:gI 72 3 1 false 8:=⟨by kernel_rfl,by kernel_rfl,by kernel_rfl,by kernel_rfl,by decide⟩
theorem dX (ex:Bool) (l:List AV) (id:Nat) (s:St):bt .len #[72] [.sl ex l] id s=some (.int .i64 l.length,s):=by kernel_rfl
theorem aUm (id:Nat) (s:St):bt .len #[72] [.nils] id s=some (.int .i64 0,s):=by kernel_rfl
theorem aIl (i o n:Nat) (c:Option Nat) (e:TypeId) (id:Nat) (s:St):bt .len #[72] [.ref i o n c e] id s=some (.int .i64 n,s):=by kernel_rfl
theorem bFp {x:AV} {l:List AV} {s:St} (g:Gw 3 1 0 s x l) (id:Nat):bt .len #[72] [x] id s=some (.int .i64 l.length,s):=by
 obtain ⟨_,⟨rfl,rfl⟩ | ⟨i,_,rfl,_⟩⟩:=g
 ·exact aUm id s
 ·exact aIl ..
theorem bNg:zr 74=some (.agg [.int .i64 0,.int .i64 0,.int .i64 0,.nils,.str [],.bool false,.bool false,.nils,.nils]):=by kernel_rfl
theorem HO:zr 101=some (.agg [.int .i64 0,.int .i64 0,.nils,.str [],.bool false,.nils,.nils]):=by kernel_rfl
theorem sG (l:List (Nat×AV)):eE 101 l=(lJ (fun i=>[(0,1),(1,1),(2,1),(3,1),(4,2),(6,1)][i]?) [.int .i64 0,.int .i64 0,.nils,.str [],.bool false,.nils,.nils] l).map .agg:=by kernel_rfl
theorem aVn:zr 109=some (.agg [.int .i64 0,.int .i64 0]):=by kernel_rfl
theorem bHp (l:List (Nat×AV)):eE 109 l=(lJ (fun i=>[(0,1),(1,1)][i]?) [.int .i64 0,.int .i64 0] l).map .agg:=by kernel_rfl
theorem bLo (l:List (Nat×AV)):eE 139 l=(lJ (fun i=>[(0,1),(1,1)][i]?) [.nilp,.int .i64 0] l).map .agg:=by kernel_rfl
theorem aLt:gI 161 5 1 false 1:=⟨by kernel_rfl,by kernel_rfl,by kernel_rfl,by kernel_rfl,by decide⟩
theorem bKw:zr 163=some (.agg [.nilp,.nils]):=by kernel_rfl
theorem CQ:gI 173 4 1 false 1:=⟨by kernel_rfl,by kernel_rfl,by kernel_rfl,by kernel_rfl,by decide⟩
theorem IE (ex:Bool) (l:List AV) (id:Nat) (s:St):bt .len #[173] [.sl ex l] id s=some (.int .i64 l.length,s):=by kernel_rfl
theorem bHv:zr 192=some (.agg [.int .i64 0,.bool false,.int .i64 0,.int .i64 0,.int .i64 0,.int .i64 0]):=by kernel_rfl
theorem aVz:zr 211=some (.int .u32 0):=by kernel_rfl
theorem aYa:gI 221 31 1 false 24:=⟨by kernel_rfl,by kernel_rfl,by kernel_rfl,by kernel_rfl,by decide⟩
theorem bCm (ex:Bool) (l:List AV) (id:Nat) (s:St):bt .len #[221] [.sl ex l] id s=some (.int .i64 l.length,s):=by kernel_rfl
theorem bEl:zr 223=some (.agg [.int .u8 0,.int .u8 0,.int .u8 0,.int .u8 0,.int .u8 0,.int .u8 0,.int .u8 0,.int .u8 0,.int .u8 0]):=by kernel_rfl
theorem aPc (k:IntKind) (n:Int) (s:St):cv 2 159 (.int k n) s=some (.int .u64 (IntKind.wrap .u64 n)):=by kernel_rfl
theorem bIr (k:IntKind) (n:Int) (s:St):cv 3 5 (.int k n) s=some (.int .u8 (IntKind.wrap .u8 n)):=by kernel_rfl
theorem aTq (k:IntKind) (n:Int) (s:St):cv 3 159 (.int k n) s=some (.int .u64 (IntKind.wrap .u64 n)):=by kernel_rfl
theorem TK (k:IntKind) (n:Int) (s:St):cv 3 213 (.int k n) s=some (.int .u64 (IntKind.wrap .u64 n)):=by kernel_rfl
theorem aQb (k:IntKind) (n:Int) (s:St):cv 159 5 (.int k n) s=some (.int .u8 (IntKind.wrap .u8 n)):=by kernel_rfl
theorem aAp (k:IntKind) (n:Int) (s:St):cv 159 211 (.int k n) s=some (.int .u32 (IntKind.wrap .u32 n)):=by kernel_rfl
theorem aBe (k:IntKind) (n:Int) (s:St):cv 211 159 (.int k n) s=some (.int .u64 (IntKind.wrap .u64 n)):=by kernel_rfl
end
noncomputable section
section
variable {x y:List UInt8} {s:St} {i j n:Nat}
def oW (c:UInt8):AV:=.int .u8 c.toNat
theorem WQ:dZ Tryz.ty 9=some .string:=by kernel_rfl
theorem rW (k:IntKind) {c:UInt8} (h:x[i]?=some c):uK 9 (.str x) (.int k (i:Int))=some (.int .u8 c.toNat):=by obtain ⟨hi,rfl⟩:=m012.1 h;simp [uK,yE,pF,WQ,zK,hi]
theorem aZj (k:IntKind) (h:n<=x.length):jM 9 (.str x) none (some (.int k (n:Int))) none s=some (.str (x.take n)):=by simp [jM,fJ,WQ,eF,pK,pF,h]
theorem aZu (k:IntKind) (h:n<=x.length):jM 9 (.str x) (some (.int k (n:Int))) none none s=some (.str (x.drop n)):=by simp [jM,fJ,WQ,eF,pK,pF,h];exact m014 (by simp)
theorem aNy (k k':IntKind) (h:n<=j) (h':j<=x.length):jM 9 (.str x) (some (.int k (n:Int))) (some (.int k' (j:Int))) none s=some (.str ((x.drop n).take (j - n))):=by simp [jM,fJ,WQ,eF,pK,pF,h,h']
theorem aEv {t:TypeId} (h:x.length+y.length<=ID):lA (T:=Tryz.ty) Tryz.eqOk .add t (.str x) (.str y)=some (.str (x++y)):=by simp [lA,IH,h]
theorem eJ {t:TypeId} (h:x.length+y.length<=2 ^ 46):bn .add t (.str x) (.str y)=some (.str (x++y)):=aEv h
theorem aHm:dZ Tryz.ty 161=some (.slice 5):=by kernel_rfl
theorem bGu:dZ Tryz.ty 5=some (.int .u8):=by kernel_rfl
theorem aVd:FX oW 1:=⟨fun _=>rfl,fun _=>rfl⟩
theorem SU (bs:List UInt8):fW (bs.map oW)=some (bs.map fun c=>(c.toNat:Int)):=by
 induction bs with
 | nil=>rfl
 | cons c l ih =>simp only [m039,fW,ih];rfl
theorem ON (bs:List UInt8):(bs.map fun c=>(c.toNat:Int)).map (fun n=>UInt8.ofNat n.toNat)=bs:=by
 induction bs with
 | nil=>rfl
 | cons c l ih=>simp only [m039,ih,Int.toNat_natCast,UInt8.ofNat_toNat]
theorem JN {fF bs post:List UInt8} {id off n:Nat} {cp:Option Nat} {e e':TypeId} {ex wr:Bool} (hs:s.h id=some (.cells ((fF++bs++post).map oW) e' ex wr)) (ho:fF.length=off) (hn:bs.length=n):cv 161 9 (.ref id off n cp e) s=some (.str bs):=by
 have h1:((((fF++bs++post).map oW).drop off).take n)=bs.map oW:=by rw [<- List.map_drop,<- List.map_take,m019,<- ho,List.drop_left,<- hn,List.take_left]
 have h2:off+n<=((fF++bs++post).map oW).length:=by simp;omega
 simp only [cv,kG,aHm,WQ,bGu,hs];rw [if_pos h2,h1,SU];simp only [Option.map_some,ON]
theorem CZ {f:FuncId} {g:List AV->St->Option (AV×St)} {args:List AV} {s':St} {r:AV} (h:mEv.prim f=some g) (hg:g args s=some (r,s')):WideC mEv f args s r s':=⟨1,by rw [sU,h];exact hg⟩
end
end
noncomputable section
def sC (n:Nat):AV:=.int .u32 (n:Int)
theorem HX:FX sC 1:=⟨fun _=>rfl,fun _=>rfl⟩
def iV (a:List Nat):AV:=.sl false (a.map sC)
theorem HA (a:List Nat):aW (a.map sC)=true:=kZ _ _ fun _ _=>rfl
theorem cR (a:List Nat):(iV a).closed=true:=cJ _ _ fun _ _=>rfl
def dB (a:List Nat):Prop:=∀ x∈a,x < 2 ^ 32
theorem p32:(2:Nat) ^ 32=4294967296:=rfl
theorem p64:(2:Nat) ^ 64=18446744073709551616:=rfl
theorem aRs (x:Nat):(sC x).cells[0]?=some (.int .u32 (x:Int)):=rfl
def gG (a:List Nat):Nat->Nat
 | 0=>0
 | n+1=>cond (a[n]?==some 0) (gG a n) (n+1)
def aV (a:List Nat):List Nat:=a.take (gG a a.length)
theorem pD (a:List Nat):∀ n,gG a n<=n:=by
 intro n
 induction n with
 | zero=>exact bH 0
 | succ n ih=>simp only [gG];cases (a[n]?==some 0)<;>simp only [cond_true,cond_false]<;>omega
theorem bMv (a:List Nat) (Q:aC) (ha:a.length<=2 ^ 30):∀ (n:Nat) (s:St),n<=a.length->(∀ c,yB Q (.int .i64 (gG a n)) (iV a) (adv s c))->xA Q (n+1) (iV a) (.int .i64 n) s:=by
 intro n
 induction n with
 | zero =>intro s hn hj;show vV Q (xA Q 0) _ _ s;simp only [vV,show decide (((0:Nat):Int) > 0)=false from rfl,wx,wy,Z0,Z1,reduceCtorEq];exact hj 10
 | succ n ih =>
  intro s hn hj;show vV Q (xA Q (n+1)) _ _ s;obtain ⟨x,hx⟩:∃ x,a[n]?=some x:=⟨_,m004 (by omega)⟩;have h1:decide (((n+1:Nat):Int) > 0)=true:=by simp
  have h2:IntKind.i64.wrap (((n+1:Nat):Int) - 1)=(n:Int):=by rw [IntWalk.i64_in _ (by omega)];try omega
  simp only [vV,h1,h2,iV,bP HX false hx,aRs,wx,wy,Z0,Z1,reduceCtorEq];simp only [gG,hx] at hj
  cases h0:(x==0) with
  | true =>
   have e:((x:Int)==0)=true:=by simpa using h0
   have e2:(some x==some 0)=true:=by simpa using h0
   rw [e2] at hj;simp only [e,h2,wx,wy,Z0,Z1,reduceCtorEq];exact ih _ (by omega) fun c=>by rw [adv_two];exact hj _
  | false =>
   have e:((x:Int)==0)=false:=by simpa using h0
   have e2:(some x==some 0)=false:=by simpa using h0
   rw [e2] at hj;simp only [e,wx,wy,Z0,Z1,reduceCtorEq];exact hj _
theorem bPw (a:List Nat) (ha:a.length<=2 ^ 30) (k:Nat) (hk:k<=a.length) (s:St):yB (cU (iV (a.take k))) (.int .i64 k) (iV a) s:=by
 have hz:zero Tryz.ty 211=some (.int .u32 0):=aVz;unfold yB;simp only [PM HZ hz k (by omega) (by omega),AV.cells,DG,wx,wy,Z0,Z1,reduceCtorEq];have hcp:=fun (id j n:Nat) (s:St)=>aPo (id:=id) (k:=j) (s:=Ai.adv (s.set id (some (.cells (List.replicate k (.int .u32 0)) 211 true true))) n) (cp:=some k) (ex:=false) (l:=a) (f:=sC) HZ HX (fun _=>rfl) (by rw [adv_h,aG]) (List.length_replicate (n:=k)) hk;simp only [iV,hcp,wx,wy,Z0,Z1,reduceCtorEq];have hl:(a.take k).length=k:=by rw [m020];omega
 have:=TF (s:=Ai.adv (s.set (s.nx+1) (some (.cells ((a.take k).map sC) 211 true true))) 8) (id:=s.nx+1) (c:=some k) (k:=11) (l:=a.take k) (f:=sC) HZ (by rw [adv_h,aG]) (fun _ _=>rfl) (fun _ _=>rfl);rw [hl] at this;exact ⟨_,this⟩
theorem bCu (a:List Nat) (ha:a.length<=2 ^ 30):aU mEv 110 [iV a] (iV (aV a)):=by refine bC (aDu _ _ ?_);unfold f110;simp only [iV,kJ,m002,wx,wy,Z0,Z1,reduceCtorEq];exact ⟨_,bMv a _ ha a.length _ (bH _) fun c=>bPw a ha _ (pD a _) _⟩
def val:List Nat->Nat
 | []=>0
 | x::a=>x+4294967296 * val a
def pw (n:Nat):Nat:=4294967296 ^ n
theorem UR (n:Nat):pw (n+1)=4294967296 * pw n:=by unfold pw;rw [Nat.pow_succ,Nat.mul_comm]
theorem bCo (n:Nat):0 < pw n:=Nat.pow_pos (by decide)
theorem VP:pw 0=1:=rfl
theorem CA (a b:List Nat):val (a++b)=val a+pw a.length * val b:=by
 induction a with
 | nil=>simp [val,VP]
 | cons x a ih =>simp only [List.cons_append,val,ih,List.length_cons,UR];rw [Nat.mul_add,Nat.mul_assoc,m066]
theorem aFw (a:List Nat) (h:dB a):val a < pw a.length:=by
 induction a with
 | nil=>simp [val,VP]
 | cons x a ih =>have hx:=h x (m007 ..);have h2:=ih fun y hy=>h y (m005 _ hy);simp only [val,List.length_cons,UR];rw [p32] at hx;generalize pw a.length=K at h2;omega
theorem lF (a:List Nat):∀ n,n<=a.length->val (a.take (gG a n))=val (a.take n)/\(gG a n=0\/∃ x,a[gG a n - 1]?=some x/\x≠0):=by
 intro n
 induction n with
 | zero=>intro _;exact ⟨rfl,.inl rfl⟩
 | succ n ih =>
  intro hn;simp only [gG];obtain ⟨x,hx⟩:∃ x,a[n]?=some x:=⟨_,m004 (by omega)⟩
  cases h:(a[n]?==some 0) with
  | true =>
   simp only [cond_true];obtain ⟨h1,h2⟩:=ih (by omega);refine ⟨?_,h2⟩;rw [h1,m062,hx,CA];have:x=0:=by rw [hx] at h;simpa using h
   subst this;simp [val]
  | false =>refine ⟨rfl,.inr ⟨x,by simpa using hx,fun h0=>?_⟩⟩;rw [hx,h0] at h;simp at h
theorem gM (a:List Nat):val (aV a)=val a:=by have:=(lF a a.length (bH _)).1;rw [m045] at this;exact this
theorem cO {a:List Nat} (h:dB a):dB (aV a):=fun x hx=>h x (List.mem_of_mem_take hx)
theorem lY (a:List Nat):(aV a).length<=a.length:=by unfold aV;rw [m020];omega
theorem jJ {a:List Nat} (h:dB a):val (aV a)=0↔aV a=[]:=by
 constructor
 ·intro hv;rcases (lF a a.length (bH _)).2 with h0 | ⟨x,hx,h0⟩
  ·unfold aV;rw [h0];rfl
  ·exfalso;have hle:=pD a a.length
   have hpos:0 < gG a a.length:=by
    rcases MZ (gG a a.length) with hz | hz
    ·unfold aV at hv;rw [hz] at hx;have:gG a a.length - 1=0:=by omega
     by_cases ha:a.length=0
     ·have:a=[]:=List.length_eq_zero_iff.1 ha;subst this;simp at hx
     ·exfalso;have h3:=(lF a a.length (bH _)).1;rw [hz,List.take_zero,m045] at h3
      match a,hx,h3 with
      | y::t,hx,h3 =>
       have:y=x:=by simpa using hx
       have h4:0=y+4294967296 * val t:=h3;omega
    ·exact hz
   have e:aV a=a.take (gG a a.length - 1)++[x]:=by
    unfold aV
    conv=>lhs;rw [show gG a a.length=(gG a a.length - 1)+1 by omega,m062,hx]
    rfl
   rw [e,CA] at hv;simp only [val] at hv;have:0 < pw (a.take (gG a a.length - 1)).length * (x+4294967296 * 0):=Nat.mul_pos (bCo _) (by omega);omega
 ·intro h0;rw [h0];rfl
def aZ (n:Nat):List Nat->List Nat×Nat
 | []=>([],0)
 | x::t=>(((aZ n t).2 * 4294967296+x) / n::(aZ n t).1,((aZ n t).2 * 4294967296+x) % n)
theorem rN (n:Nat) (a:List Nat):(aZ n a).1.length=a.length:=by
 induction a with
 | nil=>rfl
 | cons x t ih=>simp [aZ,ih]
theorem pN (n:Nat) (h:0 < n) (a:List Nat):(aZ n a).2 < n:=by
 cases a with
 | nil=>exact h
 | cons x t=>exact Nat.mod_lt _ h
theorem mG (n:Nat) (h:0 < n) (a:List Nat) (ha:dB a):dB (aZ n a).1:=by
 induction a with
 | nil=>intro x hx;cases hx
 | cons x t ih =>
  intro y hy;simp only [aZ,m013] at hy;rcases hy with rfl | hy
  ·have h1:=ha x (m007 ..);have h2:=pN n h t;refine Nat.div_lt_of_lt_mul ?_;have:((aZ n t).2+1) * 4294967296<=n * 4294967296:=zQ _ h2;rw [vL] at this;rw [p32] at h1 ⊢;omega
  ·exact ih (fun z hz=>ha z (m005 _ hz)) y hy
theorem wV (n:Nat) (h:0 < n) (a:List Nat):val (aZ n a).1 * n+(aZ n a).2=val a:=by
 induction a with
 | nil=>simp [aZ,val]
 | cons x t ih =>
  simp only [aZ,val];have e:=Nat.div_add_mod ((aZ n t).2 * 4294967296+x) n;rw [<- ih]
  have:(((aZ n t).2 * 4294967296+x) / n+4294967296 * val (aZ n t).1) * n+((aZ n t).2 * 4294967296+x) % n
    = (n * (((aZ n t).2 * 4294967296+x) / n)+((aZ n t).2 * 4294967296+x) % n)+4294967296 * (val (aZ n t).1 * n):=by
   rw [pX,Nat.mul_comm n,Nat.mul_assoc];omega
  rw [this,e];rw [Nat.mul_add];omega
theorem bCt {r x:Nat} (hr:r < 2 ^ 32) (hx:x < 2 ^ 32):DU .or .u64 (IntKind.u64.wrap ((r:Int) * 2 ^ 32)) (x:Int)=((r * 4294967296+x:Nat):Int):=by
 have e1:IntKind.u64.wrap ((r:Int) * 2 ^ 32)=((r * 4294967296:Nat):Int):=by rw [IntWalk.u64_in _ (by rw [p32] at hr;omega)];simp
 have e2:(BitVec.ofInt 64 ((r * 4294967296:Nat):Int)).toNat=r * 4294967296:=by rw [BitVec.ofInt_natCast,BitVec.toNat_ofNat,Nat.mod_eq_of_lt (by rw [p32] at hr;rw [p64];omega)]
 have e3:(BitVec.ofInt 64 (x:Int)).toNat=x:=by rw [BitVec.ofInt_natCast,BitVec.toNat_ofNat,Nat.mod_eq_of_lt (by rw [p32] at hx;rw [p64];omega)]
 rw [e1];show IntKind.u64.wrap (((BitVec.ofInt 64 _ ||| BitVec.ofInt 64 _:BitVec 64).toNat:Nat):Int)=_;rw [BitVec.toNat_or,e2,e3];have h:=Nat.shiftLeft_add_eq_or_of_lt (i:=32) hx r;rw [Nat.shiftLeft_eq] at h;rw [show (4294967296:Nat)=2 ^ 32 from rfl,<- h];rw [IntWalk.u64_in _ (by rw [p32] at hr hx ⊢;omega)]
theorem bAy {T:Ty} {q:TypeId->Bool} {t:TypeId} {k:IntKind} {a b:Int}:lA T q .or t (.int k a) (.int k b)=some (.int k (DU .or k a b)):=by simp [lA,dC,eL]
theorem aQd {T:Ty} {q:TypeId->Bool} {t:TypeId} {k k':IntKind} {a:Int} {n:Nat} (h:n<=k.bits):lA T q .shl t (.int k a) (.int k' (n:Int))=some (.int k (k.wrap (a * 2 ^ n))):=by
 have:¬ ((n:Int) < 0):=by omega
 simp [lA,dC,eL,this,Nat.min_eq_left h]
theorem aSy {T:Ty} {q:TypeId->Bool} {t:TypeId} {k k':IntKind} {a:Int} {n:Nat} (h:n<=k.bits):lA T q .shr t (.int k a) (.int k' (n:Int))=some (.int k (a.fdiv (2 ^ n))):=by
 have:¬ ((n:Int) < 0):=by omega
 simp [lA,dC,eL,this,Nat.min_eq_left h]
theorem vH {T:Ty} {q:TypeId->Bool} {t:TypeId} {k:IntKind} {a b:Nat} (h:b≠0):lA T q .quo t (.int k (a:Int)) (.int k (b:Int))=some (.int k (k.wrap ((a / b:Nat):Int))):=by
 have h1:¬ ((b:Int)=0):=by omega
 have h2:(a:Int).tdiv (b:Int)=((a / b:Nat):Int):=by rw [Int.tdiv_eq_ediv_of_nonneg (by omega)];rfl
 simp [lA,dC,eL,h,h2]
theorem vY {T:Ty} {q:TypeId->Bool} {t:TypeId} {k:IntKind} {a b:Nat} (h:b≠0):lA T q .rem t (.int k (a:Int)) (.int k (b:Int))=some (.int k ((a % b:Nat):Int)):=by
 have h1:¬ ((b:Int)=0):=by omega
 have h2:(a:Int).tmod (b:Int)=((a % b:Nat):Int):=by rw [Int.tmod_eq_emod_of_nonneg (by omega)];rfl
 simp [lA,dC,eL,h,h2]
theorem AE {α:Type} {a:List α} {x v:α} {b:List α}:(a++x::b).set a.length v=a++v::b:=by simp
theorem bMg (a:List Nat) (hl:dB a) (ha:a.length<=2 ^ 30) (n:Nat) (h0:0 < n) (hn:n<=2 ^ 32) (Q:aC) (N c:Nat) (e':TypeId)
  (hQ:∀ s,s.h N=some (.cells ((aZ n a).1.map sC) e' true true)->xC Q (.ref N 0 a.length (some c) 211) (.int .u64 (aZ n a).2) s) :
  ∀ (i:Nat) (s:St),i<=a.length->s.h N=some (.cells ((List.replicate i 0++(aZ n (a.drop i)).1).map sC) e' true true) ->
   pR Q (i+1) (iV a) (.int .u64 n) (.ref N 0 a.length (some c) 211) (.int .u64 (aZ n (a.drop i)).2) (.int .i64 ((i:Int) - 1)) s:=by
 intro i
 induction i with
 | zero =>intro s hi hs;show vX Q (pR Q 0) _ _ _ _ _ s;simp only [vX,show decide (((0:Nat):Int) - 1 >= 0)=false from rfl,wx,wy,Z0,Z1,reduceCtorEq];refine hQ _ ?_;simpa [adv_h] using hs
 | succ i ih =>
  intro s hi hs;show vX Q (pR Q (i+1)) _ _ _ _ _ s;obtain ⟨x,hx⟩:∃ x,a[i]?=some x:=⟨_,m004 (by omega)⟩;have hxl:=hl x (m017 hx);have hrl:(aZ n (a.drop (i+1))).2 < 2 ^ 32:=HT (pN n h0 _) hn;have h1:decide (((i+1:Nat):Int) - 1 >= 0)=true:=by simp
  have h2:((i+1:Nat):Int) - 1=(i:Int):=by omega
  have h3:IntKind.i64.wrap ((i:Int) - 1)=(i:Int) - 1:=IntWalk.i64_in _ (by omega);have e:=cK a i x hx;have hq:((aZ n (a.drop (i+1))).2 * 4294967296+x) / n < 2 ^ 32:=by have:=mG n h0 (a.drop i) (fun y hy=>hl y (List.mem_of_mem_drop hy));rw [e] at this;exact this _ (m007 ..)
  have hor:=bCt hrl hxl;have hshl:∀ (r:Int),bn .shl 159 (.int .u64 r) (.int .u64 32)=some (.int .u64 (IntKind.u64.wrap (r * 2 ^ 32))):=fun r=>aQd (n:=32) (by decide);simp only [h2] at h1 ⊢;simp only [vX,h1,hshl,iV,bP HX false hx,aRs,aBe,wx,wy,Z0,Z1,reduceCtorEq];rw [show IntKind.u64.wrap (x:Int)=(x:Int) from IntWalk.u64_in _ (by rw [p32] at hxl;omega)];simp only [bAy,hor,wx,wy,Z0,Z1,reduceCtorEq];have hne:n≠0:=by omega
  generalize hyy:(aZ n (a.drop (i+1))).2 * 4294967296+x=y at *;have hqq:bn .quo 159 (.int .u64 (y:Int)) (.int .u64 (n:Int))=some (.int .u64 (IntKind.u64.wrap ((y / n:Nat):Int))):=vH hne;have hrr:bn .rem 159 (.int .u64 (y:Int)) (.int .u64 (n:Int))=some (.int .u64 ((y % n:Nat):Int)):=vY hne;have es:aZ n (a.drop i)=(y / n::(aZ n (a.drop (i+1))).1,y % n):=by rw [e,aZ,hyy]
  generalize hD:y / n=D at *;rw [p32] at hq;rw [show IntKind.u64.wrap (D:Int)=(D:Int) from IntWalk.u64_in _ (by omega)] at hqq;simp only [hqq,hrr,aAp,rO (show i < a.length by omega),wx,wy,Z0,Z1,reduceCtorEq];rw [show IntKind.u32.wrap (D:Int)=(D:Int) from IntWalk.u32_in _ (by omega)];have hset:((List.replicate (i+1) 0++(aZ n (a.drop (i+1))).1).map sC).set i (.int .u32 (D:Int))=(List.replicate i 0++(aZ n (a.drop i)).1).map sC:=by rw [es,List.replicate_succ'];have:=AE (a:=(List.replicate i 0).map sC) (x:=sC 0) (v:=(.int .u32 (D:Int))) (b:=(aZ n (a.drop (i+1))).1.map sC);rw [m002,List.length_replicate] at this;simp only [m019,List.singleton_append,m038,m039];exact this
  rw [nJ (by rw [adv_h];exact hs) (by simp [rN];omega) rfl rfl,hset];simp only [wx,wy,Z0,Z1,reduceCtorEq,PP,h3];have:=ih (Ai.adv (s.set N (some (.cells ((List.replicate i 0++(aZ n (a.drop i)).1).map sC) e' true true))) 26) (by omega) (by rw [adv_h,aG]);rw [es] at this;simp only [es];exact this
theorem bPx (a:List Nat) (hl:dB a) (ha:a.length<=2 ^ 30) (n:Nat) (h0:0 < n) (hn:n<=2 ^ 32):aU mEv 111 [iV a,.int .u64 n] (.tup [iV (aV (aZ n a).1),.int .u64 (aZ n a).2]):=by
 refine bC (aKs _ _ _ ?_);have hz:zero Tryz.ty 211=some (.int .u32 0):=aVz;have hc0:(AV.int .u32 0).cells=[.int .u32 0]:=rfl;unfold f111;simp only [iV,kJ,m002,PM HZ hz a.length (by omega) (by omega),hc0,DG,wx,wy,Z0,Z1,reduceCtorEq];rw [show IntKind.i64.wrap ((a.length:Int) - 1)=(a.length:Int) - 1 from IntWalk.i64_in _ (by omega)];refine ⟨a.length+1,?_⟩;have:=bMg a hl ha n h0 hn (cU (.tup [iV (aV (aZ n a).1),.int .u64 (aZ n a).2])) (St.empty.nx+4) a.length 211 (fun s hs=>?_) a.length (Ai.adv (St.empty.set (St.empty.nx+4) (some (.cells (List.replicate a.length (.int .u32 0)) 211 true true))) 11) (bH _) ?_
 ·simpa [aZ,iV] using this
 ·unfold xC;have hp:=TF (s:=Ai.adv s 5) (id:=St.empty.nx+4) (c:=some a.length) (k:=11) (l:=(aZ n a).1) (f:=sC) HZ (by rw [adv_h];exact hs) (fun _ _=>rfl) (fun _ _=>rfl);rw [rN] at hp;refine eR (args2:=[iV (aZ n a).1]) (ids:=[St.empty.nx+4]) (by simp only [dJ,hp,iV,m011]) (bCu _ (by rw [rN];exact ha)) ?_;exact aI (by simp only [AV.closed,aW,cR,gA])
 ·rw [adv_h,aG,List.drop_length];simp [aZ,sC]
def dQ:Nat->Nat->List UInt8
 | 0,_=>[]
 | k+1,n=>dQ k (n / 10)++[UInt8.ofNat (48+n % 10)]
theorem BQ (k n:Nat):(dQ k n).length=k:=by
 induction k generalizing n with
 | zero=>rfl
 | succ k ih=>simp [dQ,ih]
theorem bAl (id:Nat) (s:St) (c:List AV) (e':TypeId) (ex wr:Bool) (hs:s.h id=some (.cells c e' ex wr)) (hc:c.length=9):jM 223 (.ptr id 0) none none none s=some (.ref id 0 9 (some 9) 5):=by
 have h1:dZ Tryz.ty 223=some (.array 9 5):=by kernel_rfl
 have h2:eN Tryz.ty 5=some (1,false):=by kernel_rfl
 simp [jM,fJ,h1,h2,hs,hc,eF,pK]
theorem bLx (Q:aC) (N:Nat) (e':TypeId) (r:List UInt8) (hQ:∀ s,Q (.str r) s):∀ (i n:Nat) (done:List UInt8) (s:St),n < 2 ^ 64->done.length+i=9->r=dQ i n++done ->
  s.h N=some (.cells ((List.replicate i (0:UInt8)++done).map oW) e' true true)->pJ Q (i+1) (.int .u64 n) (.ptr N 0) (.int .i64 ((i:Int) - 1)) s:=by
 intro i
 induction i with
 | zero =>intro n done s hn hd hr hs;show vR Q (pJ Q 0) _ _ _ s;simp only [dQ,List.nil_append] at hr;subst hr;simp only [List.replicate_zero,List.nil_append] at hs;have h9:=bAl N (Ai.adv s 5) _ _ _ _ (by rw [adv_h];exact hs) (by rw [m002];omega);have hcv:=JN (fF:=[]) (post:=[]) (off:=0) (n:=9) (cp:=some 9) (e:=5) (s:=Ai.adv s 5) (id:=N) (bs:=r) (by rw [adv_h,List.nil_append,m011];exact hs) rfl (by omega);simp only [vR,show decide (((0:Nat):Int) - 1 >= 0)=false from rfl,CS,wx,wy,Z0,Z1,reduceCtorEq,h9,hcv];exact hQ _
 | succ i ih =>
  intro n done s hn hd hr hs;show vR Q (pJ Q (i+1)) _ _ _ s;have h2:((i+1:Nat):Int) - 1=(i:Int):=by omega
  have h1:decide ((i:Int) >= 0)=true:=by simp
  have h3:IntKind.i64.wrap ((i:Int) - 1)=(i:Int) - 1:=IntWalk.i64_in _ (by omega);have hrem:bn .rem 159 (.int .u64 (n:Int)) (.int .u64 10)=some (.int .u64 ((n % 10:Nat):Int)):=vY (b:=10) (by decide);have hquo:bn .quo 159 (.int .u64 (n:Int)) (.int .u64 10)=some (.int .u64 (IntKind.u64.wrap ((n / 10:Nat):Int))):=vH (b:=10) (by decide);rw [p64] at hn;rw [IntWalk.u64_in _ (by omega)] at hquo
  have hix:FD 9 1 (.ptr N 0) (.int .i64 (i:Int))=some (.ptr N i):=by
   have h8:i < 9:=by omega
   have h9:(i:Int) < 9:=by omega
   simp [FD,pF,zK,h8,h9,aD]
  have hw:IntKind.u8.wrap (IntKind.u64.wrap (48+((n % 10:Nat):Int)))=((UInt8.ofNat (48+n % 10)).toNat:Int):=by rw [IntWalk.u64_in _ (by omega),IntWalk.u8_in _ (by omega)];simp;omega
  have hset:((List.replicate (i+1) (0:UInt8)++done).map oW).set i (oW (UInt8.ofNat (48+n % 10)))=(List.replicate i (0:UInt8)++(UInt8.ofNat (48+n % 10)::done)).map oW:=by have:=AE (a:=(List.replicate i (0:UInt8)).map oW) (x:=oW 0) (v:=oW (UInt8.ofNat (48+n % 10))) (b:=done.map oW);rw [m002,List.length_replicate] at this;rw [List.replicate_succ'];simp only [m019,List.singleton_append,m038,m039];exact this
  simp only [h2,vR,h1,hrem,hquo,aQb,hw,hix,wx,wy,Z0,Z1,reduceCtorEq];rw [show AV.int .u8 ((UInt8.ofNat (48+n % 10)).toNat:Int)=oW (UInt8.ofNat (48+n % 10)) from rfl,nJ (by rw [adv_h];exact hs) (by simp;omega) rfl rfl,hset];simp only [wx,wy,Z0,Z1,reduceCtorEq,PJ,h3];refine ih (n / 10) (UInt8.ofNat (48+n % 10)::done) _ (by rw [p64];omega) (by simp;omega) (by rw [hr];simp [dQ]) (by rw [adv_h,aG])
theorem bMq (n:Nat) (hn:n < 2 ^ 64):aU mEv 112 [.int .u64 n] (.str (dQ 9 n)):=by refine bC (aDf _ _ ?_);unfold f112;simp only [bEl,wx,wy,Z0,Z1,reduceCtorEq];refine ⟨10,bLx (cU (.str (dQ 9 n))) (St.empty.nx+1) 223 (dQ 9 n) (fun s=>aI rfl) 9 n [] _ hn rfl (by simp) (by rw [adv_h,aG];rfl)⟩
def jB:Nat->List Nat->List UInt8->List UInt8
 | 0,_,s=>s
 | f+1,a,s=>match a with
  | []=>s
  | x::t=>jB f (aV (aZ 1000000000 (x::t)).1) (dQ 9 (aZ 1000000000 (x::t)).2++s)
def iJ (a:List Nat):List UInt8:=let t:=(jB (val a) (aV a) []).dropWhile (·==48);if t=[] then [48] else t
theorem bPo (c:UInt8) (Q:aC):∀ (x:List UInt8) (s:St),x.length<=2 ^ 60->(∀ s,Q (.str (x.dropWhile (·==c))) s)->wM Q (x.length+1) (.str x) (.int .u8 c.toNat) s:=by
 intro x
 induction x with
 | nil =>intro s _ hQ;show uC Q (wM Q 0) _ _ s;simp only [uC,bAz,List.length_nil,show decide (((0:Nat):Int) > 0)=false from rfl,BR,wx,wy,Z0,Z1,reduceCtorEq];exact hQ _
 | cons b x ih =>
  intro s hx hQ;show uC Q (wM Q (x.length+1)) _ _ s;have h1:decide ((((b::x).length:Nat):Int) > 0)=true:=by simp
  have h2:uK 9 (.str (b::x)) (.int .i64 0)=some (.int .u8 b.toNat):=rW (i:=0) .i64 rfl;have h3:∀ s,jM 9 (.str (b::x)) (some (.int .i64 1)) none none s=some (.str x):=fun s=>aZu (n:=1) .i64 (by simp);simp only [uC,bAz,h1,h2,h3,wx,wy,Z0,Z1,reduceCtorEq]
  have e:((b.toNat:Int)==(c.toNat:Int))=(b==c):=by
   rw [Bool.eq_iff_iff,beq_iff_eq,beq_iff_eq];constructor
   ·intro h;exact UInt8.toNat_inj.1 (by omega)
   ·intro h;rw [h]
  cases h:(b==c) with
  | true =>rw [h] at e;simp only [e,wx,wy,Z0,Z1,reduceCtorEq];refine ih _ (by simp at hx;omega) fun s=>?_;have:=hQ s;rw [List.dropWhile_cons,h,if_pos rfl] at this;exact this
  | false =>rw [h] at e;simp only [e,BR,wx,wy,Z0,Z1,reduceCtorEq];have:=hQ (Ai.adv s 11);rw [List.dropWhile_cons,h] at this;exact this
theorem bMm (x:List UInt8) (c:UInt8) (hx:x.length<=2 ^ 60):aU mEv 159 [.str x,.int .u8 c.toNat] (.str (x.dropWhile (·==c))):=by refine bC (aJq _ _ _ ?_);unfold f159;exact ⟨x.length+1,bPo c _ x _ hx fun s=>aI rfl⟩
theorem bPr (x:List UInt8) (c:UInt8) (hx:x.length<=2 ^ 60) (hc:c.toNat < 128):aU mEv 113 [.str x,.str [c]] (.str (x.dropWhile (·==c))):=by
 refine bC (aEb _ _ _ ?_);unfold f113;have h1:uK 9 (.str [c]) (.int .i64 0)=some (.int .u8 c.toNat):=rW (i:=0) .i64 rfl;have h2:decide ((c.toNat:Int) < 128)=true:=by simp;omega
 cases h:(x==[]) with
 | true =>
  have:x=[]:=by simpa using h
  subst this;simp only [h,wx,wy,Z0,Z1,reduceCtorEq];exact aI rfl
 | false =>simp only [h,bAz,List.length_cons,List.length_nil,show ((((0+1:Nat):Nat):Int)==1)=true from rfl,show (([c]:List UInt8)==[])=false from rfl,h1,h2,wx,wy,Z0,Z1,reduceCtorEq];refine aM (bMm x c hx) (by simp [AV.closed]) ?_;exact aI rfl
theorem NW:∀ (f k:Nat) (a:List Nat) (s:List UInt8),dB a->(val a=0->a=[])->val a < 1000000000 ^ k->(jB f a s).length<=s.length+9 * k:=by
 intro f
 induction f with
 | zero=>intro k a s _ _ _;exact Nat.le_add_right ..
 | succ f ih =>
  intro k a s hl h0 hv
  match a,hl,h0,hv with
  | [],_,_,_=>exact Nat.le_add_right ..
  | x::t,hl,h0,hv =>
   simp only [jB];generalize hb:x::t=b at *
   cases k with
   | zero =>
    have:val b=0:=by simpa using hv
    rw [h0 this] at hb;cases hb
   | succ k =>
    have hsl:=mG 1000000000 (by decide) b hl;have hsv:=wV 1000000000 (by decide) b;have hm:=pN 1000000000 (by decide) b;have hv':val (aV (aZ 1000000000 b).1) < 1000000000 ^ k:=by rw [gM];rw [Nat.pow_succ] at hv;refine Nat.lt_of_mul_lt_mul_right (a:=1000000000) ?_;exact Nat.lt_of_le_of_lt (by omega) hv
    have:=ih k (aV (aZ 1000000000 b).1) (dQ 9 (aZ 1000000000 b).2++s) (cO hsl) (jJ hsl).1 hv';rw [m006,BQ] at this;omega
theorem UM (a:List Nat) (h:dB a):val a < 1000000000 ^ (2 * a.length):=by refine HT (aFw a h) ?_;unfold pw;rw [Nat.pow_mul];exact Nat.pow_le_pow_left (by decide) _
theorem l59 (Q:aC) (w:List UInt8) (hQ:∀ s,Q (.str (if w.dropWhile (·==48)=[] then [48] else w.dropWhile (·==48))) s) (hw:w.length<=2 ^ 40):∀ (f k:Nat) (a:List Nat) (acc:List UInt8) (s:St),dB a->a.length<=2 ^ 30->(val a=0->a=[])->val a<=f->val a < 1000000000 ^ k->k<=2 ^ 33->acc.length+9 * k<=2 ^ 40->jB f a acc=w ->
  FO Q (f+1) (iV a) (.str acc) s:=by
 have hj:∀ s,NL Q (.str w) s:=fun s=>by
  unfold NL;refine aM (bPr w 48 (by omega) (by decide)) (by simp [AV.closed]) ?_;have:=hQ
  cases h:w.dropWhile (·==48) with
  | nil=>rw [h] at this;simp only [show (([]:List UInt8)==[])=true from rfl,wx,wy,Z0,Z1,reduceCtorEq];exact this _
  | cons x t=>rw [h] at this;simp only [show (x::t==[])=false from rfl,wx,wy,Z0,Z1,reduceCtorEq];exact this _
 intro f
 induction f with
 | zero =>intro k a acc s hl ha h0 hf hk hkk hacc hg;have:=h0 (by omega);subst this;have:acc=w:=hg;subst this;show wX Q (FO Q 0) _ _ s;simp only [wX,iV,kJ,List.map_nil,List.length_nil,show decide (((0:Nat):Int) > 0)=false from rfl,wx,wy,Z0,Z1,reduceCtorEq];exact hj _
 | succ f ih =>
  intro k a acc s hl ha h0 hf hk hkk hacc hg;show wX Q (FO Q (f+1)) _ _ s
  cases ha0:a with
  | nil =>subst ha0;have:acc=w:=hg;subst this;simp only [wX,iV,kJ,List.map_nil,List.length_nil,show decide (((0:Nat):Int) > 0)=false from rfl,wx,wy,Z0,Z1,reduceCtorEq];exact hj _
  | cons x t =>
   have hg':jB f (aV (aZ 1000000000 a).1) (dQ 9 (aZ 1000000000 a).2++acc)=w:=by rw [ha0] at hg ⊢;exact hg
   have hpos:0 < val a:=by
    rcases MZ (val a) with h | h
    ·rw [h0 h] at ha0;cases ha0
    ·exact h
   rw [<- ha0];have h1:decide (((a.length:Nat):Int) > 0)=true:=by rw [ha0];simp
   cases k with
   | zero=>exfalso;have:val a < 1:=by simpa using hk
           omega
   | succ k =>
    have hsl:=mG 1000000000 (by decide) a hl;have hsv:=wV 1000000000 (by decide) a;have hm:=pN 1000000000 (by decide) a;have hnl:(aV (aZ 1000000000 a).1).length<=a.length:=by have:=lY (aZ 1000000000 a).1;rw [rN] at this;exact this
    have hv':val (aV (aZ 1000000000 a).1) < 1000000000 ^ k:=by rw [gM];rw [Nat.pow_succ] at hk;refine Nat.lt_of_mul_lt_mul_right (a:=1000000000) ?_;exact Nat.lt_of_le_of_lt (by omega) hk
    have hv2:val (aV (aZ 1000000000 a).1)<=f:=by rw [gM];omega
    have h111:=bPx a hl ha 1000000000 (by decide) (by decide);have h112:=bMq (aZ 1000000000 a).2 (Nat.lt_trans hm (by decide));have hadd:bn .add 9 (.str (dQ 9 (aZ 1000000000 a).2)) (.str acc)=some (.str (dQ 9 (aZ 1000000000 a).2++acc)):=eJ (by rw [BQ];omega);simp only [wX,iV,kJ,m002,h1,wx,wy,Z0,Z1,reduceCtorEq];refine aM h111 (by simp [AV.closed,HA]) ?_;simp only [wx,wy,Z0,Z1,reduceCtorEq];refine aM h112 (by simp [AV.closed]) ?_;simp only [hadd,wx,wy,Z0,Z1,reduceCtorEq];exact ih k _ _ _ (cO hsl) (by omega) (jJ hsl).1 hv2 hv' (by omega) (by rw [m006,BQ];omega) hg'
theorem c59 (a:List Nat) (hl:dB a) (ha:a.length<=2 ^ 30):aU mEv 59 [iV a] (.str (iJ a)):=by refine bC (aQj _ _ ?_);unfold f59;have hnl:=lY a;have hvt:=UM (aV a) (cO hl);have hlen:=NW (val a) (2 * (aV a).length) (aV a) [] (cO hl) (jJ hl).1 hvt;rw [List.length_nil] at hlen;refine aM (bCu a ha) (by simp [cR]) ?_;refine ⟨val a+1,l59 _ (jB (val a) (aV a) []) (fun s=>aI rfl) (by omega) (val a) (2 * (aV a).length) (aV a) [] _ (cO hl) (by omega) (jJ hl).1 (by rw [gM];exact bH _) hvt (by omega) (by simp only [List.length_nil];omega) rfl⟩
end
noncomputable section
def cP (r:Int×Int):AV:=.agg [.int .i64 r.1,.int .i64 r.2]
def dH (n:Int):AV:=.int .i64 n
def gJ (c:Int):Bool:=decide (c >= 0)&&decide (c<=196607)
theorem aKz (c:Int):aU mEv 181 [.int .i64 c] (.bool (gJ c)):=by
 refine bI rfl (aEt _ _ ?_);unfold f181 gJ
 cases h:decide (c >= 0) with
 | false=>simp only [h,wz,wy,Z0];rfl
 | true =>simp only [h,wz,wy,Z0];rfl
def wH (r:Int×Int):Bool:=!(gJ r.1)||decide (r.2 < 1)
def lS (most:Int):List (Int×Int)->List Int->Option (List Int)
 | [],out=>cond (decide (most < 0)) none (some out)
 | r::s,out=>cond (decide (r.2 > IntKind.i64.wrap (most - out.length))) none (lS most s (out++List.replicate r.2.toNat r.1))
def jQ (s:List (Int×Int)) (most:Int):List Int×Int:=cond (s.any wH) ([],1) (match lS most s [] with | some l=>(l,0) | none=>([],2))
def RE (l:List Int) (e:Int):AV:=.tup [.sl false (l.map dH),.int .i64 e]
theorem aWh (ex:Bool) (l:List AV) (id:Nat) (s:St):bt .len #[25] [.sl ex l] id s=some (.int .i64 l.length,s):=by kernel_rfl
theorem aUx (ex:Bool) (l:List (Int×Int)) (i:Nat) (d:Int×Int) (h:l[i]?=some d):cA 2 (.sl ex (l.map cP)) (.int .i64 (i:Int))=some (.pel (cP d).cells 0):=by obtain ⟨hi,rfl⟩:=m012.1 h;simp [cA,pF,zK,hi,cP,AV.cells]
theorem lB (d:Int×Int):Ai.part 2 true 0 (cP d).cells=some (cP d):=rfl
theorem GD (d:Int×Int):(cP d).cells[0]?=some (AV.int .i64 d.1):=rfl
theorem DM (d:Int×Int):(cP d).cells[1]?=some (AV.int .i64 d.2):=rfl
theorem aVh:∃ v,zr 109=some v/\v.cells.length=2:=by
 have h:(zr 109).map (fun v=>v.cells.length)=some 2:=by kernel_rfl
 obtain ⟨v,h1,h2⟩:=m022.1 h;exact ⟨v,h1,h2⟩
theorem aZi:gI 72 3 1 false 8:=⟨by kernel_rfl,by kernel_rfl,by kernel_rfl,by kernel_rfl,by decide⟩
abbrev PQ (v:AV):aC:=fun r s'=>∃ ids,pur mEv.P s' 12 r=some (v,ids)
theorem VX (e:Int) (s:St):PQ (RE [] e) (.tup [.nils,.int .i64 e]) s:=⟨[],rfl⟩
theorem bCb {x:AV} {s:St} {l:List Int} (g:Gw 3 1 0 s x (l.map dH)) (e:Int):PQ (RE l e) (.tup [x,.int .i64 e]) s:=by
 obtain ⟨ids,h⟩:=aSk aZi g (fun v hv=>by obtain ⟨n,_,rfl⟩:=m021.1 hv;rfl) (fun v hv=>by obtain ⟨n,_,rfl⟩:=m021.1 hv;rfl) 10;have hx:x.closed=false:=by obtain ⟨_,⟨rfl,_⟩ | ⟨_,_,rfl,_⟩⟩:=g<;>rfl
 exact ⟨ids,rA hx h rfl⟩
theorem bBo (id:Nat) (s:St):bt .len #[72] [.nils] id s=some (.int .i64 (0:Nat),s):=by kernel_rfl
theorem bLw {x:AV} {s:St} {l:List Int} (g:Gw 3 1 0 s x (l.map dH)) (id:Nat):bt .len #[72] [x] id s=some (.int .i64 l.length,s):=by
 obtain ⟨_,⟨rfl,h⟩ | ⟨i,_,rfl,_⟩⟩:=g
 ·have:l=[]:=by simpa using h
  subst this;exact bBo id s
 ·have h:bt .len #[72] [.ref i 0 (l.map dH).length none 3] id s=some (.int .i64 ((l.map dH).length:Nat),s):=by kernel_rfl
  rw [h,m002]
theorem bFl (Q:aC) (ih1:AV->AV->AV->AV->aC) (most:Int) (c n:Int) (N:Nat) (t27 t28 t29:AV) (out:List Int) (hn:n<=1000) (hout:out.length<=1000) (hge:0<=n)
  (hk:∀ x s,aK s->Gw 3 1 0 s x ((out++List.replicate n.toNat c).map dH)->pP Q ih1 t29 (.int .i64 most) x t27 t28 s) :
  ∀ (m k:Nat) (x:AV) (s:St),(k:Int)+m=n->aK s->s.h N=some (.cells (cP (c,n)).cells 109 true true)->N < s.nx->Gw 3 1 0 s x ((out++List.replicate k c).map dH)->(∀ i n' cp,x=.ref i 0 n' cp 3->i≠N) ->
   ∃ g,pC Q ih1 g (.int .i64 most) x (.ptr N 0) t27 t28 t29 (.int .i64 n) (.int .i64 k) s:=by
 intro m
 induction m with
 | zero =>
  intro k x s hkm fr hN hNx g hne;refine ⟨1,?_⟩;show vO Q ih1 (pC Q ih1 0) _ _ _ _ _ _ _ _ s;have hlt:¬ ((k:Int) < n):=by omega
  have hkn:n.toNat=k:=by omega
  rw [hkn] at hk;simp only [vO,hlt,decide_false,wz,wy,Z0];exact hk x _ fr.adv g.adv
 | succ m ihm =>
  intro k x s hkm fr hN hNx g hne;have hlt:(k:Int) < n:=by omega
  have hbs:fZ 72 1 [(0,.int .i64 c)]=some (.sl true [dH c]):=eW aZi (by decide) rfl rfl
  have hfit:jA (((out++List.replicate k c).map dH).length+1) 8=true:=by
   simp only [m002,m006,List.length_replicate];have h1:(out.length+k+1) * 8<=Ai.most:=by unfold Ai.most;omega
   have h2:out.length+k+1<=Ai.most:=by unfold Ai.most;omega
   simp only [jA,Nat.ble_eq_true_of_le h1,Nat.ble_eq_true_of_le h2,gA]
  obtain ⟨x',s',e1,e2,e3,e4,_,e5,e6⟩:=VG (id:=s.nx+5) (v:=dH c) aZi (g.adv (n:=7)) fr.adv rfl rfl hfit (hO _) (by show s.nx+5 < s.nx+7;omega) true;have e4:s'.nx=s.nx+7:=e4;have hN':s'.h N=some (.cells (cP (c,n)).cells 109 true true):=by rw [e5 N (by omega) (fun n' cp hx=>hne N n' cp hx rfl)];exact hN
  have hadd:(out++List.replicate k c).map dH++[dH c]=(out++List.replicate (k+1) c).map dH:=by rw [List.replicate_succ'];simp
  rw [hadd] at e2;obtain ⟨w,hw⟩:=ihm (k+1) x' (adv s' 2) (by omega) e3.adv hN' (by show N < s'.nx+2;omega) e2.adv (fun i n' cp hx=>by rw [e6] at hx;cases hx;omega);refine ⟨w+1,?_⟩;show vO Q ih1 (pC Q ih1 w) _ _ _ _ _ _ _ _ s;simp only [vO,PU,hlt,decide_true,hN,GD,hbs,e1,wz,wy,Z0];rw [IntWalk.i64_in _ (by omega)];exact hw
theorem bGn (ex:Bool) (l:List (Int×Int)) (hlen:l.length<=maxLen) (hv:∀ r∈l,wH r=false) (mo:Int) (h0:0<=mo) (h1:mo<=1000) (Q:aC) (KU:List Int×Int)
  (hQ1:∀ s,KU=([],2)->Q (.tup [.nils,.int .i64 2]) s) (hQ2:∀ x s out,Gw 3 1 0 s x (List.map dH out)->KU=(out,0)->Q (.tup [x,.int .i64 0]) s) :
  ∀ (m i:Nat) (out:List Int) (x:AV) (s:St),i+m=l.length->aK s->Gw 3 1 0 s x (out.map dH)->(out.length:Int)<=mo->KU=(match lS mo (l.drop i) out with | some l=>(l,0) | none=>([],2)) ->
   gD Q (m+1) (.int .i64 mo) x (.sl ex (l.map cP)) (.int .i64 l.length) (.int .i64 i) s:=by
 intro m
 induction m with
 | zero =>
  intro i out x s hi fr g ho hr;show rI Q (gD Q 0) _ _ _ _ _ s;have hn:¬ (mo < 0):=by omega
  rw [m044 (by omega)] at hr;simp only [lS,hn,decide_false,cond_false] at hr;simp only [rI,tD,tG,show ¬ (i < l.length) by omega,hn,decide_false,wz,wy,Z0];exact hQ2 x _ out g.adv.adv hr
 | succ m ihm =>
  intro i out x s hi fr g ho hr;obtain ⟨r,hrr⟩:∃ r,l[i]?=some r:=⟨_,m004 (by omega)⟩;rw [cK l i r hrr,lS] at hr;have hix:=aUx ex l i r hrr;have hlt:i < l.length:=by omega
  have hbad:=hv r (m017 hrr);simp only [wH,JX,decide_eq_false_iff_not] at hbad;obtain ⟨Z,hZ,hZl⟩:=aVh
  have hst:∀ (q:St) (N:Nat),bQ 2 (.ptr N 0) (cP r) (q.set N (some (.cells Z.cells 109 true true)))=some ((q.set N (some (.cells Z.cells 109 true true))).set N (some (.cells (cP r).cells 109 true true))):=fun q N =>
   bJ (by rw [aG]) hZl rfl rfl
  have hw:IntKind.i64.wrap (mo - out.length)=mo - out.length:=IntWalk.i64_in _ (by omega);have hN:s.h (s.nx+3)=none:=fr _ (by omega)
  have fB:aK (((adv s 5).set (s.nx+3) (some (.cells Z.cells 109 true true))).set (s.nx+3) (some (.cells (cP r).cells 109 true true))) :=
   (fr.adv.set (by show s.nx+3 < s.nx+5;omega)).set (by show s.nx+3 < s.nx+5;omega)
  have gB:Gw 3 1 0 (((adv s 5).set (s.nx+3) (some (.cells Z.cells 109 true true))).set (s.nx+3) (some (.cells (cP r).cells 109 true true))) x (out.map dH) :=
   g.mono fun j _ hj=>by have hne:j≠s.nx+3:=fun he=>hj (by rw [he];exact hN);rw [aF hne,aF hne];rfl
  have hl72:=fun k=>bLw (gB.adv (n:=7)) k;rw [hw] at hr;show rI Q (gD Q (m+1)) _ _ _ _ _ s
  cases hgt:decide (r.2 > mo - out.length) with
  | true =>rw [hgt] at hr;simp only [rI,tG,hlt,decide_true,hix,lB,hZ,hst,DM,hl72,hw,hgt,wz,wy,Z0];exact hQ1 _ hr
  | false =>
   rw [hgt] at hr;have hle:¬ (r.2 > mo - out.length):=of_decide_eq_false hgt;simp only [rI,tG,hlt,decide_true,hix,lB,hZ,hst,DM,hl72,hw,hgt,wz,wy,Z0];refine bFl Q (gD Q (m+1)) mo r.1 r.2 (s.nx+3) _ _ _ out (by omega) (by omega) (by omega) (fun x' s' fr' g'=>?_) r.2.toNat 0 x _ (by omega) fB.adv.adv (by simp only [adv_h,aG]) (by show s.nx+3 < s.nx+5+7+3;omega) (by simpa using gB.adv.adv) (fun j n' cp hx=>?_)
   ·unfold pP;simp only [wz,wy,Z0];rw [cF i _ hlt hlen];exact ihm (i+1) _ x' _ (by omega) fr'.adv g'.adv (by simp only [m006,List.length_replicate];omega) hr
   ·obtain ⟨_,⟨rfl,_⟩ | ⟨k,_,rfl,hk⟩⟩:=g
    ·cases hx
    ·cases hx;intro he;rw [he,hN] at hk;cases hk
theorem bKl (ex:Bool) (l:List (Int×Int)) (hlen:l.length<=maxLen) (mo:Int) (Q:aC)
  (hQ1:∀ s,l.any wH=true->Q (.tup [.nils,.int .i64 1]) s) (hQ2:∀ s,aK s->l.any wH=false->xV Q (.sl ex (l.map cP)) (.int .i64 mo) s) :
  ∀ (m i:Nat) (s:St),i+m=l.length->aK s->l.any wH=(l.drop i).any wH ->
   qD Q (m+1) (.sl ex (l.map cP)) (.int .i64 mo) (.sl ex (l.map cP)) (.int .i64 l.length) (.int .i64 i) s:=by
 intro m
 induction m with
 | zero =>intro i s hi fr hr;show oM Q (qD Q 0) _ _ _ _ _ s;rw [m044 (by omega)] at hr;have hr:l.any wH=false:=hr;simp only [oM,tG,show ¬ (i < l.length) by omega,decide_false,wz,wy,Z0];exact hQ2 _ fr.adv hr
 | succ m ihm =>
  intro i s hi fr hr;obtain ⟨r,hrr⟩:∃ r,l[i]?=some r:=⟨_,m004 (by omega)⟩;rw [cK l i r hrr,List.any_cons] at hr;have hix:=aUx ex l i r hrr;have hlt:i < l.length:=by omega
  obtain ⟨Z,hZ,hZl⟩:=aVh
  have hst:∀ (q:St) (N:Nat),bQ 2 (.ptr N 0) (cP r) (q.set N (some (.cells Z.cells 109 true true)))=some ((q.set N (some (.cells Z.cells 109 true true))).set N (some (.cells (cP r).cells 109 true true))):=fun q N =>
   bJ (by rw [aG]) hZl rfl rfl
  have fB:aK (((adv s 5).set (s.nx+3) (some (.cells Z.cells 109 true true))).set (s.nx+3) (some (.cells (cP r).cells 109 true true))) :=
   (fr.adv.set (by show s.nx+3 < s.nx+5;omega)).set (by show s.nx+3 < s.nx+5;omega)
  show oM Q (qD Q (m+1)) _ _ _ _ _ s
  cases hp:gJ r.1 with
  | false =>
   have hb:wH r=true:=by simp [wH,hp]
   rw [hb] at hr;simp only [oM,tG,hlt,decide_true,hix,lB,hZ,hst,GD,wz,wy,Z0];refine aM (aKz r.1) (by simp [AV.closed]) ?_;simp only [hp,wz,wy,Z0];exact hQ1 _ hr
  | true =>
   cases hn:decide (r.2 < 1) with
   | true =>
    have hb:wH r=true:=by simp only [wH,hp,hn,m078]
    rw [hb] at hr;simp only [oM,tG,hlt,decide_true,hix,lB,hZ,hst,GD,wz,wy,Z0];refine aM (aKz r.1) (by simp [AV.closed]) ?_;simp only [hp,DM,hn,wz,wy,Z0];exact hQ1 _ hr
   | false =>
    have hb:wH r=false:=by simp only [wH,hp,hn,m025,Bool.or_self]
    rw [hb,m026] at hr;simp only [oM,tG,hlt,decide_true,hix,lB,hZ,hst,GD,wz,wy,Z0];refine aM (aKz r.1) (by simp [AV.closed]) ?_;simp only [hp,DM,hn,QS,wz,wy,Z0];rw [cF i _ hlt hlen];exact ihm (i+1) _ (by omega) fB.adv.adv hr
theorem bDd (ex:Bool) (l:List (Int×Int)) (hlen:l.length<=maxLen) (mo:Int) (h0:0<=mo) (h1:mo<=1000):aU mEv 166 [.sl ex (l.map cP),.int .i64 mo] (RE (jQ l mo).1 (jQ l mo).2):=by
 refine AC (aGj _ _ _ (Q:=fun r s'=>∃ ids,pur mEv.P s' 12 r=some (RE (jQ l mo).1 (jQ l mo).2,ids)) ?_);unfold f166;simp only [aWh,m002,Bnd_some];refine ⟨l.length+1,?_⟩;refine bKl ex l hlen mo _ (fun s h=>?_) (fun s fr h=>?_) l.length 0 _ (by omega) bU.adv rfl
 ·have:jQ l mo=([],1):=by simp only [jQ,h,cond_true]
  rw [this];exact VX 1 s
 ·have hv:∀ r∈l,wH r=false:=fun r hr=>by
   have:=List.any_eq_false.1 h r hr;simpa using this
  unfold xV;simp only [aWh,m002,Bnd_some];refine ⟨l.length+1,?_⟩;have hm:jQ l mo=(match lS mo l [] with | some l=>(l,0) | none=>([],2)):=by simp only [jQ,h,cond_false]
  refine bGn ex l hlen hv mo h0 h1 _ (jQ l mo) (fun s h=>?_) (fun x s out g h=>?_) l.length 0 [] .nils _ (by omega) fr.adv fA (by simpa using h0) hm
  ·rw [h];exact VX 2 s
  ·rw [h];exact bCb g 0
end
noncomputable section
def aYs (c:Nat):Int:=if 48<=c/\c<=57 then (c:Int) - 48 else if 97<=c/\c<=102 then (c:Int) - 87 else if 65<=c/\c<=70 then (c:Int) - 55 else -1
theorem t246:(List.range 256).map (fun c:Nat=>iZ 246 [.int .u8 (c:Int)])=(List.range 256).map fun c:Nat=>some (.int .i64 (aYs c)):=by kernel_rfl
def aVi:List UInt8->Int->Int
 | [],n=>cond (decide (n > 196607)) (-1) n
 | c::x,n=>cond (decide (aYs c.toNat < 0)) (-1) (aVi x (IntKind.i64.wrap (IntKind.i64.wrap (16 * n)+aYs c.toNat)))
def bKv (x:List UInt8):Int:=cond (x==[]) (-1) (aVi x 0)
def aZb (x:List UInt8):Int×Int :=
 cond (fF [92,117] x)
  (cond (fF [123] (x.drop 2))
   (cond (decide (IP 125 (x.drop 3) 0 >= 0)&&!decide (IP 125 (x.drop 3) 0 > 5)) (bKv ((x.drop 3).take (IP 125 (x.drop 3) 0).toNat),IP 125 (x.drop 3) 0+4) (-1,0))
   (cond (decide ((x.drop 2).length < 4)) (-1,0) (bKv ((x.drop 2).take 4),6)))
  (-1,0)
def aGb:Nat->List UInt8->List Int
 | 0,_=>[]
 | n+1,x=>match x with
  | []=>[]
  | c::r=>cond (decide ((aZb (c::r)).1 < 0)) ((c.toNat:Int)::aGb n r) ((aZb (c::r)).1::aGb n ((c::r).drop (aZb (c::r)).2.toNat))
def bMh (x:List UInt8):List Int:=aGb x.length x
theorem jT:FX dH 1:=⟨fun _=>rfl,fun _=>rfl⟩
theorem iW:FX cP 2:=⟨fun _=>rfl,fun _=>rfl⟩
def aQy (out:List (Int×Int)) (c:Int):List (Int×Int):=match out.getLast? with
 | none=>out++[(c,1)]
 | some r=>cond (r.1==c) (out.dropLast++[(r.1,IntKind.i64.wrap (r.2+1))]) (out++[(c,1)])
def aXt:List Int->List (Int×Int)->List (Int×Int)×Int
 | [],out=>cond (decide ((out.length:Int) > 65536)) ([],2) (out,0)
 | c::l,out=>cond (gJ c) (aXt l (aQy out c)) ([],1)
end
noncomputable section
theorem OW:∀ f u,(uO f u).length<=f:=by
 intro f
 induction f with
 | zero=>intro u;exact bH _
 | succ f ih =>
  intro u;simp only [uO]
  cases Nat.blt u 10 with
  | true=>simp
  | false=>simp only [cond_false,m006,List.length_cons,List.length_nil];have:=ih (u / 10);omega
theorem nQ (n:Int):(cM n).length<=21:=by
 unfold cM
 split
 ·have:=OW 20 n.natAbs;simp;omega
 ·have:=OW 20 n.toNat;omega
theorem aNn (n:Int) (h0:-9223372036854775808<=n) (h1:n<=9223372036854775807):aU mEv 206 [.int .i64 n] (.str (cM n)) :=
 bC ⟨_,_,CZ (g:=GV) (by kernel_rfl) (by simp only [GV,h0,h1,and_self,if_true];rfl),aI rfl⟩
def oY (neg:Bool) (n:List Nat):AV:=.agg [.bool neg,iV n]
theorem dA (neg:Bool) (n:List Nat):(oY neg n).closed=true:=by simp only [oY,AV.closed,aW,cR,gA]
def eQ (neg:Bool) (n:List Nat):Bool×List Nat:=(neg&&!(aV n==[]),aV n)
theorem bNh (neg:Bool) (n:List Nat) (hn:n.length<=2 ^ 30):aU mEv 105 [.bool neg,iV n] (oY (eQ neg n).1 (eQ neg n).2):=by
 refine bC (aCy _ _ _ ?_);unfold f105;simp only [aTg,wx,wy,Z0,Z1,reduceCtorEq];refine aM (bCu n hn) (by simp [cR]) ?_;have hb:∀ b:Bool,eE 24 [(0,.bool b),(1,iV (aV n))]=some (oY b (aV n)):=fun b=>by rw [bAo];rfl
 have hl:decide (((aV n).length:Int) > 0)=!(aV n==[]):=by
  cases h:aV n with
  | nil=>rfl
  | cons x t=>simp
 have hln:∀ id s,bt .len #[22] [iV (aV n)] id s=some (.int .i64 (aV n).length,s):=fun id s=>by show bt .len #[22] [.sl false ((aV n).map sC)] id s=_;rw [kJ,m002]
 have hfin:∀ (b:Bool) (s:St) (n1:Nat),bQ 2 (.ptr s.nx 0) (oY b (aV n)) (Ai.adv (s.set s.nx (some (.cells (AV.agg [.bool false,.nils]).cells 24 true true))) n1)=some (Ai.adv (s.set s.nx (some (.cells (oY b (aV n)).cells 24 true true))) n1):=fun b s n1=>by rw [bJ (z:=2) (by rw [adv_h,aG]) rfl rfl rfl,adv_set,set_set]
 have hp:∀ b:Bool,Ai.part 2 true 0 (oY b (aV n)).cells=some (oY b (aV n)):=fun b=>rfl
 cases neg with
 | false =>simp only [hb,wx,wy,Z0,Z1,reduceCtorEq];rw [hfin];simp only [wx,wy,Z0,Z1,reduceCtorEq,hp];exact aI (dA _ _)
 | true =>simp only [hln,hl,hb,wx,wy,Z0,Z1,reduceCtorEq];rw [hfin];simp only [wx,wy,Z0,Z1,reduceCtorEq,hp];exact aI (dA _ _)
theorem kP (b:Bool) (n:List Nat):Ai.part 2 true 0 (oY b n).cells=some (oY b n):=rfl
theorem wz0 (b:Bool) (n:List Nat):(oY b n).cells[0]?=some (.bool b):=rfl
theorem wz1 (b:Bool) (n:List Nat):(oY b n).cells[1]?=some (iV n):=rfl
theorem CJ (n:List Nat) (id:Nat) (s:St):bt .len #[22] [iV n] id s=some (.int .i64 n.length,s):=by show bt .len #[22] [.sl false (n.map sC)] id s=_;rw [kJ,m002]
theorem aIb (b b':Bool) (n n':List Nat) (q:St) (i c:Nat):bQ 2 (.ptr i 0) (oY b n) (Ai.adv (q.set i (some (.cells (oY b' n').cells 24 true true))) c)=some (Ai.adv (q.set i (some (.cells (oY b n).cells 24 true true))) c):=by rw [bJ (z:=2) (by rw [adv_h,aG]) rfl rfl rfl,adv_set,set_set]
theorem c69 (neg:Bool) (n:List Nat) (hn:n.length<=2 ^ 30):aU mEv 69 [oY neg n] (oY (eQ neg n).1 (eQ neg n).2):=by refine bC (aRc _ _ ?_);unfold f69;refine ⟨rfl,?_⟩;simp only [aTg,wz0,wz1,wx,wy,Z0,Z1,reduceCtorEq];refine aM (bNh neg n hn) (by simp [cR,AV.closed]) ?_;rw [bJ (z:=2) (by rw [adv_h,aG]) rfl rfl rfl];simp only [wx,wy,Z0,Z1,reduceCtorEq,kP];exact aI (dA _ _)
def pG (neg:Bool) (n:List Nat):Int:=bif aV n==[] then 0 else bif neg then -1 else 1
theorem c20 (neg:Bool) (n:List Nat) (hn:n.length<=2 ^ 30):aU mEv 20 [oY neg n] (.int .i64 (pG neg n)):=by
 refine bC (aQn _ _ ?_);unfold f20;refine ⟨rfl,?_⟩;simp only [kP,wx,wy,Z0,Z1,reduceCtorEq];refine aM (c69 neg n hn) (by simp [dA]) ?_;rw [aIb];simp only [wz0,wz1,CJ,wx,wy,Z0,Z1,reduceCtorEq]
 have hl:decide (((aV n).length:Int) > 0)=!(aV n==[]):=by
  cases h:aV n with
  | nil=>rfl
  | cons x t=>simp
 unfold pG eQ;simp only [hl];cases h:(aV n==[])<;>cases neg<;>simp only [m025,m027,cond_true,cond_false,wx,wy,Z0,Z1,reduceCtorEq,aLn]<;>exact aI rfl
def nR (left:Int) (p:Option Int):List (Int×Int)->Bool
 | []=>true
 | r::l=>bif decide (r.1 < 0)||(decide (r.1 > 196607)||(decide (r.2 < 1)||(decide (r.2 > left)||p==some r.1))) then false else nR (left - r.2) (some r.1) l
def xE (l:List (Int×Int)):Bool:=decide (l.length<=65536)&&nR 1099511627776 none l
theorem l60 (l:List (Int×Int)) (hl:l.length<=65536) (ex:Bool) (Q:aC) (b:Bool) (hQ:∀ s,Q (.bool b) s):∀ (m i:Nat) (left:Int) (p:Option Int) (s:St),i+m=l.length->0<=left->left<=2 ^ 40->(p=if i=0 then none else (l[i - 1]?).map Prod.fst)->nR left p (l.drop i)=b ->
  zA Q (m+1) (.sl ex (l.map cP)) (.int .i64 left) (.sl ex (l.map cP)) (.int .i64 l.length) (.int .i64 i) s:=by
 intro m
 induction m with
 | zero =>
  intro i left p s hi h0 h1 hp hb;show DY Q (zA Q 0) _ _ _ _ _ s;have c1:decide ((i:Int) < (l.length:Int))=false:=by simp;omega
  rw [m037 (by omega)] at hb;simp only [DY,c1,NC,wx,wy,Z0,Z1,reduceCtorEq];have:b=true:=hb.symm;subst this;exact hQ _
 | succ m ih =>
  intro i left p s hi h0 h1 hp hb;show DY Q (zA Q (m+1)) _ _ _ _ _ s;have c1:decide ((i:Int) < (l.length:Int))=true:=by simp;omega
  obtain ⟨r,hr⟩:∃ r,l[i]?=some r:=⟨_,m004 (by omega)⟩;rw [cK l i r hr] at hb;simp only [nR] at hb;have hst:∀ (v:AV) (q:St) (i n:Nat),v.cells.length=2->v.cells.all AV.one=true->bQ 2 (.ptr i 0) v (Ai.adv (q.set i (some (.cells (AV.agg [.int .i64 0,.int .i64 0]).cells 109 true true))) n)=some (Ai.adv (q.set i (some (.cells v.cells 109 true true))) n):=fun v q i n e1 e2=>by rw [bJ (z:=2) (by rw [adv_h,aG]) rfl e1 e2,adv_set,set_set]
  have hix:=bP iW ex hr .i64;have w1:IntKind.i64.wrap ((i:Int)+1)=((i+1:Nat):Int):=by rw [IntWalk.i64_in _ (by omega)];rfl
  simp only [DY,c1,hix,lB,aVn,wx,wy,Z0,Z1,reduceCtorEq];rw [hst _ _ _ _ rfl rfl]
  cases e1:decide (r.1 < 0) with
  | true =>rw [e1,m033,cond_true] at hb;subst hb;simp only [GD,DM,e1,wx,wy,Z0,Z1,reduceCtorEq];exact hQ _
  | false =>
  cases e2:decide (r.1 > 196607) with
  | true =>rw [e1,e2,m026,m033,cond_true] at hb;subst hb;simp only [GD,DM,e1,e2,wx,wy,Z0,Z1,reduceCtorEq];exact hQ _
  | false =>
  cases e3:decide (r.2 < 1) with
  | true =>rw [e1,e2,e3,m026,m026,m033,cond_true] at hb;subst hb;simp only [GD,DM,e1,e2,e3,wx,wy,Z0,Z1,reduceCtorEq];exact hQ _
  | false =>
  cases e4:decide (r.2 > left) with
  | true =>rw [e1,e2,e3,e4,m026,m026,m026,m033,cond_true] at hb;subst hb;simp only [GD,DM,e1,e2,e3,e4,wx,wy,Z0,Z1,reduceCtorEq];exact hQ _
  | false =>
  rw [e1,e2,e3,e4,m026,m026,m026,m026] at hb;have o3:=of_decide_eq_false e3;have o4:=of_decide_eq_false e4;have w2:IntKind.i64.wrap (left - r.2)=left - r.2:=IntWalk.i64_in _ (by omega)
  cases i with
  | zero =>simp only [if_true] at hp;subst hp;have hb:nR (left - r.2) (some r.1) (l.drop 1)=b:=hb;simp only [GD,DM,e1,e2,e3,e4,show decide (((0:Nat):Int) > 0)=false from rfl,SS,w1,w2,wx,wy,Z0,Z1,reduceCtorEq];exact ih 1 _ (some r.1) _ (by omega) (by omega) (by omega) (by simp only [Nat.one_ne_zero,if_false,Nat.sub_self];rw [hr];rfl) hb
  | succ k =>
   have c2:decide (((k+1:Nat):Int) > 0)=true:=by simp
   obtain ⟨q,hq⟩:∃ q,l[k]?=some q:=⟨_,m004 (by omega)⟩;have hix2:=bP iW ex hq .i64;have w3:IntKind.i64.wrap (((k+1:Nat):Int) - 1)=(k:Int):=by rw [IntWalk.i64_in _ (by omega)];omega
   have hp:p=some q.1:=by rw [hp,if_neg (by omega),Nat.add_sub_cancel,hq];rfl
   subst hp;have e5:(some q.1==some r.1)=(q.1==r.1):=rfl;rw [e5] at hb
   cases e6:(q.1==r.1) with
   | true =>rw [e6,cond_true] at hb;subst hb;simp only [GD,DM,e1,e2,e3,e4,c2,w3,hix2,e6,wx,wy,Z0,Z1,reduceCtorEq];exact hQ _
   | false =>rw [e6,cond_false] at hb;simp only [GD,DM,e1,e2,e3,e4,c2,w3,hix2,e6,SS,w1,w2,wx,wy,Z0,Z1,reduceCtorEq];exact ih (k+1+1) _ (some r.1) _ (by omega) (by omega) (by omega) (by rw [if_neg (by omega),Nat.add_sub_cancel,hr];rfl) hb
theorem c60 (ex:Bool) (l:List (Int×Int)) (hl:l.length<=2 ^ 40):aU mEv 60 [.sl ex (l.map cP)] (.bool (xE l)):=by
 refine bC (aRl _ _ ?_);unfold f60 xE;simp only [kI,m002,wx,wy,Z0,Z1,reduceCtorEq]
 cases h:decide (l.length<=65536) with
 | false =>
  have h1:decide ((l.length:Int) > 65536)=true:=by simp at h ⊢;omega
  simp only [h1,wx,wy,Z0,Z1,reduceCtorEq];exact aI rfl
 | true =>
  have h2:=of_decide_eq_true h;have h1:decide ((l.length:Int) > 65536)=false:=by simp;omega
  simp only [h1,wx,wy,Z0,Z1,reduceCtorEq];exact ⟨l.length+1,l60 l h2 ex _ _ (fun s=>aI rfl) l.length 0 1099511627776 none _ (by omega) (by decide) (by decide) rfl rfl⟩
end
noncomputable section
structure Nd:Type where
 op:Int
 so:Int
 a:List Int
 nm:List UInt8
 neg:Bool
 num:List Nat
 str:List (Int×Int)
abbrev Bk:=List Nd
abbrev Mm:=List (List UInt8×Int)
abbrev Sg:=Bk×Mm
abbrev Ev:=List (List UInt8×Int)
abbrev Rt:=Option ((Int×Int)×Sg)
def eK (n:Nd):List UInt8 :=
 cM n.op++[58]++cM n.so++n.a.flatMap (fun i=>32::cM i)++35::iJ n.num++n.str.flatMap (fun r=>32::cM r.1++42::cM r.2)++61::n.nm
def fE (k:List UInt8):Bk->Option Nat
 | []=>none
 | m::B=>bif k==eK m then some 0 else (fE k B).map (·+1)
def dU (B:Bk) (n:Nd):(Int×Int)×Bk :=
 match fE (eK n) B with
 | some i=>(((i:Int),0),B)
 | none=>bif (B.length:Int)==20000 then ((0,2),B) else (((B.length:Int),0),B++[n])
def mU (B:Bk) (nm:List UInt8) (so:Int):(Int×Int)×Bk :=
 bif decide (so < 1)||(decide (so > 3)||decide ((nm.length:Int) > 16384)) then ((0,1),B) else dU B ⟨1,so,[],nm,false,[],[]⟩
def wR (B:Bk) (v:Bool):(Int×Int)×Bk:=dU B ⟨bif v then 2 else 3,1,[],[],false,[],[]⟩
def sJ (B:Bk) (neg:Bool) (n:List Nat):(Int×Int)×Bk :=
 bif decide (pG neg n < 0) then ((0,1),B) else dU B ⟨4,2,[],[],(eQ neg n).1,(eQ neg n).2,[]⟩
def FH (B:Bk) (s:List (Int×Int)):(Int×Int)×Bk :=
 bif xE s then dU B ⟨5,3,[],[],false,[],s⟩ else ((0,1),B)
structure sB:Type where
 parts:Int
 more:Bool
 s0:Int
 s1:Int
 s2:Int
 own:Int
def gE:List sB :=
 let z:sB:=⟨0,false,0,0,0,0⟩
 let b2:sB:=⟨2,true,1,1,1,1⟩
 let e2:sB:=⟨2,true,-2,-1,-1,1⟩
 let i2:sB:=⟨2,true,2,2,2,2⟩
 let l2:sB:=⟨2,true,2,2,2,1⟩
 let t2:sB:=⟨2,false,3,3,3,1⟩
 [z,z,z,z,z,z,⟨1,false,1,1,1,1⟩,b2,b2,b2,b2,e2,e2,⟨3,false,1,-2,-1,-1⟩,⟨1,false,2,2,2,2⟩,i2,i2,i2,l2,l2,l2,l2,
  ⟨2,true,3,3,3,3⟩,⟨1,false,3,3,3,2⟩,⟨2,false,3,2,2,3⟩,⟨3,false,3,2,2,3⟩,t2,t2,t2,⟨3,false,3,3,2,2⟩,⟨3,false,3,3,3,3⟩]
def sB.sort (x:sB):Nat->Int
 | 0=>x.s0
 | 1=>x.s1
 | _=>x.s2
def iT (B:Bk) (i:Int):Option Nd:=bif decide (i < 0) then none else B[i.toNat]?
def gH (B:Bk) (i:Int):Int:=match iT B i with
 | some n=>n.so
 | none=>0
def LN (B:Bk) (i:Int):Int:=match iT B i with
 | some n=>n.op
 | none=>0
def bK (B:Bk) (x:sB):Nat->Int->List Int->Int
 | _,last,[]=>bif x.own==-1 then last else x.own
 | i,last,id::a =>
  let want:=bif x.sort i==-1 then last else x.sort i
  bif want != -2&&want != gH B id then 0 else bK B x (i+1) (gH B id) a
def dF (B:Bk) (id:Int):Bool:=match iT B id with
 | none=>false
 | some n=>n.op==4||(n.op==14&&match n.a with
  | i::_=>LN B i==4
  | []=>false)
def dK (B:Bk):List Int->Nat
 | []=>0
 | id::a=>(bif dF B id then 0 else 1)+dK B a
def kA (B:Bk) (id:Int):Bool:=decide (id < 0)||decide (id >= (B.length:Int))
def gU (B:Bk) (op:Int) (a:List Int):(Int×Int)×Bk :=
 bif decide (op < 0) then ((0,101),B) else
 match gE[op.toNat]? with
 | none=>((0,101),B)
 | some x=>bif x.parts==0 then ((0,101),B) else
  bif decide ((a.length:Int) < x.parts)||((decide ((a.length:Int) > x.parts)&&!x.more)||(decide ((a.length:Int) > 200)||a.any (kA B))) then ((0,1),B) else
  bif bK B x 0 0 a==0 then ((0,90),B) else
  bif op==17&&!decide (dK B a<=1) then ((0,101),B) else dU B ⟨op,bK B x 0 0 a,a,[],false,[],[]⟩
def aEd (nm:List UInt8) (parts:Int):Int:=bif nm==[45]&&parts==1 then 14 else opN nm
def wL (x:List UInt8):Bool:=(hit bMw x).isSome||(opN x != 0)||fF [115,116,114,46] x||fF [114,101,46] x
def RZ:Ev->List UInt8->Option Int
 | [],_=>none
 | p::l,nm=>match RZ l nm with
  | some i=>some i
  | none=>bif p.1==nm then some p.2 else none
def aOg:List Dc->List UInt8->Option Nat
 | [],_=>none
 | d::l,nm=>match aOg l nm with
  | some i=>some (i+1)
  | none=>bif d.nm==nm then some 0 else none
def bIc (k:List UInt8):Mm->Option Int
 | []=>none
 | (a,v)::l=>bif k==a then some v else bIc k l
def bFq (k:List UInt8) (v:Int):Mm->Mm
 | []=>[(k,v)]
 | (a,u)::l=>bif k==a then (k,v)::l else (a,u)::bFq k v l
def WA (B:Bk):List (List UInt8×Int)->List Int->Bool
 | p::ps,i::a=>gH B i==p.2&&WA B ps a
 | _,_=>true
def bFb (k:Nat) (a:List Int):List UInt8:=a.flatMap (fun i=>cM i++[32])++102::cM k
def KG (r:(Int×Int)×Bk) (M:Mm):Rt:=some (r.1,(r.2,M))
def Sx.lst:Sx->Bool
 | .mk l _ _ _ _ _=>l
def Sx.kind:Sx->Int
 | .mk _ k _ _ _ _=>k
def Sx.txt:Sx->List UInt8
 | .mk _ _ x _ _ _=>x
def Sx.its:Sx->List Sx
 | .mk _ _ _ _ _ l=>l
def Sx.isN (x:Sx):Bool:=!x.lst&&x.kind==3
def dbl:List (List UInt8)->Bool
 | l=>(List.range l.length).any fun i=>(l.take i).any fun y=>some y==l[i]?
def aUq:List UInt8:=[116,114,117,101]
def bBb:List UInt8:=[102,97,108,115,101]
def bOa:List UInt8:=[108,101,116]
def aNv:List Sx->Option (List (List UInt8)×List Sx)
 | []=>some ([],[])
 | p::l=>match p.lst,p.its with
  | true,[x,y]=>bif x.isN then (aNv l).map fun q=>(x.txt::q.1,y::q.2) else none
  | _,_=>none
section
variable (ps:List UInt8->List Nat×Int) (mm:Bool) (f:List Dc->Ev->Sx->Sg->Rt)
def SO (L:List Dc) (env:Ev):List Sx->Sg->Option ((List Int×Int)×Sg)
 | [],σ=>some (([],0),σ)
 | x::l,σ=>(f L env x σ).bind fun r=>bif r.1.2==0 then (SO L env l r.2).map fun q=>((bif q.1.2==0 then r.1.1::q.1.1 else [],q.1.2),q.2) else some (([],r.1.2),r.2)
def aXv (L:List Dc) (k:Nat) (a:List Int) (σ:Sg):Rt :=
 match L[k]? with
 | none=>none
 | some d=>bif a.length==d.ps.length then
   (bif WA σ.1 d.ps a then
    match (bif mm then bIc (bFb k a) σ.2 else none) with
    | some id=>some ((id,0),σ)
    | none=>(f (L.take k) (List.zip (d.ps.map (·.1)) a) d.body σ).map fun r=>(r.1,(r.2.1,bif mm&&r.1.2==0 then bFq (bFb k a) r.1.1 r.2.2 else r.2.2))
   else some ((0,90),σ)) else some ((0,1),σ)
def bHs (L:List Dc) (env:Ev) (nm:List UInt8) (σ:Sg):Rt :=
 bif nm==aUq||nm==bBb then KG (wR σ.1 (nm==aUq)) σ.2 else
 bif wL nm then some ((0,101),σ) else
 match RZ env nm with
 | some id=>some ((id,0),σ)
 | none=>match aOg L nm with
  | none=>some ((0,100),σ)
  | some k=>match L[k]? with
   | none=>none
   | some d=>bif d.mac then (bif d.ps.length==0 then aXv mm f L k [] σ else some ((0,1),σ)) else KG (mU σ.1 nm d.so) σ.2
def bPy (L:List Dc) (env:Ev) (rest:List Sx) (σ:Sg):Rt :=
 match rest with
 | [h,y]=>bif h.lst then
   match aNv h.its with
   | none=>some ((0,1),σ)
   | some (ns,ts)=>bif ns.any wL then some ((0,101),σ) else bif dbl ns then some ((0,4),σ) else
    (SO f L env ts σ).bind fun r=>bif r.1.2==0 then f L (env++List.zip ns r.1.1) y r.2 else some ((0,r.1.2),r.2)
  else some ((0,1),σ)
 | _=>some ((0,1),σ)
def bNs (L:List Dc) (env:Ev) (l:List Sx) (σ:Sg):Rt :=
 match l with
 | []=>some ((0,1),σ)
 | h::rest=>bif !h.isN then some ((0,101),σ) else
  bif h.txt==bOa then bPy f L env rest σ else
  bif aEd h.txt rest.length==0&&wL h.txt then some ((0,101),σ) else
  bif aEd h.txt rest.length==0 then
   match RZ env h.txt,aOg L h.txt with
   | none,some k=>match L[k]? with
    | none=>none
    | some d=>bif d.mac then (SO f L env rest σ).bind fun r=>bif r.1.2==0 then aXv mm f L k r.1.1 r.2 else some ((0,r.1.2),r.2)
     else some ((0,100),σ)
   | _,_=>some ((0,100),σ)
  else (SO f L env rest σ).bind fun r=>bif r.1.2==0 then KG (gU r.2.1 (aEd h.txt rest.length) r.1.1) r.2.2 else some ((0,r.1.2),r.2)
def bDx (L:List Dc) (env:Ev) (x:Sx) (σ:Sg):Rt :=
 bif x.lst then bNs mm f L env x.its σ else
 bif x.kind==4 then (bif (ps x.txt).2 != 0 then some ((0,101),σ) else KG (sJ σ.1 false (ps x.txt).1) σ.2) else
 bif x.kind==6 then KG (FH σ.1 (aXt (bMh x.txt) []).1) σ.2 else
 bif x.kind==3 then bHs mm f L env x.txt σ else some ((0,101),σ)
end
def T (ps:List UInt8->List Nat×Int) (mm:Bool):Nat->List Dc->Ev->Sx->Sg->Rt
 | 0=>fun _ _ _ _=>none
 | n+1=>bDx ps mm (T ps mm n)
end
noncomputable section
def KZ (B B':Bk):Prop:=∃ E,B'=B++E
theorem KZ.refl (B:Bk):KZ B B:=⟨[],by simp⟩
theorem KZ.trans {A B C:Bk} (h:KZ A B) (k:KZ B C):KZ A C:=by obtain ⟨E,rfl⟩:=h;obtain ⟨F,rfl⟩:=k;exact ⟨E++F,by simp⟩
def jN (B:Bk) (i:Int):Prop:=0<=i/\i < (B.length:Int)
theorem jN.ext {B B':Bk} {i:Int} (h:jN B i) (e:KZ B B'):jN B' i:=by obtain ⟨E,rfl⟩:=e;obtain ⟨h1,h2⟩:=h;exact ⟨h1,by simp only [m006];omega⟩
def Wf (B:Bk):Prop:=B.length<=20000/\∀ n∈B,(∀ i∈n.a,jN B i)/\(n.op=14->n.a≠[])
theorem bBm:Wf []:=⟨by simp,fun n h=>by cases h⟩
theorem HM {k:List UInt8}:∀ {B:Bk} {i:Nat},fE k B=some i->∀ E,fE k (B++E)=some i:=by
 intro B
 induction B with
 | nil=>intro i h;cases h
 | cons m B ih =>
  intro i h E;simp only [fE,List.cons_append] at h ⊢
  cases hk:(k==eK m) with
  | true=>rw [hk] at h;exact h
  | false =>rw [hk] at h;simp only [cond_false,m022] at h ⊢;obtain ⟨j,h1,h2⟩:=h;exact ⟨j,ih h1 E,h2⟩
theorem aIz {k:List UInt8}:∀ {B:Bk} {i:Nat},fE k B=some i->i < B.length:=by
 intro B
 induction B with
 | nil=>intro i h;cases h
 | cons m B ih =>
  intro i h;simp only [fE] at h
  cases hk:(k==eK m) with
  | true=>rw [hk] at h;simp only [cond_true,m000] at h;subst h;simp
  | false =>rw [hk] at h;simp only [cond_false,m022] at h;obtain ⟨j,h1,rfl⟩:=h;have:=ih h1;simp only [List.length_cons];omega
theorem XA {n:Nd}:∀ {B:Bk},fE (eK n) B=none->fE (eK n) (B++[n])=some B.length:=by
 intro B
 induction B with
 | nil=>intro _;simp [fE]
 | cons m B ih =>
  intro h;simp only [fE,List.cons_append] at h ⊢
  cases hk:(eK n==eK m) with
  | true=>rw [hk] at h;cases h
  | false =>rw [hk] at h;simp only [cond_false,Option.map_eq_none_iff] at h ⊢;rw [ih h];simp
theorem DT {B:Bk} {i:Int} (h:jN B i) (E:Bk):iT (B++E) i=iT B i:=by obtain ⟨h1,h2⟩:=h;simp only [iT,show ¬ (i < 0) by omega,decide_false,cond_false];exact m051 (by omega)
theorem aLg {B:Bk} {i:Int} (h:jN B i) (E:Bk):gH (B++E) i=gH B i:=by simp only [gH,DT h]
theorem aNu {B:Bk} {i:Int} (h:jN B i) (E:Bk):LN (B++E) i=LN B i:=by simp only [LN,DT h]
theorem lR {B:Bk} {i:Int} {n:Nd} (h:iT B i=some n):n∈B:=by
 simp only [iT] at h
 cases hc:decide (i < 0) with
 | true=>rw [hc] at h;cases h
 | false=>rw [hc] at h;exact m017 h
theorem NB {B:Bk} {i:Int} (hw:Wf B) (h:jN B i) (E:Bk):dF (B++E) i=dF B i:=by
 simp only [dF,DT h]
 cases hn:iT B i with
 | none=>rfl
 | some n =>
  simp only
  cases ha:n.a with
  | nil=>rfl
  | cons j l=>simp only [aNu ((hw.2 n (lR hn)).1 j (by rw [ha];exact m007 ..))]
theorem PS {B:Bk} (x:sB) (E:Bk):∀ (a:List Int) (i:Nat) (last:Int),(∀ id∈a,jN B id)->bK (B++E) x i last a=bK B x i last a:=by
 intro a
 induction a with
 | nil=>intro i last _;rfl
 | cons id a ih =>intro i last h;simp only [bK,aLg (h id (m007 ..)),ih _ _ fun j hj=>h j (m005 _ hj)]
theorem aDd {B:Bk} (hw:Wf B) (E:Bk):∀ (a:List Int),(∀ id∈a,jN B id)->dK (B++E) a=dK B a:=by
 intro a
 induction a with
 | nil=>intro _;rfl
 | cons id a ih=>intro h;simp only [dK,NB hw (h id (m007 ..)),ih fun j hj=>h j (m005 _ hj)]
theorem AO {B:Bk} {a:List Int}:a.any (kA B)=false↔∀ i∈a,jN B i:=by
 simp only [List.any_eq_false,kA,jN,uN,decide_eq_true_eq];constructor
 ·intro h i hi;have:=h i hi;omega
 ·intro h i hi;have:=h i hi;omega
section
variable {α β:Type}
def Stb (ok:α->Bool) (P:α->Bk->Prop) (Q:α->Prop) (c:Sg->Option (α×Sg)) (B:Bk):Prop :=
 ∀ M r B' M',c (B,M)=some (r,(B',M'))->M'=M/\KZ B B'/\Wf B' /\
  (ok r=true->P r B'/\∀ E M2,Wf (B'++E)->c (B'++E,M2)=some (r,(B'++E,M2))) /\
  (ok r=false->Q r/\∀ M2,c (B',M2)=some (r,(B',M2)))
theorem aDt {ok:α->Bool} {P:α->Bk->Prop} {Q:α->Prop} {B:Bk} (hw:Wf B) (r:α) (hp:ok r=true->P r B) (hq:ok r=false->Q r):Stb ok P Q (fun σ=>some (r,σ)) B:=by intro M r' B' M' h;simp only [m000,m001] at h;obtain ⟨rfl,rfl,rfl⟩:=h;exact ⟨rfl,KZ.refl _,hw,fun ho=>⟨hp ho,fun _ _ _=>rfl⟩,fun ho=>⟨hq ho,fun _=>rfl⟩⟩
end
abbrev okE (r:Int×Int):Bool:=r.2==0
abbrev PE (r:Int×Int) (B:Bk):Prop:=jN B r.1
abbrev QE (r:Int×Int):Prop:=r.1=0
abbrev StE (c:Sg->Rt) (B:Bk):Prop:=Stb okE PE QE c B
theorem JC {B:Bk} (hw:Wf B) (e:Int) (he:e≠0):StE (fun σ=>some ((0,e),σ)) B:=aDt hw _ (fun h=>by simp [okE] at h;exact absurd h he) (fun _=>rfl)
theorem oD {g:Bk->(Int×Int)×Bk} {B:Bk} (h1:KZ B (g B).2) (h2:Wf (g B).2) (h3:(g B).1.2=0->jN (g B).2 (g B).1.1/\∀ E,Wf ((g B).2++E)->g ((g B).2++E)=((g B).1,(g B).2++E))
  (h4:(g B).1.2≠0->(g B).1.1=0/\g (g B).2=g B):StE (fun σ=>KG (g σ.1) σ.2) B:=by
 intro M r B' M' h;simp only [KG,m000,m001] at h;obtain ⟨rfl,rfl,rfl⟩:=h;refine ⟨rfl,h1,h2,fun ho=>?_,fun ho=>?_⟩
 ·obtain ⟨a,b⟩:=h3 (by simpa [okE] using ho);exact ⟨a,fun E M2 hw=>by simp only [KG,b E hw]⟩
 ·obtain ⟨a,b⟩:=h4 (by simpa [okE] using ho);exact ⟨a,fun M2=>by simp only [KG,b]⟩
theorem aQp {B:Bk} {n:Nd} (hw:Wf B) (hl:B.length≠20000) (ha:∀ i∈n.a,jN B i) (h14:n.op=14->n.a≠[]):Wf (B++[n]):=by
 refine ⟨by have:=hw.1;simp only [m006,List.length_singleton];omega,?_⟩;intro m hm;rcases m003.1 hm with hm | hm
 ·exact ⟨fun i hi=>((hw.2 m hm).1 i hi).ext ⟨[n],rfl⟩,(hw.2 m hm).2⟩
 ·simp only [m008] at hm;subst hm;exact ⟨fun i hi=>(ha i hi).ext ⟨[m],rfl⟩,h14⟩
theorem lH (B:Bk) (n:Nd):(∃ i,fE (eK n) B=some i/\dU B n=(((i:Int),0),B))\/(fE (eK n) B=none/\B.length=20000/\dU B n=((0,2),B))\/(fE (eK n) B=none/\B.length≠20000/\dU B n=(((B.length:Int),0),B++[n])):=by
 unfold dU
 cases h:fE (eK n) B with
 | some i=>exact .inl ⟨i,rfl,rfl⟩
 | none =>
  cases hb:((B.length:Int)==20000) with
  | true=>exact .inr (.inl ⟨rfl,by simp at hb;omega,by simp⟩)
  | false=>exact .inr (.inr ⟨rfl,by simp at hb;omega,by simp⟩)
theorem rP {B:Bk} {n:Nd} {i:Nat} (h:fE (eK n) B=some i):dU B n=(((i:Int),0),B):=by unfold dU;rw [h]
theorem OY {B:Bk} {n:Nd} (hw:Wf B) (ha:∀ i∈n.a,jN B i) (h14:n.op=14->n.a≠[]):KZ B (dU B n).2/\Wf (dU B n).2/\((dU B n).1.2=0->jN (dU B n).2 (dU B n).1.1/\∀ E,dU ((dU B n).2++E) n=((dU B n).1,(dU B n).2++E)) /\
  ((dU B n).1.2≠0->(dU B n).1.1=0/\dU (dU B n).2 n=dU B n):=by
 rcases lH B n with ⟨i,h1,h2⟩ | ⟨h1,h2,h3⟩ | ⟨h1,h2,h3⟩
 ·rw [h2];refine ⟨KZ.refl _,hw,fun _=>⟨⟨by simp,by have:=aIz h1;simp;omega⟩,fun E=>rP (HM h1 E)⟩,fun h=>absurd rfl h⟩
 ·rw [h3];exact ⟨KZ.refl _,hw,fun h=>absurd (show (2:Int)=0 from h) (by decide),fun _=>⟨rfl,h3⟩⟩
 ·rw [h3];exact ⟨⟨[n],rfl⟩,aQp hw h2 ha h14,fun _=>⟨⟨by simp,by simp;omega⟩,fun E=>rP (HM (XA h1) E)⟩,fun h=>absurd rfl h⟩
theorem AI {B:Bk} {n:Nd} (hw:Wf B) (ha:∀ i∈n.a,jN B i) (h14:n.op=14->n.a≠[]):StE (fun σ=>KG (dU σ.1 n) σ.2) B:=by obtain ⟨h1,h2,h3,h4⟩:=OY hw ha h14;exact oD (g:=fun B=>dU B n) h1 h2 (fun h=>⟨(h3 h).1,fun E _=>(h3 h).2 E⟩) h4
theorem aBu {B:Bk} (hw:Wf B) (nm:List UInt8) (so:Int):StE (fun σ=>KG (mU σ.1 nm so) σ.2) B:=by
 unfold mU
 cases h:(decide (so < 1)||(decide (so > 3)||decide ((nm.length:Int) > 16384))) with
 | true=>exact JC hw 1 (by decide)
 | false=>exact AI hw (fun i hi=>by cases hi) fun h=>absurd (show (1:Int)=14 from h) (by decide)
theorem XJ {B:Bk} (hw:Wf B) (v:Bool):StE (fun σ=>KG (wR σ.1 v) σ.2) B:=AI hw (fun i hi=>by cases hi) fun h=>by cases v<;>exact absurd h (by decide)
theorem aIv {B:Bk} (hw:Wf B) (neg:Bool) (n:List Nat):StE (fun σ=>KG (sJ σ.1 neg n) σ.2) B:=by
 unfold sJ
 cases h:decide (pG neg n < 0) with
 | true=>exact JC hw 1 (by decide)
 | false=>exact AI hw (fun i hi=>by cases hi) fun h=>absurd (show (4:Int)=14 from h) (by decide)
theorem aQt {B:Bk} (hw:Wf B) (s:List (Int×Int)):StE (fun σ=>KG (FH σ.1 s) σ.2) B:=by
 unfold FH
 cases h:xE s with
 | false=>exact JC hw 1 (by decide)
 | true=>exact AI hw (fun i hi=>by cases hi) fun h=>absurd (show (5:Int)=14 from h) (by decide)
theorem aTs {B:Bk} (hw:Wf B) (op:Int) (a:List Int):StE (fun σ=>KG (gU σ.1 op a) σ.2) B:=by
 by_cases hbad:a.any (kA B)=true
 ·
  have:∃ e,e≠0/\gU B op a=((0,e),B):=by
   unfold gU
   cases h0:decide (op < 0) with
   | true=>exact ⟨101,by decide,rfl⟩
   | false =>
    simp only [cond_false]
    cases h1:gE[op.toNat]? with
    | none=>exact ⟨101,by decide,rfl⟩
    | some x =>
     simp only
     cases h2:(x.parts==0) with
     | true=>exact ⟨101,by decide,rfl⟩
     | false =>simp only [cond_false,hbad,m078,cond_true];exact ⟨1,by decide,rfl⟩
  obtain ⟨e,he,h⟩:=this;refine oD (g:=fun B=>gU B op a) ?_ ?_ ?_ ?_<;>simp only [h]
  ·exact KZ.refl _
  ·exact hw
  ·exact fun h=>absurd h he
  ·exact fun _=>⟨trivial,trivial⟩
 ·have hin:=AO.1 (by simpa using hbad)
  have key:∀ E:Bk,gU (B++E) op a=(bif decide (op < 0) then ((0,101),B++E) else match gE[op.toNat]? with
   | none=>((0,101),B++E)
   | some x=>bif x.parts==0 then ((0,101),B++E) else
    bif decide ((a.length:Int) < x.parts)||((decide ((a.length:Int) > x.parts)&&!x.more)||decide ((a.length:Int) > 200)) then ((0,1),B++E) else
    bif bK B x 0 0 a==0 then ((0,90),B++E) else
    bif op==17&&!decide (dK B a<=1) then ((0,101),B++E) else dU (B++E) ⟨op,bK B x 0 0 a,a,[],false,[],[]⟩):=by
   intro E;have hb:a.any (kA (B++E))=false:=AO.2 fun i hi=>(hin i hi).ext ⟨E,rfl⟩;unfold gU;simp only [hb,Bool.or_false,PS _ E a _ _ hin,aDd hw E a hin]
   all_goals rfl
  have key0:=key [];simp only [m011] at key0
  cases h0:decide (op < 0) with
  | true =>simp only [h0,cond_true] at key key0;exact oD (g:=fun B=>gU B op a) (by simp only [key0];exact KZ.refl _) (by simp only [key0];exact hw) (fun h=>by rw [key0] at h;exact absurd (show (101:Int)=0 from h) (by decide)) (fun _=>by simp only [key0];exact ⟨trivial,trivial⟩)
  | false =>
  simp only [h0,cond_false] at key key0
  cases h1:gE[op.toNat]? with
  | none =>simp only [h1] at key key0;exact oD (g:=fun B=>gU B op a) (by simp only [key0];exact KZ.refl _) (by simp only [key0];exact hw) (fun h=>by rw [key0] at h;exact absurd (show (101:Int)=0 from h) (by decide)) (fun _=>by simp only [key0];exact ⟨trivial,trivial⟩)
  | some x =>
  simp only [h1] at key key0
  have er:∀ e:Int,e≠0->gU B op a=((0,e),B)->StE (fun σ=>KG (gU σ.1 op a) σ.2) B:=fun e he h =>
   oD (g:=fun B=>gU B op a) (by simp only [h];exact KZ.refl _) (by simp only [h];exact hw) (fun hh=>by rw [h] at hh;exact absurd hh he) (fun _=>by simp only [h];exact ⟨trivial,trivial⟩)
  cases h2:(x.parts==0) with
  | true=>rw [h2] at key0;exact er 101 (by decide) key0
  | false =>
  rw [h2] at key0;simp only [h2,cond_false] at key key0
  cases h3:(decide ((a.length:Int) < x.parts)||((decide ((a.length:Int) > x.parts)&&!x.more)||decide ((a.length:Int) > 200))) with
  | true=>rw [h3] at key0;exact er 1 (by decide) key0
  | false =>
  simp only [h3,cond_false] at key key0
  cases h4:(bK B x 0 0 a==0) with
  | true=>rw [h4] at key0;exact er 90 (by decide) key0
  | false =>
  simp only [h4,cond_false] at key key0
  cases h5:(op==17&&!decide (dK B a<=1)) with
  | true=>rw [h5] at key0;exact er 101 (by decide) key0
  | false =>
  simp only [h5,cond_false] at key key0
  have h14:op=14->a≠[]:=fun ho ha=>by
   subst ho;subst ha;simp only [JX,decide_eq_false_iff_not] at h3;have:x.parts=1:=by have h6:gE[(14:Int).toNat]?=some ⟨1,false,2,2,2,2⟩:=rfl;rw [h1] at h6;cases h6;rfl
   rw [this] at h3;exact absurd (show (([]:List Int).length:Int) < 1 by decide) h3.1
  obtain ⟨a1,a2,a3,a4⟩:=OY (n:=⟨op,bK B x 0 0 a,a,[],false,[],[]⟩) hw hin h14;refine oD (g:=fun B=>gU B op a) (by simp only [key0];exact a1) (by simp only [key0];exact a2) (fun h=>?_) (fun h=>?_)
  ·simp only [key0] at h ⊢;obtain ⟨b1,b2⟩:=a3 h;refine ⟨b1,fun E _=>?_⟩;obtain ⟨E1,hE⟩:=a1;rw [hE,m019,key];have:=b2 E
   rwa [hE,m019] at this
  ·simp only [key0] at h ⊢;obtain ⟨b1,b2⟩:=a4 h;refine ⟨b1,?_⟩;obtain ⟨E1,hE⟩:=a1;rw [hE,key]
   rwa [hE] at b2
section
variable (ps:List UInt8->List Nat×Int)
end
section
variable (ps:List UInt8->List Nat×Int) {mm:Bool}
abbrev Fn:=List Dc->Ev->Sx->Sg->Rt
def oA (f g:Fn):Prop:=∀ L env x σ r,f L env x σ=some r->g L env x σ=some r
variable {f g:Fn}
noncomputable def U (mm:Bool):Fn:=fun L env x σ=>by
 classical exact if h:∃ r n,T ps mm n L env x σ=some r then some h.choose else none
end
section
theorem MN {B:Bk} (hw:Wf B) {a:List Int} (h:∀ i∈a,jN B i):∀ i∈a,0<=i/\i < 2 ^ 60:=fun i hi=>by obtain ⟨h1,h2⟩:=h i hi;have:=hw.1;exact ⟨h1,by omega⟩
variable (ps:List UInt8->List Nat×Int)
variable {L0:List Dc} {f:Fn}
end
end
noncomputable section
def lN (c:UInt8):Bool:=decide (48<=c.toNat)&&decide (c.toNat<=57)
def FL (l:List UInt8):Nat:=l.foldl (fun a c=>10 * a+(c.toNat - 48)) 0
theorem wI {u:Nat} (h:u < 10):(UInt8.ofNat (48+u)).toNat=48+u:=by simp [UInt8.toNat_ofNat'];omega
theorem aMh:∀ (f u:Nat),∀ c∈uO f u,lN c=true:=by
 intro f
 induction f with
 | zero=>intro u c h;cases h
 | succ f ih =>
  intro u c h;simp only [uO] at h
  cases hb:Nat.blt u 10 with
  | true =>
   have hu:u < 10:=by simpa [Nat.blt_eq] using hb
   rw [hb] at h;simp only [cond_true,m008] at h;subst h;simp only [lN,wI hu,bN,decide_eq_true_eq];omega
  | false =>
   rw [hb] at h;simp only [cond_false,m003,m008] at h;rcases h with h | rfl
   ·exact ih _ c h
   ·have:u % 10 < 10:=Nat.mod_lt _ (by decide);simp only [lN,wI this,bN,decide_eq_true_eq];omega
theorem OD:∀ (f u:Nat),u < 10 ^ f->FL (uO f u)=u:=by
 intro f
 induction f with
 | zero=>intro u h;simp at h;subst h;rfl
 | succ f ih =>
  intro u h;simp only [uO]
  cases hb:Nat.blt u 10 with
  | true =>
   have hu:u < 10:=by simpa [Nat.blt_eq] using hb
   simp only [cond_true,FL,List.foldl_cons,List.foldl_nil,wI hu];omega
  | false =>
   have h1:u / 10 < 10 ^ f:=by rw [Nat.pow_succ] at h;omega
   have h2:u % 10 < 10:=Nat.mod_lt _ (by decide);simp only [cond_false,FL,List.foldl_append,List.foldl_cons,List.foldl_nil,wI h2];have:=ih _ h1;simp only [FL] at this;rw [this];omega
theorem aPr (f u:Nat):uO (f+1) u≠[]:=by simp only [uO];cases Nat.blt u 10<;>simp
theorem DI {i:Int} (h:0<=i):cM i=uO 20 i.toNat:=by unfold cM;rw [if_neg (by omega)]
theorem gX {i:Int} (h:0<=i):∀ c∈cM i,lN c=true:=by rw [DI h];exact aMh _ _
theorem qZ {i j:Int} (h:0<=i) (h2:i < 2 ^ 60) (k:0<=j) (k2:j < 2 ^ 60) (e:cM i=cM j):i=j:=by rw [DI h,DI k] at e;have a:=OD 20 i.toNat (by omega);have b:=OD 20 j.toNat (by omega);rw [e,b] at a;omega
theorem LZ {c:UInt8}:∀ {x x' y y':List UInt8},c ∉ x->c ∉ x'->x++c::y=x'++c::y'->x=x'/\y=y':=by
 intro x
 induction x with
 | nil =>
  intro x' y y' _ h' e
  cases x' with
  | nil=>simp only [List.nil_append,m057,true_and] at e;exact ⟨rfl,e⟩
  | cons d x'=>simp only [List.nil_append,List.cons_append,m057] at e;exact absurd e.1 (fun h=>h' (by rw [h];exact m007 ..))
 | cons d x ih =>
  intro x' y y' h h' e
  cases x' with
  | nil=>simp only [List.nil_append,List.cons_append,m057] at e;exact absurd e.1 (fun hh=>h (by rw [hh];exact m007 ..))
  | cons d' x' =>simp only [List.cons_append,m057] at e;obtain ⟨a,b⟩:=ih (fun hh=>h (m005 _ hh)) (fun hh=>h' (m005 _ hh)) e.2;exact ⟨by rw [e.1,a],b⟩
theorem IN {c:UInt8} {l:List UInt8} (h:∀ d∈l,lN d=true) (hc:lN c=false):c ∉ l:=fun hm=>by rw [h c hm] at hc;cases hc
end
noncomputable section
structure Ab:Type where
 so:Int
 lit:Bool
 num:Bool
abbrev RA:=Option (Ab×Int)
abbrev EA:=List (List UInt8×Ab)
section
variable (ps:List UInt8->List Nat×Int) (f:List Dc->EA->Sx->RA)
end
theorem rD:∀ {x x' y y':List UInt8},(∀ c∈x,lN c=true)->(∀ c∈x',lN c=true)->(∀ c∈y.head?,lN c=false)->(∀ c∈y'.head?,lN c=false)->x++y=x'++y'->x=x'/\y=y':=by
 intro x
 induction x with
 | nil =>
  intro x' y y' _ h' hy _ e
  cases x' with
  | nil=>exact ⟨rfl,e⟩
  | cons d x' =>have e:y=d::(x'++y'):=e;have h1:=hy d (by rw [e];rfl);rw [h' d (m007 ..)] at h1;cases h1
 | cons d x ih =>
  intro x' y y' h h' hy hy' e
  cases x' with
  | nil =>have e:d::(x++y)=y':=e;have h1:=hy' d (by rw [<- e];rfl);rw [h d (m007 ..)] at h1;cases h1
  | cons d' x' =>simp only [List.cons_append,m057] at e;obtain ⟨a,b⟩:=ih (fun c hc=>h c (m005 _ hc)) (fun c hc=>h' c (m005 _ hc)) hy hy' e.2;exact ⟨by rw [e.1,a],b⟩
def aT (a:List Int):List UInt8:=a.flatMap fun i=>32::cM i
theorem AN (a:List Int) (R:List UInt8):∀ c∈(aT a++35::R).head?,lN c=false:=by
 intro c hc
 cases a with
 | nil=>cases hc;rfl
 | cons i a=>cases hc;rfl
theorem bBp:∀ {a a':List Int} {R R':List UInt8},(∀ i∈a,0<=i/\i < 2 ^ 60)->(∀ i∈a',0<=i/\i < 2 ^ 60)->aT a++35::R=aT a'++35::R'->a=a':=by
 intro a
 induction a with
 | nil =>
  intro a' R R' _ _ e
  cases a' with
  | nil=>rfl
  | cons i a'=>simp [aT] at e
 | cons i a ih =>
  intro a' R R' h h' e
  cases a' with
  | nil=>simp [aT] at e
  | cons j a' =>
   have e:cM i++(aT a++35::R)=cM j++(aT a'++35::R'):=by simpa [aT] using e
   have hi:=h i (m007 ..);have hj:=h' j (m007 ..);obtain ⟨e1,e2⟩:=rD (gX hi.1) (gX hj.1) (AN a R) (AN a' R') e;rw [qZ hi.1 hi.2 hj.1 hj.2 e1,ih (fun c hc=>h c (m005 _ hc)) (fun c hc=>h' c (m005 _ hc)) e2]
theorem aKu (n:Nd):∃ R,eK n=cM n.op++58::(cM n.so++(aT n.a++35::R)):=⟨iJ n.num++(n.str.flatMap (fun r=>32::cM r.1++42::cM r.2)++61::n.nm),by simp [eK,aT]⟩
theorem aQa {n m:Nd} (no:0<=n.op/\n.op < 2 ^ 60) (mo:0<=m.op/\m.op < 2 ^ 60) (ns:0<=n.so/\n.so < 2 ^ 60) (ms:0<=m.so/\m.so < 2 ^ 60) (na:∀ i∈n.a,0<=i/\i < 2 ^ 60) (ma:∀ i∈m.a,0<=i/\i < 2 ^ 60) (e:eK n=eK m):n.op=m.op/\n.so=m.so/\n.a=m.a:=by obtain ⟨R,hR⟩:=aKu n;obtain ⟨R',hR'⟩:=aKu m;rw [hR,hR'] at e;obtain ⟨e1,e2⟩:=LZ (IN (gX no.1) rfl) (IN (gX mo.1) rfl) e;obtain ⟨e3,e4⟩:=rD (gX ns.1) (gX ms.1) (AN n.a R) (AN m.a R') e2;exact ⟨qZ no.1 no.2 mo.1 mo.2 e1,qZ ns.1 ns.2 ms.1 ms.2 e3,bBp na ma e4⟩
end
noncomputable section
def aSm:List UInt8:=[48,49,50,51,52,53,54,55,56,57,97,98,99,100,101,102,103,104,105,106,107,108,109,110,111,112,113,114,115,116,117,118,119,120,121,122]
def BY (n:Nat):UInt8:=aSm.getD (n % 16) 48
def nK:Nat->Nat->List UInt8->List UInt8
 | 0,n,acc=>BY n::acc
 | f+1,n,acc=>bif Nat.ble 16 n then nK f (n / 16) (BY n::acc) else BY n::acc
def zN (n:Nat):List UInt8:=nK 16 n []
theorem aUi (n:Nat):aSm[n % 16]?=some (BY n):=by have:n % 16 < aSm.length:=HT (Nat.mod_lt _ (by decide)) (by decide);unfold BY;rw [m004 this,List.getD_eq_getElem?_getD,m004 this];rfl
theorem bKq (n:Nat) (h:n < 2 ^ 64):DU .and .u64 (n:Int) 15=((n % 16:Nat):Int):=by
 have e2:(BitVec.ofInt 64 (n:Int)).toNat=n:=by rw [BitVec.ofInt_natCast,BitVec.toNat_ofNat,Nat.mod_eq_of_lt h]
 show IntKind.u64.wrap (((BitVec.ofInt 64 (n:Int) &&& BitVec.ofInt 64 15:BitVec 64).toNat:Nat):Int)=_;rw [BitVec.toNat_and,e2];have:(BitVec.ofInt 64 15).toNat=2 ^ 4 - 1:=by decide
 rw [this,Nat.and_two_pow_sub_one_eq_mod,IntWalk.u64_in _ (by omega)]
theorem aTb {T:Ty} {q:TypeId->Bool} {t:TypeId} {k:IntKind} {a b:Int}:lA T q .and t (.int k a) (.int k b)=some (.int k (DU .and k a b)):=by simp [lA,dC,eL]
theorem bKg (N i:Nat) (h:i < 65):FD 65 1 (.ptr N 0) (.int .i64 (i:Int))=some (.ptr N i):=by
 have h9:(i:Int) < 65:=by omega
 simp [FD,pF,zK,h,h9,aD]
theorem aYv (id i:Nat) (s:St) (c:List AV) (e':TypeId) (ex wr:Bool) (hs:s.h id=some (.cells c e' ex wr)) (hc:c.length=65) (hi:i < 65):jM 311 (.ptr id 0) (some (.int .i64 (i:Int))) none none s=some (.ref id i (65 - i) (some (65 - i)) 5):=by
 have h1:dZ Tryz.ty 311=some (.array 65 5):=by kernel_rfl
 have h2:eN Tryz.ty 5=some (1,false):=by kernel_rfl
 have h9:(i:Int)<=65:=by omega
 have h8:i<=65:=by omega
 have h7:¬ 65=i:=by omega
 simp [jM,fJ,h1,h2,hs,hc,eF,pK,pF,h8,h9,h7]
theorem aXh (i:Nat) (acc:List UInt8) (c:UInt8):((List.replicate (i+1) (0:UInt8)++acc).map oW).set i (oW c)=(List.replicate i (0:UInt8)++(c::acc)).map oW:=by have:=AE (a:=(List.replicate i (0:UInt8)).map oW) (x:=oW 0) (v:=oW c) (b:=acc.map oW);rw [m002,List.length_replicate] at this;rw [List.replicate_succ'];simp only [m019,List.singleton_append,m038,m039];exact this
theorem ixd (n:Nat):uK 9 (.str [48,49,50,51,52,53,54,55,56,57,97,98,99,100,101,102,103,104,105,106,107,108,109,110,111,112,113,114,115,116,117,118,119,120,121,122]) (.int .u64 ((n % 16:Nat):Int))=some (oW (BY n)):=rW (x:=aSm) .u64 (aUi n)
theorem bJg:zr 311=some (.agg (List.replicate 65 (.int .u8 0))):=by kernel_rfl
theorem bIo (Q:aC) (N i n:Nat) (acc:List UInt8) (e':TypeId) (s:St) (hn:n < 16) (hi:i+1+acc.length=65) (hs:s.h N=some (.cells ((List.replicate (i+1) (0:UInt8)++acc).map oW) e' true true)) (hQ:∀ s,Q (.tup [.nils,.str (BY n::acc)]) s) :
  BJ Q (.int .i64 ((i+1:Nat):Int)) (.int .u64 n) (.ptr N 0) (.bool false) (.bool false) (.sl false []) (.str []) .nils s:=by
 have h3:IntKind.i64.wrap (((i+1:Nat):Int) - 1)=(i:Int):=by rw [IntWalk.i64_in _ (by omega)];omega
 have hd:=ixd n;rw [Nat.mod_eq_of_lt hn] at hd;have hsl:=fun s h=>aYv N i s ((List.replicate i (0:UInt8)++(BY n::acc)).map oW) e' true true h (by simp;omega) (by omega);have hst:=fun s h=>JN (fF:=List.replicate i 0) (post:=[]) (off:=i) (n:=65 - i) (cp:=some (65 - i)) (e:=5) (e':=e') (ex:=true) (wr:=true) (s:=s) (id:=N) (bs:=BY n::acc) h (by simp) (by simp;omega);unfold BJ;simp only [h3,hd,bKg N i (by omega),nJ (c:=(List.replicate (i+1) (0:UInt8)++acc).map oW) (v:=oW (BY n)) (e:=e') (ex:=true) (id:=N) (off:=i) (s:=Ai.adv s 8) (by rw [adv_h];exact hs) (by simp;omega) rfl rfl,aXh,wx,wy,Z0,Z1,reduceCtorEq];unfold wS;simp only [wx,wy,Z0,Z1,reduceCtorEq];unfold JQ;simp only [wx,wy,Z0,Z1,reduceCtorEq];rw [hsl _ (by simp only [adv_h,aG])];simp only [wx,wy,Z0,Z1,reduceCtorEq];rw [hst _ (by rw [m011];simp only [adv_h,aG])];simp only [wx,wy,Z0,Z1,reduceCtorEq];exact hQ _
theorem bPh (Q:aC) (N:Nat) (e':TypeId) (r:List UInt8) (hQ:∀ s,Q (.tup [.nils,.str r]) s):∀ (f n i:Nat) (acc:List UInt8) (s:St),n < 2 ^ 63->n < 16 ^ (f+1)->f<=i->i+1+acc.length=65->nK f n acc=r ->
  s.h N=some (.cells ((List.replicate (i+1) (0:UInt8)++acc).map oW) e' true true) ->
  xI Q (f+1) (.sl false []) (.int .u64 n) (.bool false) (.bool false) .nils (.str []) (.ptr N 0) (.int .i64 ((i+1:Nat):Int)) (.int .u64 4) (.int .u64 16) (.int .u64 15) s:=by
 intro f
 induction f with
 | zero =>
  intro n i acc s hn hb hi hl hg hs;have h16:n < 16:=by simpa using hb
  have h1:decide ((n:Int) >= 16)=false:=by simp;omega
  show rH Q (xI Q 0) _ _ _ _ _ _ _ _ _ _ _ s;simp only [rH,h1,wx,wy,Z0,Z1,reduceCtorEq];have hg':BY n::acc=r:=hg;exact bIo Q N i n acc e' _ h16 hl (by rw [adv_h];exact hs) fun s=>by rw [hg'];exact hQ s
 | succ f ih =>
  intro n i acc s hn hb hi hl hg hs;show rH Q (xI Q (f+1)) _ _ _ _ _ _ _ _ _ _ _ s
  cases hc:Nat.ble 16 n with
  | false =>
   have h16:n < 16:=by
    rcases zP n 16 with h | h
    ·exact h
    ·rw [Nat.ble_eq_true_of_le h] at hc;cases hc
   have h1:decide ((n:Int) >= 16)=false:=by simp;omega
   simp only [rH,h1,wx,wy,Z0,Z1,reduceCtorEq];simp only [nK,hc,cond_false] at hg;exact bIo Q N i n acc e' _ h16 hl (by rw [adv_h];exact hs) fun s=>by rw [hg];exact hQ s
  | true =>
   have h16:16<=n:=Nat.le_of_ble_eq_true hc;have h1:decide ((n:Int) >= 16)=true:=by simp;omega
   simp only [nK,hc,cond_true] at hg;obtain ⟨i,rfl⟩:∃ k,i=k+1:=⟨i - 1,by omega⟩;have h3:IntKind.i64.wrap (((i+1+1:Nat):Int) - 1)=((i+1:Nat):Int):=by rw [IntWalk.i64_in _ (by omega)];omega
   have hand:∀ t,bn .and t (.int .u64 (n:Int)) (.int .u64 15)=some (.int .u64 ((n % 16:Nat):Int)):=fun t=>by rw [<- bKq n (Nat.lt_trans hn (by decide))];exact aTb
   have hshr:bn .shr 159 (.int .u64 (n:Int)) (.int .u64 4)=some (.int .u64 ((n:Int).fdiv (2 ^ 4))):=aSy (n:=4) (by decide);have hdv:(n:Int).fdiv (2 ^ 4)=((n / 16:Nat):Int):=by rw [Int.fdiv_eq_ediv_of_nonneg _ (by decide)];rfl
   rw [hdv] at hshr;simp only [rH,h1,h3,hand,ixd n,bKg N (i+1) (by omega),hshr,wx,wy,Z0,Z1,reduceCtorEq];rw [nJ (c:=(List.replicate (i+1+1) (0:UInt8)++acc).map oW) (v:=oW (BY n)) (e:=e') (ex:=true) (id:=N) (off:=i+1) (by rw [adv_h];exact hs) (by simp;omega) rfl rfl,aXh];simp only [wx,wy,Z0,Z1,reduceCtorEq];refine ih (n / 16) i (BY n::acc) _ (by omega) ?_ (by omega) (by simp;omega) hg (by simp only [adv_h,aG]);rw [Nat.pow_succ] at hb;generalize 16 ^ (f+1)=K at *;omega
theorem bNa (n:Nat) (hn:n < 2 ^ 63):aU mEv 266 [.sl false [],.int .u64 n,.int .i64 16,.bool false,.bool false] (.tup [.sl false [],.str (zN n)]):=by
 have k282:aU mEv 282 [.int .i64 16] (.bool true):=mS (by kernel_rfl);have k283:aU mEv 283 [.int .u64 16] (.int .i64 4):=mS (by kernel_rfl);refine bC (aEa _ _ _ _ _ _ ?_);have d1:decide ((16:Int) < 2)=false:=rfl;have d2:((16:Int)==10)=false:=rfl;have d3:decide ((16:Int) > 36)=false:=rfl;unfold f266;simp only [d1,d2,d3,wx,wy,Z0,Z1,reduceCtorEq];unfold JK;simp only [bJg,wx,wy,Z0,Z1,reduceCtorEq];unfold IX;refine aM k282 (by simp [AV.closed]) ?_;simp only [TK,wx,wy,Z0,Z1,reduceCtorEq];rw [show IntKind.u64.wrap 16=16 from rfl];refine aM k283 (by simp [AV.closed]) ?_;simp only [TK,aTq,show IntKind.u64.wrap 4=4 from rfl,show IntKind.u64.wrap 16=16 from rfl,show IntKind.u64.wrap (16 - 1)=15 from rfl,wx,wy,Z0,Z1,reduceCtorEq];refine ⟨17,?_⟩;refine bPh (cU (.tup [.sl false [],.str (zN n)])) _ 311 (zN n) (fun s=>?_) 16 n 64 [] _ hn (Nat.lt_trans hn (by decide)) (by decide) rfl rfl ?_
 ·exact nH ⟨[],rfl,rfl⟩
 ·simp only [adv_h,aG];rfl
theorem bPj (n:Nat) (hn:n < 2 ^ 63):aU mEv 236 [.int .i64 n,.int .i64 16] (.str (zN n)):=by
 refine bC (aIq _ _ _ ?_);have d2:((16:Int)==10)=false:=rfl;have d4:decide ((n:Int) < 0)=false:=by simp
 unfold f236;simp only [d2,wx,wy,Z0,Z1,reduceCtorEq];unfold JO;simp only [d4,aPc,wx,wy,Z0,Z1,reduceCtorEq];rw [show IntKind.u64.wrap (n:Int)=(n:Int) from IntWalk.u64_in _ (by omega)];refine eR (args2:=[.sl false [],.int .u64 n,.int .i64 16,.bool false,.bool false]) (ids:=[]) rfl (bNa n hn) ?_;simp only [wx,wy,Z0,Z1,reduceCtorEq];exact aI rfl
theorem bMo (n:Nat) (hn:n < 2 ^ 63):aU mEv 207 [.int .i64 n,.int .i64 16] (.str (zN n)):=by refine bC (aNf _ _ _ ?_);unfold f207;refine aM (bPj n hn) (by simp [AV.closed]) ?_;exact aI rfl
end
noncomputable section
def kF (c:UInt8):AV:=.int .u8 c.toNat
theorem UO:gI 161 5 1 false 1:=⟨by kernel_rfl,by kernel_rfl,by kernel_rfl,by kernel_rfl,by decide⟩
theorem aEp:bn .eql 160 .nilp .nilp=some (.bool true):=by kernel_rfl
theorem aHy (i:Nat):bn .eql 160 (.ptr i 0) .nilp=some (.bool false):=by kernel_rfl
theorem aWe (i:Nat):bn .neq 160 (.ptr i 0) (.ptr i 0)=some (.bool false):=by
 have h1:dZ Tryz.ty 160=some (.pointer 163):=by kernel_rfl
 have h2:eN Tryz.ty 163=some (2,true):=by kernel_rfl
 simp [bn,lA,dC,h1,oT,h2]
theorem cv1 {i:Nat} {s:St} {a x:AV} (hs:s.h i=some (.cells [a,x] 163 true true)):cv 160 288 (.ptr i 0) s=some (.ptr i 0):=by
 have h1:dZ Tryz.ty 160=some (.pointer 163):=by kernel_rfl
 have h2:dZ Tryz.ty 288=some .unsafePointer:=by kernel_rfl
 have h3:eN Tryz.ty 163=some (2,true):=by kernel_rfl
 simp [cv,kG,h1,h2,h3,hs]
theorem cv2 {i:Nat} {s:St} {a x:AV} (hs:s.h i=some (.cells [a,x] 163 true true)):cv 288 160 (.ptr i 0) s=some (.ptr i 0):=by
 have h1:dZ Tryz.ty 160=some (.pointer 163):=by kernel_rfl
 have h2:dZ Tryz.ty 288=some .unsafePointer:=by kernel_rfl
 have h3:eN Tryz.ty 163=some (2,true):=by kernel_rfl
 simp [cv,kG,h1,h2,h3,hs]
theorem VZ (i:Nat) (s:St):WideC mEv 232 [.ptr i 0] s (.ptr i 0) s:=⟨1,by kernel_rfl⟩
theorem pQ {id off:Nat} {v:AV} {c:List AV} {e:TypeId} {ex:Bool} {s:St} (h:s.h id=some (.cells c e ex true)) (ho:off < c.length) (hv:v.cells=[v]) (hone:v.one=true):bQ 1 (.ptr id off) v s=some (s.set id (some (.cells (c.set off v) e ex true))):=by show Ai.store 1 (.ptr id off) v s=_;unfold Ai.store;simp only [h];rw [if_pos ⟨by rw [hv];rfl,by omega,by rw [hv];simp [hone]⟩,hv];rfl
def Bd (lo:Nat) (s:St) (id:Nat) (bs:List UInt8):Prop :=
 id < lo/\∃ a x,(a=.nilp\/a=.ptr id 0)/\s.h id=some (.cells [a,x] 163 true true)/\Gw 5 1 lo s x (bs.map kF)/\(bs=[]->x=.nils)
theorem mI {h:FuncId} {args:List AV} {s:St} {K:aC} (hz:mEv.fz h=false) (hc:∃ r s',WideC mEv h args s r s'/\K r s'):aY mEv h args s K:=by obtain ⟨r,s',h1,h2⟩:=hc;exact .mk (by rw [hz];exact ⟨r,s',h1,h2⟩)
theorem aYd:mEv.fz 202=false:=by kernel_rfl
theorem aVy:mEv.fz 232=false:=by kernel_rfl
theorem bKp:mEv.fz 157=false:=by kernel_rfl
theorem aEw:mEv.fz 156=false:=by kernel_rfl
theorem aUo:mEv.fz 108=false:=by kernel_rfl
theorem Bd.adv {lo id n:Nat} {s:St} {bs:List UInt8} (h:Bd lo s id bs):Bd lo (adv s n) id bs:=by obtain ⟨h1,a,x,h2,h3,h4,h5⟩:=h;exact ⟨h1,a,x,h2,h3,h4.adv,h5⟩
theorem VJ (x:AV) (bs:List UInt8) (id:Nat) (s:St):bt .append #[161,9] [x,.str bs] id s=bM 5 1 1 x (bs.map kF) id s:=by
 have h1:dZ (bX mEv).P 161=some (.slice 5):=by kernel_rfl
 have h2:eN (bX mEv).P 5=some (1,false):=by kernel_rfl
 have h3:dN (bX mEv).P 5=some 1:=by kernel_rfl
 have h5:dZ (bX mEv).P 9=some .string:=by kernel_rfl
 have h4:(zero (bX mEv).P 5).map (fun v=>v.cells.length)=some 1:=by kernel_rfl
 cases hz:zero (bX mEv).P 5 with
 | none=>rw [hz] at h4;cases h4
 | some zv =>rw [hz] at h4;simp only [Option.map_some,m000] at h4;simp [bG,h1,h2,h3,h5,hz,h4,aR];rfl
theorem bAg {lo id:Nat} {s:St} {x:AV} {vs:List AV} (g:Gw 5 1 lo s x vs) (fr:aK s) (bs:List UInt8) (hf:vs.length+bs.length<=2 ^ 40) (hid:lo<=id) (hid2:id < s.nx) :
  ∃ x' s',bt .append #[161,9] [x,.str bs] id s=some (x',s')/\Gw 5 1 lo s' x' (vs++bs.map kF)/\aK s'/\s'.nx=s.nx/\(∀ j,j < lo->s'.h j=s.h j)/\x'.cells=[x']/\x'.one=true/\(bs=[]->x'=x):=by
 rw [VJ];have hvb:∀ v∈bs.map kF,v.cells.length=1/\v.cells.all AV.one=true:=fun v hv=>by obtain ⟨c,_,rfl⟩:=m021.1 hv;exact ⟨rfl,rfl⟩
 have hflat:(bs.map kF).flatMap AV.cells=bs.map kF:=jO fun v hv=>by obtain ⟨c,_,rfl⟩:=m021.1 hv;rfl
 have hones:(bs.map kF).all AV.one=true:=m032.2 fun v hv=>by obtain ⟨c,_,rfl⟩:=m021.1 hv;rfl
 cases bs with
 | nil =>
  obtain ⟨h1,⟨rfl,rfl⟩ | ⟨i,hi,rfl,hs⟩⟩:=g
  ·exact ⟨.nils,s,rfl,⟨by simp,.inl ⟨rfl,rfl⟩⟩,fr,rfl,fun _ _=>rfl,rfl,rfl,fun _=>rfl⟩
  ·exact ⟨_,s,rfl,⟨by simpa using h1,.inr ⟨i,hi,by simp,by simpa using hs⟩⟩,fr,rfl,fun _ _=>rfl,rfl,rfl,fun _=>rfl⟩
 | cons c bs =>
  have hem:((c::bs).map kF).isEmpty=false:=rfl
  have hfit:∀ n,n<=2 ^ 40->jA n 1=true:=fun n hn=>by
   have h1:n * 1<=Ai.most:=by unfold Ai.most;omega
   have h2:n<=Ai.most:=by unfold Ai.most;omega
   simp only [jA,Nat.ble_eq_true_of_le h1,Nat.ble_eq_true_of_le h2,gA]
  obtain ⟨h1,⟨rfl,rfl⟩ | ⟨i,hi,rfl,hs⟩⟩:=g
  ·refine ⟨.ref id 0 ((c::bs).map kF).length none 5,s.set id (some (.cells ((c::bs).map kF) 5 false true)),?_,⟨by simpa using hvb,.inr ⟨id,hid,by simp,?_⟩⟩,fr.set hid2,rfl,?_,rfl,rfl,fun h=>by cases h⟩
   ·unfold bM;simp only [hem,hones,m025,m015,if_false];simp only [eC,Nat.div_one];rw [hfit _ (by simpa using hf),if_pos rfl];simp only [kD,Nat.div_one]
   ·rw [aG,List.nil_append,hflat]
   ·intro j hj;exact aF (by omega)
  ·have hfl:=eX h1
   have hilt:i < s.nx:=by
    by_cases hc:i < s.nx
    ·exact hc
    ·rw [fr i (by omega)] at hs;cases hs
   have hlen:(vs.flatMap AV.cells++(c::bs).map kF).length / 1=vs.length+((c::bs).map kF).length:=by rw [m006,hfl,FJ,Nat.div_one]
   refine ⟨.ref id 0 (vs.length+((c::bs).map kF).length) none 5,(s.set i none).set id (some (.cells (vs.flatMap AV.cells++(c::bs).map kF) 5 false true)),?_,⟨?_,.inr ⟨id,hid,by simp,?_⟩⟩,(fr.set hilt).set hid2,rfl,?_,rfl,rfl,fun h=>by cases h⟩
   ·unfold bM;simp only [hem,hones,m025,m015,if_false,hs,m023,hfl,bH,and_self,if_true];rw [if_neg (by simp)];simp only [eC,hlen];rw [hfit _ (by simpa using hf),if_pos rfl];simp only [kD,hlen]
   ·intro w hw;rcases m003.1 hw with hw | hw
    ·exact h1 w hw
    ·exact hvb w hw
   ·rw [aG,List.flatMap_append,hflat]
   ·intro j hj;rw [aF (by omega),aF (by omega)]
section
variable {lo id:Nat} {s:St} {bs:List UInt8} {K:aC}
def bAx (lo id:Nat) (s s':St):Prop:=s.nx<=s'.nx/\aK s'/\∀ j,j < lo->j≠id->s'.h j=s.h j
theorem MA (h:Bd lo s id bs) (fr:aK s) (hl:lo<=s.nx) (hk:∀ s',Bd lo s' id bs->bAx lo id s s'->K (.tup []) s'):aY mEv 202 [.ptr id 0] s K:=by
 obtain ⟨h1,a,x,h2,h3,h4,hx⟩:=h;refine mI aYd (PA _ _ ?_);refine ⟨rfl,?_⟩;rcases h2 with rfl | rfl
 ·simp only [h3,aEp,wz,wy,Z0];rw [cv1 (a:=.nilp) (x:=x) (by simp only [adv_h];exact h3)];simp only [Bnd_some];refine mI aVy ⟨_,_,VZ id _,?_⟩;rw [cv2 (a:=.nilp) (x:=x) (by simp only [adv_h];exact h3)];simp only [wz,wy,Z0];refine ⟨rfl,?_⟩;rw [pQ (c:=[.nilp,x]) (by simp only [adv_h];exact h3) (by simp) rfl rfl];simp only [Bnd_some];refine hk _ ⟨h1,.ptr id 0,x,.inr rfl,by rw [aG];rfl,?_,hx⟩ ⟨by simp only [set_nx,adv_nx];omega,fr.adv.set (by show id < s.nx+13;omega),fun j hj hn=>by rw [aF hn];rfl⟩;exact h4.mono fun j hj _=>by rw [aF (by omega)];rfl
 ·simp only [h3,aHy,wz,wy,Z0];refine ⟨rfl,?_⟩;simp only [h3,aWe,wz,wy,Z0];exact hk _ ⟨h1,.ptr id 0,x,.inr rfl,h3,h4.adv,hx⟩ ⟨by simp only [adv_nx];omega,fr.adv,fun j _ _=>rfl⟩
theorem wb {c:UInt8} (h:Bd lo s id bs) (fr:aK s) (hl:lo<=s.nx) (hlen:bs.length < 2 ^ 40) (hk:∀ s',Bd lo s' id (bs++[c])->bAx lo id s s'->K .nili s'):aY mEv 157 [.ptr id 0,kF c] s K:=by
 refine mI bKp (aKh _ _ _ ?_);unfold f157;refine MA h.adv fr.adv (by show lo<=s.nx+3;omega) fun s1 b1 k1=>?_;obtain ⟨h1,a,x,h2,h3,h4,hx⟩:=b1;obtain ⟨e1,f1,e2⟩:=k1;have e1:s.nx+3<=s1.nx:=e1;have hbs:fZ 161 1 [(0,kF c)]=some (.sl true [kF c]):=eW UO (by decide) rfl rfl
 have hfit:jA ((bs.map kF).length+1) 1=true:=by
  rw [m002];have h1:(bs.length+1) * 1<=Ai.most:=by unfold Ai.most;omega
  have h2:bs.length+1<=Ai.most:=by unfold Ai.most;omega
  simp only [jA,Nat.ble_eq_true_of_le h1,Nat.ble_eq_true_of_le h2,gA]
 obtain ⟨x',s',a1,a2,a3,a4,a5,a6,a7⟩:=VG (id:=s1.nx+7) (v:=kF c) UO (h4.adv (n:=11)) f1.adv rfl rfl hfit (by omega) (by show s1.nx+7 < s1.nx+11;omega) true;have a4:s'.nx=s1.nx+11:=a4;have h3':s'.h id=some (.cells [a,x] 163 true true):=by rw [a5 id h1];exact h3
 refine ⟨rfl,?_⟩;simp only [h3,hbs,a1,wz,wy,Z0];refine ⟨rfl,?_⟩;have hone:x'.cells=[x']/\x'.one=true:=by rw [a7];exact ⟨rfl,rfl⟩
 rw [pQ (c:=[a,x]) h3' (by simp) hone.1 hone.2];simp only [Bnd_some];refine hk _ ⟨h1,a,x',h2,by rw [adv_h,aG];rfl,?_,fun h=>by simp at h⟩ ⟨by simp only [set_nx,adv_nx];omega,(a3.set (by omega)).adv,fun j hj hn=>?_⟩
 ·rw [m038];exact (a2.mono fun j hj _=>by rw [adv_h,aF (by omega)])
 ·rw [adv_h,aF hn,a5 j hj];exact e2 j hj hn
theorem ME (x:List UInt8) (id:Nat) (s:St):bt .len #[9] [.str x] id s=some (.int .i64 x.length,s):=by kernel_rfl
theorem ws {t:List UInt8} (h:Bd lo s id bs) (fr:aK s) (hl:lo<=s.nx) (hlen:bs.length+t.length<=2 ^ 40) (hk:∀ s',Bd lo s' id (bs++t)->bAx lo id s s'->K (.tup [.int .i64 t.length,.nili]) s'):aY mEv 156 [.ptr id 0,.str t] s K:=by
 refine mI aEw (LI _ _ _ ?_);unfold f156;refine MA h.adv fr.adv (by show lo<=s.nx+4;omega) fun s1 b1 k1=>?_;obtain ⟨h1,a,x,h2,h3,h4,hx⟩:=b1;obtain ⟨e1,f1,e2⟩:=k1;have e1:s.nx+4<=s1.nx:=e1;obtain ⟨x',s',a1,a2,a3,a4,a5,a6,a7,a8⟩:=bAg (id:=s1.nx+6) (h4.adv (n:=10)) f1.adv t (by rw [m002];omega) (by omega) (by show s1.nx+6 < s1.nx+10;omega);have a4:s'.nx=s1.nx+10:=a4;have h3':s'.h id=some (.cells [a,x] 163 true true):=by rw [a5 id h1];exact h3
 refine ⟨rfl,?_⟩;simp only [h3,a1,wz,wy,Z0];refine ⟨rfl,?_⟩;rw [pQ (c:=[a,x]) h3' (by simp) a6 a7];simp only [Bnd_some,ME];refine hk _ ⟨h1,a,x',h2,by rw [adv_h,aG];rfl,?_,fun h=>?_⟩ ⟨by simp only [set_nx,adv_nx];omega,(a3.set (by omega)).adv,fun j hj hn=>?_⟩
 ·rw [m038];exact (a2.mono fun j hj _=>by rw [adv_h,aF (by omega)])
 ·obtain ⟨hb,ht⟩:=List.append_eq_nil_iff.1 h;rw [a8 ht];exact hx hb
 ·rw [adv_h,aF hn,a5 j hj];exact e2 j hj hn
theorem u8s (bs:List UInt8):fW (bs.map kF)=some (bs.map fun c=>(c.toNat:Int)):=by
 induction bs with
 | nil=>rfl
 | cons c l ih =>simp only [m039,fW,ih];rfl
theorem aEn (bs:List UInt8):(bs.map fun c=>(c.toNat:Int)).map (fun n=>UInt8.ofNat n.toNat)=bs:=by
 induction bs with
 | nil=>rfl
 | cons c l ih=>simp only [m039,ih,Int.toNat_natCast,UInt8.ofNat_toNat]
theorem bEv (h:Bd lo s id bs) (fr:aK s) (hlen:bs.length<=2 ^ 40) (hk:∀ s',K (.str bs) s'):aY mEv 108 [.ptr id 0] s K:=by
 obtain ⟨h1,a,x,h2,h3,h4,hx⟩:=h;refine mI aUo (OB _ _ ?_);refine ⟨rfl,?_⟩;obtain ⟨g1,⟨rfl,hb⟩ | ⟨i,hi,rfl,hs⟩⟩:=h4
 ·have hb:bs=[]:=by simpa using hb
  subst hb;have e1:∀ k s,bt .unsafeSliceData #[161] [.nils] k s=some (.nilp,s):=fun k s=>rfl;have e2:∀ k s,bt .len #[161] [.nils] k s=some (.int .i64 0,s):=fun k s=>by kernel_rfl
  have e3:∀ k s,bt .unsafeString #[220,3] [.nilp,.int .i64 0] k s=some (.str [],s):=fun k s=>by kernel_rfl
  simp only [h3,e1,wz,wy,Z0];refine ⟨rfl,?_⟩;simp only [h3,e2,wz,wy,Z0];refine ⟨fr _ (by omega),?_⟩;simp only [e3,wz,wy,Z0];exact hk _
 ·have hflat:(bs.map kF).flatMap AV.cells=bs.map kF:=jO fun v hv=>by obtain ⟨c,_,rfl⟩:=m021.1 hv;rfl
  rw [hflat] at hs;rw [m002] at h3;rw [m002] at hx
  have hpos:0 < bs.length:=by
   cases bs with
   | nil=>have:=hx rfl;cases this
   | cons c l=>simp
  have hlt:i≠id:=by omega
  have e1:∀ k (q:St),q.h i=some (.cells (bs.map kF) 5 false true)->bt .unsafeSliceData #[161] [.ref i 0 bs.length none 5] k q=some (.ptr i 0,q):=fun k q hq=>by simp [bG,hq,hpos]
  have e2:∀ k (q:St),bt .len #[161] [.ref i 0 bs.length none 5] k q=some (.int .i64 (bs.length:Nat),q):=fun k q=>by kernel_rfl
  have e3:∀ k (q:St),q.h i=some (.cells (bs.map kF) 5 false true)->∃ q',bt .unsafeString #[220,3] [.ptr i 0,.int .i64 (bs.length:Nat)] k q=some (.str bs,q'):=fun k q hq=>by
   have h1:dZ (bX mEv).P 220=some (.pointer 5):=by kernel_rfl
   have h2:eN (bX mEv).P 5=some (1,false):=by kernel_rfl
   have hm:(bs.length:Int)<=(most:Int):=by unfold most;omega
   have hr:((bs.map fun c=>(c.toNat:Int)).all fun n=>decide (0<=n)&&decide (n < 256))=true:=m032.2 fun n hn=>by obtain ⟨c,_,rfl⟩:=m021.1 hn;have:=c.toNat_lt;simp;omega
   have htk:(bs.map kF).take bs.length=bs.map kF:=m014 (by simp);refine ⟨q.set i (some (.cells (bs.map kF) 5 false false)),?_⟩;simp only [bt,bG,h1,hq,h2,Int.toNat_natCast,m002,bH,hm,htk,u8s,Option.bind_some,hr,if_true,aEn,and_self,true_and,and_true];rw [if_pos (by omega)]
  simp only [h3,wz,wy,Z0];rw [e1 _ _ (by rw [adv_h];exact hs)];simp only [wz,wy,Z0];refine ⟨rfl,?_⟩;simp only [h3,e2,wz,wy,Z0];refine ⟨fr _ (by omega),?_⟩;obtain ⟨q',hq'⟩:=e3 (s.nx+11) (Ai.adv s 13) hs;rw [hq'];simp only [wz,wy,Z0];exact hk _
end
end
noncomputable section
def NU (c:Int):Bool:=decide (c >= 32)&&(decide (c<=126)&&(c != 92))
theorem YL {c:Int} (h:NU c=true):gJ c=true:=by simp only [NU,bN,decide_eq_true_eq] at h;simp only [gJ,bN,decide_eq_true_eq];omega
theorem aXg:zr 163=some (.agg [.nilp,.nils]):=by kernel_rfl
theorem bBq (c:Int) (s:St):cv 3 5 (.int .i64 c) s=some (.int .u8 (IntKind.u8.wrap c)):=by
 have h1:dZ Tryz.ty 3=some (.int .i64):=by kernel_rfl
 have h2:dZ Tryz.ty 5=some (.int .u8):=by kernel_rfl
 simp [cv,kG,h1,h2]
theorem aKx (ex:Bool) (l:List Int) (i:Nat) (c:Int) (h:l[i]?=some c):cA 1 (.sl ex (l.map dH)) (.int .i64 (i:Int))=some (.pel [.int .i64 c] 0):=by obtain ⟨hi,rfl⟩:=m012.1 h;simp [cA,pF,zK,hi,dH,AV.cells]
theorem aOb (ex:Bool) (l:List AV) (id:Nat) (s:St):bt .len #[72] [.sl ex l] id s=some (.int .i64 l.length,s):=by kernel_rfl
def mT (c:Int):UInt8:=UInt8.ofNat c.toNat
theorem JY {c:Int} (h:NU c=true):AV.int .u8 (IntKind.u8.wrap c)=kF (mT c):=by simp only [NU,bN,decide_eq_true_eq] at h;rw [IntWalk.u8_in _ (by omega)];simp only [kF,mT];congr 1;simp;omega
theorem bOc (ex:Bool) (l:List Int) (hl:l.length<=1000) (ha:∀ c∈l,NU c=true) (Q:aC) (lo id:Nat) (hQ:∀ s,Q (.tup [.str (l.map mT),.int .i64 0]) s) :
  ∀ (m i:Nat) (s:St),i+m=l.length->aK s->lo<=s.nx->Bd lo s id ((l.take i).map mT)->jI Q (m+1) (.ptr id 0) (.sl ex (l.map dH)) (.int .i64 l.length) (.int .i64 i) s:=by
 intro m
 induction m with
 | zero =>intro i s hi fr hlo hb;show kY Q (jI Q 0) _ _ _ _ s;rw [m014 (by omega)] at hb;simp only [kY,xR,tG,show ¬ (i < l.length) by omega,decide_false,wz,wy,Z0];exact bEv hb.adv.adv fr.adv.adv (by rw [m002];omega) fun s'=>hQ s'
 | succ m ihm =>
  intro i s hi fr hlo hb;obtain ⟨c,hc⟩:∃ c,l[i]?=some c:=⟨_,m004 (by omega)⟩;have hix:=aKx ex l i c hc;have hlt:i < l.length:=by omega
  have hac:=ha c (m017 hc);have hpt:=YL hac;have hby:=JY hac;have hac':=hac;simp only [NU,bN] at hac';obtain ⟨a1,a2,a3⟩:=hac';show kY Q (jI Q (m+1)) _ _ _ _ s;simp only [kY,tG,hlt,decide_true,hix,wz,wy,Z0];refine aM (aKz c) (by simp [AV.closed]) ?_;simp only [hpt,a1,a2,a3,bBq,hby,wz,wy,Z0];refine wb hb.adv.adv.adv (fr.adv.adv.adv) (by simp only [adv_nx];omega) (by rw [m002,m020];omega) fun s' hb' hk=>?_;obtain ⟨k1,k2,k3⟩:=hk;simp only [adv_nx] at k1;unfold tU;simp only [wz,wy,Z0];rw [cF i _ hlt (by have:maxLen=9223372036854775807:=rfl;omega)];refine ihm (i+1) _ (by omega) k2.adv (by simp only [adv_nx];omega) ?_;have e:(l.take (i+1)).map mT=(l.take i).map mT++[mT c]:=by rw [m062,hc];simp
  rw [e];exact hb'.adv
theorem bMn (ex:Bool) (l:List Int) (hl:l.length<=1000) (ha:∀ c∈l,NU c=true):aU mEv 167 [.sl ex (l.map dH)] (.tup [.str (l.map mT),.int .i64 0]):=by refine bI rfl (OM _ _ ?_);unfold f167;simp only [aXg,aOb,m002,Bnd_some];refine ⟨l.length+1,?_⟩;refine bOc ex l hl ha _ 3 2 (fun _=>rfl) l.length 0 _ (by omega) ((bU.adv.set (by decide)).adv) (by decide) ?_;exact ⟨by decide,.nilp,.nils,.inl rfl,by rw [adv_h];exact aG,fA,fun _=>rfl⟩
end
noncomputable section
def bR:Sx:=.mk false 0 [] 0 0 []
def atA (k:Int) (x:List UInt8):AV:=.agg [.bool false,.int .i64 k,.str x,.int .i64 0,.int .i64 0,.nils]
def kX (k:Int) (x:List UInt8):Sx:=.mk false k x 0 0 []
def bV:AV:=.agg [.bool false,.int .i64 0,.str [],.int .i64 0,.int .i64 0,.nils]
theorem aBx:zr 33=some bV:=by kernel_rfl
theorem aVl (k:Int) (x:List UInt8):eE 30 [(0,.int .i64 k),(1,.str x)]=some (.agg [.int .i64 k,.str x,.int .i64 0]):=by kernel_rfl
theorem aLa (k:Int) (x:List UInt8):eE 33 [(1,.agg [.int .i64 k,.str x,.int .i64 0])]=some (atA k x):=by kernel_rfl
theorem aGo (k:Int) (x:List UInt8) (n:Nat) (s:St):pur mEv.P s (n+2) (atA k x)=some ((kX k x).av,[]):=rfl
theorem VT {id:Nat} {s:St} (k:Int) (x:List UInt8):ld 6 true (.ptr id 0) (s.set id (some (.cells (atA k x).cells 33 true true)))=some (atA k x):=by rw [ld_ptr,aG];rfl
theorem BC {id:Nat} {s:St} {v:AV} (h:s.h id=some (.cells bV.cells 33 true true)) (k:Int) (x:List UInt8) (hv:v=atA k x\/v=(kX k x).av):bQ 6 (.ptr id 0) v s=some (s.set id (some (.cells v.cells 33 true true))):=by rcases hv with rfl | rfl<;>exact bJ h rfl rfl rfl
theorem c58 (k:Int) (x:List UInt8):aU mEv 58 [.int .i64 k,.str x] (kX k x).av:=by refine AC (aTu _ _ _ (Q:=fun r s'=>∃ ids,pur mEv.P s' 12 r=some ((kX k x).av,ids)) ?_);unfold f58;simp only [aBx,aVl,aLa,Bnd_some];rw [BC (by rw [adv_h,aG]) k x (.inl rfl)];simp only [Bnd_some,VT];exact ⟨[],aGo k x 10 _⟩
theorem c56 (x:List UInt8):aU mEv 56 [.str x] (kX 3 x).av:=by refine bI rfl (aQc _ _ ?_);unfold f56;simp only [aBx,Bnd_some];refine aM (c58 3 x) (by simp [AV.closed]) ?_;rw [BC (by rw [adv_h,aG]) 3 x (.inr rfl)];simp only [Bnd_some];rw [ld_ptr,aG];rfl
theorem EN (n:Nat) (s:St):pur mEv.P s (n+2) bV=some (bR.av,[]):=rfl
theorem GE (a b:Int):bn .neq 34 (.int .i64 a) (.int .i64 b)=some (.bool (a != b)):=bin_neq
theorem bPu (ex:Bool) (l:List (Int×Int)) (hcl:(AV.sl ex (l.map cP)).closed=true) (hlen:l.length<=maxLen) (out:List Int) (hm:jQ l 1000=(out,0)) (hl:out.length<=1000) (ha:∀ c∈out,NU c=true) :
  aU mEv 115 [.sl ex (l.map cP)] (.tup [(kX 6 (out.map mT)).av,.int .i64 0]):=by
 refine bI rfl (DV _ _ ?_);unfold f115;simp only [aBx,Bnd_some];have h1:=bDd ex l hlen 1000 (by omega) (by omega);rw [hm] at h1;have hcl2:(AV.sl false (out.map dH)).closed=true:=by simp only [AV.closed,m027,m031];exact iG _ _ fun _=>rfl
 refine aM h1 (by simp only [m013,m052,or_false,forall_eq_or_imp,forall_eq];exact ⟨hcl,rfl⟩) ?_;simp only [RE,GE,wz,wy,Z0,show ((0:Int) != 0)=false from rfl];refine aM (bMn false out hl ha) (by simp only [m013,m052,or_false,forall_eq];exact hcl2) ?_;simp only [wz,wy,Z0];refine aM (c58 6 (out.map mT)) (by simp [AV.closed]) ?_;rw [BC (by simp only [adv_h,aG]) 6 (out.map mT) (.inr rfl)];simp only [Bnd_some];rw [aG];rfl
end
end Go.Proofs.YtdehdahimkcakaaGreatDoor
