/- Texts joined by wip/tools/pack.py: Row,Kit,Tf,Str,Bd,Sx,Li,Dc,Sh,Cc,Na,Lt,Wh,Um. -/
import Derived.Test.YtdehdahimkcakaaGreatDoorCards
import Derived.Test.YtdehdahimkcakaaGreatDoorTie
import Derived.ProofKit
import Derived.LaidMore
import Derived.Lay
import Derived.SevenTiedAt
import Derived.Test.YtdehdahimkcakaaGreatDoorZp
open Nat renaming reduceAdd→Z0, reduceEqDiff→Z1
set_option linter.unusedSimpArgs false
set_option linter.unusedVariables false
set_option maxHeartbeats 4000000
set_option maxRecDepth 100000
namespace Go.Proofs.YtdehdahimkcakaaGreatDoor
open Go Ai
noncomputable section
theorem own:ownKnob Tryz.prog.godebug=none:=by kernel_rfl
def rX:List Nat:=[3,4,5,9,22,24,25,27,30,31,32,33,34,49,65,67,79,93,109,119,151,159,190,192,193,211,298,300,301,310,317,318]
theorem aBb:(rX.all fun t=>iL Tryz.ty rX t)=true:=by kernel_rfl
theorem plain_ok:∀ t∈rX,iL mEv.P rX t=true:=fun t ht=>m032.1 aBb t ht
theorem glob_of {laid:List (String×DataW Unit)} (hp:(laid.all fun x=>x.2.handleName?.isNone)=true) {W:World} (h:laidMetH Tryz.prog laid W)
  (hg:∀ g cs,Tryz.glob g=some cs->∃ nd∈laid,Tryz.prog.globalNamed nd.1=some g/\(∃ t∈rX,(Tryz.prog.globals[g]?).map (·.type)=some t)/\cs=(dAV nd.2).cells):GlobOk mEv.P mEv.glob W.cell? W:=by
 rw [MakeChecks.laidMetH_plain _ _ _ hp] at h;exact aUe env_ok.ty plain_ok h hg
section
variable {H:Type}
theorem kX {v:AV} (h:v.closed=true):aW v.cells=true:=by cases v<;>first | exact h | (simp only [AV.cells,aW,h,jH];done) | (simp only [AV.cells,aW,m059];exact h)
theorem CZ {a b:List AV} (ha:aW a=true) (hb:aW b=true):aW (a++b)=true:=by
 induction a with
 | nil=>exact hb
 | cons x a ih =>simp only [List.cons_append,aW,cR] at ha ⊢;exact ⟨ha.1,ih ha.2⟩
def lR (T:Ty) (t:TypeId):Option (List TypeId):=match eK T t with
 | some (.struct fs)=>some (fs.toList.map (·.type))
 | _=>none
def bCa (T:Ty) (t:TypeId):Option IntKind:=match eK T t with
 | some (.int k)=>some k
 | _=>none
def aRg (T:Ty) (t:TypeId):Option TypeId:=match eK T t with
 | some (.slice e)=>some e
 | _=>none
def VD (T:Ty) (t:TypeId):Nat:=match eK T t with
 | some .bool=>1
 | some .string=>2
 | _=>0
variable {T:Ty} {n:Nat} {t:TypeId} {d:DataW H}
theorem Ai.TyD.struct {ts:List TypeId} (h:lR T t=some ts) (hd:TyD T n t d):∃ m l,n=m+1/\d=.agg l/\l.length=ts.length/\∀ (i:Nat) t x,ts[i]?=some t->l[i]?=some x->TyD T m t x:=by
 cases n with
 | zero=>exact hd.elim
 | succ m =>
  unfold lR at h;unfold TyD at hd
  split at h
  ·rename_i fs hu;rw [hu] at hd;obtain ⟨l,rfl,h1,h2⟩:=hd;cases h;refine ⟨m,l,rfl,rfl,by simp [h1],fun i t x ht hx=>?_⟩;obtain ⟨hi,rfl⟩:=m012.1 hx;have:=h2 i hi (by omega);have e:fs[i].type=t:=by rw [m047,m022] at ht;obtain ⟨f,hf,rfl⟩:=ht;rw [Array.getElem?_toList,m016 (by omega)] at hf;cases hf;rfl
   rw [<- e];exact this
  ·cases h
theorem Ai.TyD.int {k:IntKind} (h:bCa T t=some k) (hd:TyD T n t d):∃ m,d=.lit (.int k m)/\(Lit.int k m).wf=true:=by
 cases n with
 | zero=>exact hd.elim
 | succ m =>
  unfold bCa at h;unfold TyD at hd
  split at h
  ·rename_i k' hu;rw [hu] at hd;cases h;exact hd
  ·cases h
theorem Ai.TyD.bool (h:VD T t=1) (hd:TyD T n t d):∃ b,d=.lit (.bool b):=by
 cases n with
 | zero=>exact hd.elim
 | succ m =>
  unfold VD at h;unfold TyD at hd
  split at h
  ·rename_i hu;rw [hu] at hd;exact hd
  ·cases h
  ·cases h
theorem Ai.TyD.str (h:VD T t=2) (hd:TyD T n t d):∃ s,d=.lit (.string s)/\s.length<=maxLen:=by
 cases n with
 | zero=>exact hd.elim
 | succ m =>
  unfold VD at h;unfold TyD at hd
  split at h
  ·cases h
  ·rename_i hu;rw [hu] at hd;exact hd
  ·cases h
def pK (n:Int):Bool:=(Lit.int .i64 n).wf
inductive Sx:Type where
 | mk (l:Bool) (k:Int) (x:List UInt8) (p a:Int) (items:List Sx)
mutual
def Sx.av:Sx->AV
 | .mk l k x p a items=>.agg [.bool l,.int .i64 k,.str x,.int .i64 p,.int .i64 a,.sl false (Sx.avs items)]
def Sx.avs:List Sx->List AV
 | []=>[]
 | s::l=>s.av::Sx.avs l
end
theorem Sx.avs_eq (l:List Sx):Sx.avs l=l.map Sx.av:=by induction l with | nil=>rfl | cons s l ih=>simp [Sx.avs,ih]
mutual
def Sx.ok:Sx->Bool
 | .mk _ k x p a items=>pK k&&decide (x.length<=maxLen)&&pK p&&pK a&&decide (items.length<=maxLen)&&Sx.oks items
def Sx.oks:List Sx->Bool
 | []=>true
 | s::l=>s.ok&&Sx.oks l
end
theorem aHz:lR Tryz.ty 33=some [4,30,3,31]:=by kernel_rfl
theorem aKx:lR Tryz.ty 30=some [3,9,3]:=by kernel_rfl
end
end
noncomputable section
section
variable {s s':St} {n m i j:Nat} {o p:Option gU}
theorem set_set:(s.set i o).set i p=s.set i p:=by show (⟨_,_⟩:St)=⟨_,_⟩;congr 1;funext k;show cond (Nat.beq k i) p (cond (Nat.beq k i) o (s.h k))=cond (Nat.beq k i) p (s.h k);cases Nat.beq k i<;>rfl
theorem adv_set:(adv s n).set i o=adv (s.set i o) n:=rfl
theorem adv_drop (l:List Nat):(adv s n).drop l=adv (s.drop l) n:=by
 induction l generalizing s with
 | nil=>rfl
 | cons a l ih=>exact ih (s:=s.set a none)
theorem adv_two:adv (adv s n) m=adv s (n+m):=by simp [adv,m066]
theorem get_set:(s.set n o).h m=if m=n then o else s.h m:=by
 by_cases h:m=n
 ·subst h;rw [if_pos rfl,aF]
 ·rw [if_neg h,aB h]
theorem nx_drop (l:List Nat):(s.drop l).nx=s.nx:=by
 induction l generalizing s with
 | nil=>rfl
 | cons a l ih=>exact ih
theorem get_drop' (l:List Nat):(s.drop l).h m=if m∈l then none else s.h m:=by
 induction l generalizing s with
 | nil=>simp [St.drop]
 | cons a l ih =>
  show ((s.set a none).drop l).h m=_;rw [ih,get_set];by_cases h1:m∈l
  ·simp [h1]
  ·by_cases h2:m=a<;>simp [h1,h2]
theorem idOf_ref {i a n:Nat} {c:Option Nat} {e:TypeId}:aE (.ref i a n c e)=[i]:=rfl
theorem idOf_nils:aE .nils=[]:=rfl
theorem idOf_ptr {i a:Nat}:aE (.ptr i a)=[i]:=rfl
theorem idOf_sl {ex:Bool} {l:List AV}:aE (.sl ex l)=[]:=rfl
theorem idOf_pel {l:List AV} {n:Nat}:aE (.pel l n)=[]:=rfl
theorem drop_nil:s.drop []=s:=rfl
theorem drop_cons {l:List Nat}:s.drop (i::l)=(s.set i none).drop l:=rfl
theorem wantV_tup {l:List AV} {w:Bool}:aD (.tup l) w=some false:=rfl
theorem resC_nil:uD []=some []:=rfl
theorem resC_some {v:AV} {l:List (Option AV)}:uD (some v::l)=(uD l).map (v::·):=rfl
theorem retP_some {v:AV} {Q:AV->Prop}:pT (some v) Q=Q v:=rfl
theorem map_some' {α β:Type} {f:α->β} {a:α}:Option.map f (some a)=some (f a):=rfl
theorem tupV_one {v:AV}:xY [v]=v:=rfl
theorem tupV_two {v w:AV}:xY [v,w]=.tup [v,w]:=rfl
structure EF (M:List Nat) (s s':St):Prop where
 nx:s.nx<=s'.nx
 h:∀ j,j < s.nx->j ∉ M->s'.h j=s.h j
 fr:aI s'
theorem EF.refl (M:List Nat) (fr:aI s):EF M s s:=⟨bK _,fun _ _ _=>rfl,fr⟩
theorem EF.adv {M:List Nat} (h:EF M s s'):EF M s (adv s' n):=⟨by have:=h.nx;show s.nx<=s'.nx+n;omega,h.h,h.fr.adv⟩
theorem EF.set {M:List Nat} (h:EF M s s') (hi:i < s'.nx) (hm:s.nx<=i\/i∈M):EF M s (s'.set i o) :=
 ⟨h.nx,fun j hj hn=>by rw [get_set,if_neg (by rintro rfl;rcases hm with hm | hm;omega;exact hn hm)];exact h.h j hj hn,h.fr.set hi⟩
theorem EF.drop {M l:List Nat} (h:EF M s s') (hm:∀ i∈l,s.nx<=i\/i∈M):EF M s (s'.drop l) :=
 ⟨by rw [nx_drop];exact h.nx,fun j hj hn=>by rw [get_drop',if_neg (fun hl=>by rcases hm j hl with hm | hm;omega;exact hn hm)];exact h.h j hj hn,
  fun j hj=>by rw [nx_drop] at hj;rw [get_drop'];split;rfl;exact h.fr j hj⟩
theorem EF.trans {M M':List Nat} {s'':St} (h:EF M s s') (k:EF M' s' s'') (hm:∀ i∈M',s.nx<=i\/i∈M):EF M s s'' :=
 ⟨GN h.nx k.nx,fun j hj hn=>by
  rw [k.h j (NB hj h.nx) (fun hl=>by rcases hm j hl with hm | hm;omega;exact hn hm)];exact h.h j hj hn,k.fr⟩
theorem EF.sub {M M':List Nat} (h:EF M s s') (hm:∀ i∈M,s.nx<=i\/i∈M'):EF M' s s' :=
 ⟨h.nx,fun j hj hn=>h.h j hj fun hl=>by rcases hm j hl with hm | hm;omega;exact hn hm,h.fr⟩
theorem cA (fr:aI s) (k:Nat) (h:i < s.nx+k):aI (Ai.adv (s.set i o) k):=by have:aI (Ai.adv s k):=fr.adv;rw [<- adv_set];exact this.set h
theorem xL (fr:aI s) (l:List Nat) (k:Nat) (h:i < s.nx+k):aI (Ai.adv ((s.drop l).set i o) k):=by
 have h1:aI (s.drop l):=fun j hj=>by rw [nx_drop] at hj;rw [get_drop'];split;rfl;exact fr j hj
 exact cA h1 k (by rw [nx_drop];exact h)
end
section
variable {t e:TypeId} {z b id:Nat} {ag:Bool} {s s':St} {x:AV} {vs:List AV}
theorem Gw.id_lt (g:Gw e z 0 s x vs) (fr:aI s):∀ j∈aE x,j < s.nx:=by
 obtain ⟨_,⟨rfl,_⟩ | ⟨i,_,rfl,hs⟩⟩:=g
 ·intro j hj;cases hj
 ·intro j hj;simp only [aE,m013,m052,or_false] at hj;subst hj;refine Nat.lt_of_not_le fun hc=>?_;rw [fr _ hc] at hs;cases hs
theorem Gw.keep (g:Gw e z 0 s x vs) (h:∀ j∈aE x,s'.h j=s.h j):Gw e z 0 s' x vs:=by
 obtain ⟨h1,⟨rfl,rfl⟩ | ⟨i,hi,rfl,hs⟩⟩:=g
 ·exact ⟨h1,.inl ⟨rfl,rfl⟩⟩
 ·exact ⟨h1,.inr ⟨i,hi,rfl,by rw [h i (by simp [aE])];exact hs⟩⟩
theorem Gw.ext {M:List Nat} (g:Gw e z 0 s x vs) (fr:aI s) (h:EF M s s') (hd:∀ j∈aE x,j ∉ M):Gw e z 0 s' x vs :=
 g.keep fun j hj=>h.h j (g.id_lt fr j hj) (hd j hj)
theorem Gw.here (h:∀ v∈vs,v.cells.length=z/\v.cells.all AV.one=true) {s0:St} {n k:Nat} (hk:k=vs.length):Gw e z 0 (Ai.adv (s0.set id (some (.cells (vs.flatMap AV.cells) e false true))) n) (.ref id 0 k none e) vs:=by subst hk;exact ⟨h,.inr ⟨id,nC _,rfl,by rw [adv_h,aF]⟩⟩
theorem Gw.one (g:Gw e z 0 s x vs):x.cells=[x]/\x.one=true:=by obtain ⟨h1,⟨rfl,rfl⟩ | ⟨i,hi,rfl,hs⟩⟩:=g<;>exact ⟨rfl,rfl⟩
theorem XA (h:eR t e z ag b) (g:Gw e z 0 s x vs) {v:AV} (hv:v.cells.length=z) (ho:v.cells.all AV.one=true) (hf:mL (vs.length+1) b=true) (ex:Bool) (id:Nat) :
  bt .append #[t,t] [x,.sl ex [v]] id s=some (.ref id 0 (vs.length+1) none e,(s.drop (aE x)).set id (some (.cells ((vs++[v]).flatMap AV.cells) e false true))):=by
 rw [pG h];have hsrc:aR z (.sl ex [v]) s=some v.cells:=by simp [aR,hv]
 rw [hsrc,Option.bind_some];have hne:v.cells≠[]:=fun hh=>by rw [hh] at hv;have:=h.pos;simp at hv;omega
 have hem:v.cells.isEmpty=false:=by cases hc:v.cells with | nil=>exact absurd hc hne | cons a b=>rfl
 have hdiv:v.cells.length / z=1:=by rw [hv];exact Nat.div_self h.pos
 obtain ⟨h1,⟨rfl,rfl⟩ | ⟨i,hi,rfl,hs⟩⟩:=g
 ·have hf':mL 1 b=true:=by simpa using hf
  unfold bM;simp [hem,ho,dR,hdiv,hf',kG,aE,St.drop]
 ·have hfl:=dP h1;have hlen:(vs.flatMap AV.cells++v.cells).length / z=vs.length+1:=by rw [m006,hfl,hv,<- pV,CW _ h.pos]
  have hgt:¬ (vs.length * z+v.cells.length<=(vs.flatMap AV.cells).length):=by rw [hfl,hv];have:=h.pos;omega
  unfold bM;simp only [hem,ho,m025,m015,if_false,hs,m023,hfl,bK,and_self,if_true];rw [if_neg (by rw [hv];have:=h.pos;omega)];simp only [dR,hlen,hf,if_true,kG,aE,St.drop];simp
theorem aMw (h:eR t e z ag b) (g:Gw e z 0 s x vs) {ws:List AV} (hw:∀ v∈ws,v.cells.length=z/\v.cells.all AV.one=true) (hne:ws≠[]) (hf:mL (vs.length+ws.length) b=true) (ex:Bool) (id:Nat) :
  bt .append #[t,t] [x,.sl ex ws] id s=some (.ref id 0 (vs.length+ws.length) none e,(s.drop (aE x)).set id (some (.cells ((vs++ws).flatMap AV.cells) e false true))):=by
 rw [pG h];have hall:ws.all (fun v=>v.cells.length==z)=true:=m032.2 fun v hv=>by simp [(hw v hv).1]
 have hsrc:aR z (.sl ex ws) s=some (ws.flatMap AV.cells):=by simp [aR,hall]
 rw [hsrc,Option.bind_some];have hwl:=dP hw;have hpos:0 < ws.length:=List.length_pos_iff.2 hne;have hmul:0 < ws.length * z:=Nat.mul_pos hpos h.pos
 have hem:(ws.flatMap AV.cells).isEmpty=false:=by
  cases hc:ws.flatMap AV.cells with
  | nil=>rw [hc] at hwl;simp at hwl;omega
  | cons a b=>rfl
 have hones:(ws.flatMap AV.cells).all AV.one=true:=by rw [m032];intro y hy;obtain ⟨v,hv,hy⟩:=List.mem_flatMap.1 hy;exact m032.1 (hw v hv).2 y hy
 have hdiv:(ws.flatMap AV.cells).length / z=ws.length:=by rw [hwl];exact CW _ h.pos
 obtain ⟨h1,⟨rfl,rfl⟩ | ⟨i,hi,rfl,hs⟩⟩:=g
 ·have hf':mL ws.length b=true:=by simpa using hf
  unfold bM;simp only [hem,hones,dR,hdiv,hf',kG,aE,St.drop,m025,m015,if_false,if_true,List.length_nil,m023,List.nil_append]
 ·have hfl:=dP h1;have hlen:(vs.flatMap AV.cells++ws.flatMap AV.cells).length / z=vs.length+ws.length:=by rw [m006,hfl,hwl,<- pC,CW _ h.pos]
  unfold bM;simp only [hem,hones,m025,m015,if_false,hs,m023,hfl,bK,and_self,if_true];rw [if_neg (by rw [hwl];omega)];simp only [dR,hlen,hf,if_true,kG,aE,St.drop];simp
theorem mK (h:eR t e z ag b) (g:Gw e z 0 s x vs) (ex:Bool) (id:Nat):bt .append #[t,t] [x,.sl ex []] id s=some (x,s):=by
 rw [pG h];have hsrc:aR z (.sl ex []) s=some []:=by simp [aR]
 rw [hsrc,Option.bind_some];obtain ⟨h1,⟨rfl,rfl⟩ | ⟨i,hi,rfl,hs⟩⟩:=g<;>rfl
theorem sH {n b:Nat} (h:n * b<=2 ^ 40) (h2:n<=2 ^ 40):mL n b=true:=by
 have h1:n * b<=Ai.most:=by unfold Ai.most;omega
 have h2:n<=Ai.most:=by unfold Ai.most;omega
 simp only [mL,Nat.ble_eq_true_of_le h1,Nat.ble_eq_true_of_le h2,jH]
theorem MQ {α:Type} {f:α->AV} (h:eR t e z ag b) (he:∀ a,(f a).cells.length=z) (ex:Bool) (l:List α) {k:Nat} (hk:k<=l.length) (kd:IntKind):mF t (.sl ex (l.map f)) none (some (.int kd (k:Int))) none s=some (.sl (ex&&k==l.length) ((l.take k).map f)):=by
 have hh:((l.map f).isEmpty||((l.map f).head?).any fun v=>v.cells.length==z)=true:=by
  cases l with
  | nil=>rfl
  | cons a l=>simp [he]
 simp only [mF,gH,h.u,h.l,Option.bind_some];rw [if_pos hh];simp [eJ,sU,pW,hk]
theorem aRy {α:Type} {f:α->AV} (h:eR t e z ag b) (he:∀ a,(f a).cells.length=z) (ex:Bool) (l:List α) {k:Nat} (hk:k<=l.length) (kd:IntKind):mF t (.sl ex (l.map f)) (some (.int kd (k:Int))) none none s=some (.sl ex ((l.drop k).map f)):=by
 have hh:((l.map f).isEmpty||((l.map f).head?).any fun v=>v.cells.length==z)=true:=by
  cases l with
  | nil=>rfl
  | cons a l=>simp [he]
 simp only [mF,gH,h.u,h.l,Option.bind_some];rw [if_pos hh];simp [eJ,sU,pW,hk];exact m014 (by simp)
theorem FP:∀ l:List Nat,lY l []=true
 | []=>rfl
 | _::l=>by simp only [lY,dO,m027,m031];exact FP l
theorem DD (h:eR t e z ag b) {i n k:Nat} {c:List AV} {e':TypeId} {ex wr:Bool} (hs:s.h i=some (.cells c e' ex wr)) (hn:n * z<=c.length) (hk:k<=c.length / z) (kd:IntKind):mF t (.ref i 0 n none e) none (some (.int kd (k:Int))) none s=some (.ref i 0 k none e):=by
 have hp:=h.pos;have h1:eJ n (zL none (c.length - 0) z) none (some (.int kd (k:Int))) none=some (0,k,c.length / z):=by unfold eJ sU pW zL;simp only [Option.isSome_none,Option.isNone_some,m071,m015,if_false,Option.bind_some,Nat.sub_zero];rw [if_pos ⟨by omega,by omega,by omega,by omega⟩];simp only [Int.toNat_natCast,Int.toNat_zero]
 have h2:mF t (.ref i 0 n none e) none (some (.int kd (k:Int))) none s=(if e=e/\0 < z/\0<=c.length then (eJ n (zL none (c.length - 0) z) none (some (.int kd (k:Int))) none).map fun r =>
   if r.1≠0/\r.2.1=r.1 then .sl false [] else .ref i (0+r.1 * z) (r.2.1 - r.1) none e else none):=by
  simp only [mF,gH,h.u,h.l,Option.bind_some,hs];rfl
 rw [h2,h1,if_pos ⟨rfl,hp,nC _⟩];simp
theorem eB {id off:Nat} {v:AV} {c:List AV} {e:TypeId} {ex:Bool} {s:St} (h:s.h id=some (.cells c e ex true)) (ho:off < c.length) (hv:v.cells=[v]) (hone:v.one=true):dU 1 (.ptr id off) v s=some (s.set id (some (.cells (c.set off v) e ex true))):=by show Ai.store 1 (.ptr id off) v s=_;unfold Ai.store;simp only [h];rw [if_pos ⟨by rw [hv];rfl,by omega,by rw [hv];simp [hone]⟩,hv];rfl
structure QP {α:Type} (f:α->AV) (z:Nat):Prop where
 len:∀ a,(f a).cells.length=z
 ones:∀ a,(f a).cells.all AV.one=true
theorem cJ {α:Type} {f:α->AV} {z:Nat} (hf:QP f z) (ex:Bool) {l:List α} {i:Nat} {a:α} (h:l[i]?=some a) (k:IntKind):cQ z (.sl ex (l.map f)) (.int k (i:Int))=some (.pel (f a).cells 0):=by obtain ⟨hi,rfl⟩:=m012.1 h;simp [cQ,pW,xI,hi,hf.len]
theorem oZ {e:TypeId} {z i id off n:Nat} {c:Option Nat} (h:i < n) (k:IntKind):cQ z (.ref id off n c e) (.int k (i:Int))=some (.ptr id (off+i * z)):=by simp [cQ,pW,xI,h]
theorem fD (h:∀ v∈vs,v.cells.length=z) {i:Nat} {v:AV} (hi:vs[i]?=some v) {k:Nat} (hk:k < z):(vs.flatMap AV.cells)[i * z+k]?=v.cells[k]?:=by
 induction vs generalizing i with
 | nil=>cases hi
 | cons a l ih =>
  have ha:=h a (m007 ..);rw [m024]
  cases i with
  | zero =>simp only [List.getElem?_cons_zero,m000] at hi;subst hi;rw [Nat.zero_mul,m023,m051 (by omega)]
  | succ i =>
   rw [List.getElem?_append_right (by rw [ha,pV];omega),ha];have:(i+1) * z+k - z=i * z+k:=by rw [pV];omega
   rw [this];exact ih (fun x hx=>h x (m005 _ hx)) (by simpa using hi)
theorem sS (h:∀ v∈vs,v.cells.length=z) {i:Nat} {v:AV} (hi:vs[i]?=some v):((vs.flatMap AV.cells).drop (i * z)).take z=v.cells/\i * z+z<=(vs.flatMap AV.cells).length:=by
 induction vs generalizing i with
 | nil=>cases hi
 | cons a l ih =>
  have ha:=h a (m007 ..);rw [m024]
  cases i with
  | zero =>simp only [List.getElem?_cons_zero,m000] at hi;subst hi;rw [Nat.zero_mul,m023,m048,List.take_left' ha,m006];exact ⟨rfl,by omega⟩
  | succ i =>obtain ⟨h1,h2⟩:=ih (fun x hx=>h x (m005 _ hx)) (by simpa using hi);rw [List.drop_append,m006,ha,pV,m044 (by omega),List.nil_append,Nat.add_sub_cancel];exact ⟨h1,by omega⟩
theorem oX {h:FuncId} {args:List AV} {l:List Nat} {v:AV} {K:aG} (hc:bE mEv h args v) (hcl:∀ x∈args,x.closed=true) (hk:K v s):fF mEv h args l s K:=by
 have hcl2:aW args=true:=by
  clear hc
  induction args with
  | nil=>rfl
  | cons x l ih=>simp only [aW,hcl x (m007 ..),ih fun y hy=>hcl y (m005 _ hy),jH]
 exact .mk args [] v (iD 12 hcl2) hc rfl hk
theorem sE {h:FuncId} {args args2:List AV} {ids:List Nat} {v:AV} {K:aG} (hp:dN (pur mEv.P s 12) args=some (args2,ids)) (hc:bE mEv h args2 v) (hk:K v (if ids.isEmpty||v.flat then s else s.drop ids)):aO mEv h args s K:=.mk args2 ids v hp hc hk
theorem bQ {h:FuncId} {args:List AV} {s:St} {K:aG} (hz:mEv.fz h=false) (hc:∃ r s',WideC mEv h args s r s'/\K r s'):aL mEv h args s K:=by obtain ⟨r,s',h1,h2⟩:=hc;exact .mk (by rw [hz];exact ⟨r,s',h1,h2⟩)
theorem YS {h:FuncId} {args:List AV} {s:St} {K:aG} (hz:mEv.fz h=true) (hs:mEv.se h=[]) (hc:∃ r s',WideC mEv h args s r s'/\aA (pur mEv.P s' 12 r) fun v=>K v.1 (s'.drop v.2)):aL mEv h args s K:=by
 exact .mk (by
  rw [hz,hs,cond_true];show aA (some (args,[])) _;rw [Bnd_some]
  exact hc)
theorem aTv {h:FuncId} {args bs:List AV} {ids:List Nat} {s:St} {K:aG} (hz:mEv.fz h=true) (hq:iK mEv.P s (mEv.se h) args=some (bs,ids)) (hc:∃ r s',WideC mEv h bs (s.drop ids) r s'/\aA (pur mEv.P s' 12 r) fun v=>K v.1 (s'.drop v.2)):aL mEv h args s K:=by exact .mk (by rw [hz,hq,cond_true,Bnd_some];exact hc)
abbrev pM (v:AV):aG:=fun r s'=>∃ ids,pur mEv.P s' 12 r=some (v,ids)
theorem dA {h:FuncId} {args:List AV} {v:AV} (hw:∃ r s',WideC mEv h args St.empty r s'/\pM v r s'):bE mEv h args v:=YB hw
theorem aX {v:AV} {s:St} (h:v.closed=true):pM v v s:=⟨[],dF 12 h⟩
theorem sB {α:Type} {f:α->AV} {z:Nat} (h1:∀ a,(f a).cells.length=z) (h2:∀ a,(f a).cells.all AV.one=true) (l:List α):∀ v∈l.map f,v.cells.length=z/\v.cells.all AV.one=true:=fun v hv=>by obtain ⟨a,_,rfl⟩:=m021.1 hv;exact ⟨h1 a,h2 a⟩
theorem oI {α:Type} (f:α->AV) (l:List α) (h:∀ x∈l,(f x).closed=true):aW (l.map f)=true:=by
 induction l with
 | nil=>rfl
 | cons x l ih=>simp only [m039,aW,h x (m007 ..),ih fun y hy=>h y (m005 _ hy),jH]
theorem IK {l:List AV} (h:aW l=true):(AV.sl false l).closed=true:=by simp only [AV.closed,m027,m031,h]
theorem gV {α:Type} (f:α->AV) (l:List α) (h:∀ x∈l,(f x).closed=true):(AV.sl false (l.map f)).closed=true:=IK (oI f l h)
theorem Gw.not_closed (g:Gw e z 0 s x vs):x.closed=false:=by obtain ⟨_,⟨rfl,_⟩ | ⟨_,_,rfl,_⟩⟩:=g<;>rfl
theorem KV (h:eR t e z true b) (g:Gw e z 0 s x vs) (hc:∀ v∈vs,v.closed=true) (ha:∀ v∈vs,v=.agg v.cells) (k:Nat):pur mEv.P s (k+1) x=some (.sl false vs,aE x):=by
 obtain ⟨h1,⟨rfl,rfl⟩ | ⟨i,hi,rfl,hs⟩⟩:=g
 ·rfl
 ·have h2:eU mEv.P e=some (z,true):=h.l;have hp:=iD (s:=s) k (mO hc);have hfl:=dP h1;have hnc:(AV.ref i 0 vs.length none e).closed=false:=rfl;unfold pur;rw [hnc,if_neg (by simp)];simp only [hs,h2,hfl,m023,bK,h.pos,and_self,if_true,m048];rw [show (vs.flatMap AV.cells).take (vs.length * z)=vs.flatMap AV.cells from m014 (by rw [hfl];exact bK _)];simp only [hp,Option.bind_some,m033,if_true,ED h1 ha,aE]
theorem aJs (h:eR t e 1 false b) (g:Gw e 1 0 s x vs) (hc:∀ v∈vs,v.closed=true) (ha:∀ v∈vs,iQ v=true) (k:Nat):pur mEv.P s (k+1) x=some (.sl false vs,aE x):=by
 obtain ⟨h1,⟨rfl,rfl⟩ | ⟨i,hi,rfl,hs⟩⟩:=g
 ·rfl
 ·have h2:eU mEv.P e=some (1,false):=h.l;have hp:=iD (s:=s) k (mO hc);have hfl:=dP h1;have hone:vs.flatMap AV.cells=vs:=BQ fun v hv=>by have:=ha v hv;cases v<;>first | rfl | cases this
  have hall:vs.all iQ=true:=m032.2 ha;rw [hone] at hp;have hnc:(AV.ref i 0 vs.length none e).closed=false:=rfl;unfold pur;rw [hnc,if_neg (by simp)];simp only [hs,h2,hfl,m023,pS,bK,Nat.lt_one_iff,and_self,if_true,m048,hone];rw [show vs.take vs.length=vs from m045];simp [hp,aE];exact ha
section
variable {α:Type} {f:α->AV} {l:List α}
theorem gM (h:eR t e z ag b) (he:QP f z) (g:Gw e z 0 s x (l.map f)) (hf:(l.length+1) * b<=2 ^ 40) (hf2:l.length+1<=2 ^ 40) (a:α) (ex:Bool) (id:Nat) :
  bt .append #[t,t] [x,.sl ex [f a]] id s=some (.ref id 0 (l.length+1) none e,(s.drop (aE x)).set id (some (.cells (((l++[a]).map f).flatMap AV.cells) e false true))):=by
 have:=XA h g (he.len a) (he.ones a) (by rw [m002];exact sH hf hf2) ex id;rw [m002] at this;rw [this,m038];rfl
theorem bDl (he:QP f z) {id k n:Nat} {s0:St} (hk:k=l.length):Gw e z 0 (Ai.adv (s0.set id (some (.cells ((l.map f).flatMap AV.cells) e false true))) n) (.ref id 0 k none e) (l.map f):=by refine Gw.here (sB he.len he.ones _) ?_;rw [m002];exact hk
theorem jL (he:QP f z) {a:α} {id n:Nat} {s0:St}:Gw e z 0 (Ai.adv (s0.set id (some (.cells (((l++[a]).map f).flatMap AV.cells) e false true))) n) (.ref id 0 (l.length+1) none e) ((l++[a]).map f) :=
 bDl he (by simp)
theorem KG (h:eR t e z true b) (g:Gw e z 0 s x (l.map f)) (h1:∀ a∈l,(f a).closed=true) (h2:∀ a∈l,f a=.agg (f a).cells) (k:Nat):∃ ids,pur mEv.P s (k+1) x=some (.sl false (l.map f),ids)/\ids=aE x :=
 ⟨_,KV h g (fun v hv=>by obtain ⟨a,ha,rfl⟩:=m021.1 hv;exact h1 a ha) (fun v hv=>by obtain ⟨a,ha,rfl⟩:=m021.1 hv;exact h2 a ha) k,rfl⟩
theorem rV (h:eR t e 1 false b) (g:Gw e 1 0 s x (l.map f)) (h1:∀ a∈l,(f a).closed=true) (h2:∀ a∈l,iQ (f a)=true) (k:Nat):∃ ids,pur mEv.P s (k+1) x=some (.sl false (l.map f),ids)/\ids=aE x :=
 ⟨_,aJs h g (fun v hv=>by obtain ⟨a,ha,rfl⟩:=m021.1 hv;exact h1 a ha) (fun v hv=>by obtain ⟨a,ha,rfl⟩:=m021.1 hv;exact h2 a ha) k,rfl⟩
theorem FX {x v:AV} {ids:List Nat} (h:∃ ids',pur mEv.P s 12 x=some (v,ids')/\ids'=ids):pM v x s:=by obtain ⟨i,h1,_⟩:=h;exact ⟨i,h1⟩
end
theorem KN (h:eR t e z ag b) {zv:AV} (hz:zero Tryz.ty e=some zv) (n:Nat) (h1:n * b<=2 ^ 40) (h2:n<=2 ^ 40) (k k':IntKind) (id:Nat) (s:St) :
  mkS Tryz.ty t (.int k n) (.int k' n) id s=some (.ref id 0 n (some n) e,s.set id (some (.cells (List.replicate n zv.cells).flatten e true true))):=by
 have hl:zv.cells.length=z:=by have:=h.zr;rw [hz] at this;simpa using this
 have hm:(n:Int) * ((b:Nat):Int)<=(most:Int)/\(n:Int)<=(most:Int):=by have:(most:Nat)=2 ^ 40:=rfl;rw [this];refine ⟨?_,by omega⟩;have:((n * b:Nat):Int)<=((2 ^ 40:Nat):Int):=Int.ofNat_le.2 h1;rw [Int.natCast_mul] at this;exact this
 unfold mkS;simp only [h.u,h.l,h.b,hz,pW];rw [if_pos ⟨by omega,trivial,hm.1,hm.2,hl,h.pos⟩,Int.toNat_natCast]
theorem uV {v:AV} (n:Nat):(List.replicate n [v]).flatten=List.replicate n v:=by
 induction n with
 | zero=>rfl
 | succ n ih=>rw [List.replicate_succ,List.flatten_cons,ih,List.replicate_succ];rfl
theorem BD {α:Type} {f:α->AV} {l:List α} {c:Option Nat} {ex wr:Bool} {e':TypeId} (h:eR t e 1 false b) (hs:s.h id=some (.cells (l.map f) e' ex wr)) (h1:∀ a∈l,(f a).closed=true) (h2:∀ a∈l,iQ (f a)=true) (k:Nat):pur mEv.P s (k+1) (.ref id 0 l.length c e)=some (.sl false (l.map f),[id]):=by
 have h3:eU mEv.P e=some (1,false):=h.l;have hp:dN (pur mEv.P s k) (l.map f)=some (l.map f,[]):=iD (s:=s) k (oI f l h1);have hnc:(AV.ref id 0 l.length c e).closed=false:=rfl;have hall:(l.map f).all iQ=true:=m032.2 fun v hv=>by obtain ⟨a,ha,rfl⟩:=m021.1 hv;exact h2 a ha
 have htk:((l.map f).drop 0).take (l.length * 1)=l.map f:=by rw [m048,pS];exact m014 (by simp)
 have e1:pur mEv.P s (k+1) (.ref id 0 l.length c e)=if 0+l.length * 1<=(l.map f).length/\0 < 1 then
      (dN (pur mEv.P s k) (((l.map f).drop 0).take (l.length * 1))).bind fun r=>if false||(Nat.beq 1 1&&r.1.all iQ) then some (.sl false (if false then nZ 1 l.length r.1 else r.1),id::r.2) else none else none:=by
  conv=>lhs;unfold pur
  rw [hnc,if_neg (by simp)];simp only [hs,h3]
 rw [e1,if_pos ⟨by simp,by decide⟩,htk,hp];simp;exact h2
theorem aJo:∀ (ws c:List AV) (n:Nat),ws.length=n->n<=c.length->bZ c 0 ws=ws++c.drop n:=by
 have key:∀ (ws dM c:List AV),ws.length<=c.length->bZ (dM++c) dM.length ws=dM++ws++c.drop ws.length:=by
  intro ws
  induction ws with
  | nil=>intro dM c _;simp [bZ]
  | cons v l ih =>
   intro dM c h
   match c,h with
   | y::c,h =>
    simp only [bZ];have e:(dM++y::c).set dM.length v=(dM++[v])++c:=by simp
    have:=ih (dM++[v]) c (by simpa using h);rw [e];simpa using this
 intro ws c n h1 h2;have:=key ws [] c (by omega);simpa [h1] using this
theorem aTm {α:Type} {f:α->AV} {l:List α} {c:List AV} {cp:Option Nat} {e':TypeId} {ex ex2:Bool} {n k:Nat} (h:eR t e 1 false b) (hf:QP f 1) (hf1:∀ a,(f a).cells=[f a]) (hs:s.h id=some (.cells c e' ex2 true)) (hc:c.length=n) (hn:n<=l.length) :
  bt .copy #[t,t] [.ref id 0 n cp e,.sl ex (l.map f)] k s=some (.int .i64 n,s.set id (some (.cells ((l.take n).map f) e' ex2 true))):=by
 have h1:eK (bX mEv).P t=some (.slice e):=h.u;have h2:eU (bX mEv).P e=some (1,false):=h.l;have hall:(l.map f).all (fun v=>v.cells.length==1)=true:=m032.2 fun v hv=>by obtain ⟨a,_,rfl⟩:=m021.1 hv;simp [hf.len]
 have hflat:(l.map f).flatMap AV.cells=l.map f:=BQ fun v hv=>by obtain ⟨a,_,rfl⟩:=m021.1 hv;exact hf1 a
 have hones:((l.map f).take n).all AV.one=true:=by rw [m032];intro v hv;obtain ⟨a,_,rfl⟩:=m021.1 (List.mem_of_mem_take hv);have:=hf.ones a;rw [hf1] at this;simpa using this
 have hsrc:aR 1 (.sl ex (l.map f)) s=some (l.map f):=by simp only [aR,hall,if_true,hflat]
 have hmin:min ((l.map f).length / 1) n=n:=by rw [m002,Nat.div_one];omega
 have hset:bZ c 0 ((l.map f).take n)=(l.take n).map f:=by rw [aJo _ c n (by rw [m020,m002];omega) (by omega),m037 (by omega),m011,List.map_take]
 have hcp:pL 1 (.ref id 0 n cp e) (l.map f) s=some (.int .i64 n,s.set id (some (.cells ((l.take n).map f) e' ex2 true))):=by unfold pL;simp only [hs,hmin,pS,m023];rw [if_pos ⟨by omega,hones⟩,hset]
 simp only [bt,bL,List.getElem?_toArray,List.getElem?_cons_zero,Option.bind_some,h1,h2,Nat.one_ne_zero,if_false,hsrc,hcp]
theorem BF {e:TypeId} {i id n:Nat} {c:Option Nat} (h:i < n) (k:IntKind):cQ 1 (.ref id 0 n c e) (.int k (i:Int))=some (.ptr id i):=by have:=oZ (e:=e) (z:=1) (id:=id) (off:=0) (c:=c) h k;rw [this];simp
theorem bJz {k:Nat} (h:k < 2 ^ 63):IntKind.i64.wrap (k:Int)=(k:Int):=IntWalk.i64_in _ (by omega)
end
theorem aOl:(false==true)=false:=rfl
theorem aGs:(true==false)=false:=rfl
theorem wx:type_of% (And.intro @and_true <| And.intro @true_and <| And.intro @shiftP_ptr <| And.intro @shiftP_pel <| And.intro @Bnd_some <| And.intro @IfP_bool <| And.intro @Gd_some <| And.intro @ld_ptr <| And.intro @ld_pel <| And.intro @adv_h <| And.intro @adv_nx <| And.intro @set_nx <| And.intro @part_one <| And.intro @un_not <| And.intro @wantV_bool <| And.intro @pickV_bool <| And.intro @extr_tup <| And.intro @bin_lss <| And.intro @bin_leq <| And.intro @bin_gtr <| And.intro @bin_geq <| And.intro @bin_eql <| And.intro @bin_neq <| And.intro @bin_seql <| And.intro @bin_sneq <| And.intro @bin_add <| And.intro @bin_sub <| And.intro @m015 <| And.intro @m025 <| And.intro @m027 <| And.intro @Bnd_none <| And.intro @get_set <| And.intro @nx_drop <| And.intro @get_drop' <| And.intro @adv_set <| And.intro @adv_two <| And.intro @adv_drop <| And.intro @set_set <| And.intro @m066 <| And.intro @Nat.add_left_cancel_iff <| And.intro @Nat.left_eq_add <| And.intro @Nat.add_eq_left <| And.intro @Nat.add_zero <| And.intro @wantV_tup <| And.intro @resC_nil <| And.intro @resC_some <| And.intro @retP_some <| And.intro @map_some' <| And.intro @tupV_one <| And.intro @tupV_two <| And.intro @idOf_ref <| And.intro @idOf_nils <| And.intro @idOf_ptr <| And.intro @idOf_sl <| And.intro @idOf_pel <| And.intro @drop_nil <| And.intro @drop_cons <| And.intro @bin_mul <| And.intro @m078 <| And.intro @Bool.or_false <| And.intro @m059 <| And.intro @m071 <| And.intro @m031 <| And.intro @m035 <| And.intro @m033 <| And.intro @m026 <| And.intro aOl aGs):=And.intro @and_true <| And.intro @true_and <| And.intro @shiftP_ptr <| And.intro @shiftP_pel <| And.intro @Bnd_some <| And.intro @IfP_bool <| And.intro @Gd_some <| And.intro @ld_ptr <| And.intro @ld_pel <| And.intro @adv_h <| And.intro @adv_nx <| And.intro @set_nx <| And.intro @part_one <| And.intro @un_not <| And.intro @wantV_bool <| And.intro @pickV_bool <| And.intro @extr_tup <| And.intro @bin_lss <| And.intro @bin_leq <| And.intro @bin_gtr <| And.intro @bin_geq <| And.intro @bin_eql <| And.intro @bin_neq <| And.intro @bin_seql <| And.intro @bin_sneq <| And.intro @bin_add <| And.intro @bin_sub <| And.intro @m015 <| And.intro @m025 <| And.intro @m027 <| And.intro @Bnd_none <| And.intro @get_set <| And.intro @nx_drop <| And.intro @get_drop' <| And.intro @adv_set <| And.intro @adv_two <| And.intro @adv_drop <| And.intro @set_set <| And.intro @m066 <| And.intro @Nat.add_left_cancel_iff <| And.intro @Nat.left_eq_add <| And.intro @Nat.add_eq_left <| And.intro @Nat.add_zero <| And.intro @wantV_tup <| And.intro @resC_nil <| And.intro @resC_some <| And.intro @retP_some <| And.intro @map_some' <| And.intro @tupV_one <| And.intro @tupV_two <| And.intro @idOf_ref <| And.intro @idOf_nils <| And.intro @idOf_ptr <| And.intro @idOf_sl <| And.intro @idOf_pel <| And.intro @drop_nil <| And.intro @drop_cons <| And.intro @bin_mul <| And.intro @m078 <| And.intro @Bool.or_false <| And.intro @m059 <| And.intro @m071 <| And.intro @m031 <| And.intro @m035 <| And.intro @m033 <| And.intro @m026 <| And.intro aOl aGs
end
noncomputable section
theorem sV (x:List UInt8) (id:Nat) (s:St):bt .len #[9] [.str x] id s=some (.int .i64 x.length,s):=by kernel_rfl
theorem EM:eR 22 211 1 false 4:=⟨by kernel_rfl,by kernel_rfl,by kernel_rfl,by kernel_rfl,by decide⟩
theorem zG (ex:Bool) (l:List AV) (id:Nat) (s:St):bt .len #[22] [.sl ex l] id s=some (.int .i64 l.length,s):=by kernel_rfl
theorem bPb:zr 24=some (.agg [.bool false,.nils]):=by kernel_rfl
theorem bKd (l:List (Nat×AV)):lK 24 l=(jT (fun i=>[(0,1),(1,1)][i]?) [.bool false,.nils] l).map .agg:=by kernel_rfl
theorem aIn:eR 25 109 2 true 16:=⟨by kernel_rfl,by kernel_rfl,by kernel_rfl,by kernel_rfl,by decide⟩
theorem bCp (ex:Bool) (l:List AV) (id:Nat) (s:St):bt .len #[25] [.sl ex l] id s=some (.int .i64 l.length,s):=by kernel_rfl
theorem bLy (id:Nat) (s:St):bt .len #[25] [.nils] id s=some (.int .i64 0,s):=by kernel_rfl
theorem bJq (i o n:Nat) (c:Option Nat) (e:TypeId) (id:Nat) (s:St):bt .len #[25] [.ref i o n c e] id s=some (.int .i64 n,s):=by kernel_rfl
theorem bCj {x:AV} {l:List AV} {s:St} (g:Gw 109 2 0 s x l) (id:Nat):bt .len #[25] [x] id s=some (.int .i64 l.length,s):=by
 obtain ⟨_,⟨rfl,rfl⟩ | ⟨i,_,rfl,_⟩⟩:=g
 ·exact bLy id s
 ·exact bJq ..
theorem zB:eR 31 33 6 true 72:=⟨by kernel_rfl,by kernel_rfl,by kernel_rfl,by kernel_rfl,by decide⟩
theorem CG (ex:Bool) (l:List AV) (id:Nat) (s:St):bt .len #[31] [.sl ex l] id s=some (.int .i64 l.length,s):=by kernel_rfl
theorem WO (id:Nat) (s:St):bt .len #[31] [.nils] id s=some (.int .i64 0,s):=by kernel_rfl
theorem PW (i o n:Nat) (c:Option Nat) (e:TypeId) (id:Nat) (s:St):bt .len #[31] [.ref i o n c e] id s=some (.int .i64 n,s):=by kernel_rfl
theorem bOv {x:AV} {l:List AV} {s:St} (g:Gw 33 6 0 s x l) (id:Nat):bt .len #[31] [x] id s=some (.int .i64 l.length,s):=by
 obtain ⟨_,⟨rfl,rfl⟩ | ⟨i,_,rfl,_⟩⟩:=g
 ·exact WO id s
 ·exact PW ..
theorem aUg:zr 33=some (.agg [.bool false,.int .i64 0,.str [],.int .i64 0,.int .i64 0,.nils]):=by kernel_rfl
theorem US:eR 49 67 10 true 128:=⟨by kernel_rfl,by kernel_rfl,by kernel_rfl,by kernel_rfl,by decide⟩
theorem aMa (ex:Bool) (l:List AV) (id:Nat) (s:St):bt .len #[49] [.sl ex l] id s=some (.int .i64 l.length,s):=by kernel_rfl
theorem aNw (id:Nat) (s:St):bt .len #[49] [.nils] id s=some (.int .i64 0,s):=by kernel_rfl
theorem aHp (i o n:Nat) (c:Option Nat) (e:TypeId) (id:Nat) (s:St):bt .len #[49] [.ref i o n c e] id s=some (.int .i64 n,s):=by kernel_rfl
theorem aMh (i o:Nat):bn .eql 51 (.ptr i o) .nilp=some (.bool false):=by kernel_rfl
theorem FN:eR 52 9 1 false 16:=⟨by kernel_rfl,by kernel_rfl,by kernel_rfl,by kernel_rfl,by decide⟩
theorem bHg (ex:Bool) (l:List AV) (id:Nat) (s:St):bt .len #[52] [.sl ex l] id s=some (.int .i64 l.length,s):=by kernel_rfl
theorem bOw (id:Nat) (s:St):bt .len #[52] [.nils] id s=some (.int .i64 0,s):=by kernel_rfl
theorem bBs (i o n:Nat) (c:Option Nat) (e:TypeId) (id:Nat) (s:St):bt .len #[52] [.ref i o n c e] id s=some (.int .i64 n,s):=by kernel_rfl
theorem bHe {x:AV} {l:List AV} {s:St} (g:Gw 9 1 0 s x l) (id:Nat):bt .len #[52] [x] id s=some (.int .i64 l.length,s):=by
 obtain ⟨_,⟨rfl,rfl⟩ | ⟨i,_,rfl,_⟩⟩:=g
 ·exact bOw id s
 ·exact bBs ..
theorem bNe:eR 56 101 7 true 112:=⟨by kernel_rfl,by kernel_rfl,by kernel_rfl,by kernel_rfl,by decide⟩
theorem bOn (id:Nat) (s:St):bt .len #[56] [.nils] id s=some (.int .i64 0,s):=by kernel_rfl
theorem bLd (i o n:Nat) (c:Option Nat) (e:TypeId) (id:Nat) (s:St):bt .len #[56] [.ref i o n c e] id s=some (.int .i64 n,s):=by kernel_rfl
theorem bJm {x:AV} {l:List AV} {s:St} (g:Gw 101 7 0 s x l) (id:Nat):bt .len #[56] [x] id s=some (.int .i64 l.length,s):=by
 obtain ⟨_,⟨rfl,rfl⟩ | ⟨i,_,rfl,_⟩⟩:=g
 ·exact bOn id s
 ·exact bLd ..
theorem bFw (l:List (Nat×AV)):lK 58 l=(jT (fun i=>[(0,2),(2,1)][i]?) [.nils,.nilm,.nils] l).map .agg:=by kernel_rfl
theorem bQb:eR 65 151 2 true 24:=⟨by kernel_rfl,by kernel_rfl,by kernel_rfl,by kernel_rfl,by decide⟩
theorem RF (ex:Bool) (l:List AV) (id:Nat) (s:St):bt .len #[65] [.sl ex l] id s=some (.int .i64 l.length,s):=by kernel_rfl
theorem bRy:zr 67=some (.agg [.str [],.int .i64 0,.bool false,.nils,.bool false,.int .i64 0,.str [],.int .i64 0,.int .i64 0,.nils]):=by kernel_rfl
theorem bQz (l:List (Nat×AV)):lK 67 l=(jT (fun i=>[(0,1),(1,1),(2,1),(3,1),(4,6)][i]?) [.str [],.int .i64 0,.bool false,.nils,.bool false,.int .i64 0,.str [],.int .i64 0,.int .i64 0,.nils] l).map .agg:=by kernel_rfl
theorem pQ:eR 72 3 1 false 8:=⟨by kernel_rfl,by kernel_rfl,by kernel_rfl,by kernel_rfl,by decide⟩
theorem QD (ex:Bool) (l:List AV) (id:Nat) (s:St):bt .len #[72] [.sl ex l] id s=some (.int .i64 l.length,s):=by kernel_rfl
theorem WP (id:Nat) (s:St):bt .len #[72] [.nils] id s=some (.int .i64 0,s):=by kernel_rfl
theorem bBw (i o n:Nat) (c:Option Nat) (e:TypeId) (id:Nat) (s:St):bt .len #[72] [.ref i o n c e] id s=some (.int .i64 n,s):=by kernel_rfl
theorem aJp {x:AV} {l:List AV} {s:St} (g:Gw 3 1 0 s x l) (id:Nat):bt .len #[72] [x] id s=some (.int .i64 l.length,s):=by
 obtain ⟨_,⟨rfl,rfl⟩ | ⟨i,_,rfl,_⟩⟩:=g
 ·exact WP id s
 ·exact bBw ..
theorem lZ (i o:Nat):bn .eql 81 (.ptr i o) .nilp=some (.bool false):=by kernel_rfl
theorem bGk:bn .eql 86 .nilm .nilm=some (.bool true):=by kernel_rfl
theorem bDn (i:Nat):bn .eql 86 (.map i) .nilm=some (.bool false):=by kernel_rfl
theorem bQc (l:List (Nat×AV)):lK 88 l=(jT (fun i=>[(0,2),(2,2),(4,1)][i]?) [.nils,.nils,.nils,.nils,.nilm] l).map .agg:=by kernel_rfl
theorem FV:zr 101=some (.agg [.int .i64 0,.int .i64 0,.nils,.str [],.bool false,.nils,.nils]):=by kernel_rfl
theorem QK (l:List (Nat×AV)):lK 101 l=(jT (fun i=>[(0,1),(1,1),(2,1),(3,1),(4,2),(6,1)][i]?) [.int .i64 0,.int .i64 0,.nils,.str [],.bool false,.nils,.nils] l).map .agg:=by kernel_rfl
theorem aYm:zr 109=some (.agg [.int .i64 0,.int .i64 0]):=by kernel_rfl
theorem bIo (l:List (Nat×AV)):lK 109 l=(jT (fun i=>[(0,1),(1,1)][i]?) [.int .i64 0,.int .i64 0] l).map .agg:=by kernel_rfl
theorem OY:eR 122 254 2 true 48:=⟨by kernel_rfl,by kernel_rfl,by kernel_rfl,by kernel_rfl,by decide⟩
theorem bEx (ex:Bool) (l:List AV) (id:Nat) (s:St):bt .len #[122] [.sl ex l] id s=some (.int .i64 l.length,s):=by kernel_rfl
theorem bFv (id:Nat) (s:St):bt .len #[122] [.nils] id s=some (.int .i64 0,s):=by kernel_rfl
theorem bGt (i o n:Nat) (c:Option Nat) (e:TypeId) (id:Nat) (s:St):bt .len #[122] [.ref i o n c e] id s=some (.int .i64 n,s):=by kernel_rfl
theorem bBy (l:List (Nat×AV)):lK 124 l=(jT (fun i=>[(0,1),(1,1),(2,1),(3,1)][i]?) [.nilp,.nils,.nils,.nilm] l).map .agg:=by kernel_rfl
theorem aRj:zr 151=some (.agg [.str [],.int .i64 0]):=by kernel_rfl
theorem AT (i o:Nat):bn .eql 153 (.ptr i o) .nilp=some (.bool false):=by kernel_rfl
theorem aXv (c:List AV) (o:Nat):bn .eql 153 (.pel c o) .nilp=some (.bool false):=by kernel_rfl
theorem XX (i o:Nat):bn .neq 153 (.ptr i o) .nilp=some (.bool true):=by kernel_rfl
theorem LX (i o:Nat):bn .eql 155 (.ptr i o) .nilp=some (.bool false):=by kernel_rfl
theorem aXm (c:List AV) (o:Nat):bn .eql 155 (.pel c o) .nilp=some (.bool false):=by kernel_rfl
theorem YK (i o:Nat):bn .neq 155 (.ptr i o) .nilp=some (.bool true):=by kernel_rfl
theorem aPq (ex:Bool) (l:List AV) (id:Nat) (s:St):bt .len #[161] [.sl ex l] id s=some (.int .i64 l.length,s):=by kernel_rfl
theorem aZg:zr 163=some (.agg [.nilp,.nils]):=by kernel_rfl
theorem bHh (l:List (Nat×AV)):lK 163 l=(jT (fun i=>[(0,1),(1,1)][i]?) [.nilp,.nils] l).map .agg:=by kernel_rfl
theorem bHn:zr 192=some (.agg [.int .i64 0,.bool false,.int .i64 0,.int .i64 0,.int .i64 0,.int .i64 0]):=by kernel_rfl
theorem WI:zr 211=some (.int .u32 0):=by kernel_rfl
theorem bNn:zr 223=some (.agg [.int .u8 0,.int .u8 0,.int .u8 0,.int .u8 0,.int .u8 0,.int .u8 0,.int .u8 0,.int .u8 0,.int .u8 0]):=by kernel_rfl
theorem aSu:zr 254=some (.agg [.nils,.nils]):=by kernel_rfl
theorem bMk (l:List (Nat×AV)):lK 254 l=(jT (fun i=>[(0,1),(1,1)][i]?) [.nils,.nils] l).map .agg:=by kernel_rfl
theorem bOo (k:IntKind) (n:Int) (s:St):cv 5 3 (.int k n) s=some (.int .i64 (IntKind.wrap .i64 n)):=by kernel_rfl
theorem aWe (k:IntKind) (n:Int) (s:St):cv 5 211 (.int k n) s=some (.int .u32 (IntKind.wrap .u32 n)):=by kernel_rfl
theorem BB (x:List UInt8) (s:St):cv 9 161 (.str x) s=some (.sl false (x.map fun c=>.int .u8 c.toNat)):=by kernel_rfl
theorem aWq (k:IntKind) (n:Int) (s:St):cv 159 5 (.int k n) s=some (.int .u8 (IntKind.wrap .u8 n)):=by kernel_rfl
theorem sM (k:IntKind) (n:Int) (s:St):cv 159 211 (.int k n) s=some (.int .u32 (IntKind.wrap .u32 n)):=by kernel_rfl
theorem yI (k:IntKind) (n:Int) (s:St):cv 211 159 (.int k n) s=some (.int .u64 (IntKind.wrap .u64 n)):=by kernel_rfl
end
noncomputable section
section
variable {x y:List UInt8} {s:St} {i j n:Nat}
def GP (c:UInt8):AV:=.int .u8 c.toNat
theorem aWu:eK Tryz.ty 9=some .string:=by kernel_rfl
theorem sK (k:IntKind) {c:UInt8} (h:x[i]?=some c):QG 9 (.str x) (.int k (i:Int))=some (.int .u8 c.toNat):=by obtain ⟨hi,rfl⟩:=m012.1 h;simp [QG,yQ,pW,aWu,xI,hi]
theorem aGx (k:IntKind) (h:n<=x.length):mF 9 (.str x) none (some (.int k (n:Int))) none s=some (.str (x.take n)):=by simp [mF,gH,aWu,eJ,sU,pW,h]
theorem KU (k:IntKind) (h:n<=x.length):mF 9 (.str x) (some (.int k (n:Int))) none none s=some (.str (x.drop n)):=by simp [mF,gH,aWu,eJ,sU,pW,h];exact m014 (by simp)
theorem aOs {t:TypeId} (h:x.length+y.length<=KA):mG (T:=Tryz.ty) Tryz.eqOk .add t (.str x) (.str y)=some (.str (x++y)):=by simp [mG,LW,h]
theorem gZ {t:TypeId} (h:x.length+y.length<=2 ^ 46):bn .add t (.str x) (.str y)=some (.str (x++y)):=aOs h
theorem bFj:eK Tryz.ty 161=some (.slice 5):=by kernel_rfl
theorem bRc:eK Tryz.ty 5=some (.int .u8):=by kernel_rfl
theorem bLv:QP GP 1:=⟨fun _=>rfl,fun _=>rfl⟩
theorem aTw (bs:List UInt8):fQ (bs.map GP)=some (bs.map fun c=>(c.toNat:Int)):=by
 induction bs with
 | nil=>rfl
 | cons c l ih =>simp only [m039,fQ,ih];rfl
theorem aIz (bs:List UInt8):(bs.map fun c=>(c.toNat:Int)).map (fun n=>UInt8.ofNat n.toNat)=bs:=by
 induction bs with
 | nil=>rfl
 | cons c l ih=>simp only [m039,ih,Int.toNat_natCast,UInt8.ofNat_toNat]
theorem aTt {dM bs post:List UInt8} {id off n:Nat} {cp:Option Nat} {e e':TypeId} {ex wr:Bool} (hs:s.h id=some (.cells ((dM++bs++post).map GP) e' ex wr)) (ho:dM.length=off) (hn:bs.length=n):cv 161 9 (.ref id off n cp e) s=some (.str bs):=by
 have h1:((((dM++bs++post).map GP).drop off).take n)=bs.map GP:=by rw [<- List.map_drop,<- List.map_take,m019,<- ho,List.drop_left,<- hn,List.take_left]
 have h2:off+n<=((dM++bs++post).map GP).length:=by simp;omega
 simp only [cv,mU,bFj,aWu,bRc,hs];rw [if_pos h2,h1,aTw];simp only [Option.map_some,aIz]
theorem nB {f:FuncId} {g:List AV->St->Option (AV×St)} {args:List AV} {s':St} {r:AV} (h:mEv.prim f=some g) (hg:g args s=some (r,s')):WideC mEv f args s r s':=⟨1,by rw [uE,h];exact hg⟩
end
end
noncomputable section
def IL (c:UInt8):AV:=.int .u8 c.toNat
theorem bAv:eR 161 5 1 false 1:=⟨by kernel_rfl,by kernel_rfl,by kernel_rfl,by kernel_rfl,by decide⟩
theorem bEu:bn .eql 160 .nilp .nilp=some (.bool true):=by kernel_rfl
theorem bEq (i:Nat):bn .eql 160 (.ptr i 0) .nilp=some (.bool false):=by kernel_rfl
theorem bKc (i:Nat):bn .neq 160 (.ptr i 0) (.ptr i 0)=some (.bool false):=by
 have h1:eK Tryz.ty 160=some (.pointer 163):=by kernel_rfl
 have h2:eU Tryz.ty 163=some (2,true):=by kernel_rfl
 simp [bn,mG,dY,h1,pN,h2]
theorem cv1 {i:Nat} {s:St} {a x:AV} (hs:s.h i=some (.cells [a,x] 163 true true)):cv 160 288 (.ptr i 0) s=some (.ptr i 0):=by
 have h1:eK Tryz.ty 160=some (.pointer 163):=by kernel_rfl
 have h2:eK Tryz.ty 288=some .unsafePointer:=by kernel_rfl
 have h3:eU Tryz.ty 163=some (2,true):=by kernel_rfl
 simp [cv,mU,h1,h2,h3,hs]
theorem cv2 {i:Nat} {s:St} {a x:AV} (hs:s.h i=some (.cells [a,x] 163 true true)):cv 288 160 (.ptr i 0) s=some (.ptr i 0):=by
 have h1:eK Tryz.ty 160=some (.pointer 163):=by kernel_rfl
 have h2:eK Tryz.ty 288=some .unsafePointer:=by kernel_rfl
 have h3:eU Tryz.ty 163=some (2,true):=by kernel_rfl
 simp [cv,mU,h1,h2,h3,hs]
theorem aWl (i:Nat) (s:St):WideC mEv 232 [.ptr i 0] s (.ptr i 0) s:=⟨1,by kernel_rfl⟩
theorem OQ {id off:Nat} {v:AV} {c:List AV} {e:TypeId} {ex:Bool} {s:St} (h:s.h id=some (.cells c e ex true)) (ho:off < c.length) (hv:v.cells=[v]) (hone:v.one=true):dU 1 (.ptr id off) v s=some (s.set id (some (.cells (c.set off v) e ex true))):=by show Ai.store 1 (.ptr id off) v s=_;unfold Ai.store;simp only [h];rw [if_pos ⟨by rw [hv];rfl,by omega,by rw [hv];simp [hone]⟩,hv];rfl
theorem KQ {h:FuncId} {args:List AV} {s:St} {K:aG} (hz:mEv.fz h=false) (hc:∃ r s',WideC mEv h args s r s'/\K r s'):aL mEv h args s K:=by obtain ⟨r,s',h1,h2⟩:=hc;exact .mk (by rw [hz];exact ⟨r,s',h1,h2⟩)
theorem bJi:mEv.fz 202=false:=by kernel_rfl
theorem bKz:mEv.fz 232=false:=by kernel_rfl
theorem bAg:mEv.fz 156=false:=by kernel_rfl
theorem bOy:mEv.fz 108=false:=by kernel_rfl
theorem aWs (x:AV) (bs:List UInt8) (id:Nat) (s:St):bt .append #[161,9] [x,.str bs] id s=bM 5 1 1 x (bs.map IL) id s:=by
 have h1:eK (bX mEv).P 161=some (.slice 5):=by kernel_rfl
 have h2:eU (bX mEv).P 5=some (1,false):=by kernel_rfl
 have h3:dW (bX mEv).P 5=some 1:=by kernel_rfl
 have h5:eK (bX mEv).P 9=some .string:=by kernel_rfl
 have h4:(zero (bX mEv).P 5).map (fun v=>v.cells.length)=some 1:=by kernel_rfl
 cases hz:zero (bX mEv).P 5 with
 | none=>rw [hz] at h4;cases h4
 | some zv =>rw [hz] at h4;simp only [Option.map_some,m000] at h4;simp [bL,h1,h2,h3,h5,hz,h4,aR];rfl
section
variable {lo id:Nat} {s:St} {bs:List UInt8} {K:aG}
theorem bEf (x:List UInt8) (id:Nat) (s:St):bt .len #[9] [.str x] id s=some (.int .i64 x.length,s):=by kernel_rfl
theorem u8s (bs:List UInt8):fQ (bs.map IL)=some (bs.map fun c=>(c.toNat:Int)):=by
 induction bs with
 | nil=>rfl
 | cons c l ih =>simp only [m039,fQ,ih];rfl
theorem bGp (bs:List UInt8):(bs.map fun c=>(c.toNat:Int)).map (fun n=>UInt8.ofNat n.toNat)=bs:=by
 induction bs with
 | nil=>rfl
 | cons c l ih=>simp only [m039,ih,Int.toNat_natCast,UInt8.ofNat_toNat]
end
end
noncomputable section
mutual
theorem LL {p:Sx->Prop} (h:∀ l k x p' a items,(∀ s∈items,p s)->p (.mk l k x p' a items)):(s:Sx)->p s
 | .mk l k x p' a items=>h l k x p' a items (ZB h items)
theorem ZB {p:Sx->Prop} (h:∀ l k x p' a items,(∀ s∈items,p s)->p (.mk l k x p' a items)):(l:List Sx)->∀ s∈l,p s
 | []=>fun _ h=>nomatch h
 | s::l=>fun t ht=>(m013.1 ht).elim (fun e=>e ▸ LL h s) (ZB h l t)
end
mutual
theorem aV:(s:Sx)->s.av.closed=true
 | .mk l k x p a items=>by simp only [Sx.av,AV.closed,aW,CP items,m027,jH]
theorem CP:(l:List Sx)->aW (Sx.avs l)=true
 | []=>rfl
 | s::l=>by simp only [Sx.avs,aW,aV s,CP l,jH]
end
theorem cH (s:Sx):s.av.cells.all AV.one=true:=by cases s;rfl
theorem iC (s:Sx):s.av.cells.length=6:=by cases s;rfl
theorem iJ (l k x p a items):(Sx.mk l k x p a items).av.cells=[.bool l,.int .i64 k,.str x,.int .i64 p,.int .i64 a,.sl false (Sx.avs items)]:=rfl
theorem dI (s:Sx):Ai.part 6 true 0 s.av.cells=some s.av:=by cases s;rfl
theorem aWt {l:List Sx} (h:Sx.oks l=true):∀ s∈l,s.ok=true:=by
 induction l with
 | nil=>intro s hs;cases hs
 | cons a l ih =>
  simp only [Sx.oks,cR] at h;intro s hs;rcases m013.1 hs with rfl | hs
  ·exact h.1
  ·exact ih h.2 s hs
theorem QB {l k x p a items} (h:(Sx.mk l k x p a items).ok=true):items.length<=maxLen/\∀ s∈items,s.ok=true:=by simp only [Sx.ok,cR,decide_eq_true_eq] at h;exact ⟨h.1.2,aWt h.2⟩
theorem GY (ex:Bool) (l:List AV) (id:Nat) (s:St):bt .len #[31] [.sl ex l] id s=some (.int .i64 l.length,s):=by kernel_rfl
theorem jE (l:List Sx):(Sx.avs l).length=l.length:=by rw [Sx.avs_eq,m002]
theorem aMj (ex:Bool) (l:List Sx) (i:Nat) (s:Sx) (h:l[i]?=some s):cQ 6 (.sl ex (Sx.avs l)) (.int .i64 (i:Int))=some (.pel s.av.cells 0):=by obtain ⟨hi,rfl⟩:=m012.1 h;rw [Sx.avs_eq];simp [cQ,pW,xI,hi,iC]
theorem cC (i n:Nat) (h:i < n) (hn:n<=maxLen):IntKind.i64.wrap ((i:Int)+1)=((i+1:Nat):Int):=by have:maxLen=9223372036854775807:=rfl;rw [IntWalk.i64_in _ (by omega)];rfl
theorem cE {α:Type} (l:List α) (i:Nat) (y:α) (h:l[i]?=some y):l.drop i=y::l.drop (i+1):=by obtain ⟨h',e⟩:=m012.1 h;rw [<- e];exact List.drop_eq_getElem_cons h'
mutual
def Sx.size:Sx->Int
 | .mk _ _ _ _ _ items=>Sx.sizes items 1
def Sx.sizes:List Sx->Int->Int
 | [],n=>n
 | s::l,n=>cond (decide (n<=5000)) (Sx.sizes l (IntKind.i64.wrap (n+s.size))) n
end
theorem l33 (s0:Sx) (items:List Sx) (hlen:items.length<=maxLen) (hc:∃ l k x p a,s0=.mk l k x p a items) (ih:∀ s∈items,bE mEv 33 [s.av] (.int .i64 s.size)) (b:Nat) (e:TypeId) (Q:aG) (r:Int) (hQ:∀ s,Q (.int .i64 r) s) :
  ∀ (m i:Nat) (n:Int) (s:St),i+m=items.length->s.h b=some (.cells s0.av.cells e true true)->r=Sx.sizes (items.drop i) n->∃ f,wO Q f (.ptr b 0) (.int .i64 n) (.int .i64 i) s:=by
 obtain ⟨l,k,x,p,a,rfl⟩:=hc;intro m
 induction m with
 | zero =>intro i n s hi hs hr;refine ⟨1,?_⟩;show uK Q (wO Q 0) _ _ _ s;rw [m044 (by omega)] at hr;have hr:r=n:=hr;subst hr;simp only [uK,HO,hs,iJ,GY,jE,oA,show ¬ (i < items.length) by omega,decide_false,wz,wy,Z0];exact hQ _
 | succ m ihm =>
  intro i n s hi hs hr;obtain ⟨y,hy⟩:∃ y,items[i]?=some y:=⟨_,m004 (by omega)⟩;rw [cE items i y hy] at hr;have hix:=fun ex=>aMj ex items i y hy;have hlt:i < items.length:=by omega
  cases hn:decide (n<=5000) with
  | false =>
   have hr:r=n:=by rw [hr,Sx.sizes,hn];rfl
   subst hr;refine ⟨1,?_⟩;show uK Q (wO Q 0) _ _ _ s;simp only [uK,HO,hs,iJ,GY,jE,oA,hlt,decide_true,hn,wz,wy,Z0];exact hQ _
  | true =>
   have hr:r=Sx.sizes (items.drop (i+1)) (IntKind.i64.wrap (n+y.size)):=by rw [hr,Sx.sizes,hn];rfl
   have hgo:=fun s' h=>ihm (i+1) _ s' (by omega) h hr;have hmem:y∈items:=m017 hy;obtain ⟨f,hf⟩:=hgo (adv (adv (adv s 9) 9) 3) hs;refine ⟨f+1,?_⟩;show uK Q (wO Q f) _ _ _ s;simp only [uK,aKn,hs,iJ,GY,jE,oA,hlt,decide_true,hn,hix,dI,wz,wy,Z0];refine aP (ih y hmem) (by simp [aV]) ?_;simp only [wz,wy,Z0];rw [cC i _ hlt hlen];exact hf
theorem JO:∀ s:Sx,s.ok=true->bE mEv 33 [s.av] (.int .i64 s.size):=by refine LL fun l k x p a items ih ho=>?_;obtain ⟨h1,h2⟩:=QB ho;refine bA rfl (aTh _ _ ?_);refine ⟨cH _,?_⟩;exact l33 (.mk l k x p a items) items h1 ⟨l,k,x,p,a,rfl⟩ (fun s hs=>ih s hs (h2 s hs)) _ 33 _ _ (fun _=>rfl) items.length 0 1 _ (by omega) (by simp only [adv_h,set_h,beq_self',cond_true]) rfl
mutual
def Sx.dep:Sx->Int->Int
 | .mk l _ _ _ _ items,most=>cond (!l||most==0) 0 (IntKind.i64.wrap (Sx.deps items most 0+1))
def Sx.deps:List Sx->Int->Int->Int
 | [],_,n=>n
 | s::l,most,n=>Sx.deps l most (cond (decide (s.dep (IntKind.i64.wrap (most - 1)) > n)) (s.dep (IntKind.i64.wrap (most - 1))) n)
end
theorem bRz (s0:Sx) (items:List Sx) (most:Int) (hlen:items.length<=maxLen) (hc:∃ l k x p a,s0=.mk l k x p a items) (ih:∀ s∈items,bE mEv 125 [s.av,.int .i64 (IntKind.i64.wrap (most - 1))] (.int .i64 (s.dep (IntKind.i64.wrap (most - 1))))) (b:Nat) (e:TypeId) (Q:aG) (r:Int) (hQ:∀ s,Q (.int .i64 (IntKind.i64.wrap (r+1))) s) :
  ∀ (m i:Nat) (n:Int) (s:St),i+m=items.length->s.h b=some (.cells s0.av.cells e true true)->r=Sx.deps (items.drop i) most n->∃ f,pD Q f (.int .i64 most) (.ptr b 0) (.int .i64 n) (.int .i64 i) s:=by
 obtain ⟨l,k,x,p,a,rfl⟩:=hc;intro m
 induction m with
 | zero =>intro i n s hi hs hr;refine ⟨1,?_⟩;show oK Q (pD Q 0) _ _ _ _ s;rw [m044 (by omega)] at hr;have hr:r=n:=hr;subst hr;simp only [oK,EI,hs,iJ,GY,jE,oA,show ¬ (i < items.length) by omega,decide_false,wz,wy,Z0];exact hQ _
 | succ m ihm =>
  intro i n s hi hs hr;obtain ⟨y,hy⟩:∃ y,items[i]?=some y:=⟨_,m004 (by omega)⟩;rw [cE items i y hy] at hr;have hix:=fun ex=>aMj ex items i y hy;have hlt:i < items.length:=by omega
  have hmem:y∈items:=m017 hy
  cases hn:decide (y.dep (IntKind.i64.wrap (most - 1)) > n) with
  | false =>
   have hr:r=Sx.deps (items.drop (i+1)) most n:=by rw [hr,Sx.deps,hn];rfl
   obtain ⟨f,hf⟩:=ihm (i+1) n (adv (adv (adv (adv s 5) 9) 3) 3) (by omega) hs hr;refine ⟨f+1,?_⟩;show oK Q (pD Q f) _ _ _ _ s;simp only [oK,DT,hs,iJ,GY,jE,oA,hlt,decide_true,hix,dI,wz,wy,Z0];refine aP (ih y hmem) (by simp [aV,AV.closed]) ?_;simp only [hn,wz,wy,Z0];rw [cC i _ hlt hlen];exact hf
  | true =>
   have hr:r=Sx.deps (items.drop (i+1)) most (y.dep (IntKind.i64.wrap (most - 1))):=by rw [hr,Sx.deps,hn];rfl
   obtain ⟨f,hf⟩:=ihm (i+1) _ (adv (adv (adv (adv s 5) 9) 5) 3) (by omega) hs hr;refine ⟨f+1,?_⟩;show oK Q (pD Q f) _ _ _ _ s;simp only [oK,DT,hs,iJ,GY,jE,oA,hlt,decide_true,hix,dI,wz,wy,Z0];refine aP (ih y hmem) (by simp [aV,AV.closed]) ?_;simp only [hn,wz,wy,Z0];rw [cC i _ hlt hlen];exact hf
theorem bIv:∀ s:Sx,s.ok=true->∀ most,bE mEv 125 [s.av,.int .i64 most] (.int .i64 (s.dep most)):=by
 refine LL fun l k x p a items ih ho most=>?_;obtain ⟨h1,h2⟩:=QB ho;refine bA rfl (aPl _ _ _ ?_);refine ⟨cH _,?_⟩;rw [Sx.dep]
 cases l with
 | false=>simp only [iJ,wz,wy,Z0,m033]
 | true =>
  simp only [iJ,wz,wy,Z0,m026]
  cases hm:(most==0) with
  | true=>simp only [wz,wy,Z0]
  | false =>simp only [wz,wy,Z0];exact bRz (.mk true k x p a items) items most h1 ⟨true,k,x,p,a,rfl⟩ (fun s hs=>ih s hs (h2 s hs) _) _ 33 _ _ (fun _=>rfl) items.length 0 0 _ (by omega) (by simp only [adv_h,set_h,beq_self',cond_true,iJ]) rfl
def Sx.depth (s:Sx):Int:=s.dep 65
theorem MC (s:Sx) (h:s.ok=true):bE mEv 74 [s.av] (.int .i64 s.depth):=by refine bA rfl (aXu _ _ ?_);refine ⟨cH _,?_⟩;simp only [dI,wz,wy,Z0];exact aP (bIv s h 65) (by simp [aV,AV.closed]) rfl
end
noncomputable section
def kZ (r:Int×Int):AV:=.agg [.int .i64 r.1,.int .i64 r.2]
def dE (n:Int):AV:=.int .i64 n
def NY (c:Int):Bool:=decide (c >= 0)&&decide (c<=196607)
theorem bPn (c:Int):bE mEv 181 [.int .i64 c] (.bool (NY c)):=by
 refine bA rfl (aSw _ _ ?_);unfold f181 NY
 cases h:decide (c >= 0) with
 | false=>simp only [h,wz,wy,Z0];rfl
 | true =>simp only [h,wz,wy,Z0];rfl
theorem VB (d:Int×Int):Ai.part 2 true 0 (kZ d).cells=some (kZ d):=rfl
theorem rn0 (d:Int×Int):(kZ d).cells[0]?=some (AV.int .i64 d.1):=rfl
theorem rn1 (d:Int×Int):(kZ d).cells[1]?=some (AV.int .i64 d.2):=rfl
end
noncomputable section
structure Dc:Type where
 nm:List UInt8
 so:Int
 mac:Bool
 ps:List (List UInt8×Int)
 body:Sx
def lE (p:List UInt8×Int):AV:=.agg [.str p.1,.int .i64 p.2]
def Dc.av (d:Dc):AV:=.agg (.str d.nm::.int .i64 d.so::.bool d.mac::.sl false (d.ps.map lE)::d.body.av.cells)
def Dc.ok (d:Dc):Bool:=decide (d.nm.length<=maxLen)&&pK d.so&&decide (d.ps.length<=maxLen)&&d.body.ok
theorem aQq (d:Dc):d.av.cells=.str d.nm::.int .i64 d.so::.bool d.mac::.sl false (d.ps.map lE)::d.body.av.cells:=rfl
theorem dc0 (d:Dc):d.av.cells[0]?=some (AV.str d.nm):=rfl
theorem dc1 (d:Dc):d.av.cells[1]?=some (AV.int .i64 d.so):=rfl
theorem dc2 (d:Dc):d.av.cells[2]?=some (AV.bool d.mac):=rfl
theorem ZE (d:Dc):d.av.cells[3]?=some (AV.sl false (d.ps.map lE)):=rfl
theorem kQ (d:Dc):Ai.part 6 true 4 d.av.cells=some d.body.av:=by obtain ⟨a,b,c,e,f⟩:=d;cases f;rfl
theorem kK (d:Dc):Ai.part 10 true 0 d.av.cells=some d.av:=by obtain ⟨a,b,c,e,f⟩:=d;cases f;rfl
theorem gJ (d:Dc):d.av.cells.length=10:=by obtain ⟨a,b,c,e,f⟩:=d;cases f;rfl
theorem fA {α:Type} (f:α->AV) (l:List α) (h:∀ x,(f x).closed=true):aW (l.map f)=true:=by
 induction l with
 | nil=>rfl
 | cons x l ih=>simp only [m039,aW,h,ih,jH]
theorem eO (d:Dc):d.av.closed=true:=by have h1:aW (d.ps.map lE)=true:=fA _ _ fun p=>rfl;have h2:=kX (aV d.body);simp only [Dc.av,AV.closed,aW,h1,h2,m027,jH]
theorem eL (d:Dc):d.av.cells.all AV.one=true:=by have:=cH d.body;rw [aQq];simp only [List.all_cons,this,m059];rfl
theorem ML (ex:Bool) (l:List AV) (id:Nat) (s:St):bt .len #[49] [.sl ex l] id s=some (.int .i64 l.length,s):=by kernel_rfl
theorem QI (ex:Bool) (l:List AV) (id:Nat) (s:St):bt .len #[65] [.sl ex l] id s=some (.int .i64 l.length,s):=by kernel_rfl
theorem bOp (ex:Bool) (l:List Dc) (i:Nat) (d:Dc) (h:l[i]?=some d):cQ 10 (.sl ex (l.map Dc.av)) (.int .i64 (i:Int))=some (.pel d.av.cells 0):=by obtain ⟨hi,rfl⟩:=m012.1 h;simp [cQ,pW,xI,hi,gJ]
def aHu:List Dc->Int->Int->Bool
 | [],_,_=>true
 | d::l,n,f=>cond (decide ((d.ps.length:Int) > 3)||(decide (d.body.depth > 64)||(decide (IntKind.i64.wrap (n+d.body.size) > 600)||decide (cond d.mac (IntKind.i64.wrap (f+1)) f > 8)))) false
   (aHu l (IntKind.i64.wrap (n+d.body.size)) (cond d.mac (IntKind.i64.wrap (f+1)) f))
def zF (l:List Dc) (x:Sx):Bool:=cond (decide ((l.length:Int) > 60)||(decide (x.size > 600)||decide (x.depth > 64))) false (aHu l 0 0)
theorem l29 (ex:Bool) (l:List Dc) (hlen:l.length<=maxLen) (hok:∀ d∈l,d.ok=true) (Q:aG) (r:Bool) (hQ:∀ s,Q (.bool r) s) :
  ∀ (m i:Nat) (n f:Int) (s:St),i+m=l.length->r=aHu (l.drop i) n f->∃ g,nN Q g (.sl ex (l.map Dc.av)) (.int .i64 n) (.int .i64 f) (.int .i64 i) s:=by
 intro m
 induction m with
 | zero =>intro i n f s hi hr;refine ⟨1,?_⟩;show tS Q (nN Q 0) _ _ _ _ s;rw [m044 (by omega)] at hr;have hr:r=true:=hr;subst hr;simp only [tS,IE,ML,m002,oA,show ¬ (i < l.length) by omega,decide_false,wz,wy,Z0];exact hQ _
 | succ m ihm =>
  intro i n f s hi hr;obtain ⟨d,hd⟩:∃ d,l[i]?=some d:=⟨_,m004 (by omega)⟩;rw [cE l i d hd] at hr;have hix:=bOp ex l i d hd;have hlt:i < l.length:=by omega
  have hmem:d∈l:=m017 hd;have hdo:d.body.ok=true:=by have:=hok d hmem;simp only [Dc.ok,cR] at this;exact this.2
  have hsz:=JO d.body hdo;have hdp:=MC d.body hdo;generalize hn':IntKind.i64.wrap (n+d.body.size)=n' at hr;generalize hf':cond d.mac (IntKind.i64.wrap (f+1)) f=f' at hr
  have key:∀ s,(∃ g,wM Q (nN Q g) (.sl ex (l.map Dc.av)) (.int .i64 i) (.int .i64 n') (.int .i64 f') s):=by
   intro s;rw [aHu,hn',hf'] at hr
   cases h1:decide ((d.ps.length:Int) > 3) with
   | true =>refine ⟨0,?_⟩;rw [h1] at hr;have hr:r=false:=hr;subst hr;simp only [wM,hix,dc0,dc1,dc2,ZE,QI,m002,h1,wz,wy,Z0];exact hQ _
   | false =>
    cases h2:decide (d.body.depth > 64) with
    | true =>refine ⟨0,?_⟩;rw [h1,h2] at hr;have hr:r=false:=hr;subst hr;simp only [wM,hix,dc0,dc1,dc2,ZE,QI,m002,h1,kQ,wz,wy,Z0];refine aP hdp (by simp [aV]) ?_;simp only [h2,wz,wy,Z0];exact hQ _
    | false =>
     cases h3:decide (n' > 600) with
     | true =>refine ⟨0,?_⟩;rw [h1,h2,h3] at hr;have hr:r=false:=hr;subst hr;simp only [wM,hix,dc0,dc1,dc2,ZE,QI,m002,h1,kQ,wz,wy,Z0];refine aP hdp (by simp [aV]) ?_;simp only [h2,h3,wz,wy,Z0];exact hQ _
     | false =>
      cases h4:decide (f' > 8) with
      | true =>refine ⟨0,?_⟩;rw [h1,h2,h3,h4] at hr;have hr:r=false:=hr;subst hr;simp only [wM,hix,dc0,dc1,dc2,ZE,QI,m002,h1,kQ,wz,wy,Z0];refine aP hdp (by simp [aV]) ?_;simp only [h2,h3,h4,wz,wy,Z0];exact hQ _
      | false =>rw [h1,h2,h3,h4] at hr;have hr:r=aHu (l.drop (i+1)) n' f':=hr;obtain ⟨g,hg⟩:=ihm (i+1) n' f' (adv (adv s 24) 3) (by omega) hr;refine ⟨g,?_⟩;simp only [wM,QU,hix,dc0,dc1,dc2,ZE,QI,m002,h1,kQ,wz,wy,Z0];refine aP hdp (by simp [aV]) ?_;simp only [h2,h3,h4,wz,wy,Z0];rw [cC i _ hlt hlen];exact hg
  cases hm:d.mac with
  | true =>obtain ⟨g,hg⟩:=key (adv (adv (adv (adv s 4) 9) 5) 3);rw [hm] at hf';refine ⟨g+1,?_⟩;show tS Q (nN Q g) _ _ _ _ s;simp only [tS,ML,m002,oA,hlt,decide_true,hix,dc2,hm,kQ,wz,wy,Z0];refine aP hsz (by simp [aV]) ?_;have hf':IntKind.i64.wrap (f+1)=f':=hf';simp only [hix,dc2,hm,hn',hf',wz,wy,Z0];exact hg
  | false =>obtain ⟨g,hg⟩:=key (adv (adv (adv s 4) 9) 5);rw [hm] at hf';refine ⟨g+1,?_⟩;show tS Q (nN Q g) _ _ _ _ s;simp only [tS,ML,m002,oA,hlt,decide_true,hix,dc2,hm,kQ,wz,wy,Z0];refine aP hsz (by simp [aV]) ?_;have hf':f=f':=hf';simp only [hix,dc2,hm,hn',hf',wz,wy,Z0];exact hg
theorem bPc (ex:Bool) (l:List Dc) (x:Sx) (hlen:l.length<=maxLen) (hok:∀ d∈l,d.ok=true) (hx:x.ok=true):bE mEv 29 [.sl ex (l.map Dc.av),x.av] (.bool (zF l x)):=by
 refine bA rfl (aXt _ _ _ ?_);refine ⟨cH _,?_⟩;unfold zF;have hs:=JO x hx;have hd:=MC x hx
 cases h1:decide ((l.length:Int) > 60) with
 | true=>simp only [ML,m002,h1,wz,wy,Z0];rfl
 | false =>
  simp only [ML,m002,h1,dI,wz,wy,Z0];refine aP hs (by simp [aV]) ?_
  cases h2:decide (x.size > 600) with
  | true=>simp only [h2,wz,wy,Z0];rfl
  | false =>
   simp only [h2,dI,wz,wy,Z0];refine aP hd (by simp [aV]) ?_
   cases h3:decide (x.depth > 64) with
   | true=>simp only [h3,wz,wy,Z0];rfl
   | false =>simp only [h3,wz,wy,Z0];exact l29 ex l hlen hok _ _ (fun _=>rfl) l.length 0 0 0 _ (by omega) rfl
theorem aTj (ex:Bool) (l:List Dc) (x:Sx) (hcl:(AV.sl ex (l.map Dc.av)).closed=true) (hlen:l.length<=maxLen) (hok:∀ d∈l,d.ok=true) (hx:x.ok=true):bE mEv 93 [.sl ex (l.map Dc.av),x.av] (.int .i64 (cond (zF l x) 0 1)):=by refine bA rfl (aWa _ _ _ ?_);refine ⟨cH _,?_⟩;simp only [dI,wz,wy,Z0];refine aP (bPc ex l x hlen hok hx) (by simp only [m013,m052,or_false,forall_eq_or_imp,forall_eq];exact ⟨hcl,aV x⟩) ?_;cases zF l x<;>simp only [wz,wy,Z0]
end
noncomputable section
theorem bMu (a b:Int):bn .neq 34 (.int .i64 a) (.int .i64 b)=some (.bool (a != b)):=bin_neq
end
noncomputable section
theorem rL:QP Sx.av 6:=⟨iC,cH⟩
theorem AY:∀ (ws dM c:List AV),ws.length<=c.length->bZ (dM++c) dM.length ws=dM++ws++c.drop ws.length:=by
 intro ws
 induction ws with
 | nil=>intro dM c _;simp [bZ]
 | cons v l ih =>
  intro dM c h
  match c,h with
  | y::c,h =>
   simp only [bZ];have e:(dM++y::c).set dM.length v=(dM++[v])++c:=by simp
   have:=ih (dM++[v]) c (by simpa using h);rw [e];simpa using this
section
variable {t e:TypeId} {z b:Nat} {ag:Bool} {s:St}
theorem bDt (h:eR t e z ag b) {vs ws junk:List AV} {i:Nat} (hv:∀ v∈vs,v.cells.length=z/\v.cells.all AV.one=true) (hw:∀ v∈ws,v.cells.length=z/\v.cells.all AV.one=true) (hs:s.h i=some (.cells (vs.flatMap AV.cells++junk) e false true)) (hj:ws.length * z<=junk.length) (ex:Bool) (id:Nat) :
  ∃ s',bt .append #[t,t] [.ref i 0 vs.length none e,.sl ex ws] id s=some (.ref i 0 (vs.length+ws.length) none e,s')/\s'.nx=s.nx/\s'.h i=some (.cells ((vs++ws).flatMap AV.cells++junk.drop (ws.length * z)) e false true)/\∀ j,j≠i->s'.h j=s.h j:=by
 rw [pG h];have hall:ws.all (fun v=>v.cells.length==z)=true:=m032.2 fun v hv=>by simp [(hw v hv).1]
 have hsrc:aR z (.sl ex ws) s=some (ws.flatMap AV.cells):=by simp [aR,hall]
 rw [hsrc,Option.bind_some];have hwl:=dP hw;have hfl:=dP hv;by_cases hne:ws=[]
 ·subst hne;exact ⟨s,rfl,rfl,by simpa using hs,fun _ _=>rfl⟩
 ·have hpos:0 < ws.length:=List.length_pos_iff.2 hne;have hmul:0 < ws.length * z:=Nat.mul_pos hpos h.pos
  have hem:(ws.flatMap AV.cells).isEmpty=false:=by
   cases hc:ws.flatMap AV.cells with
   | nil=>rw [hc] at hwl;simp at hwl;omega
   | cons a b=>rfl
  have hones:(ws.flatMap AV.cells).all AV.one=true:=by rw [m032];intro y hy;obtain ⟨v,hv,hy⟩:=List.mem_flatMap.1 hy;exact m032.1 (hw v hv).2 y hy
  have hdiv:(ws.flatMap AV.cells).length / z=ws.length:=by rw [hwl];exact CW _ h.pos
  refine ⟨s.set i (some (.cells ((vs++ws).flatMap AV.cells++junk.drop (ws.length * z)) e false true)),?_,rfl,aF,fun j hj=>aB hj⟩;unfold bM;simp only [hem,hones,m025,m015,if_false,hs,m023];rw [if_pos ⟨by rw [m006,hfl];omega,trivial⟩,if_pos (by rw [m006,hfl,hwl];omega)];rw [hdiv];have:=AY (ws.flatMap AV.cells) (vs.flatMap AV.cells) junk (by rw [hwl];exact hj);rw [hfl] at this;rw [this,hwl,m056]
end
end
noncomputable section
def lP (n:Nat):AV:=.int .u32 (n:Int)
theorem RT:QP lP 1:=⟨fun _=>rfl,fun _=>rfl⟩
def fZ (a:List Nat):AV:=.sl false (a.map lP)
theorem HB (a:List Nat):aW (a.map lP)=true:=oI _ _ fun _ _=>rfl
theorem dG (a:List Nat):(fZ a).closed=true:=gV _ _ fun _ _=>rfl
def cI (a:List Nat):Prop:=∀ x∈a,x < 2 ^ 32
theorem BN:(2:Nat) ^ 32=4294967296:=rfl
theorem p64:(2:Nat) ^ 64=18446744073709551616:=rfl
theorem aHh (x:Nat):(lP x).cells[0]?=some (.int .u32 (x:Int)):=rfl
def iT (a:List Nat):Nat->Nat
 | 0=>0
 | n+1=>cond (a[n]?==some 0) (iT a n) (n+1)
def bU (a:List Nat):List Nat:=a.take (iT a a.length)
theorem DW (a:List Nat):∀ n,iT a n<=n:=by
 intro n
 induction n with
 | zero=>exact bK 0
 | succ n ih=>simp only [iT];cases (a[n]?==some 0)<;>simp only [cond_true,cond_false]<;>omega
theorem bRh (a:List Nat) (Q:aG) (ha:a.length<=2 ^ 30):∀ (n:Nat) (s:St),n<=a.length->(∀ c,yM Q (.int .i64 (iT a n)) (fZ a) (adv s c))->yP Q (n+1) (fZ a) (.int .i64 n) s:=by
 intro n
 induction n with
 | zero =>intro s hn hj;show vL Q (yP Q 0) _ _ s;simp only [vL,show decide (((0:Nat):Int) > 0)=false from rfl,wx,wy,Z0,Z1,reduceCtorEq];exact hj 10
 | succ n ih =>
  intro s hn hj;show vL Q (yP Q (n+1)) _ _ s;obtain ⟨x,hx⟩:∃ x,a[n]?=some x:=⟨_,m004 (by omega)⟩;have h1:decide (((n+1:Nat):Int) > 0)=true:=by simp
  have h2:IntKind.i64.wrap (((n+1:Nat):Int) - 1)=(n:Int):=by rw [IntWalk.i64_in _ (by omega)];try omega
  simp only [vL,h1,h2,fZ,cJ RT false hx,aHh,wx,wy,Z0,Z1,reduceCtorEq];simp only [iT,hx] at hj
  cases h0:(x==0) with
  | true =>
   have e:((x:Int)==0)=true:=by simpa using h0
   have e2:(some x==some 0)=true:=by simpa using h0
   rw [e2] at hj;simp only [e,h2,wx,wy,Z0,Z1,reduceCtorEq];exact ih _ (by omega) fun c=>by rw [adv_two];exact hj _
  | false =>
   have e:((x:Int)==0)=false:=by simpa using h0
   have e2:(some x==some 0)=false:=by simpa using h0
   rw [e2] at hj;simp only [e,wx,wy,Z0,Z1,reduceCtorEq];exact hj _
theorem bSi (a:List Nat) (ha:a.length<=2 ^ 30) (k:Nat) (hk:k<=a.length) (s:St):yM (pM (fZ (a.take k))) (.int .i64 k) (fZ a) s:=by
 have hz:zero Tryz.ty 211=some (.int .u32 0):=WI;unfold yM;simp only [KN EM hz k (by omega) (by omega),AV.cells,uV,wx,wy,Z0,Z1,reduceCtorEq];have hcp:=fun (id j n:Nat) (s:St)=>aTm (id:=id) (k:=j) (s:=Ai.adv (s.set id (some (.cells (List.replicate k (.int .u32 0)) 211 true true))) n) (cp:=some k) (ex:=false) (l:=a) (f:=lP) EM RT (fun _=>rfl) (by rw [adv_h,aF]) (List.length_replicate (n:=k)) hk;simp only [fZ,hcp,wx,wy,Z0,Z1,reduceCtorEq];have hl:(a.take k).length=k:=by rw [m020];omega
 have:=BD (s:=Ai.adv (s.set (s.nx+1) (some (.cells ((a.take k).map lP) 211 true true))) 8) (id:=s.nx+1) (c:=some k) (k:=11) (l:=a.take k) (f:=lP) EM (by rw [adv_h,aF]) (fun _ _=>rfl) (fun _ _=>rfl);rw [hl] at this;exact ⟨_,this⟩
theorem ZY (a:List Nat) (ha:a.length<=2 ^ 30):bE mEv 110 [fZ a] (fZ (bU a)):=by refine dA (aNs _ _ ?_);unfold f110;simp only [fZ,zG,m002,wx,wy,Z0,Z1,reduceCtorEq];exact ⟨_,bRh a _ ha a.length _ (bK _) fun c=>bSi a ha _ (DW a _) _⟩
def val:List Nat->Nat
 | []=>0
 | x::a=>x+4294967296 * val a
def pw (n:Nat):Nat:=4294967296 ^ n
theorem kJ (n:Nat):pw (n+1)=4294967296 * pw n:=by unfold pw;rw [Nat.pow_succ,Nat.mul_comm]
theorem aPd (n:Nat):0 < pw n:=Nat.pow_pos (by decide)
theorem AW:pw 0=1:=rfl
theorem oN (a b:List Nat):val (a++b)=val a+pw a.length * val b:=by
 induction a with
 | nil=>simp [val,AW]
 | cons x a ih =>simp only [List.cons_append,val,ih,List.length_cons,kJ];rw [GF,NC,m066]
theorem UL (a:List Nat) (h:cI a):val a < pw a.length:=by
 induction a with
 | nil=>simp [val,AW]
 | cons x a ih =>have hx:=h x (m007 ..);have h2:=ih fun y hy=>h y (m005 _ hy);simp only [val,List.length_cons,kJ];rw [BN] at hx;generalize pw a.length=K at h2;omega
theorem sF (a:List Nat):∀ n,n<=a.length->val (a.take (iT a n))=val (a.take n)/\(iT a n=0\/∃ x,a[iT a n - 1]?=some x/\x≠0):=by
 intro n
 induction n with
 | zero=>intro _;exact ⟨rfl,.inl rfl⟩
 | succ n ih =>
  intro hn;simp only [iT];obtain ⟨x,hx⟩:∃ x,a[n]?=some x:=⟨_,m004 (by omega)⟩
  cases h:(a[n]?==some 0) with
  | true =>
   simp only [cond_true];obtain ⟨h1,h2⟩:=ih (by omega);refine ⟨?_,h2⟩;rw [h1,m062,hx,oN];have:x=0:=by rw [hx] at h;simpa using h
   subst this;simp [val]
  | false =>refine ⟨rfl,.inr ⟨x,by simpa using hx,fun h0=>?_⟩⟩;rw [hx,h0] at h;simp at h
theorem qM (a:List Nat):val (bU a)=val a:=by have:=(sF a a.length (bK _)).1;rw [m045] at this;exact this
theorem fH {a:List Nat} (h:cI a):cI (bU a):=fun x hx=>h x (List.mem_of_mem_take hx)
theorem uX (a:List Nat):(bU a).length<=a.length:=by unfold bU;rw [m020];omega
theorem nY {a:List Nat} (h:cI a):val (bU a)=0↔bU a=[]:=by
 constructor
 ·intro hv;rcases (sF a a.length (bK _)).2 with h0 | ⟨x,hx,h0⟩
  ·unfold bU;rw [h0];rfl
  ·exfalso;have hle:=DW a a.length
   have hpos:0 < iT a a.length:=by
    rcases KR (iT a a.length) with hz | hz
    ·unfold bU at hv;rw [hz] at hx;have:iT a a.length - 1=0:=by omega
     by_cases ha:a.length=0
     ·have:a=[]:=List.length_eq_zero_iff.1 ha;subst this;simp at hx
     ·exfalso;have h3:=(sF a a.length (bK _)).1;rw [hz,List.take_zero,m045] at h3
      match a,hx,h3 with
      | y::t,hx,h3 =>
       have:y=x:=by simpa using hx
       have h4:0=y+4294967296 * val t:=h3;omega
    ·exact hz
   have e:bU a=a.take (iT a a.length - 1)++[x]:=by
    unfold bU
    conv=>lhs;rw [show iT a a.length=(iT a a.length - 1)+1 by omega,m062,hx]
    rfl
   rw [e,oN] at hv;simp only [val] at hv;have:0 < pw (a.take (iT a a.length - 1)).length * (x+4294967296 * 0):=Nat.mul_pos (aPd _) (by omega);omega
 ·intro h0;rw [h0];rfl
def bD (n:Nat):List Nat->List Nat×Nat
 | []=>([],0)
 | x::t=>(((bD n t).2 * 4294967296+x) / n::(bD n t).1,((bD n t).2 * 4294967296+x) % n)
theorem sN (n:Nat) (a:List Nat):(bD n a).1.length=a.length:=by
 induction a with
 | nil=>rfl
 | cons x t ih=>simp [bD,ih]
theorem wR (n:Nat) (h:0 < n) (a:List Nat):(bD n a).2 < n:=by
 cases a with
 | nil=>exact h
 | cons x t=>exact Nat.mod_lt _ h
theorem rC (n:Nat) (h:0 < n) (a:List Nat) (ha:cI a):cI (bD n a).1:=by
 induction a with
 | nil=>intro x hx;cases hx
 | cons x t ih =>
  intro y hy;simp only [bD,m013] at hy;rcases hy with rfl | hy
  ·have h1:=ha x (m007 ..);have h2:=wR n h t;refine Nat.div_lt_of_lt_mul ?_;have:((bD n t).2+1) * 4294967296<=n * 4294967296:=AI _ h2;rw [pV] at this;rw [BN] at h1 ⊢;omega
  ·exact ih (fun z hz=>ha z (m005 _ hz)) y hy
theorem IB (n:Nat) (h:0 < n) (a:List Nat):val (bD n a).1 * n+(bD n a).2=val a:=by
 induction a with
 | nil=>simp [bD,val]
 | cons x t ih =>
  simp only [bD,val];have e:=Nat.div_add_mod ((bD n t).2 * 4294967296+x) n;rw [<- ih]
  have:(((bD n t).2 * 4294967296+x) / n+4294967296 * val (bD n t).1) * n+((bD n t).2 * 4294967296+x) % n
    = (n * (((bD n t).2 * 4294967296+x) / n)+((bD n t).2 * 4294967296+x) % n)+4294967296 * (val (bD n t).1 * n):=by
   rw [pC,Nat.mul_comm n,NC];omega
  rw [this,e];rw [GF];omega
theorem bFo {r x:Nat} (hr:r < 2 ^ 32) (hx:x < 2 ^ 32):MF .or .u64 (IntKind.u64.wrap ((r:Int) * 2 ^ 32)) (x:Int)=((r * 4294967296+x:Nat):Int):=by
 have e1:IntKind.u64.wrap ((r:Int) * 2 ^ 32)=((r * 4294967296:Nat):Int):=by rw [IntWalk.u64_in _ (by rw [BN] at hr;omega)];simp
 have e2:(BitVec.ofInt 64 ((r * 4294967296:Nat):Int)).toNat=r * 4294967296:=by rw [BitVec.ofInt_natCast,BitVec.toNat_ofNat,Nat.mod_eq_of_lt (by rw [BN] at hr;rw [p64];omega)]
 have e3:(BitVec.ofInt 64 (x:Int)).toNat=x:=by rw [BitVec.ofInt_natCast,BitVec.toNat_ofNat,Nat.mod_eq_of_lt (by rw [BN] at hx;rw [p64];omega)]
 rw [e1];show IntKind.u64.wrap (((BitVec.ofInt 64 _ ||| BitVec.ofInt 64 _:BitVec 64).toNat:Nat):Int)=_;rw [BitVec.toNat_or,e2,e3];have h:=Nat.shiftLeft_add_eq_or_of_lt (i:=32) hx r;rw [Nat.shiftLeft_eq] at h;rw [show (4294967296:Nat)=2 ^ 32 from rfl,<- h];rw [IntWalk.u64_in _ (by rw [BN] at hr hx ⊢;omega)]
theorem bDm {T:Ty} {q:TypeId->Bool} {t:TypeId} {k:IntKind} {a b:Int}:mG T q .or t (.int k a) (.int k b)=some (.int k (MF .or k a b)):=by simp [mG,dY,eX]
theorem aVy {T:Ty} {q:TypeId->Bool} {t:TypeId} {k k':IntKind} {a:Int} {n:Nat} (h:n<=k.bits):mG T q .shl t (.int k a) (.int k' (n:Int))=some (.int k (k.wrap (a * 2 ^ n))):=by
 have:¬ ((n:Int) < 0):=by omega
 simp [mG,dY,eX,this,rM h]
theorem aVj {T:Ty} {q:TypeId->Bool} {t:TypeId} {k k':IntKind} {a:Int} {n:Nat} (h:n<=k.bits):mG T q .shr t (.int k a) (.int k' (n:Int))=some (.int k (a.fdiv (2 ^ n))):=by
 have:¬ ((n:Int) < 0):=by omega
 simp [mG,dY,eX,this,rM h]
theorem YI {T:Ty} {q:TypeId->Bool} {t:TypeId} {k:IntKind} {a b:Nat} (h:b≠0):mG T q .quo t (.int k (a:Int)) (.int k (b:Int))=some (.int k (k.wrap ((a / b:Nat):Int))):=by
 have h1:¬ ((b:Int)=0):=by omega
 have h2:(a:Int).tdiv (b:Int)=((a / b:Nat):Int):=by rw [Int.tdiv_eq_ediv_of_nonneg (by omega)];rfl
 simp [mG,dY,eX,h,h2]
theorem YY {T:Ty} {q:TypeId->Bool} {t:TypeId} {k:IntKind} {a b:Nat} (h:b≠0):mG T q .rem t (.int k (a:Int)) (.int k (b:Int))=some (.int k ((a % b:Nat):Int)):=by
 have h1:¬ ((b:Int)=0):=by omega
 have h2:(a:Int).tmod (b:Int)=((a % b:Nat):Int):=by rw [Int.tmod_eq_emod_of_nonneg (by omega)];rfl
 simp [mG,dY,eX,h,h2]
theorem YM {α:Type} {a:List α} {x v:α} {b:List α}:(a++x::b).set a.length v=a++v::b:=by simp
theorem bQi (a:List Nat) (hl:cI a) (ha:a.length<=2 ^ 30) (n:Nat) (h0:0 < n) (hn:n<=2 ^ 32) (Q:aG) (N c:Nat) (e':TypeId)
  (hQ:∀ s,s.h N=some (.cells ((bD n a).1.map lP) e' true true)->xW Q (.ref N 0 a.length (some c) 211) (.int .u64 (bD n a).2) s) :
  ∀ (i:Nat) (s:St),i<=a.length->s.h N=some (.cells ((List.replicate i 0++(bD n (a.drop i)).1).map lP) e' true true) ->
   rU Q (i+1) (fZ a) (.int .u64 n) (.ref N 0 a.length (some c) 211) (.int .u64 (bD n (a.drop i)).2) (.int .i64 ((i:Int) - 1)) s:=by
 intro i
 induction i with
 | zero =>intro s hi hs;show vF Q (rU Q 0) _ _ _ _ _ s;simp only [vF,show decide (((0:Nat):Int) - 1 >= 0)=false from rfl,wx,wy,Z0,Z1,reduceCtorEq];refine hQ _ ?_;simpa [adv_h] using hs
 | succ i ih =>
  intro s hi hs;show vF Q (rU Q (i+1)) _ _ _ _ _ s;obtain ⟨x,hx⟩:∃ x,a[i]?=some x:=⟨_,m004 (by omega)⟩;have hxl:=hl x (m017 hx);have hrl:(bD n (a.drop (i+1))).2 < 2 ^ 32:=NB (wR n h0 _) hn;have h1:decide (((i+1:Nat):Int) - 1 >= 0)=true:=by simp
  have h2:((i+1:Nat):Int) - 1=(i:Int):=by omega
  have h3:IntKind.i64.wrap ((i:Int) - 1)=(i:Int) - 1:=IntWalk.i64_in _ (by omega);have e:=cE a i x hx;have hq:((bD n (a.drop (i+1))).2 * 4294967296+x) / n < 2 ^ 32:=by have:=rC n h0 (a.drop i) (fun y hy=>hl y (List.mem_of_mem_drop hy));rw [e] at this;exact this _ (m007 ..)
  have hor:=bFo hrl hxl;have hshl:∀ (r:Int),bn .shl 159 (.int .u64 r) (.int .u64 32)=some (.int .u64 (IntKind.u64.wrap (r * 2 ^ 32))):=fun r=>aVy (n:=32) (by decide);simp only [h2] at h1 ⊢;simp only [vF,h1,hshl,fZ,cJ RT false hx,aHh,yI,wx,wy,Z0,Z1,reduceCtorEq];rw [show IntKind.u64.wrap (x:Int)=(x:Int) from IntWalk.u64_in _ (by rw [BN] at hxl;omega)];simp only [bDm,hor,wx,wy,Z0,Z1,reduceCtorEq];have hne:n≠0:=by omega
  generalize hyy:(bD n (a.drop (i+1))).2 * 4294967296+x=y at *;have hqq:bn .quo 159 (.int .u64 (y:Int)) (.int .u64 (n:Int))=some (.int .u64 (IntKind.u64.wrap ((y / n:Nat):Int))):=YI hne;have hrr:bn .rem 159 (.int .u64 (y:Int)) (.int .u64 (n:Int))=some (.int .u64 ((y % n:Nat):Int)):=YY hne;have es:bD n (a.drop i)=(y / n::(bD n (a.drop (i+1))).1,y % n):=by rw [e,bD,hyy]
  generalize hD:y / n=D at *;rw [BN] at hq;rw [show IntKind.u64.wrap (D:Int)=(D:Int) from IntWalk.u64_in _ (by omega)] at hqq;simp only [hqq,hrr,sM,BF (show i < a.length by omega),wx,wy,Z0,Z1,reduceCtorEq];rw [show IntKind.u32.wrap (D:Int)=(D:Int) from IntWalk.u32_in _ (by omega)];have hset:((List.replicate (i+1) 0++(bD n (a.drop (i+1))).1).map lP).set i (.int .u32 (D:Int))=(List.replicate i 0++(bD n (a.drop i)).1).map lP:=by rw [es,List.replicate_succ'];have:=YM (a:=(List.replicate i 0).map lP) (x:=lP 0) (v:=(.int .u32 (D:Int))) (b:=(bD n (a.drop (i+1))).1.map lP);rw [m002,List.length_replicate] at this;simp only [m019,List.singleton_append,m038,m039];exact this
  rw [eB (by rw [adv_h];exact hs) (by simp [sN];omega) rfl rfl,hset];simp only [wx,wy,Z0,Z1,reduceCtorEq,SH,h3];have:=ih (Ai.adv (s.set N (some (.cells ((List.replicate i 0++(bD n (a.drop i)).1).map lP) e' true true))) 26) (by omega) (by rw [adv_h,aF]);rw [es] at this;simp only [es];exact this
theorem bPk (a:List Nat) (hl:cI a) (ha:a.length<=2 ^ 30) (n:Nat) (h0:0 < n) (hn:n<=2 ^ 32):bE mEv 111 [fZ a,.int .u64 n] (.tup [fZ (bU (bD n a).1),.int .u64 (bD n a).2]):=by
 refine dA (aIc _ _ _ ?_);have hz:zero Tryz.ty 211=some (.int .u32 0):=WI;have hc0:(AV.int .u32 0).cells=[.int .u32 0]:=rfl;unfold f111;simp only [fZ,zG,m002,KN EM hz a.length (by omega) (by omega),hc0,uV,wx,wy,Z0,Z1,reduceCtorEq];rw [show IntKind.i64.wrap ((a.length:Int) - 1)=(a.length:Int) - 1 from IntWalk.i64_in _ (by omega)];refine ⟨a.length+1,?_⟩;have:=bQi a hl ha n h0 hn (pM (.tup [fZ (bU (bD n a).1),.int .u64 (bD n a).2])) (St.empty.nx+4) a.length 211 (fun s hs=>?_) a.length (Ai.adv (St.empty.set (St.empty.nx+4) (some (.cells (List.replicate a.length (.int .u32 0)) 211 true true))) 11) (bK _) ?_
 ·simpa [bD,fZ] using this
 ·unfold xW;have hp:=BD (s:=Ai.adv s 5) (id:=St.empty.nx+4) (c:=some a.length) (k:=11) (l:=(bD n a).1) (f:=lP) EM (by rw [adv_h];exact hs) (fun _ _=>rfl) (fun _ _=>rfl);rw [sN] at hp;refine sE (args2:=[fZ (bD n a).1]) (ids:=[St.empty.nx+4]) (by simp only [dN,hp,fZ,m011]) (ZY _ (by rw [sN];exact ha)) ?_;exact aX (by simp only [AV.closed,aW,dG,jH])
 ·rw [adv_h,aF,List.drop_length];simp [bD,lP]
def iP:Nat->Nat->List UInt8
 | 0,_=>[]
 | k+1,n=>iP k (n / 10)++[UInt8.ofNat (48+n % 10)]
theorem DN (k n:Nat):(iP k n).length=k:=by
 induction k generalizing n with
 | zero=>rfl
 | succ k ih=>simp [iP,ih]
theorem bEt (id:Nat) (s:St) (c:List AV) (e':TypeId) (ex wr:Bool) (hs:s.h id=some (.cells c e' ex wr)) (hc:c.length=9):mF 223 (.ptr id 0) none none none s=some (.ref id 0 9 (some 9) 5):=by
 have h1:eK Tryz.ty 223=some (.array 9 5):=by kernel_rfl
 have h2:eU Tryz.ty 5=some (1,false):=by kernel_rfl
 simp [mF,gH,h1,h2,hs,hc,eJ,sU]
theorem bTj (Q:aG) (N:Nat) (e':TypeId) (r:List UInt8) (hQ:∀ s,Q (.str r) s):∀ (i n:Nat) (done:List UInt8) (s:St),n < 2 ^ 64->done.length+i=9->r=iP i n++done ->
  s.h N=some (.cells ((List.replicate i (0:UInt8)++done).map GP) e' true true)->qJ Q (i+1) (.int .u64 n) (.ptr N 0) (.int .i64 ((i:Int) - 1)) s:=by
 intro i
 induction i with
 | zero =>intro n done s hn hd hr hs;show wL Q (qJ Q 0) _ _ _ s;simp only [iP,List.nil_append] at hr;subst hr;simp only [List.replicate_zero,List.nil_append] at hs;have h9:=bEt N (Ai.adv s 5) _ _ _ _ (by rw [adv_h];exact hs) (by rw [m002];omega);have hcv:=aTt (dM:=[]) (post:=[]) (off:=0) (n:=9) (cp:=some 9) (e:=5) (s:=Ai.adv s 5) (id:=N) (bs:=r) (by rw [adv_h,List.nil_append,m011];exact hs) rfl (by omega);simp only [wL,show decide (((0:Nat):Int) - 1 >= 0)=false from rfl,DY,wx,wy,Z0,Z1,reduceCtorEq,h9,hcv];exact hQ _
 | succ i ih =>
  intro n done s hn hd hr hs;show wL Q (qJ Q (i+1)) _ _ _ s;have h2:((i+1:Nat):Int) - 1=(i:Int):=by omega
  have h1:decide ((i:Int) >= 0)=true:=by simp
  have h3:IntKind.i64.wrap ((i:Int) - 1)=(i:Int) - 1:=IntWalk.i64_in _ (by omega);have hrem:bn .rem 159 (.int .u64 (n:Int)) (.int .u64 10)=some (.int .u64 ((n % 10:Nat):Int)):=YY (b:=10) (by decide);have hquo:bn .quo 159 (.int .u64 (n:Int)) (.int .u64 10)=some (.int .u64 (IntKind.u64.wrap ((n / 10:Nat):Int))):=YI (b:=10) (by decide);rw [p64] at hn;rw [IntWalk.u64_in _ (by omega)] at hquo
  have hix:ixA 9 1 (.ptr N 0) (.int .i64 (i:Int))=some (.ptr N i):=by
   have h8:i < 9:=by omega
   have h9:(i:Int) < 9:=by omega
   simp [ixA,pW,xI,h8,h9,aC]
  have hw:IntKind.u8.wrap (IntKind.u64.wrap (48+((n % 10:Nat):Int)))=((UInt8.ofNat (48+n % 10)).toNat:Int):=by rw [IntWalk.u64_in _ (by omega),IntWalk.u8_in _ (by omega)];simp;omega
  have hset:((List.replicate (i+1) (0:UInt8)++done).map GP).set i (GP (UInt8.ofNat (48+n % 10)))=(List.replicate i (0:UInt8)++(UInt8.ofNat (48+n % 10)::done)).map GP:=by have:=YM (a:=(List.replicate i (0:UInt8)).map GP) (x:=GP 0) (v:=GP (UInt8.ofNat (48+n % 10))) (b:=done.map GP);rw [m002,List.length_replicate] at this;rw [List.replicate_succ'];simp only [m019,List.singleton_append,m038,m039];exact this
  simp only [h2,wL,h1,hrem,hquo,aWq,hw,hix,wx,wy,Z0,Z1,reduceCtorEq];rw [show AV.int .u8 ((UInt8.ofNat (48+n % 10)).toNat:Int)=GP (UInt8.ofNat (48+n % 10)) from rfl,eB (by rw [adv_h];exact hs) (by simp;omega) rfl rfl,hset];simp only [wx,wy,Z0,Z1,reduceCtorEq,RK,h3];refine ih (n / 10) (UInt8.ofNat (48+n % 10)::done) _ (by rw [p64];omega) (by simp;omega) (by rw [hr];simp [iP]) (by rw [adv_h,aF])
theorem bSh (n:Nat) (hn:n < 2 ^ 64):bE mEv 112 [.int .u64 n] (.str (iP 9 n)):=by refine dA (aIs _ _ ?_);unfold f112;simp only [bNn,wx,wy,Z0,Z1,reduceCtorEq];refine ⟨10,bTj (pM (.str (iP 9 n))) (St.empty.nx+1) 223 (iP 9 n) (fun s=>aX rfl) 9 n [] _ hn rfl (by simp) (by rw [adv_h,aF];rfl)⟩
def nD:Nat->List Nat->List UInt8->List UInt8
 | 0,_,s=>s
 | f+1,a,s=>match a with
  | []=>s
  | x::t=>nD f (bU (bD 1000000000 (x::t)).1) (iP 9 (bD 1000000000 (x::t)).2++s)
def DO (a:List Nat):List UInt8:=let t:=(nD (val a) (bU a) []).dropWhile (·==48);if t=[] then [48] else t
theorem bPm (c:UInt8) (Q:aG):∀ (x:List UInt8) (s:St),x.length<=2 ^ 60->(∀ s,Q (.str (x.dropWhile (·==c))) s)->yG Q (x.length+1) (.str x) (.int .u8 c.toNat) s:=by
 intro x
 induction x with
 | nil =>intro s _ hQ;show vC Q (yG Q 0) _ _ s;simp only [vC,sV,List.length_nil,show decide (((0:Nat):Int) > 0)=false from rfl,EU,wx,wy,Z0,Z1,reduceCtorEq];exact hQ _
 | cons b x ih =>
  intro s hx hQ;show vC Q (yG Q (x.length+1)) _ _ s;have h1:decide ((((b::x).length:Nat):Int) > 0)=true:=by simp
  have h2:QG 9 (.str (b::x)) (.int .i64 0)=some (.int .u8 b.toNat):=sK (i:=0) .i64 rfl;have h3:∀ s,mF 9 (.str (b::x)) (some (.int .i64 1)) none none s=some (.str x):=fun s=>KU (n:=1) .i64 (by simp);simp only [vC,sV,h1,h2,h3,wx,wy,Z0,Z1,reduceCtorEq]
  have e:((b.toNat:Int)==(c.toNat:Int))=(b==c):=by
   rw [Bool.eq_iff_iff,beq_iff_eq,beq_iff_eq];constructor
   ·intro h;exact UInt8.toNat_inj.1 (by omega)
   ·intro h;rw [h]
  cases h:(b==c) with
  | true =>rw [h] at e;simp only [e,wx,wy,Z0,Z1,reduceCtorEq];refine ih _ (by simp at hx;omega) fun s=>?_;have:=hQ s;rw [List.dropWhile_cons,h,if_pos rfl] at this;exact this
  | false =>rw [h] at e;simp only [e,EU,wx,wy,Z0,Z1,reduceCtorEq];have:=hQ (Ai.adv s 11);rw [List.dropWhile_cons,h] at this;exact this
theorem bQy (x:List UInt8) (c:UInt8) (hx:x.length<=2 ^ 60):bE mEv 159 [.str x,.int .u8 c.toNat] (.str (x.dropWhile (·==c))):=by refine dA (aHd _ _ _ ?_);unfold f159;exact ⟨x.length+1,bPm c _ x _ hx fun s=>aX rfl⟩
theorem bQo (x:List UInt8) (c:UInt8) (hx:x.length<=2 ^ 60) (hc:c.toNat < 128):bE mEv 113 [.str x,.str [c]] (.str (x.dropWhile (·==c))):=by
 refine dA (aMq _ _ _ ?_);unfold f113;have h1:QG 9 (.str [c]) (.int .i64 0)=some (.int .u8 c.toNat):=sK (i:=0) .i64 rfl;have h2:decide ((c.toNat:Int) < 128)=true:=by simp;omega
 cases h:(x==[]) with
 | true =>
  have:x=[]:=by simpa using h
  subst this;simp only [h,wx,wy,Z0,Z1,reduceCtorEq];exact aX rfl
 | false =>simp only [h,sV,List.length_cons,List.length_nil,show ((((0+1:Nat):Nat):Int)==1)=true from rfl,show (([c]:List UInt8)==[])=false from rfl,h1,h2,wx,wy,Z0,Z1,reduceCtorEq];refine aP (bQy x c hx) (by simp [AV.closed]) ?_;exact aX rfl
theorem QS:∀ (f k:Nat) (a:List Nat) (s:List UInt8),cI a->(val a=0->a=[])->val a < 1000000000 ^ k->(nD f a s).length<=s.length+9 * k:=by
 intro f
 induction f with
 | zero=>intro k a s _ _ _;exact Nat.le_add_right ..
 | succ f ih =>
  intro k a s hl h0 hv
  match a,hl,h0,hv with
  | [],_,_,_=>exact Nat.le_add_right ..
  | x::t,hl,h0,hv =>
   simp only [nD];generalize hb:x::t=b at *
   cases k with
   | zero =>
    have:val b=0:=by simpa using hv
    rw [h0 this] at hb;cases hb
   | succ k =>
    have hsl:=rC 1000000000 (by decide) b hl;have hsv:=IB 1000000000 (by decide) b;have hm:=wR 1000000000 (by decide) b;have hv':val (bU (bD 1000000000 b).1) < 1000000000 ^ k:=by rw [qM];rw [Nat.pow_succ] at hv;refine Nat.lt_of_mul_lt_mul_right (a:=1000000000) ?_;exact Nat.lt_of_le_of_lt (by omega) hv
    have:=ih k (bU (bD 1000000000 b).1) (iP 9 (bD 1000000000 b).2++s) (fH hsl) (nY hsl).1 hv';rw [m006,DN] at this;omega
theorem YC (a:List Nat) (h:cI a):val a < 1000000000 ^ (2 * a.length):=by refine NB (UL a h) ?_;unfold pw;rw [Nat.pow_mul];exact Nat.pow_le_pow_left (by decide) _
theorem l59 (Q:aG) (w:List UInt8) (hQ:∀ s,Q (.str (if w.dropWhile (·==48)=[] then [48] else w.dropWhile (·==48))) s) (hw:w.length<=2 ^ 40):∀ (f k:Nat) (a:List Nat) (acc:List UInt8) (s:St),cI a->a.length<=2 ^ 30->(val a=0->a=[])->val a<=f->val a < 1000000000 ^ k->k<=2 ^ 33->acc.length+9 * k<=2 ^ 40->nD f a acc=w ->
  JM Q (f+1) (fZ a) (.str acc) s:=by
 have hj:∀ s,PA Q (.str w) s:=fun s=>by
  unfold PA;refine aP (bQo w 48 (by omega) (by decide)) (by simp [AV.closed]) ?_;have:=hQ
  cases h:w.dropWhile (·==48) with
  | nil=>rw [h] at this;simp only [show (([]:List UInt8)==[])=true from rfl,wx,wy,Z0,Z1,reduceCtorEq];exact this _
  | cons x t=>rw [h] at this;simp only [show (x::t==[])=false from rfl,wx,wy,Z0,Z1,reduceCtorEq];exact this _
 intro f
 induction f with
 | zero =>intro k a acc s hl ha h0 hf hk hkk hacc hg;have:=h0 (by omega);subst this;have:acc=w:=hg;subst this;show yS Q (JM Q 0) _ _ s;simp only [yS,fZ,zG,List.map_nil,List.length_nil,show decide (((0:Nat):Int) > 0)=false from rfl,wx,wy,Z0,Z1,reduceCtorEq];exact hj _
 | succ f ih =>
  intro k a acc s hl ha h0 hf hk hkk hacc hg;show yS Q (JM Q (f+1)) _ _ s
  cases ha0:a with
  | nil =>subst ha0;have:acc=w:=hg;subst this;simp only [yS,fZ,zG,List.map_nil,List.length_nil,show decide (((0:Nat):Int) > 0)=false from rfl,wx,wy,Z0,Z1,reduceCtorEq];exact hj _
  | cons x t =>
   have hg':nD f (bU (bD 1000000000 a).1) (iP 9 (bD 1000000000 a).2++acc)=w:=by rw [ha0] at hg ⊢;exact hg
   have hpos:0 < val a:=by
    rcases KR (val a) with h | h
    ·rw [h0 h] at ha0;cases ha0
    ·exact h
   rw [<- ha0];have h1:decide (((a.length:Nat):Int) > 0)=true:=by rw [ha0];simp
   cases k with
   | zero=>exfalso;have:val a < 1:=by simpa using hk
           omega
   | succ k =>
    have hsl:=rC 1000000000 (by decide) a hl;have hsv:=IB 1000000000 (by decide) a;have hm:=wR 1000000000 (by decide) a;have hnl:(bU (bD 1000000000 a).1).length<=a.length:=by have:=uX (bD 1000000000 a).1;rw [sN] at this;exact this
    have hv':val (bU (bD 1000000000 a).1) < 1000000000 ^ k:=by rw [qM];rw [Nat.pow_succ] at hk;refine Nat.lt_of_mul_lt_mul_right (a:=1000000000) ?_;exact Nat.lt_of_le_of_lt (by omega) hk
    have hv2:val (bU (bD 1000000000 a).1)<=f:=by rw [qM];omega
    have h111:=bPk a hl ha 1000000000 (by decide) (by decide);have h112:=bSh (bD 1000000000 a).2 (Nat.lt_trans hm (by decide));have hadd:bn .add 9 (.str (iP 9 (bD 1000000000 a).2)) (.str acc)=some (.str (iP 9 (bD 1000000000 a).2++acc)):=gZ (by rw [DN];omega);simp only [yS,fZ,zG,m002,h1,wx,wy,Z0,Z1,reduceCtorEq];refine aP h111 (by simp [AV.closed,HB]) ?_;simp only [wx,wy,Z0,Z1,reduceCtorEq];refine aP h112 (by simp [AV.closed]) ?_;simp only [hadd,wx,wy,Z0,Z1,reduceCtorEq];exact ih k _ _ _ (fH hsl) (by omega) (nY hsl).1 hv2 hv' (by omega) (by rw [m006,DN];omega) hg'
theorem c59 (a:List Nat) (hl:cI a) (ha:a.length<=2 ^ 30):bE mEv 59 [fZ a] (.str (DO a)):=by refine dA (aUl _ _ ?_);unfold f59;have hnl:=uX a;have hvt:=YC (bU a) (fH hl);have hlen:=QS (val a) (2 * (bU a).length) (bU a) [] (fH hl) (nY hl).1 hvt;rw [List.length_nil] at hlen;refine aP (ZY a ha) (by simp [dG]) ?_;refine ⟨val a+1,l59 _ (nD (val a) (bU a) []) (fun s=>aX rfl) (by omega) (val a) (2 * (bU a).length) (bU a) [] _ (fH hl) (by omega) (nY hl).1 (by rw [qM];exact bK _) hvt (by omega) (by simp only [List.length_nil];omega) rfl⟩
end
noncomputable section
def aSe (c:Nat):Int:=if 48<=c/\c<=57 then (c:Int) - 48 else if 97<=c/\c<=102 then (c:Int) - 87 else if 65<=c/\c<=70 then (c:Int) - 55 else -1
theorem t246:(List.range 256).map (fun c:Nat=>YE 246 [.int .u8 (c:Int)])=(List.range 256).map fun c:Nat=>some (.int .i64 (aSe c)):=by kernel_rfl
theorem bQr (c:UInt8):bE mEv 246 [.int .u8 c.toNat] (.int .i64 (aSe c.toNat)):=TH (a:=fun c=>.int .u8 (c:Int)) t246 (by have:=c.toNat_lt;omega)
def OD:List UInt8->Int->Int
 | [],n=>cond (decide (n > 196607)) (-1) n
 | c::x,n=>cond (decide (aSe c.toNat < 0)) (-1) (OD x (IntKind.i64.wrap (IntKind.i64.wrap (16 * n)+aSe c.toNat)))
def aJg (x:List UInt8):Int:=cond (x==[]) (-1) (OD x 0)
theorem bPy (x:List UInt8) (hx:x.length<=maxLen) (Q:aG) (r:Int) (hQ:∀ s,Q (.int .i64 r) s):∀ (m i:Nat) (n:Int) (s:St),i+m=x.length->r=cond (x==[]) (-1) (OD (x.drop i) n)->rF Q (m+1) (.str x) (.int .i64 n) (.int .i64 x.length) (.int .i64 i) s:=by
 intro m
 induction m with
 | zero =>
  intro i n s hi hr;show vJ Q (rF Q 0) _ _ _ _ s;rw [m044 (by omega)] at hr;simp only [vJ,DH,oA,show ¬ (i < x.length) by omega,decide_false,wx,wy,Z0,Z1,reduceCtorEq];have hq:=hQ
  cases h1:(x==[]) with
  | true=>simp only [h1,cond_true] at hr;subst hr;simp only [wx,wy,Z0,Z1,reduceCtorEq];exact hQ _
  | false =>
   simp only [h1,cond_false,OD] at hr
   cases h2:decide (n > 196607) with
   | true=>rw [h2] at hr;simp only [wx,wy,Z0,Z1,reduceCtorEq,h2];subst hr;exact hQ _
   | false=>rw [h2] at hr;simp only [wx,wy,Z0,Z1,reduceCtorEq,h2];subst hr;exact hQ _
 | succ m ih =>
  intro i n s hi hr;obtain ⟨c,hc⟩:∃ c,x[i]?=some c:=⟨_,m004 (by omega)⟩;have hlt:i < x.length:=by omega
  show vJ Q (rF Q (m+1)) _ _ _ _ s;have hne:(x==[])=false:=by cases x with | nil=>simp at hlt | cons _ _=>rfl
  rw [cE x i c hc,OD,hne] at hr;simp only [vJ,oA,hlt,decide_true,sK _ hc,wx,wy,Z0,Z1,reduceCtorEq];refine aP (bQr c) (by simp [AV.closed]) ?_
  cases h:decide (aSe c.toNat < 0) with
  | true=>rw [h] at hr;simp only [h,wx,wy,Z0,Z1,reduceCtorEq];subst hr;exact hQ _
  | false =>rw [h] at hr;simp only [h,RZ,wx,wy,Z0,Z1,reduceCtorEq];rw [cC i _ hlt hx];exact ih (i+1) _ _ (by omega) (by rw [hne];exact hr)
theorem bJl (x:List UInt8) (hx:x.length<=maxLen):bE mEv 217 [.str x] (.int .i64 (aJg x)):=by refine bA rfl (aJz _ _ ?_);unfold f217;simp only [sV,wx,wy,Z0,Z1,reduceCtorEq];exact ⟨_,bPy x hx _ _ (fun _=>rfl) x.length 0 0 _ (by omega) rfl⟩
theorem bRg (x p:List UInt8):bE mEv 244 [.str x,.str p] (.tup [.str (cond (dM p x) (x.drop p.length) x),.bool (dM p x)]):=by
 refine bA rfl (aKv _ _ _ ?_);unfold f244;refine aP (bIq x p) (by simp [AV.closed]) ?_
 cases h:dM p x with
 | false=>simp only [wx,wy,Z0,Z1,reduceCtorEq]
 | true =>
  have hl:p.length<=x.length:=by simp only [dM,cR,decide_eq_true_eq] at h;exact h.1
  simp only [sV,KU _ hl,wx,wy,Z0,Z1,reduceCtorEq]
theorem bNw (x p:List UInt8):bE mEv 215 [.str x,.str p] (.tup [.str (cond (dM p x) (x.drop p.length) x),.bool (dM p x)]):=by refine bA rfl (aLr _ _ _ ?_);unfold f215;refine aP (bRg x p) (by simp [AV.closed]) ?_;simp only [wx,wy,Z0,Z1,reduceCtorEq]
theorem bSj (x:List UInt8) (c:Int):bE mEv 285 [.str x,.int .u8 c] (.int .i64 (kC (c.toNat % 256) x 0)) :=
 bA rfl ⟨_,_,nB (g:=lF) (by kernel_rfl) rfl,rfl⟩
theorem JS (c:Nat):∀ (x:List UInt8) (k:Nat),kC c x k=-1\/∃ i:Nat,kC c x k=((k+i:Nat):Int)/\i < x.length:=by
 intro x
 induction x with
 | nil=>intro k;exact .inl rfl
 | cons b x ih =>
  intro k;simp only [kC]
  cases Nat.beq b.toNat c with
  | true=>exact .inr ⟨0,by simp,by simp⟩
  | false =>
   rcases ih (k+1) with h | ⟨i,h,hi⟩
   ·exact .inl h
   ·exact .inr ⟨i+1,by simp only [cond_false,h];congr 1;omega,by simp;omega⟩
theorem bSb (x:List UInt8) (c:Int):bE mEv 269 [.str x,.int .u8 c] (.int .i64 (kC (c.toNat % 256) x 0)):=by refine bA rfl (aSf _ _ _ ?_);unfold f269;refine aP (bSj x c) (by simp [AV.closed]) ?_;rfl
theorem bTd (x:List UInt8) (d:UInt8):bE mEv 268 [.str x,.str [d]] (.int .i64 (kC d.toNat x 0)):=by
 refine bA rfl (aKi _ _ _ ?_);unfold f268;have h:d.toNat % 256=d.toNat:=Nat.mod_eq_of_lt d.toNat_lt;simp only [sV,List.length_cons,List.length_nil,wx,wy,Z0,Z1,reduceCtorEq,show ((((0:Nat)+1:Nat):Int)==0)=false from rfl,show ((((0:Nat)+1:Nat):Int)==1)=true from rfl];have hix:QG 9 (.str [d]) (.int .i64 0)=some (.int .u8 d.toNat):=sK (x:=[d]) (i:=0) .i64 rfl;simp only [hix,wx,wy,Z0,Z1,reduceCtorEq]
 cases hh:([d]==x) with
 | true =>
  have:[d]=x:=by simpa using hh
  subst this;simp only [hh,wx,wy,Z0,Z1,reduceCtorEq];simp [kC]
 | false =>simp only [hh,wx,wy,Z0,Z1,reduceCtorEq];have hk:=bSb x d.toNat;simp only [Int.toNat_natCast,h] at hk;refine aP hk (by simp [AV.closed]) ?_;rfl
def UN (d:UInt8) (x:List UInt8):AV:=cond (decide (kC d.toNat x 0 >= 0)) (.tup [.str (x.take (kC d.toNat x 0).toNat),.str (x.drop ((kC d.toNat x 0).toNat+1)),.bool true]) (.tup [.str x,.str [],.bool false])
theorem FT (d:UInt8) (x:List UInt8):(UN d x).closed=true:=by unfold UN;cases decide (kC d.toNat x 0 >= 0)<;>rfl
theorem bSm (x:List UInt8) (d:UInt8) (hx:x.length < 2 ^ 60):bE mEv 245 [.str x,.str [d]] (UN d x):=by
 refine bA (FT d x) (aIt _ _ _ ?_);unfold f245;refine aP (bTd x d) (by simp [AV.closed]) ?_;unfold UN;rcases JS d.toNat x 0 with h | ⟨i,h,hi⟩
 ·simp only [h,show decide ((-1:Int) >= 0)=false from rfl,wx,wy,Z0,Z1,reduceCtorEq]
 ·have hw:IntKind.i64.wrap ((i:Int)+1)=((i+1:Nat):Int):=by rw [IntWalk.i64_in _ (by omega)];rfl
  have hge:decide (((0+i:Nat):Int) >= 0)=true:=by simp
  simp only [h,hge,sV,List.length_cons,List.length_nil,wx,wy,Z0,Z1,reduceCtorEq];rw [show ((0+i:Nat):Int)=(i:Int) by simp,aGx _ (by omega),show (((0+1:Nat):Nat):Int)=1 from rfl];simp only [hw,KU _ (show i+1<=x.length by omega),wx,wy,Z0,Z1,reduceCtorEq,Int.toNat_natCast]
theorem bSl (x:List UInt8) (d:UInt8) (hx:x.length < 2 ^ 60):bE mEv 216 [.str x,.str [d]] (UN d x):=by refine bA (FT d x) (aPt _ _ _ ?_);unfold f216;refine aP (bSm x d hx) (by simp [AV.closed]) ?_;unfold UN;cases decide (kC d.toNat x 0 >= 0)<;>simp only [wx,wy,Z0,Z1,reduceCtorEq]
def mX (x:List UInt8):Int×Int :=
 cond (dM [92,117] x)
  (cond (dM [123] (x.drop 2))
   (cond (decide (kC 125 (x.drop 3) 0 >= 0)&&!decide (kC 125 (x.drop 3) 0 > 5)) (aJg ((x.drop 3).take (kC 125 (x.drop 3) 0).toNat),kC 125 (x.drop 3) 0+4) (-1,0))
   (cond (decide ((x.drop 2).length < 4)) (-1,0) (aJg ((x.drop 2).take 4),6)))
  (-1,0)
theorem bPr (x:List UInt8) (hx:x.length < 2 ^ 60):bE mEv 182 [.str x] (.tup [.int .i64 (mX x).1,.int .i64 (mX x).2]):=by
 refine bA rfl (aKo _ _ ?_);unfold f182;refine aP (bNw x [92,117]) (by simp [AV.closed]) ?_
 cases h:dM [92,117] x with
 | false=>simp only [mX,h,wx,wy,Z0,Z1,reduceCtorEq]
 | true =>
  simp only [h,wx,wy,Z0,Z1,reduceCtorEq,List.length_cons,List.length_nil,Z0];refine aP (bNw _ [123]) (by simp [AV.closed]) ?_
  cases h2:dM [123] (x.drop 2) with
  | true =>
   simp only [h2,wx,wy,Z0,Z1,reduceCtorEq,List.length_cons,List.length_nil,Z0,m075];have hm:maxLen=9223372036854775807:=rfl;refine aP (bSl (x.drop 3) 125 (by simp only [m058];omega)) (by simp [AV.closed]) ?_;have e:mX x=cond (decide (kC 125 (x.drop 3) 0 >= 0)&&!decide (kC 125 (x.drop 3) 0 > 5)) (aJg ((x.drop 3).take (kC 125 (x.drop 3) 0).toNat),kC 125 (x.drop 3) 0+4) (-1,0):=by simp only [mX,h,h2,cond_true]
   rw [e];unfold UN;show _;rw [show (125:UInt8).toNat=125 from rfl];rcases JS 125 (x.drop 3) 0 with hi | ⟨i,hi,hlt⟩
   ·simp only [hi,show decide ((-1:Int) >= 0)=false from rfl,wx,wy,Z0,Z1,reduceCtorEq]
   ·rw [m023] at hi;have hge:decide ((i:Int) >= 0)=true:=by simp
    have hll:((x.drop 3).take i).length=i:=by rw [m020];omega
    cases h3:decide (((i:Nat):Int) > 5) with
    | true =>simp only [hi,hge,sV,Int.toNat_natCast,hll,h3,wx,wy,Z0,Z1,reduceCtorEq]
    | false =>simp only [hi,hge,sV,Int.toNat_natCast,hll,h3,wx,wy,Z0,Z1,reduceCtorEq];refine aP (bJl _ (by rw [m020,m058];omega)) (by simp [AV.closed]) ?_;show AV.tup [_,.int .i64 (IntKind.i64.wrap ((i:Int)+4))]=_;rw [IntWalk.i64_in _ (by have:=of_decide_eq_false h3;omega)]
  | false =>
   have e:mX x=cond (decide ((x.drop 2).length < 4)) (-1,0) (aJg ((x.drop 2).take 4),6):=by simp only [mX,h,h2,cond_true,cond_false]
   rw [e];simp only [h2,sV,wx,wy,Z0,Z1,reduceCtorEq];have hc:decide (((x.drop 2).length:Int) < 4)=decide ((x.drop 2).length < 4):=by congr 1;simp;omega
   rw [hc]
   cases h3:decide ((x.drop 2).length < 4) with
   | true=>simp only [wx,wy,Z0,Z1,reduceCtorEq]
   | false =>
    have h4:4<=(x.drop 2).length:=by have:=of_decide_eq_false h3;omega
    have hs:∀ s,mF 9 (.str (x.drop 2)) none (some (.int .i64 4)) none s=some (.str ((x.drop 2).take 4)):=fun s=>aGx (s:=s) (x:=x.drop 2) (n:=4) .i64 h4;simp only [hs,wx,wy,Z0,Z1,reduceCtorEq];refine aP (bJl _ (by have hm:maxLen=9223372036854775807:=rfl;rw [m020];omega)) (by simp [AV.closed]) ?_;rfl
theorem aTc {x:List UInt8} (h:0<=(mX x).1):1<=(mX x).2/\(mX x).2<=x.length:=by
 unfold mX at h ⊢
 cases h1:dM [92,117] x with
 | false=>rw [h1] at h;simp only [cond_false] at h;omega
 | true =>
  rw [h1] at h;simp only [cond_true] at h ⊢;have hl:2<=x.length:=by simp only [dM,cR,decide_eq_true_eq] at h1;exact h1.1
  cases h2:dM [123] (x.drop 2) with
  | true =>
   rw [h2] at h;simp only [cond_true] at h ⊢;have hl2:1<=(x.drop 2).length:=by simp only [dM,cR,decide_eq_true_eq] at h2;exact h2.1
   rcases JS 125 (x.drop 3) 0 with hi | ⟨i,hi,hlt⟩
   ·rw [hi] at h;simp only [show decide ((-1:Int) >= 0)=false from rfl,m035,cond_false] at h;omega
   ·rw [m023] at hi;rw [m058] at hlt hl2;rw [hi] at h ⊢
    cases h3:(decide ((i:Int) >= 0)&&!decide ((i:Int) > 5)) with
    | false=>rw [h3] at h;simp only [cond_false] at h;omega
    | true=>simp only [cond_true];omega
  | false =>
   rw [h2] at h;simp only [cond_false] at h ⊢
   cases h3:decide ((x.drop 2).length < 4) with
   | true=>rw [h3] at h;simp only [cond_true] at h;omega
   | false =>have:=of_decide_eq_false h3;rw [m058] at this;simp only [cond_false];omega
def vV:Nat->List UInt8->List Int
 | 0,_=>[]
 | n+1,x=>match x with
  | []=>[]
  | c::r=>cond (decide ((mX (c::r)).1 < 0)) ((c.toNat:Int)::vV n r) ((mX (c::r)).1::vV n ((c::r).drop (mX (c::r)).2.toNat))
def FG (x:List UInt8):List Int:=vV x.length x
theorem iY:QP dE 1:=⟨fun _=>rfl,fun _=>rfl⟩
theorem qF:QP kZ 2:=⟨fun _=>rfl,fun _=>rfl⟩
theorem bQv (x:List UInt8) (hx:x.length<=2 ^ 30) (Q:aG) (l:List Int) (hQ:∀ y s,aI s->Gw 3 1 0 s y (l.map dE)->Q y s):∀ (m i:Nat) (y:AV) (p:List Int) (s:St),x.length<=i+m->i<=x.length->p.length<=i->aI s->Gw 3 1 0 s y (p.map dE)->l=p++vV m (x.drop i)->qI Q (m+1) (.str x) y (.int .i64 i) s:=by
 intro m;have hx2:(2:Nat) ^ 30=1073741824:=rfl;have fin:∀ i (y:AV) (p:List Int) (s:St) (ih1),i=x.length->aI s->Gw 3 1 0 s y (p.map dE)->l=p->vW Q ih1 (.str x) y (.int .i64 i) s:=by intro i y p s ih1 hi fr g hl;subst hi;subst hl;simp only [vW,CS,sV,ge_iff_le,Int.le_refl,decide_true,wx,wy,Z0,Z1,reduceCtorEq];exact hQ _ _ fr.adv g.adv
 induction m with
 | zero =>intro i y p s hm hi hp fr g hl;exact fin i y p s _ (by omega) fr g (by rw [hl,vV,m011])
 | succ m ih =>
  intro i y p s hm hi hp fr g hl;show vW Q (qI Q (m+1)) _ _ _ s;by_cases hge:x.length<=i
  ·refine fin i y p s _ (by omega) fr g ?_;rw [show i=x.length by omega,List.drop_length] at hl;simpa [vV] using hl
  ·have hge2:decide ((i:Int) >= (x.length:Int))=false:=by simp;omega
   obtain ⟨c,hc⟩:∃ c,x[i]?=some c:=⟨_,m004 (by omega)⟩;have hd:=cE x i c hc;rw [hd,vV] at hl;simp only [vW,sV,hge2,KU _ (show i<=x.length by omega),wx,wy,Z0,Z1,reduceCtorEq];refine aP (bPr (x.drop i) (by rw [m058];omega)) (by simp [AV.closed]) ?_;rw [<- hd] at hl;have bs:∀ v:Int,kM 72 1 [(0,.int .i64 v)]=some (.sl true [dE v]):=fun v=>dX pQ (by decide) rfl rfl
   cases h:decide ((mX (x.drop i)).1 < 0) with
   | true =>rw [h] at hl;simp only [h,wx,wy,Z0,Z1,reduceCtorEq,sK _ hc,bOo,EZ];rw [show IntKind.i64.wrap ((c.toNat:Nat):Int)=(c.toNat:Int) from IntWalk.i64_in _ (by have:=c.toNat_lt;omega),bs];simp only [wx,wy,Z0,Z1,reduceCtorEq];rw [gM pQ iY g.adv (by omega) (by omega)];simp only [wx,wy,Z0,Z1,reduceCtorEq];rw [cC i _ (show i < x.length by omega) (by have hm:maxLen=9223372036854775807:=rfl;omega)];refine ih (i+1) _ (p++[(c.toNat:Int)]) _ (by omega) (by omega) (by simp;omega) (xL fr _ _ (by omega)) (jL iY) ?_;rw [hl];simp only [cond_true,m019,List.singleton_append]
   | false =>rw [h] at hl;obtain ⟨h1,h2⟩:=aTc (show 0<=(mX (x.drop i)).1 by have:=of_decide_eq_false h;omega);rw [m058] at h2;simp only [h,wx,wy,Z0,Z1,reduceCtorEq,EZ,bs];rw [gM pQ iY g.adv (by omega) (by omega)];simp only [wx,wy,Z0,Z1,reduceCtorEq];obtain ⟨k,hk⟩:∃ k:Nat,(mX (x.drop i)).2=(k:Int):=⟨(mX (x.drop i)).2.toNat,by omega⟩;rw [hk] at h1 h2 hl ⊢;rw [show IntKind.i64.wrap ((i:Int)+(k:Int))=((i+k:Nat):Int) by rw [IntWalk.i64_in _ (by omega)];rfl];refine ih (i+k) _ (p++[(mX (x.drop i)).1]) _ (by omega) (by omega) (by simp;omega) (xL fr _ _ (by omega)) (jL iY) ?_;rw [hl];simp only [cond_false,m019,List.singleton_append,Int.toNat_natCast,m075]
theorem bQa (x:List UInt8) (hx:x.length<=2 ^ 30):bE mEv 129 [.str x] (.sl false ((FG x).map dE)):=by refine dA (aHx _ _ ?_);unfold f129;exact ⟨x.length+1,bQv x hx _ (FG x) (fun y s fr g=>FX (rV pQ g (fun _ _=>rfl) (fun _ _=>rfl) 11)) x.length 0 .nils [] _ (by omega) (by omega) (by simp) jP.adv fG rfl⟩
def kL (out:List (Int×Int)) (c:Int):List (Int×Int):=match out.getLast? with
 | none=>out++[(c,1)]
 | some r=>cond (r.1==c) (out.dropLast++[(r.1,IntKind.i64.wrap (r.2+1))]) (out++[(c,1)])
def lG:List Int->List (Int×Int)->List (Int×Int)×Int
 | [],out=>cond (decide ((out.length:Int) > 65536)) ([],2) (out,0)
 | c::l,out=>cond (NY c) (lG l (kL out c)) ([],1)
def rtA (r:List (Int×Int)×Int):AV:=.tup [.sl false (r.1.map kZ),.int .i64 r.2]
theorem NO (out:List (Int×Int)) (c:Int):(kL out c).length<=out.length+1:=by
 unfold kL
 cases h:out.getLast? with
 | none=>simp
 | some r =>simp only;cases (r.1==c)<;>simp
theorem aCw (o:List (Int×Int)) (r:Int×Int) (v:AV):(((o++[r]).map kZ).flatMap AV.cells).set (o.length * 2+1) v=((o.map kZ).flatMap AV.cells)++[.int .i64 r.1,v]:=by
 have hl:((o.map kZ).flatMap AV.cells).length=o.length * 2:=by rw [dP (z:=2) (sB qF.len qF.ones o),m002]
 rw [m038,m056,List.set_append_right _ _ (by omega),hl];simp [kZ,AV.cells]
theorem bQu (l:List Int) (hl:l.length<=2 ^ 30) (Q:aG) (r:List (Int×Int)×Int) (hQ1:∀ s e,r=([],e)->Q (.tup [.nils,.int .i64 e]) s) (hQ2:∀ y s out,aI s->Gw 109 2 0 s y (out.map kZ)->r=(out,0)->Q (.tup [y,.int .i64 0]) s) :
  ∀ (m i:Nat) (y:AV) (out:List (Int×Int)) (s:St),i+m=l.length->out.length<=i->aI s->Gw 109 2 0 s y (out.map kZ)->r=lG (l.drop i) out->pA Q (m+1) y (.sl false (l.map dE)) (.int .i64 l.length) (.int .i64 i) s:=by
 intro m;have hx2:(2:Nat) ^ 30=1073741824:=rfl
 induction m with
 | zero =>
  intro i y out s hi hp fr g hr;show wK Q (pA Q 0) _ _ _ _ s;rw [m044 (by omega),lG] at hr;have hl25:=fun k=>bCj (g.adv (n:=4)) k;simp only [m002] at hl25;simp only [wK,CQ,oA,show ¬ (i < l.length) by omega,decide_false,hl25,wx,wy,Z0,Z1,reduceCtorEq]
  cases h:decide ((out.length:Int) > 65536) with
  | true=>rw [h] at hr;simp only [wx,wy,Z0,Z1,reduceCtorEq];exact hQ1 _ 2 hr
  | false=>rw [h] at hr;simp only [wx,wy,Z0,Z1,reduceCtorEq];exact hQ2 _ _ out fr.adv g.adv hr
 | succ m ih =>
  intro i y out s hi hp fr g hr;show wK Q (pA Q (m+1)) _ _ _ _ s;obtain ⟨c,hc⟩:∃ c,l[i]?=some c:=⟨_,m004 (by omega)⟩;have hlt:i < l.length:=by omega
  rw [cE l i c hc,lG] at hr;simp only [wK,oA,hlt,decide_true,cJ iY false hc,wx,wy,Z0,Z1,reduceCtorEq];have hin:(dE c).cells[0]?=some (.int .i64 c):=rfl;simp only [hin,wx,wy,Z0,Z1,reduceCtorEq];refine aP (bPn c) (by simp [AV.closed]) ?_
  cases hp2:NY c with
  | false=>rw [hp2] at hr;simp only [wx,wy,Z0,Z1,reduceCtorEq];exact hQ1 _ 1 hr
  | true =>
   rw [hp2] at hr;have hl25:=fun n k=>bCj (g.adv (n:=n)) k;simp only [m002] at hl25;have hw:IntKind.i64.wrap ((out.length:Int) - 1)=(out.length:Int) - 1:=IntWalk.i64_in _ (by omega);have hm:maxLen=9223372036854775807:=rfl;have bs:kM 25 1 [(0,kZ (c,1))]=some (.sl true [kZ (c,1)]):=dX aIn (by decide) rfl rfl;have bl:lK 109 [(0,.int .i64 c),(1,.int .i64 1)]=some (kZ (c,1)):=by rw [bIo];rfl
   have hnew:∀ q,aI q->Gw 109 2 0 q y (out.map kZ)->q.nx=s.nx->kL out c=out++[(c,1)]->∀ k,yT Q (pA Q (m+1)) (.int .i64 i) (.ref (s.nx+k) 0 (out.length+1) none 109) (.sl false (l.map dE)) (.int .i64 l.length) (Ai.adv ((q.drop (aE y)).set (s.nx+k) (some (.cells (((out++[(c,1)]).map kZ).flatMap AV.cells) 109 false true))) (k+2)):=by intro q fq gq hq hst k;simp only [yT,wx,wy,Z0,Z1,reduceCtorEq];rw [cC i _ hlt (by omega)];exact ih (i+1) _ (out++[(c,1)]) _ (by omega) (by simp;omega) (xL fq _ _ (by omega)) (jL qF) (by rw [hr,hst];rfl)
   cases ho:out.getLast? with
   | none =>
    have ho2:out=[]:=by simpa using ho
    subst ho2;simp only [hl25,wx,wy,Z0,Z1,reduceCtorEq,List.length_nil,show IntKind.i64.wrap (((0:Nat):Int) - 1)=-1 from rfl,show decide ((-1:Int) >= 0)=false from rfl,bl,bs];rw [gM aIn qF g.adv (by simp) (by simp)];simp only [wx,wy,Z0,Z1,reduceCtorEq];exact hnew s fr g rfl rfl _
   | some q =>
    obtain ⟨o,hoo⟩:∃ o,out=o++[q]:=⟨out.dropLast,by
     have:=List.getLast?_eq_some_iff.1 ho;obtain ⟨ys,rfl⟩:=this
     simp⟩
    subst hoo;have hk:((o++[q]).length:Int) - 1=(o.length:Int):=by simp
    obtain ⟨_,⟨_,hbad⟩ | ⟨b,_,rfl,hb⟩⟩:=id g
    ·simp at hbad
    have hixr:∀ e,cQ 2 (.ref b 0 ((o++[q]).map kZ).length none e) (.int .i64 (o.length:Int))=some (.ptr b (o.length * 2)):=fun e=>by have:=oZ (e:=e) (z:=2) (id:=b) (off:=0) (c:=none) (show o.length < ((o++[q]).map kZ).length by simp) .i64;rw [this];simp
    have hc0:(((o++[q]).map kZ).flatMap AV.cells)[o.length * 2]?=some (.int .i64 q.1):=by have:=fD (vs:=(o++[q]).map kZ) (z:=2) (fun v hv=>(g.1 v hv).1) (i:=o.length) (v:=kZ q) (by simp) (k:=0) (by omega);rw [<- Nat.add_zero (o.length * 2),this];rfl
    have hc1:(((o++[q]).map kZ).flatMap AV.cells)[o.length * 2+1]?=some (.int .i64 q.2):=by have:=fD (vs:=(o++[q]).map kZ) (z:=2) (fun v hv=>(g.1 v hv).1) (i:=o.length) (v:=kZ q) (by simp) (k:=1) (by omega);rw [this];rfl
    have hw2:IntKind.i64.wrap (o.length:Int)=(o.length:Int):=bJz (by simp at hp;omega);simp only [hl25,hk,hw2,hixr,hb,hc0,wx,wy,Z0,Z1,reduceCtorEq,show decide ((o.length:Int) >= 0)=true by simp]
    cases hq:(q.1==c) with
    | true =>
     simp only [hixr,hb,hc1,wx,wy,Z0,Z1,reduceCtorEq];have hsto:∀ v n,dU 1 (.ptr b (o.length * 2+1)) (.int .i64 v) (adv s n)=some (adv (s.set b (some (.cells (((o.map kZ).flatMap AV.cells)++[.int .i64 q.1,.int .i64 v]) 109 false true))) n):=fun v n=>by have:=eB (id:=b) (off:=o.length * 2+1) (v:=.int .i64 v) (s:=adv s n) hb (by rw [dP (fun v hv=>g.1 v hv)];simp;omega) rfl rfl;rw [this,aCw];rfl
     simp only [hsto,yT,wx,wy,Z0,Z1,reduceCtorEq];rw [cC i _ hlt (by omega)];have e:kL (o++[q]) c=o++[(q.1,IntKind.i64.wrap (q.2+1))]:=by simp only [kL,ho,hq,cond_true,List.dropLast_concat]
     refine ih (i+1) _ (o++[(q.1,IntKind.i64.wrap (q.2+1))]) _ (by omega) (by simp at hp ⊢;omega) (cA fr _ ?_) ?_ (by rw [hr,e];rfl)
     ·have:=g.id_lt fr b (by simp [aE]);omega
     ·refine ⟨sB qF.len qF.ones _,.inr ⟨b,nC _,by simp,?_⟩⟩;rw [adv_h,aF,m038,m056];rfl
    | false =>
     simp only [wx,wy,Z0,Z1,reduceCtorEq,bl,bs];rw [gM aIn qF g.adv (by simp at hp ⊢;omega) (by simp at hp ⊢;omega)];simp only [wx,wy,Z0,Z1,reduceCtorEq];have e:kL (o++[q]) c=(o++[q])++[(c,1)]:=by simp only [kL,ho,hq,cond_false]
     exact hnew s fr g rfl e _
theorem bQn (l:List Int) (hl:l.length<=2 ^ 30):bE mEv 128 [.sl false (l.map dE)] (rtA (lG l [])):=by
 refine dA (aQv _ _ ?_);unfold f128;simp only [QD,m002,wx,wy,Z0,Z1,reduceCtorEq];refine ⟨l.length+1,bQu l hl _ (lG l []) (fun s e h=>?_) (fun y s out fr g h=>?_) l.length 0 .nils [] _ (by omega) (by simp) jP.adv fG rfl⟩
 ·rw [h];exact ⟨[],rfl⟩
 ·rw [h];obtain ⟨ids,hp,_⟩:=KG aIn g (fun _ _=>rfl) (fun _ _=>rfl) 10;exact ⟨ids,OZ g.not_closed hp rfl⟩
end
noncomputable section
theorem OK:∀ f u,(vH f u).length<=f:=by
 intro f
 induction f with
 | zero=>intro u;exact bK _
 | succ f ih =>
  intro u;simp only [vH]
  cases Nat.blt u 10 with
  | true=>simp
  | false=>simp only [cond_false,m006,List.length_cons,List.length_nil];have:=ih (u / 10);omega
theorem gN (n:Int):(cB n).length<=21:=by
 unfold cB
 split
 ·have:=OK 20 n.natAbs;simp;omega
 ·have:=OK 20 n.toNat;omega
theorem RJ (n:Int) (h0:-9223372036854775808<=n) (h1:n<=9223372036854775807):bE mEv 206 [.int .i64 n] (.str (cB n)) :=
 dA ⟨_,_,nB (g:=IS) (by kernel_rfl) (by simp only [IS,h0,h1,and_self,if_true];rfl),aX rfl⟩
def GQ (neg:Bool) (n:List Nat):AV:=.agg [.bool neg,fZ n]
theorem kY (neg:Bool) (n:List Nat):(GQ neg n).closed=true:=by simp only [GQ,AV.closed,aW,dG,jH]
def mN (neg:Bool) (n:List Nat):Bool×List Nat:=(neg&&!(bU n==[]),bU n)
theorem bSq (neg:Bool) (n:List Nat) (hn:n.length<=2 ^ 30):bE mEv 105 [.bool neg,fZ n] (GQ (mN neg n).1 (mN neg n).2):=by
 refine dA (aRx _ _ _ ?_);unfold f105;simp only [bPb,wx,wy,Z0,Z1,reduceCtorEq];refine aP (ZY n hn) (by simp [dG]) ?_;have hb:∀ b:Bool,lK 24 [(0,.bool b),(1,fZ (bU n))]=some (GQ b (bU n)):=fun b=>by rw [bKd];rfl
 have hl:decide (((bU n).length:Int) > 0)=!(bU n==[]):=by
  cases h:bU n with
  | nil=>rfl
  | cons x t=>simp
 have hln:∀ id s,bt .len #[22] [fZ (bU n)] id s=some (.int .i64 (bU n).length,s):=fun id s=>by show bt .len #[22] [.sl false ((bU n).map lP)] id s=_;rw [zG,m002]
 have hfin:∀ (b:Bool) (s:St) (n1:Nat),dU 2 (.ptr s.nx 0) (GQ b (bU n)) (Ai.adv (s.set s.nx (some (.cells (AV.agg [.bool false,.nils]).cells 24 true true))) n1)=some (Ai.adv (s.set s.nx (some (.cells (GQ b (bU n)).cells 24 true true))) n1):=fun b s n1=>by rw [bJ (z:=2) (by rw [adv_h,aF]) rfl rfl rfl,adv_set,set_set]
 have hp:∀ b:Bool,Ai.part 2 true 0 (GQ b (bU n)).cells=some (GQ b (bU n)):=fun b=>rfl
 cases neg with
 | false =>simp only [hb,wx,wy,Z0,Z1,reduceCtorEq];rw [hfin];simp only [wx,wy,Z0,Z1,reduceCtorEq,hp];exact aX (kY _ _)
 | true =>simp only [hln,hl,hb,wx,wy,Z0,Z1,reduceCtorEq];rw [hfin];simp only [wx,wy,Z0,Z1,reduceCtorEq,hp];exact aX (kY _ _)
theorem AZ (b:Bool) (n:List Nat):Ai.part 2 true 0 (GQ b n).cells=some (GQ b n):=rfl
theorem wz0 (b:Bool) (n:List Nat):(GQ b n).cells[0]?=some (.bool b):=rfl
theorem wz1 (b:Bool) (n:List Nat):(GQ b n).cells[1]?=some (fZ n):=rfl
theorem yE (n:List Nat) (id:Nat) (s:St):bt .len #[22] [fZ n] id s=some (.int .i64 n.length,s):=by show bt .len #[22] [.sl false (n.map lP)] id s=_;rw [zG,m002]
theorem bFx (b b':Bool) (n n':List Nat) (q:St) (i c:Nat):dU 2 (.ptr i 0) (GQ b n) (Ai.adv (q.set i (some (.cells (GQ b' n').cells 24 true true))) c)=some (Ai.adv (q.set i (some (.cells (GQ b n).cells 24 true true))) c):=by rw [bJ (z:=2) (by rw [adv_h,aF]) rfl rfl rfl,adv_set,set_set]
theorem c69 (neg:Bool) (n:List Nat) (hn:n.length<=2 ^ 30):bE mEv 69 [GQ neg n] (GQ (mN neg n).1 (mN neg n).2):=by refine dA (aUa _ _ ?_);unfold f69;refine ⟨rfl,?_⟩;simp only [bPb,wz0,wz1,wx,wy,Z0,Z1,reduceCtorEq];refine aP (bSq neg n hn) (by simp [dG,AV.closed]) ?_;rw [bJ (z:=2) (by rw [adv_h,aF]) rfl rfl rfl];simp only [wx,wy,Z0,Z1,reduceCtorEq,AZ];exact aX (kY _ _)
def CV (neg:Bool) (n:List Nat):Int:=bif bU n==[] then 0 else bif neg then -1 else 1
theorem c20 (neg:Bool) (n:List Nat) (hn:n.length<=2 ^ 30):bE mEv 20 [GQ neg n] (.int .i64 (CV neg n)):=by
 refine dA (aUc _ _ ?_);unfold f20;refine ⟨rfl,?_⟩;simp only [AZ,wx,wy,Z0,Z1,reduceCtorEq];refine aP (c69 neg n hn) (by simp [kY]) ?_;rw [bFx];simp only [wz0,wz1,yE,wx,wy,Z0,Z1,reduceCtorEq]
 have hl:decide (((bU n).length:Int) > 0)=!(bU n==[]):=by
  cases h:bU n with
  | nil=>rfl
  | cons x t=>simp
 unfold CV mN;simp only [hl];cases h:(bU n==[])<;>cases neg<;>simp only [m025,m027,cond_true,cond_false,wx,wy,Z0,Z1,reduceCtorEq,aPa]<;>exact aX rfl
def FU (left:Int) (p:Option Int):List (Int×Int)->Bool
 | []=>true
 | r::l=>bif decide (r.1 < 0)||(decide (r.1 > 196607)||(decide (r.2 < 1)||(decide (r.2 > left)||p==some r.1))) then false else FU (left - r.2) (some r.1) l
def LC (l:List (Int×Int)):Bool:=decide (l.length<=65536)&&FU 1099511627776 none l
theorem l60 (l:List (Int×Int)) (hl:l.length<=65536) (ex:Bool) (Q:aG) (b:Bool) (hQ:∀ s,Q (.bool b) s):∀ (m i:Nat) (left:Int) (p:Option Int) (s:St),i+m=l.length->0<=left->left<=2 ^ 40->(p=if i=0 then none else (l[i - 1]?).map Prod.fst)->FU left p (l.drop i)=b ->
  zY Q (m+1) (.sl ex (l.map kZ)) (.int .i64 left) (.sl ex (l.map kZ)) (.int .i64 l.length) (.int .i64 i) s:=by
 intro m
 induction m with
 | zero =>
  intro i left p s hi h0 h1 hp hb;show FC Q (zY Q 0) _ _ _ _ _ s;have c1:decide ((i:Int) < (l.length:Int))=false:=by simp;omega
  rw [m037 (by omega)] at hb;simp only [FC,c1,MM,wx,wy,Z0,Z1,reduceCtorEq];have:b=true:=hb.symm;subst this;exact hQ _
 | succ m ih =>
  intro i left p s hi h0 h1 hp hb;show FC Q (zY Q (m+1)) _ _ _ _ _ s;have c1:decide ((i:Int) < (l.length:Int))=true:=by simp;omega
  obtain ⟨r,hr⟩:∃ r,l[i]?=some r:=⟨_,m004 (by omega)⟩;rw [cE l i r hr] at hb;simp only [FU] at hb;have hst:∀ (v:AV) (q:St) (i n:Nat),v.cells.length=2->v.cells.all AV.one=true->dU 2 (.ptr i 0) v (Ai.adv (q.set i (some (.cells (AV.agg [.int .i64 0,.int .i64 0]).cells 109 true true))) n)=some (Ai.adv (q.set i (some (.cells v.cells 109 true true))) n):=fun v q i n e1 e2=>by rw [bJ (z:=2) (by rw [adv_h,aF]) rfl e1 e2,adv_set,set_set]
  have hix:=cJ qF ex hr .i64;have w1:IntKind.i64.wrap ((i:Int)+1)=((i+1:Nat):Int):=by rw [IntWalk.i64_in _ (by omega)];rfl
  simp only [FC,c1,hix,VB,aYm,wx,wy,Z0,Z1,reduceCtorEq];rw [hst _ _ _ _ rfl rfl]
  cases e1:decide (r.1 < 0) with
  | true =>rw [e1,m033,cond_true] at hb;subst hb;simp only [rn0,rn1,e1,wx,wy,Z0,Z1,reduceCtorEq];exact hQ _
  | false =>
  cases e2:decide (r.1 > 196607) with
  | true =>rw [e1,e2,m026,m033,cond_true] at hb;subst hb;simp only [rn0,rn1,e1,e2,wx,wy,Z0,Z1,reduceCtorEq];exact hQ _
  | false =>
  cases e3:decide (r.2 < 1) with
  | true =>rw [e1,e2,e3,m026,m026,m033,cond_true] at hb;subst hb;simp only [rn0,rn1,e1,e2,e3,wx,wy,Z0,Z1,reduceCtorEq];exact hQ _
  | false =>
  cases e4:decide (r.2 > left) with
  | true =>rw [e1,e2,e3,e4,m026,m026,m026,m033,cond_true] at hb;subst hb;simp only [rn0,rn1,e1,e2,e3,e4,wx,wy,Z0,Z1,reduceCtorEq];exact hQ _
  | false =>
  rw [e1,e2,e3,e4,m026,m026,m026,m026] at hb;have o3:=of_decide_eq_false e3;have o4:=of_decide_eq_false e4;have w2:IntKind.i64.wrap (left - r.2)=left - r.2:=IntWalk.i64_in _ (by omega)
  cases i with
  | zero =>simp only [if_true] at hp;subst hp;have hb:FU (left - r.2) (some r.1) (l.drop 1)=b:=hb;simp only [rn0,rn1,e1,e2,e3,e4,show decide (((0:Nat):Int) > 0)=false from rfl,WZ,w1,w2,wx,wy,Z0,Z1,reduceCtorEq];exact ih 1 _ (some r.1) _ (by omega) (by omega) (by omega) (by simp only [Nat.one_ne_zero,if_false,Nat.sub_self];rw [hr];rfl) hb
  | succ k =>
   have c2:decide (((k+1:Nat):Int) > 0)=true:=by simp
   obtain ⟨q,hq⟩:∃ q,l[k]?=some q:=⟨_,m004 (by omega)⟩;have hix2:=cJ qF ex hq .i64;have w3:IntKind.i64.wrap (((k+1:Nat):Int) - 1)=(k:Int):=by rw [IntWalk.i64_in _ (by omega)];omega
   have hp:p=some q.1:=by rw [hp,if_neg (by omega),Nat.add_sub_cancel,hq];rfl
   subst hp;have e5:(some q.1==some r.1)=(q.1==r.1):=rfl;rw [e5] at hb
   cases e6:(q.1==r.1) with
   | true =>rw [e6,cond_true] at hb;subst hb;simp only [rn0,rn1,e1,e2,e3,e4,c2,w3,hix2,e6,wx,wy,Z0,Z1,reduceCtorEq];exact hQ _
   | false =>rw [e6,cond_false] at hb;simp only [rn0,rn1,e1,e2,e3,e4,c2,w3,hix2,e6,WZ,w1,w2,wx,wy,Z0,Z1,reduceCtorEq];exact ih (k+1+1) _ (some r.1) _ (by omega) (by omega) (by omega) (by rw [if_neg (by omega),Nat.add_sub_cancel,hr];rfl) hb
theorem c60 (ex:Bool) (l:List (Int×Int)) (hl:l.length<=2 ^ 40):bE mEv 60 [.sl ex (l.map kZ)] (.bool (LC l)):=by
 refine dA (aTr _ _ ?_);unfold f60 LC;simp only [bCp,m002,wx,wy,Z0,Z1,reduceCtorEq]
 cases h:decide (l.length<=65536) with
 | false =>
  have h1:decide ((l.length:Int) > 65536)=true:=by simp at h ⊢;omega
  simp only [h1,wx,wy,Z0,Z1,reduceCtorEq];exact aX rfl
 | true =>
  have h2:=of_decide_eq_true h;have h1:decide ((l.length:Int) > 65536)=false:=by simp;omega
  simp only [h1,wx,wy,Z0,Z1,reduceCtorEq];exact ⟨l.length+1,l60 l h2 ex _ _ (fun s=>aX rfl) l.length 0 1099511627776 none _ (by omega) (by decide) (by decide) rfl rfl⟩
end
noncomputable section
structure Nd:Type where
 op:Int
 so:Int
 a:List Int
 nm:List UInt8
 neg:Bool
 num:List Nat
 str:List (Int×Int)
abbrev Bk:=List Nd
abbrev Mm:=List (List UInt8×Int)
abbrev Sg:=Bk×Mm
abbrev Ev:=List (List UInt8×Int)
abbrev Rt:=Option ((Int×Int)×Sg)
def iB (n:Nd):List UInt8 :=
 cB n.op++[58]++cB n.so++n.a.flatMap (fun i=>32::cB i)++35::DO n.num++n.str.flatMap (fun r=>32::cB r.1++42::cB r.2)++61::n.nm
def gQ (k:List UInt8):Bk->Option Nat
 | []=>none
 | m::B=>bif k==iB m then some 0 else (gQ k B).map (·+1)
def fY (B:Bk) (n:Nd):(Int×Int)×Bk :=
 match gQ (iB n) B with
 | some i=>(((i:Int),0),B)
 | none=>bif (B.length:Int)==20000 then ((0,2),B) else (((B.length:Int),0),B++[n])
def lJ (B:Bk) (nm:List UInt8) (so:Int):(Int×Int)×Bk :=
 bif decide (so < 1)||(decide (so > 3)||decide ((nm.length:Int) > 16384)) then ((0,1),B) else fY B ⟨1,so,[],nm,false,[],[]⟩
def LM (B:Bk) (v:Bool):(Int×Int)×Bk:=fY B ⟨bif v then 2 else 3,1,[],[],false,[],[]⟩
def CN (B:Bk) (neg:Bool) (n:List Nat):(Int×Int)×Bk :=
 bif decide (CV neg n < 0) then ((0,1),B) else fY B ⟨4,2,[],[],(mN neg n).1,(mN neg n).2,[]⟩
def SN (B:Bk) (s:List (Int×Int)):(Int×Int)×Bk :=
 bif LC s then fY B ⟨5,3,[],[],false,[],s⟩ else ((0,1),B)
structure wE:Type where
 parts:Int
 more:Bool
 s0:Int
 s1:Int
 s2:Int
 own:Int
def gK:List wE :=
 let z:wE:=⟨0,false,0,0,0,0⟩
 let b2:wE:=⟨2,true,1,1,1,1⟩
 let e2:wE:=⟨2,true,-2,-1,-1,1⟩
 let i2:wE:=⟨2,true,2,2,2,2⟩
 let l2:wE:=⟨2,true,2,2,2,1⟩
 let t2:wE:=⟨2,false,3,3,3,1⟩
 [z,z,z,z,z,z,⟨1,false,1,1,1,1⟩,b2,b2,b2,b2,e2,e2,⟨3,false,1,-2,-1,-1⟩,⟨1,false,2,2,2,2⟩,i2,i2,i2,l2,l2,l2,l2,
  ⟨2,true,3,3,3,3⟩,⟨1,false,3,3,3,2⟩,⟨2,false,3,2,2,3⟩,⟨3,false,3,2,2,3⟩,t2,t2,t2,⟨3,false,3,3,2,2⟩,⟨3,false,3,3,3,3⟩]
def wE.sort (x:wE):Nat->Int
 | 0=>x.s0
 | 1=>x.s1
 | _=>x.s2
def mA (B:Bk) (i:Int):Option Nd:=bif decide (i < 0) then none else B[i.toNat]?
def jO (B:Bk) (i:Int):Int:=match mA B i with
 | some n=>n.so
 | none=>0
def UM (B:Bk) (i:Int):Int:=match mA B i with
 | some n=>n.op
 | none=>0
def dL (B:Bk) (x:wE):Nat->Int->List Int->Int
 | _,last,[]=>bif x.own==-1 then last else x.own
 | i,last,id::a =>
  let want:=bif x.sort i==-1 then last else x.sort i
  bif want != -2&&want != jO B id then 0 else dL B x (i+1) (jO B id) a
def gI (B:Bk) (id:Int):Bool:=match mA B id with
 | none=>false
 | some n=>n.op==4||(n.op==14&&match n.a with
  | i::_=>UM B i==4
  | []=>false)
def gD (B:Bk):List Int->Nat
 | []=>0
 | id::a=>(bif gI B id then 0 else 1)+gD B a
def AK (B:Bk) (id:Int):Bool:=decide (id < 0)||decide (id >= (B.length:Int))
def jN (B:Bk) (op:Int) (a:List Int):(Int×Int)×Bk :=
 bif decide (op < 0) then ((0,101),B) else
 match gK[op.toNat]? with
 | none=>((0,101),B)
 | some x=>bif x.parts==0 then ((0,101),B) else
  bif decide ((a.length:Int) < x.parts)||((decide ((a.length:Int) > x.parts)&&!x.more)||(decide ((a.length:Int) > 200)||a.any (AK B))) then ((0,1),B) else
  bif dL B x 0 0 a==0 then ((0,90),B) else
  bif op==17&&!decide (gD B a<=1) then ((0,101),B) else fY B ⟨op,dL B x 0 0 a,a,[],false,[],[]⟩
def bW (nm:List UInt8) (parts:Int):Int:=bif nm==[45]&&parts==1 then 14 else GD nm
def aU (x:List UInt8):Bool:=(uT RM x).isSome||(GD x != 0)||dM [115,116,114,46] x||dM [114,101,46] x
def bP:Ev->List UInt8->Option Int
 | [],_=>none
 | p::l,nm=>match bP l nm with
  | some i=>some i
  | none=>bif p.1==nm then some p.2 else none
def bR:List Dc->List UInt8->Option Nat
 | [],_=>none
 | d::l,nm=>match bR l nm with
  | some i=>some (i+1)
  | none=>bif d.nm==nm then some 0 else none
def pF (k:List UInt8):Mm->Option Int
 | []=>none
 | (a,v)::l=>bif k==a then some v else pF k l
def KK (k:List UInt8) (v:Int):Mm->Mm
 | []=>[(k,v)]
 | (a,u)::l=>bif k==a then (k,v)::l else (a,u)::KK k v l
def eG (B:Bk):List (List UInt8×Int)->List Int->Bool
 | p::ps,i::a=>jO B i==p.2&&eG B ps a
 | _,_=>true
def jY (k:Nat) (a:List Int):List UInt8:=a.flatMap (fun i=>cB i++[32])++102::cB k
def pU (r:(Int×Int)×Bk) (M:Mm):Rt:=some (r.1,(r.2,M))
def Sx.lst:Sx->Bool
 | .mk l _ _ _ _ _=>l
def Sx.kind:Sx->Int
 | .mk _ k _ _ _ _=>k
def Sx.txt:Sx->List UInt8
 | .mk _ _ x _ _ _=>x
def Sx.its:Sx->List Sx
 | .mk _ _ _ _ _ l=>l
def Sx.isN (x:Sx):Bool:=!x.lst&&x.kind==3
def dbl:List (List UInt8)->Bool
 | l=>(List.range l.length).any fun i=>(l.take i).any fun y=>some y==l[i]?
def iV:List UInt8:=[116,114,117,101]
def nE:List UInt8:=[102,97,108,115,101]
def KT:List UInt8:=[108,101,116]
def cD:List Sx->Option (List (List UInt8)×List Sx)
 | []=>some ([],[])
 | p::l=>match p.lst,p.its with
  | true,[x,y]=>bif x.isN then (cD l).map fun q=>(x.txt::q.1,y::q.2) else none
  | _,_=>none
section
variable (ps:List UInt8->List Nat×Int) (mm:Bool) (f:List Dc->Ev->Sx->Sg->Rt)
def dS (L:List Dc) (env:Ev):List Sx->Sg->Option ((List Int×Int)×Sg)
 | [],σ=>some (([],0),σ)
 | x::l,σ=>(f L env x σ).bind fun r=>bif r.1.2==0 then (dS L env l r.2).map fun q=>((bif q.1.2==0 then r.1.1::q.1.1 else [],q.1.2),q.2) else some (([],r.1.2),r.2)
def fP (L:List Dc) (k:Nat) (a:List Int) (σ:Sg):Rt :=
 match L[k]? with
 | none=>none
 | some d=>bif a.length==d.ps.length then
   (bif eG σ.1 d.ps a then
    match (bif mm then pF (jY k a) σ.2 else none) with
    | some id=>some ((id,0),σ)
    | none=>(f (L.take k) (List.zip (d.ps.map (·.1)) a) d.body σ).map fun r=>(r.1,(r.2.1,bif mm&&r.1.2==0 then KK (jY k a) r.1.1 r.2.2 else r.2.2))
   else some ((0,90),σ)) else some ((0,1),σ)
def jQ (L:List Dc) (env:Ev) (nm:List UInt8) (σ:Sg):Rt :=
 bif nm==iV||nm==nE then pU (LM σ.1 (nm==iV)) σ.2 else
 bif aU nm then some ((0,101),σ) else
 match bP env nm with
 | some id=>some ((id,0),σ)
 | none=>match bR L nm with
  | none=>some ((0,100),σ)
  | some k=>match L[k]? with
   | none=>none
   | some d=>bif d.mac then (bif d.ps.length==0 then fP mm f L k [] σ else some ((0,1),σ)) else pU (lJ σ.1 nm d.so) σ.2
def lT (L:List Dc) (env:Ev) (rest:List Sx) (σ:Sg):Rt :=
 match rest with
 | [h,y]=>bif h.lst then
   match cD h.its with
   | none=>some ((0,1),σ)
   | some (ns,ts)=>bif ns.any aU then some ((0,101),σ) else bif dbl ns then some ((0,4),σ) else
    (dS f L env ts σ).bind fun r=>bif r.1.2==0 then f L (env++List.zip ns r.1.1) y r.2 else some ((0,r.1.2),r.2)
  else some ((0,1),σ)
 | _=>some ((0,1),σ)
def qN (L:List Dc) (env:Ev) (l:List Sx) (σ:Sg):Rt :=
 match l with
 | []=>some ((0,1),σ)
 | h::rest=>bif !h.isN then some ((0,101),σ) else
  bif h.txt==KT then lT f L env rest σ else
  bif bW h.txt rest.length==0&&aU h.txt then some ((0,101),σ) else
  bif bW h.txt rest.length==0 then
   match bP env h.txt,bR L h.txt with
   | none,some k=>match L[k]? with
    | none=>none
    | some d=>bif d.mac then (dS f L env rest σ).bind fun r=>bif r.1.2==0 then fP mm f L k r.1.1 r.2 else some ((0,r.1.2),r.2)
     else some ((0,100),σ)
   | _,_=>some ((0,100),σ)
  else (dS f L env rest σ).bind fun r=>bif r.1.2==0 then pU (jN r.2.1 (bW h.txt rest.length) r.1.1) r.2.2 else some ((0,r.1.2),r.2)
def iG (L:List Dc) (env:Ev) (x:Sx) (σ:Sg):Rt :=
 bif x.lst then qN mm f L env x.its σ else
 bif x.kind==4 then (bif (ps x.txt).2 != 0 then some ((0,101),σ) else pU (CN σ.1 false (ps x.txt).1) σ.2) else
 bif x.kind==6 then pU (SN σ.1 (lG (FG x.txt) []).1) σ.2 else
 bif x.kind==3 then jQ mm f L env x.txt σ else some ((0,101),σ)
end
def T (ps:List UInt8->List Nat×Int) (mm:Bool):Nat->List Dc->Ev->Sx->Sg->Rt
 | 0=>fun _ _ _ _=>none
 | n+1=>iG ps mm (T ps mm n)
end
end Go.Proofs.YtdehdahimkcakaaGreatDoor
