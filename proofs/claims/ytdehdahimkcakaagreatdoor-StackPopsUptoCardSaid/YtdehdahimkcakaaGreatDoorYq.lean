/- Texts joined by wip/tools/pack.py: Row,Kit,Tf,Str,Bd,Sx,Li,Dc,Sh,Cc,Na,Lt,Wh,Um. -/
import Derived.Test.YtdehdahimkcakaaGreatDoorCards
import Derived.Test.YtdehdahimkcakaaGreatDoorTie
import Derived.ProofKit
import Derived.LaidMore
import Derived.Lay
import Derived.SevenTiedAt
import Derived.Test.YtdehdahimkcakaaGreatDoorYp
open Nat (reduceAdd reduceEqDiff)
set_option linter.unusedSimpArgs false
set_option linter.unusedVariables false
set_option maxHeartbeats 4000000
set_option maxRecDepth 100000
namespace Go.Proofs.YtdehdahimkcakaaGreatDoor
open Go Ai
noncomputable section
theorem own:ownKnob Tryz.prog.godebug=none:=by kernel_rfl
def qQ:List Nat:=[3,4,5,9,22,24,25,27,30,31,32,33,34,49,65,67,79,93,109,119,151,159,190,192,193,211,298,300,301,310,317,318]
theorem ZH:(qQ.all fun t=>iE Tryz.ty qQ t)=true:=by kernel_rfl
theorem plain_ok:∀ t∈qQ,iE mEv.P qQ t=true:=fun t ht=>m032.1 ZH t ht
theorem glob_of {laid:List (String×DataW Unit)} (hp:(laid.all fun x=>x.2.handleName?.isNone)=true) {W:World} (h:laidMetH Tryz.prog laid W)
  (hg:∀ g cs,Tryz.glob g=some cs->∃ nd∈laid,Tryz.prog.globalNamed nd.1=some g/\(∃ t∈qQ,(Tryz.prog.globals[g]?).map (·.type)=some t)/\cs=(dAV nd.2).cells):GlobOk mEv.P mEv.glob W.cell? W:=by
 rw [MakeChecks.laidMetH_plain _ _ _ hp] at h;exact aTx env_ok.ty plain_ok h hg
section
variable {H:Type}
theorem jZ {v:AV} (h:v.closed=true):aX v.cells=true:=by cases v<;>first | exact h | (simp only [AV.cells,aX,h,iR];done) | (simp only [AV.cells,aX,m059];exact h)
theorem DG {a b:List AV} (ha:aX a=true) (hb:aX b=true):aX (a++b)=true:=by
 induction a with
 | nil=>exact hb
 | cons x a ih =>simp only [List.cons_append,aX,cQ] at ha ⊢;exact ⟨ha.1,ih ha.2⟩
def lH (T:Ty) (t:TypeId):Option (List TypeId):=match eH T t with
 | some (.struct fs)=>some (fs.toList.map (·.type))
 | _=>none
def bAj (T:Ty) (t:TypeId):Option IntKind:=match eH T t with
 | some (.int k)=>some k
 | _=>none
def aFn (T:Ty) (t:TypeId):Option TypeId:=match eH T t with
 | some (.slice e)=>some e
 | _=>none
def WC (T:Ty) (t:TypeId):Nat:=match eH T t with
 | some .bool=>1
 | some .string=>2
 | _=>0
variable {T:Ty} {n:Nat} {t:TypeId} {d:DataW H}
theorem Ai.TyD.struct {ts:List TypeId} (h:lH T t=some ts) (hd:TyD T n t d):∃ m l,n=m+1/\d=.agg l/\l.length=ts.length/\∀ (i:Nat) t x,ts[i]?=some t->l[i]?=some x->TyD T m t x:=by
 cases n with
 | zero=>exact hd.elim
 | succ m =>
  unfold lH at h;unfold TyD at hd
  split at h
  ·rename_i fs hu;rw [hu] at hd;obtain ⟨l,rfl,h1,h2⟩:=hd;cases h;refine ⟨m,l,rfl,rfl,by simp [h1],fun i t x ht hx=>?_⟩;obtain ⟨hi,rfl⟩:=m012.1 hx;have:=h2 i hi (by omega);have e:fs[i].type=t:=by rw [m047,m022] at ht;obtain ⟨f,hf,rfl⟩:=ht;rw [Array.getElem?_toList,m016 (by omega)] at hf;cases hf;rfl
   rw [<- e];exact this
  ·cases h
theorem Ai.TyD.int {k:IntKind} (h:bAj T t=some k) (hd:TyD T n t d):∃ m,d=.lit (.int k m)/\(Lit.int k m).wf=true:=by
 cases n with
 | zero=>exact hd.elim
 | succ m =>
  unfold bAj at h;unfold TyD at hd
  split at h
  ·rename_i k' hu;rw [hu] at hd;cases h;exact hd
  ·cases h
theorem Ai.TyD.bool (h:WC T t=1) (hd:TyD T n t d):∃ b,d=.lit (.bool b):=by
 cases n with
 | zero=>exact hd.elim
 | succ m =>
  unfold WC at h;unfold TyD at hd
  split at h
  ·rename_i hu;rw [hu] at hd;exact hd
  ·cases h
  ·cases h
theorem Ai.TyD.str (h:WC T t=2) (hd:TyD T n t d):∃ s,d=.lit (.string s)/\s.length<=maxLen:=by
 cases n with
 | zero=>exact hd.elim
 | succ m =>
  unfold WC at h;unfold TyD at hd
  split at h
  ·cases h
  ·rename_i hu;rw [hu] at hd;exact hd
  ·cases h
def oW (n:Int):Bool:=(Lit.int .i64 n).wf
inductive Sx:Type where
 | mk (l:Bool) (k:Int) (x:List UInt8) (p a:Int) (items:List Sx)
mutual
def Sx.av:Sx->AV
 | .mk l k x p a items=>.agg [.bool l,.int .i64 k,.str x,.int .i64 p,.int .i64 a,.sl false (Sx.avs items)]
def Sx.avs:List Sx->List AV
 | []=>[]
 | s::l=>s.av::Sx.avs l
end
theorem Sx.avs_eq (l:List Sx):Sx.avs l=l.map Sx.av:=by induction l with | nil=>rfl | cons s l ih=>simp [Sx.avs,ih]
mutual
def Sx.ok:Sx->Bool
 | .mk _ k x p a items=>oW k&&decide (x.length<=maxLen)&&oW p&&oW a&&decide (items.length<=maxLen)&&Sx.oks items
def Sx.oks:List Sx->Bool
 | []=>true
 | s::l=>s.ok&&Sx.oks l
end
theorem aMm:lH Tryz.ty 33=some [4,30,3,31]:=by kernel_rfl
theorem aHm:lH Tryz.ty 30=some [3,9,3]:=by kernel_rfl
end
end
noncomputable section
section
variable {s s':St} {n m i j:Nat} {o p:Option gL}
theorem set_set:(s.set i o).set i p=s.set i p:=by show (⟨_,_⟩:St)=⟨_,_⟩;congr 1;funext k;show cond (Nat.beq k i) p (cond (Nat.beq k i) o (s.h k))=cond (Nat.beq k i) p (s.h k);cases Nat.beq k i<;>rfl
theorem adv_set:(adv s n).set i o=adv (s.set i o) n:=rfl
theorem adv_drop (l:List Nat):(adv s n).drop l=adv (s.drop l) n:=by
 induction l generalizing s with
 | nil=>rfl
 | cons a l ih=>exact ih (s:=s.set a none)
theorem adv_two:adv (adv s n) m=adv s (n+m):=by simp [adv,m066]
theorem get_set:(s.set n o).h m=if m=n then o else s.h m:=by
 by_cases h:m=n
 ·subst h;rw [if_pos rfl,aG]
 ·rw [if_neg h,aB h]
theorem nx_drop (l:List Nat):(s.drop l).nx=s.nx:=by
 induction l generalizing s with
 | nil=>rfl
 | cons a l ih=>exact ih
theorem get_drop' (l:List Nat):(s.drop l).h m=if m∈l then none else s.h m:=by
 induction l generalizing s with
 | nil=>simp [St.drop]
 | cons a l ih =>
  show ((s.set a none).drop l).h m=_;rw [ih,get_set];by_cases h1:m∈l
  ·simp [h1]
  ·by_cases h2:m=a<;>simp [h1,h2]
theorem idOf_ref {i a n:Nat} {c:Option Nat} {e:TypeId}:aF (.ref i a n c e)=[i]:=rfl
theorem idOf_nils:aF .nils=[]:=rfl
theorem idOf_ptr {i a:Nat}:aF (.ptr i a)=[i]:=rfl
theorem idOf_sl {ex:Bool} {l:List AV}:aF (.sl ex l)=[]:=rfl
theorem idOf_pel {l:List AV} {n:Nat}:aF (.pel l n)=[]:=rfl
theorem drop_nil:s.drop []=s:=rfl
theorem drop_cons {l:List Nat}:s.drop (i::l)=(s.set i none).drop l:=rfl
theorem wantV_tup {l:List AV} {w:Bool}:aD (.tup l) w=some false:=rfl
theorem resC_nil:sT []=some []:=rfl
theorem resC_some {v:AV} {l:List (Option AV)}:sT (some v::l)=(sT l).map (v::·):=rfl
theorem retP_some {v:AV} {Q:AV->Prop}:pC (some v) Q=Q v:=rfl
theorem map_some' {α β:Type} {f:α->β} {a:α}:Option.map f (some a)=some (f a):=rfl
theorem tupV_one {v:AV}:xG [v]=v:=rfl
theorem tupV_two {v w:AV}:xG [v,w]=.tup [v,w]:=rfl
structure EF (M:List Nat) (s s':St):Prop where
 nx:s.nx<=s'.nx
 h:∀ j,j < s.nx->j ∉ M->s'.h j=s.h j
 fr:aI s'
theorem EF.refl (M:List Nat) (fr:aI s):EF M s s:=⟨bJ _,fun _ _ _=>rfl,fr⟩
theorem EF.adv {M:List Nat} (h:EF M s s'):EF M s (adv s' n):=⟨by have:=h.nx;show s.nx<=s'.nx+n;omega,h.h,h.fr.adv⟩
theorem EF.set {M:List Nat} (h:EF M s s') (hi:i < s'.nx) (hm:s.nx<=i\/i∈M):EF M s (s'.set i o) :=
 ⟨h.nx,fun j hj hn=>by rw [get_set,if_neg (by rintro rfl;rcases hm with hm | hm;omega;exact hn hm)];exact h.h j hj hn,h.fr.set hi⟩
theorem EF.drop {M l:List Nat} (h:EF M s s') (hm:∀ i∈l,s.nx<=i\/i∈M):EF M s (s'.drop l) :=
 ⟨by rw [nx_drop];exact h.nx,fun j hj hn=>by rw [get_drop',if_neg (fun hl=>by rcases hm j hl with hm | hm;omega;exact hn hm)];exact h.h j hj hn,
  fun j hj=>by rw [nx_drop] at hj;rw [get_drop'];split;rfl;exact h.fr j hj⟩
theorem EF.trans {M M':List Nat} {s'':St} (h:EF M s s') (k:EF M' s' s'') (hm:∀ i∈M',s.nx<=i\/i∈M):EF M s s'' :=
 ⟨FM h.nx k.nx,fun j hj hn=>by
  rw [k.h j (NH hj h.nx) (fun hl=>by rcases hm j hl with hm | hm;omega;exact hn hm)];exact h.h j hj hn,k.fr⟩
theorem EF.sub {M M':List Nat} (h:EF M s s') (hm:∀ i∈M,s.nx<=i\/i∈M'):EF M' s s' :=
 ⟨h.nx,fun j hj hn=>h.h j hj fun hl=>by rcases hm j hl with hm | hm;omega;exact hn hm,h.fr⟩
theorem bW (fr:aI s) (k:Nat) (h:i < s.nx+k):aI (Ai.adv (s.set i o) k):=by have:aI (Ai.adv s k):=fr.adv;rw [<- adv_set];exact this.set h
theorem wY (fr:aI s) (l:List Nat) (k:Nat) (h:i < s.nx+k):aI (Ai.adv ((s.drop l).set i o) k):=by
 have h1:aI (s.drop l):=fun j hj=>by rw [nx_drop] at hj;rw [get_drop'];split;rfl;exact fr j hj
 exact bW h1 k (by rw [nx_drop];exact h)
end
section
variable {t e:TypeId} {z b id:Nat} {ag:Bool} {s s':St} {x:AV} {vs:List AV}
theorem Gw.id_lt (g:Gw e z 0 s x vs) (fr:aI s):∀ j∈aF x,j < s.nx:=by
 obtain ⟨_,⟨rfl,_⟩ | ⟨i,_,rfl,hs⟩⟩:=g
 ·intro j hj;cases hj
 ·intro j hj;simp only [aF,m013,m052,or_false] at hj;subst hj;refine Nat.lt_of_not_le fun hc=>?_;rw [fr _ hc] at hs;cases hs
theorem Gw.keep (g:Gw e z 0 s x vs) (h:∀ j∈aF x,s'.h j=s.h j):Gw e z 0 s' x vs:=by
 obtain ⟨h1,⟨rfl,rfl⟩ | ⟨i,hi,rfl,hs⟩⟩:=g
 ·exact ⟨h1,.inl ⟨rfl,rfl⟩⟩
 ·exact ⟨h1,.inr ⟨i,hi,rfl,by rw [h i (by simp [aF])];exact hs⟩⟩
theorem Gw.ext {M:List Nat} (g:Gw e z 0 s x vs) (fr:aI s) (h:EF M s s') (hd:∀ j∈aF x,j ∉ M):Gw e z 0 s' x vs :=
 g.keep fun j hj=>h.h j (g.id_lt fr j hj) (hd j hj)
theorem Gw.here (h:∀ v∈vs,v.cells.length=z/\v.cells.all AV.one=true) {s0:St} {n k:Nat} (hk:k=vs.length):Gw e z 0 (Ai.adv (s0.set id (some (.cells (vs.flatMap AV.cells) e false true))) n) (.ref id 0 k none e) vs:=by subst hk;exact ⟨h,.inr ⟨id,mM _,rfl,by rw [adv_h,aG]⟩⟩
theorem Gw.one (g:Gw e z 0 s x vs):x.cells=[x]/\x.one=true:=by obtain ⟨h1,⟨rfl,rfl⟩ | ⟨i,hi,rfl,hs⟩⟩:=g<;>exact ⟨rfl,rfl⟩
theorem UF (h:eO t e z ag b) (g:Gw e z 0 s x vs) {v:AV} (hv:v.cells.length=z) (ho:v.cells.all AV.one=true) (hf:lW (vs.length+1) b=true) (ex:Bool) (id:Nat) :
  bt .append #[t,t] [x,.sl ex [v]] id s=some (.ref id 0 (vs.length+1) none e,(s.drop (aF x)).set id (some (.cells ((vs++[v]).flatMap AV.cells) e false true))):=by
 rw [oL h];have hsrc:aR z (.sl ex [v]) s=some v.cells:=by simp [aR,hv]
 rw [hsrc,Option.bind_some];have hne:v.cells≠[]:=fun hh=>by rw [hh] at hv;have:=h.pos;simp at hv;omega
 have hem:v.cells.isEmpty=false:=by cases hc:v.cells with | nil=>exact absurd hc hne | cons a b=>rfl
 have hdiv:v.cells.length / z=1:=by rw [hv];exact Nat.div_self h.pos
 obtain ⟨h1,⟨rfl,rfl⟩ | ⟨i,hi,rfl,hs⟩⟩:=g
 ·have hf':lW 1 b=true:=by simpa using hf
  unfold bL;simp [hem,ho,dM,hdiv,hf',jV,aF,St.drop]
 ·have hfl:=dJ h1;have hlen:(vs.flatMap AV.cells++v.cells).length / z=vs.length+1:=by rw [m006,hfl,hv,<- pD,EB _ h.pos]
  have hgt:¬ (vs.length * z+v.cells.length<=(vs.flatMap AV.cells).length):=by rw [hfl,hv];have:=h.pos;omega
  unfold bL;simp only [hem,ho,m025,m015,if_false,hs,m023,hfl,bJ,and_self,if_true];rw [if_neg (by rw [hv];have:=h.pos;omega)];simp only [dM,hlen,hf,if_true,jV,aF,St.drop];simp
theorem aEq (h:eO t e z ag b) (g:Gw e z 0 s x vs) {ws:List AV} (hw:∀ v∈ws,v.cells.length=z/\v.cells.all AV.one=true) (hne:ws≠[]) (hf:lW (vs.length+ws.length) b=true) (ex:Bool) (id:Nat) :
  bt .append #[t,t] [x,.sl ex ws] id s=some (.ref id 0 (vs.length+ws.length) none e,(s.drop (aF x)).set id (some (.cells ((vs++ws).flatMap AV.cells) e false true))):=by
 rw [oL h];have hall:ws.all (fun v=>v.cells.length==z)=true:=m032.2 fun v hv=>by simp [(hw v hv).1]
 have hsrc:aR z (.sl ex ws) s=some (ws.flatMap AV.cells):=by simp [aR,hall]
 rw [hsrc,Option.bind_some];have hwl:=dJ hw;have hpos:0 < ws.length:=List.length_pos_iff.2 hne;have hmul:0 < ws.length * z:=Nat.mul_pos hpos h.pos
 have hem:(ws.flatMap AV.cells).isEmpty=false:=by
  cases hc:ws.flatMap AV.cells with
  | nil=>rw [hc] at hwl;simp at hwl;omega
  | cons a b=>rfl
 have hones:(ws.flatMap AV.cells).all AV.one=true:=by rw [m032];intro y hy;obtain ⟨v,hv,hy⟩:=List.mem_flatMap.1 hy;exact m032.1 (hw v hv).2 y hy
 have hdiv:(ws.flatMap AV.cells).length / z=ws.length:=by rw [hwl];exact EB _ h.pos
 obtain ⟨h1,⟨rfl,rfl⟩ | ⟨i,hi,rfl,hs⟩⟩:=g
 ·have hf':lW ws.length b=true:=by simpa using hf
  unfold bL;simp only [hem,hones,dM,hdiv,hf',jV,aF,St.drop,m025,m015,if_false,if_true,List.length_nil,m023,List.nil_append]
 ·have hfl:=dJ h1;have hlen:(vs.flatMap AV.cells++ws.flatMap AV.cells).length / z=vs.length+ws.length:=by rw [m006,hfl,hwl,<- oN,EB _ h.pos]
  unfold bL;simp only [hem,hones,m025,m015,if_false,hs,m023,hfl,bJ,and_self,if_true];rw [if_neg (by rw [hwl];omega)];simp only [dM,hlen,hf,if_true,jV,aF,St.drop];simp
theorem mG (h:eO t e z ag b) (g:Gw e z 0 s x vs) (ex:Bool) (id:Nat):bt .append #[t,t] [x,.sl ex []] id s=some (x,s):=by
 rw [oL h];have hsrc:aR z (.sl ex []) s=some []:=by simp [aR]
 rw [hsrc,Option.bind_some];obtain ⟨h1,⟨rfl,rfl⟩ | ⟨i,hi,rfl,hs⟩⟩:=g<;>rfl
theorem rI {n b:Nat} (h:n * b<=2 ^ 40) (h2:n<=2 ^ 40):lW n b=true:=by
 have h1:n * b<=Ai.most:=by unfold Ai.most;omega
 have h2:n<=Ai.most:=by unfold Ai.most;omega
 simp only [lW,Nat.ble_eq_true_of_le h1,Nat.ble_eq_true_of_le h2,iR]
theorem MI {α:Type} {f:α->AV} (h:eO t e z ag b) (he:∀ a,(f a).cells.length=z) (ex:Bool) (l:List α) {k:Nat} (hk:k<=l.length) (kd:IntKind):lT t (.sl ex (l.map f)) none (some (.int kd (k:Int))) none s=some (.sl (ex&&k==l.length) ((l.take k).map f)):=by
 have hh:((l.map f).isEmpty||((l.map f).head?).any fun v=>v.cells.length==z)=true:=by
  cases l with
  | nil=>rfl
  | cons a l=>simp [he]
 simp only [lT,gA,h.u,h.l,Option.bind_some];rw [if_pos hh];simp [eF,rZ,pE,hk]
theorem aQl {α:Type} {f:α->AV} (h:eO t e z ag b) (he:∀ a,(f a).cells.length=z) (ex:Bool) (l:List α) {k:Nat} (hk:k<=l.length) (kd:IntKind):lT t (.sl ex (l.map f)) (some (.int kd (k:Int))) none none s=some (.sl ex ((l.drop k).map f)):=by
 have hh:((l.map f).isEmpty||((l.map f).head?).any fun v=>v.cells.length==z)=true:=by
  cases l with
  | nil=>rfl
  | cons a l=>simp [he]
 simp only [lT,gA,h.u,h.l,Option.bind_some];rw [if_pos hh];simp [eF,rZ,pE,hk];exact m014 (by simp)
theorem BS:∀ l:List Nat,lG l []=true
 | []=>rfl
 | _::l=>by simp only [lG,dK,m027,m031];exact BS l
theorem BP (h:eO t e z ag b) {i n k:Nat} {c:List AV} {e':TypeId} {ex wr:Bool} (hs:s.h i=some (.cells c e' ex wr)) (hn:n * z<=c.length) (hk:k<=c.length / z) (kd:IntKind):lT t (.ref i 0 n none e) none (some (.int kd (k:Int))) none s=some (.ref i 0 k none e):=by
 have hp:=h.pos;have h1:eF n (zI none (c.length - 0) z) none (some (.int kd (k:Int))) none=some (0,k,c.length / z):=by unfold eF rZ pE zI;simp only [Option.isSome_none,Option.isNone_some,m071,m015,if_false,Option.bind_some,Nat.sub_zero];rw [if_pos ⟨by omega,by omega,by omega,by omega⟩];simp only [Int.toNat_natCast,Int.toNat_zero]
 have h2:lT t (.ref i 0 n none e) none (some (.int kd (k:Int))) none s=(if e=e/\0 < z/\0<=c.length then (eF n (zI none (c.length - 0) z) none (some (.int kd (k:Int))) none).map fun r =>
   if r.1≠0/\r.2.1=r.1 then .sl false [] else .ref i (0+r.1 * z) (r.2.1 - r.1) none e else none):=by
  simp only [lT,gA,h.u,h.l,Option.bind_some,hs];rfl
 rw [h2,h1,if_pos ⟨rfl,hp,mM _⟩];simp
theorem dW {id off:Nat} {v:AV} {c:List AV} {e:TypeId} {ex:Bool} {s:St} (h:s.h id=some (.cells c e ex true)) (ho:off < c.length) (hv:v.cells=[v]) (hone:v.one=true):dN 1 (.ptr id off) v s=some (s.set id (some (.cells (c.set off v) e ex true))):=by show Ai.store 1 (.ptr id off) v s=_;unfold Ai.store;simp only [h];rw [if_pos ⟨by rw [hv];rfl,by omega,by rw [hv];simp [hone]⟩,hv];rfl
structure PB {α:Type} (f:α->AV) (z:Nat):Prop where
 len:∀ a,(f a).cells.length=z
 ones:∀ a,(f a).cells.all AV.one=true
theorem cM {α:Type} {f:α->AV} {z:Nat} (hf:PB f z) (ex:Bool) {l:List α} {i:Nat} {a:α} (h:l[i]?=some a) (k:IntKind):cB z (.sl ex (l.map f)) (.int k (i:Int))=some (.pel (f a).cells 0):=by obtain ⟨hi,rfl⟩:=m012.1 h;simp [cB,pE,wR,hi,hf.len]
theorem oF {e:TypeId} {z i id off n:Nat} {c:Option Nat} (h:i < n) (k:IntKind):cB z (.ref id off n c e) (.int k (i:Int))=some (.ptr id (off+i * z)):=by simp [cB,pE,wR,h]
theorem fC (h:∀ v∈vs,v.cells.length=z) {i:Nat} {v:AV} (hi:vs[i]?=some v) {k:Nat} (hk:k < z):(vs.flatMap AV.cells)[i * z+k]?=v.cells[k]?:=by
 induction vs generalizing i with
 | nil=>cases hi
 | cons a l ih =>
  have ha:=h a (m007 ..);rw [m024]
  cases i with
  | zero =>simp only [List.getElem?_cons_zero,m000] at hi;subst hi;rw [Nat.zero_mul,m023,m051 (by omega)]
  | succ i =>
   rw [List.getElem?_append_right (by rw [ha,pD];omega),ha];have:(i+1) * z+k - z=i * z+k:=by rw [pD];omega
   rw [this];exact ih (fun x hx=>h x (m005 _ hx)) (by simpa using hi)
theorem rP (h:∀ v∈vs,v.cells.length=z) {i:Nat} {v:AV} (hi:vs[i]?=some v):((vs.flatMap AV.cells).drop (i * z)).take z=v.cells/\i * z+z<=(vs.flatMap AV.cells).length:=by
 induction vs generalizing i with
 | nil=>cases hi
 | cons a l ih =>
  have ha:=h a (m007 ..);rw [m024]
  cases i with
  | zero =>simp only [List.getElem?_cons_zero,m000] at hi;subst hi;rw [Nat.zero_mul,m023,m048,List.take_left' ha,m006];exact ⟨rfl,by omega⟩
  | succ i =>obtain ⟨h1,h2⟩:=ih (fun x hx=>h x (m005 _ hx)) (by simpa using hi);rw [List.drop_append,m006,ha,pD,m044 (by omega),List.nil_append,Nat.add_sub_cancel];exact ⟨h1,by omega⟩
theorem kB {h:FuncId} {args:List AV} {l:List Nat} {v:AV} {K:aE} (hc:bA mEv h args v) (hcl:∀ x∈args,x.closed=true) (hk:K v s):eL mEv h args l s K:=by
 have hcl2:aX args=true:=by
  clear hc
  induction args with
  | nil=>rfl
  | cons x l ih=>simp only [aX,hcl x (m007 ..),ih fun y hy=>hcl y (m005 _ hy),iR]
 exact .mk args [] v (gZ 12 hcl2) hc rfl hk
theorem rE {h:FuncId} {args args2:List AV} {ids:List Nat} {v:AV} {K:aE} (hp:dH (pur mEv.P s 12) args=some (args2,ids)) (hc:bA mEv h args2 v) (hk:K v (if ids.isEmpty||v.flat then s else s.drop ids)):aN mEv h args s K:=.mk args2 ids v hp hc hk
theorem bO {h:FuncId} {args:List AV} {s:St} {K:aE} (hz:mEv.fz h=false) (hc:∃ r s',WideC mEv h args s r s'/\K r s'):aL mEv h args s K:=by obtain ⟨r,s',h1,h2⟩:=hc;exact .mk (by rw [hz];exact ⟨r,s',h1,h2⟩)
theorem UG {h:FuncId} {args:List AV} {s:St} {K:aE} (hz:mEv.fz h=true) (hs:mEv.se h=[]) (hc:∃ r s',WideC mEv h args s r s'/\aA (pur mEv.P s' 12 r) fun v=>K v.1 (s'.drop v.2)):aL mEv h args s K:=by
 exact .mk (by
  rw [hz,hs,cond_true];show aA (some (args,[])) _;rw [Bnd_some]
  exact hc)
abbrev oX (v:AV):aE:=fun r s'=>∃ ids,pur mEv.P s' 12 r=some (v,ids)
theorem cR {h:FuncId} {args:List AV} {v:AV} (hw:∃ r s',WideC mEv h args St.empty r s'/\oX v r s'):bA mEv h args v:=VB hw
theorem aT {v:AV} {s:St} (h:v.closed=true):oX v v s:=⟨[],dU 12 h⟩
theorem rF {α:Type} {f:α->AV} {z:Nat} (h1:∀ a,(f a).cells.length=z) (h2:∀ a,(f a).cells.all AV.one=true) (l:List α):∀ v∈l.map f,v.cells.length=z/\v.cells.all AV.one=true:=fun v hv=>by obtain ⟨a,_,rfl⟩:=m021.1 hv;exact ⟨h1 a,h2 a⟩
theorem oV {α:Type} (f:α->AV) (l:List α) (h:∀ x∈l,(f x).closed=true):aX (l.map f)=true:=by
 induction l with
 | nil=>rfl
 | cons x l ih=>simp only [m039,aX,h x (m007 ..),ih fun y hy=>h y (m005 _ hy),iR]
theorem HJ {l:List AV} (h:aX l=true):(AV.sl false l).closed=true:=by simp only [AV.closed,m027,m031,h]
theorem gP {α:Type} (f:α->AV) (l:List α) (h:∀ x∈l,(f x).closed=true):(AV.sl false (l.map f)).closed=true:=HJ (oV f l h)
theorem Gw.not_closed (g:Gw e z 0 s x vs):x.closed=false:=by obtain ⟨_,⟨rfl,_⟩ | ⟨_,_,rfl,_⟩⟩:=g<;>rfl
theorem KL (h:eO t e z true b) (g:Gw e z 0 s x vs) (hc:∀ v∈vs,v.closed=true) (ha:∀ v∈vs,v=.agg v.cells) (k:Nat):pur mEv.P s (k+1) x=some (.sl false vs,aF x):=by
 obtain ⟨h1,⟨rfl,rfl⟩ | ⟨i,hi,rfl,hs⟩⟩:=g
 ·rfl
 ·have h2:eP mEv.P e=some (z,true):=h.l;have hp:=gZ (s:=s) k (mI hc);have hfl:=dJ h1;have hnc:(AV.ref i 0 vs.length none e).closed=false:=rfl;unfold pur;rw [hnc,if_neg (by simp)];simp only [hs,h2,hfl,m023,bJ,h.pos,and_self,if_true,m048];rw [show (vs.flatMap AV.cells).take (vs.length * z)=vs.flatMap AV.cells from m014 (by rw [hfl];exact bJ _)];simp only [hp,Option.bind_some,m033,if_true,BK h1 ha,aF]
theorem aQh (h:eO t e 1 false b) (g:Gw e 1 0 s x vs) (hc:∀ v∈vs,v.closed=true) (ha:∀ v∈vs,iG v=true) (k:Nat):pur mEv.P s (k+1) x=some (.sl false vs,aF x):=by
 obtain ⟨h1,⟨rfl,rfl⟩ | ⟨i,hi,rfl,hs⟩⟩:=g
 ·rfl
 ·have h2:eP mEv.P e=some (1,false):=h.l;have hp:=gZ (s:=s) k (mI hc);have hfl:=dJ h1;have hone:vs.flatMap AV.cells=vs:=BD fun v hv=>by have:=ha v hv;cases v<;>first | rfl | cases this
  have hall:vs.all iG=true:=m032.2 ha;rw [hone] at hp;have hnc:(AV.ref i 0 vs.length none e).closed=false:=rfl;unfold pur;rw [hnc,if_neg (by simp)];simp only [hs,h2,hfl,m023,sE,bJ,Nat.lt_one_iff,and_self,if_true,m048,hone];rw [show vs.take vs.length=vs from m045];simp [hp,aF];exact ha
section
variable {α:Type} {f:α->AV} {l:List α}
theorem gQ (h:eO t e z ag b) (he:PB f z) (g:Gw e z 0 s x (l.map f)) (hf:(l.length+1) * b<=2 ^ 40) (hf2:l.length+1<=2 ^ 40) (a:α) (ex:Bool) (id:Nat) :
  bt .append #[t,t] [x,.sl ex [f a]] id s=some (.ref id 0 (l.length+1) none e,(s.drop (aF x)).set id (some (.cells (((l++[a]).map f).flatMap AV.cells) e false true))):=by
 have:=UF h g (he.len a) (he.ones a) (by rw [m002];exact rI hf hf2) ex id;rw [m002] at this;rw [this,m038];rfl
theorem bEe (he:PB f z) {id k n:Nat} {s0:St} (hk:k=l.length):Gw e z 0 (Ai.adv (s0.set id (some (.cells ((l.map f).flatMap AV.cells) e false true))) n) (.ref id 0 k none e) (l.map f):=by refine Gw.here (rF he.len he.ones _) ?_;rw [m002];exact hk
theorem jW (he:PB f z) {a:α} {id n:Nat} {s0:St}:Gw e z 0 (Ai.adv (s0.set id (some (.cells (((l++[a]).map f).flatMap AV.cells) e false true))) n) (.ref id 0 (l.length+1) none e) ((l++[a]).map f) :=
 bEe he (by simp)
theorem IZ (h:eO t e z true b) (g:Gw e z 0 s x (l.map f)) (h1:∀ a∈l,(f a).closed=true) (h2:∀ a∈l,f a=.agg (f a).cells) (k:Nat):∃ ids,pur mEv.P s (k+1) x=some (.sl false (l.map f),ids)/\ids=aF x :=
 ⟨_,KL h g (fun v hv=>by obtain ⟨a,ha,rfl⟩:=m021.1 hv;exact h1 a ha) (fun v hv=>by obtain ⟨a,ha,rfl⟩:=m021.1 hv;exact h2 a ha) k,rfl⟩
theorem qK (h:eO t e 1 false b) (g:Gw e 1 0 s x (l.map f)) (h1:∀ a∈l,(f a).closed=true) (h2:∀ a∈l,iG (f a)=true) (k:Nat):∃ ids,pur mEv.P s (k+1) x=some (.sl false (l.map f),ids)/\ids=aF x :=
 ⟨_,aQh h g (fun v hv=>by obtain ⟨a,ha,rfl⟩:=m021.1 hv;exact h1 a ha) (fun v hv=>by obtain ⟨a,ha,rfl⟩:=m021.1 hv;exact h2 a ha) k,rfl⟩
theorem CC {x v:AV} {ids:List Nat} (h:∃ ids',pur mEv.P s 12 x=some (v,ids')/\ids'=ids):oX v x s:=by obtain ⟨i,h1,_⟩:=h;exact ⟨i,h1⟩
end
theorem JJ (h:eO t e z ag b) {zv:AV} (hz:zero Tryz.ty e=some zv) (n:Nat) (h1:n * b<=2 ^ 40) (h2:n<=2 ^ 40) (k k':IntKind) (id:Nat) (s:St) :
  mkS Tryz.ty t (.int k n) (.int k' n) id s=some (.ref id 0 n (some n) e,s.set id (some (.cells (List.replicate n zv.cells).flatten e true true))):=by
 have hl:zv.cells.length=z:=by have:=h.zr;rw [hz] at this;simpa using this
 have hm:(n:Int) * ((b:Nat):Int)<=(most:Int)/\(n:Int)<=(most:Int):=by have:(most:Nat)=2 ^ 40:=rfl;rw [this];refine ⟨?_,by omega⟩;have:((n * b:Nat):Int)<=((2 ^ 40:Nat):Int):=Int.ofNat_le.2 h1;rw [Int.natCast_mul] at this;exact this
 unfold mkS;simp only [h.u,h.l,h.b,hz,pE];rw [if_pos ⟨by omega,trivial,hm.1,hm.2,hl,h.pos⟩,Int.toNat_natCast]
theorem uN {v:AV} (n:Nat):(List.replicate n [v]).flatten=List.replicate n v:=by
 induction n with
 | zero=>rfl
 | succ n ih=>rw [List.replicate_succ,List.flatten_cons,ih,List.replicate_succ];rfl
theorem AK {α:Type} {f:α->AV} {l:List α} {c:Option Nat} {ex wr:Bool} {e':TypeId} (h:eO t e 1 false b) (hs:s.h id=some (.cells (l.map f) e' ex wr)) (h1:∀ a∈l,(f a).closed=true) (h2:∀ a∈l,iG (f a)=true) (k:Nat):pur mEv.P s (k+1) (.ref id 0 l.length c e)=some (.sl false (l.map f),[id]):=by
 have h3:eP mEv.P e=some (1,false):=h.l;have hp:dH (pur mEv.P s k) (l.map f)=some (l.map f,[]):=gZ (s:=s) k (oV f l h1);have hnc:(AV.ref id 0 l.length c e).closed=false:=rfl;have hall:(l.map f).all iG=true:=m032.2 fun v hv=>by obtain ⟨a,ha,rfl⟩:=m021.1 hv;exact h2 a ha
 have htk:((l.map f).drop 0).take (l.length * 1)=l.map f:=by rw [m048,sE];exact m014 (by simp)
 have e1:pur mEv.P s (k+1) (.ref id 0 l.length c e)=if 0+l.length * 1<=(l.map f).length/\0 < 1 then
      (dH (pur mEv.P s k) (((l.map f).drop 0).take (l.length * 1))).bind fun r=>if false||(Nat.beq 1 1&&r.1.all iG) then some (.sl false (if false then nN 1 l.length r.1 else r.1),id::r.2) else none else none:=by
  conv=>lhs;unfold pur
  rw [hnc,if_neg (by simp)];simp only [hs,h3]
 rw [e1,if_pos ⟨by simp,by decide⟩,htk,hp];simp;exact h2
theorem aIn:∀ (ws c:List AV) (n:Nat),ws.length=n->n<=c.length->bV c 0 ws=ws++c.drop n:=by
 have key:∀ (ws dI c:List AV),ws.length<=c.length->bV (dI++c) dI.length ws=dI++ws++c.drop ws.length:=by
  intro ws
  induction ws with
  | nil=>intro dI c _;simp [bV]
  | cons v l ih =>
   intro dI c h
   match c,h with
   | y::c,h =>
    simp only [bV];have e:(dI++y::c).set dI.length v=(dI++[v])++c:=by simp
    have:=ih (dI++[v]) c (by simpa using h);rw [e];simpa using this
 intro ws c n h1 h2;have:=key ws [] c (by omega);simpa [h1] using this
theorem aVw {α:Type} {f:α->AV} {l:List α} {c:List AV} {cp:Option Nat} {e':TypeId} {ex ex2:Bool} {n k:Nat} (h:eO t e 1 false b) (hf:PB f 1) (hf1:∀ a,(f a).cells=[f a]) (hs:s.h id=some (.cells c e' ex2 true)) (hc:c.length=n) (hn:n<=l.length) :
  bt .copy #[t,t] [.ref id 0 n cp e,.sl ex (l.map f)] k s=some (.int .i64 n,s.set id (some (.cells ((l.take n).map f) e' ex2 true))):=by
 have h1:eH (bX mEv).P t=some (.slice e):=h.u;have h2:eP (bX mEv).P e=some (1,false):=h.l;have hall:(l.map f).all (fun v=>v.cells.length==1)=true:=m032.2 fun v hv=>by obtain ⟨a,_,rfl⟩:=m021.1 hv;simp [hf.len]
 have hflat:(l.map f).flatMap AV.cells=l.map f:=BD fun v hv=>by obtain ⟨a,_,rfl⟩:=m021.1 hv;exact hf1 a
 have hones:((l.map f).take n).all AV.one=true:=by rw [m032];intro v hv;obtain ⟨a,_,rfl⟩:=m021.1 (List.mem_of_mem_take hv);have:=hf.ones a;rw [hf1] at this;simpa using this
 have hsrc:aR 1 (.sl ex (l.map f)) s=some (l.map f):=by simp only [aR,hall,if_true,hflat]
 have hmin:min ((l.map f).length / 1) n=n:=by rw [m002,Nat.div_one];omega
 have hset:bV c 0 ((l.map f).take n)=(l.take n).map f:=by rw [aIn _ c n (by rw [m020,m002];omega) (by omega),m037 (by omega),m011,List.map_take]
 have hcp:pA 1 (.ref id 0 n cp e) (l.map f) s=some (.int .i64 n,s.set id (some (.cells ((l.take n).map f) e' ex2 true))):=by unfold pA;simp only [hs,hmin,sE,m023];rw [if_pos ⟨by omega,hones⟩,hset]
 simp only [bt,bK,List.getElem?_toArray,List.getElem?_cons_zero,Option.bind_some,h1,h2,Nat.one_ne_zero,if_false,hsrc,hcp]
theorem AB {e:TypeId} {i id n:Nat} {c:Option Nat} (h:i < n) (k:IntKind):cB 1 (.ref id 0 n c e) (.int k (i:Int))=some (.ptr id i):=by have:=oF (e:=e) (z:=1) (id:=id) (off:=0) (c:=c) h k;rw [this];simp
theorem bJj {k:Nat} (h:k < 2 ^ 63):IntKind.i64.wrap (k:Int)=(k:Int):=IntWalk.i64_in _ (by omega)
end
theorem aPt:(false==true)=false:=rfl
theorem aLd:(true==false)=false:=rfl
theorem wx:type_of% (And.intro @and_true <| And.intro @true_and <| And.intro @shiftP_ptr <| And.intro @shiftP_pel <| And.intro @Bnd_some <| And.intro @IfP_bool <| And.intro @Gd_some <| And.intro @ld_ptr <| And.intro @ld_pel <| And.intro @adv_h <| And.intro @adv_nx <| And.intro @set_nx <| And.intro @part_one <| And.intro @un_not <| And.intro @wantV_bool <| And.intro @pickV_bool <| And.intro @extr_tup <| And.intro @bin_lss <| And.intro @bin_leq <| And.intro @bin_gtr <| And.intro @bin_geq <| And.intro @bin_eql <| And.intro @bin_neq <| And.intro @bin_seql <| And.intro @bin_sneq <| And.intro @bin_add <| And.intro @bin_sub <| And.intro @m015 <| And.intro @m025 <| And.intro @m027 <| And.intro @Bnd_none <| And.intro @get_set <| And.intro @nx_drop <| And.intro @get_drop' <| And.intro @adv_set <| And.intro @adv_two <| And.intro @adv_drop <| And.intro @set_set <| And.intro @m066 <| And.intro @Nat.add_left_cancel_iff <| And.intro @Nat.left_eq_add <| And.intro @Nat.add_eq_left <| And.intro @Nat.add_zero <| And.intro @wantV_tup <| And.intro @resC_nil <| And.intro @resC_some <| And.intro @retP_some <| And.intro @map_some' <| And.intro @tupV_one <| And.intro @tupV_two <| And.intro @idOf_ref <| And.intro @idOf_nils <| And.intro @idOf_ptr <| And.intro @idOf_sl <| And.intro @idOf_pel <| And.intro @drop_nil <| And.intro @drop_cons <| And.intro @bin_mul <| And.intro @m078 <| And.intro @Bool.or_false <| And.intro @m059 <| And.intro @m071 <| And.intro @m031 <| And.intro @m035 <| And.intro @m033 <| And.intro @m026 <| And.intro aPt aLd):=And.intro @and_true <| And.intro @true_and <| And.intro @shiftP_ptr <| And.intro @shiftP_pel <| And.intro @Bnd_some <| And.intro @IfP_bool <| And.intro @Gd_some <| And.intro @ld_ptr <| And.intro @ld_pel <| And.intro @adv_h <| And.intro @adv_nx <| And.intro @set_nx <| And.intro @part_one <| And.intro @un_not <| And.intro @wantV_bool <| And.intro @pickV_bool <| And.intro @extr_tup <| And.intro @bin_lss <| And.intro @bin_leq <| And.intro @bin_gtr <| And.intro @bin_geq <| And.intro @bin_eql <| And.intro @bin_neq <| And.intro @bin_seql <| And.intro @bin_sneq <| And.intro @bin_add <| And.intro @bin_sub <| And.intro @m015 <| And.intro @m025 <| And.intro @m027 <| And.intro @Bnd_none <| And.intro @get_set <| And.intro @nx_drop <| And.intro @get_drop' <| And.intro @adv_set <| And.intro @adv_two <| And.intro @adv_drop <| And.intro @set_set <| And.intro @m066 <| And.intro @Nat.add_left_cancel_iff <| And.intro @Nat.left_eq_add <| And.intro @Nat.add_eq_left <| And.intro @Nat.add_zero <| And.intro @wantV_tup <| And.intro @resC_nil <| And.intro @resC_some <| And.intro @retP_some <| And.intro @map_some' <| And.intro @tupV_one <| And.intro @tupV_two <| And.intro @idOf_ref <| And.intro @idOf_nils <| And.intro @idOf_ptr <| And.intro @idOf_sl <| And.intro @idOf_pel <| And.intro @drop_nil <| And.intro @drop_cons <| And.intro @bin_mul <| And.intro @m078 <| And.intro @Bool.or_false <| And.intro @m059 <| And.intro @m071 <| And.intro @m031 <| And.intro @m035 <| And.intro @m033 <| And.intro @m026 <| And.intro aPt aLd
end
noncomputable section
theorem bFg (a b:Bool):bn .neq 4 (.bool a) (.bool b)=some (.bool !(a==b)):=by kernel_rfl
theorem sC (x:List UInt8) (id:Nat) (s:St):bt .len #[9] [.str x] id s=some (.int .i64 x.length,s):=by kernel_rfl
theorem ET:eO 22 211 1 false 4:=⟨by kernel_rfl,by kernel_rfl,by kernel_rfl,by kernel_rfl,by decide⟩
theorem yV (ex:Bool) (l:List AV) (id:Nat) (s:St):bt .len #[22] [.sl ex l] id s=some (.int .i64 l.length,s):=by kernel_rfl
theorem bKl:zr 24=some (.agg [.bool false,.nils]):=by kernel_rfl
theorem bFo (l:List (Nat×AV)):lV 24 l=(jD (fun i=>[(0,1),(1,1)][i]?) [.bool false,.nils] l).map .agg:=by kernel_rfl
theorem aRm:eO 25 109 2 true 16:=⟨by kernel_rfl,by kernel_rfl,by kernel_rfl,by kernel_rfl,by decide⟩
theorem bBt (ex:Bool) (l:List AV) (id:Nat) (s:St):bt .len #[25] [.sl ex l] id s=some (.int .i64 l.length,s):=by kernel_rfl
theorem bKb (id:Nat) (s:St):bt .len #[25] [.nils] id s=some (.int .i64 0,s):=by kernel_rfl
theorem bLs (i o n:Nat) (c:Option Nat) (e:TypeId) (id:Nat) (s:St):bt .len #[25] [.ref i o n c e] id s=some (.int .i64 n,s):=by kernel_rfl
theorem bAk {x:AV} {l:List AV} {s:St} (g:Gw 109 2 0 s x l) (id:Nat):bt .len #[25] [x] id s=some (.int .i64 l.length,s):=by
 obtain ⟨_,⟨rfl,rfl⟩ | ⟨i,_,rfl,_⟩⟩:=g
 ·exact bKb id s
 ·exact bLs ..
theorem yE:eO 31 33 6 true 72:=⟨by kernel_rfl,by kernel_rfl,by kernel_rfl,by kernel_rfl,by decide⟩
theorem oZ (ex:Bool) (l:List AV) (id:Nat) (s:St):bt .len #[31] [.sl ex l] id s=some (.int .i64 l.length,s):=by kernel_rfl
theorem VZ (id:Nat) (s:St):bt .len #[31] [.nils] id s=some (.int .i64 0,s):=by kernel_rfl
theorem ME (i o n:Nat) (c:Option Nat) (e:TypeId) (id:Nat) (s:St):bt .len #[31] [.ref i o n c e] id s=some (.int .i64 n,s):=by kernel_rfl
theorem bKw {x:AV} {l:List AV} {s:St} (g:Gw 33 6 0 s x l) (id:Nat):bt .len #[31] [x] id s=some (.int .i64 l.length,s):=by
 obtain ⟨_,⟨rfl,rfl⟩ | ⟨i,_,rfl,_⟩⟩:=g
 ·exact VZ id s
 ·exact ME ..
theorem bFj:zr 33=some (.agg [.bool false,.int .i64 0,.str [],.int .i64 0,.int .i64 0,.nils]):=by kernel_rfl
theorem SL:eO 49 67 10 true 128:=⟨by kernel_rfl,by kernel_rfl,by kernel_rfl,by kernel_rfl,by decide⟩
theorem GW (ex:Bool) (l:List AV) (id:Nat) (s:St):bt .len #[49] [.sl ex l] id s=some (.int .i64 l.length,s):=by kernel_rfl
theorem aGc (id:Nat) (s:St):bt .len #[49] [.nils] id s=some (.int .i64 0,s):=by kernel_rfl
theorem aFh (i o n:Nat) (c:Option Nat) (e:TypeId) (id:Nat) (s:St):bt .len #[49] [.ref i o n c e] id s=some (.int .i64 n,s):=by kernel_rfl
theorem aKi (i o:Nat):bn .eql 51 (.ptr i o) .nilp=some (.bool false):=by kernel_rfl
theorem AZ:eO 52 9 1 false 16:=⟨by kernel_rfl,by kernel_rfl,by kernel_rfl,by kernel_rfl,by decide⟩
theorem bIm (ex:Bool) (l:List AV) (id:Nat) (s:St):bt .len #[52] [.sl ex l] id s=some (.int .i64 l.length,s):=by kernel_rfl
theorem bJu (id:Nat) (s:St):bt .len #[52] [.nils] id s=some (.int .i64 0,s):=by kernel_rfl
theorem aZy (i o n:Nat) (c:Option Nat) (e:TypeId) (id:Nat) (s:St):bt .len #[52] [.ref i o n c e] id s=some (.int .i64 n,s):=by kernel_rfl
theorem bHe {x:AV} {l:List AV} {s:St} (g:Gw 9 1 0 s x l) (id:Nat):bt .len #[52] [x] id s=some (.int .i64 l.length,s):=by
 obtain ⟨_,⟨rfl,rfl⟩ | ⟨i,_,rfl,_⟩⟩:=g
 ·exact bJu id s
 ·exact aZy ..
theorem bHj:eO 56 101 7 true 112:=⟨by kernel_rfl,by kernel_rfl,by kernel_rfl,by kernel_rfl,by decide⟩
theorem bNa (id:Nat) (s:St):bt .len #[56] [.nils] id s=some (.int .i64 0,s):=by kernel_rfl
theorem bNd (i o n:Nat) (c:Option Nat) (e:TypeId) (id:Nat) (s:St):bt .len #[56] [.ref i o n c e] id s=some (.int .i64 n,s):=by kernel_rfl
theorem bFy {x:AV} {l:List AV} {s:St} (g:Gw 101 7 0 s x l) (id:Nat):bt .len #[56] [x] id s=some (.int .i64 l.length,s):=by
 obtain ⟨_,⟨rfl,rfl⟩ | ⟨i,_,rfl,_⟩⟩:=g
 ·exact bNa id s
 ·exact bNd ..
theorem bIo (l:List (Nat×AV)):lV 58 l=(jD (fun i=>[(0,2),(2,1)][i]?) [.nils,.nilm,.nils] l).map .agg:=by kernel_rfl
theorem bNw:eO 65 151 2 true 24:=⟨by kernel_rfl,by kernel_rfl,by kernel_rfl,by kernel_rfl,by decide⟩
theorem yX (ex:Bool) (l:List AV) (id:Nat) (s:St):bt .len #[65] [.sl ex l] id s=some (.int .i64 l.length,s):=by kernel_rfl
theorem bRu:zr 67=some (.agg [.str [],.int .i64 0,.bool false,.nils,.bool false,.int .i64 0,.str [],.int .i64 0,.int .i64 0,.nils]):=by kernel_rfl
theorem bRn (l:List (Nat×AV)):lV 67 l=(jD (fun i=>[(0,1),(1,1),(2,1),(3,1),(4,6)][i]?) [.str [],.int .i64 0,.bool false,.nils,.bool false,.int .i64 0,.str [],.int .i64 0,.int .i64 0,.nils] l).map .agg:=by kernel_rfl
theorem sB:eO 72 3 1 false 8:=⟨by kernel_rfl,by kernel_rfl,by kernel_rfl,by kernel_rfl,by decide⟩
theorem LT (ex:Bool) (l:List AV) (id:Nat) (s:St):bt .len #[72] [.sl ex l] id s=some (.int .i64 l.length,s):=by kernel_rfl
theorem aZa (id:Nat) (s:St):bt .len #[72] [.nils] id s=some (.int .i64 0,s):=by kernel_rfl
theorem bMm (i o n:Nat) (c:Option Nat) (e:TypeId) (id:Nat) (s:St):bt .len #[72] [.ref i o n c e] id s=some (.int .i64 n,s):=by kernel_rfl
theorem lA (i o:Nat):bn .eql 81 (.ptr i o) .nilp=some (.bool false):=by kernel_rfl
theorem bDb:bn .eql 86 .nilm .nilm=some (.bool true):=by kernel_rfl
theorem bFf (i:Nat):bn .eql 86 (.map i) .nilm=some (.bool false):=by kernel_rfl
theorem bRd (l:List (Nat×AV)):lV 88 l=(jD (fun i=>[(0,2),(2,2),(4,1)][i]?) [.nils,.nils,.nils,.nils,.nilm] l).map .agg:=by kernel_rfl
theorem IF:zr 101=some (.agg [.int .i64 0,.int .i64 0,.nils,.str [],.bool false,.nils,.nils]):=by kernel_rfl
theorem MG (l:List (Nat×AV)):lV 101 l=(jD (fun i=>[(0,1),(1,1),(2,1),(3,1),(4,2),(6,1)][i]?) [.int .i64 0,.int .i64 0,.nils,.str [],.bool false,.nils,.nils] l).map .agg:=by kernel_rfl
theorem aZi:zr 109=some (.agg [.int .i64 0,.int .i64 0]):=by kernel_rfl
theorem bFu (l:List (Nat×AV)):lV 109 l=(jD (fun i=>[(0,1),(1,1)][i]?) [.int .i64 0,.int .i64 0] l).map .agg:=by kernel_rfl
theorem PC:eO 122 254 2 true 48:=⟨by kernel_rfl,by kernel_rfl,by kernel_rfl,by kernel_rfl,by decide⟩
theorem bFl (ex:Bool) (l:List AV) (id:Nat) (s:St):bt .len #[122] [.sl ex l] id s=some (.int .i64 l.length,s):=by kernel_rfl
theorem bEq (id:Nat) (s:St):bt .len #[122] [.nils] id s=some (.int .i64 0,s):=by kernel_rfl
theorem bDa (i o n:Nat) (c:Option Nat) (e:TypeId) (id:Nat) (s:St):bt .len #[122] [.ref i o n c e] id s=some (.int .i64 n,s):=by kernel_rfl
theorem aXq (l:List (Nat×AV)):lV 124 l=(jD (fun i=>[(0,1),(1,1),(2,1),(3,1)][i]?) [.nilp,.nils,.nils,.nilm] l).map .agg:=by kernel_rfl
theorem aHj:zr 151=some (.agg [.str [],.int .i64 0]):=by kernel_rfl
theorem AA (i o:Nat):bn .eql 153 (.ptr i o) .nilp=some (.bool false):=by kernel_rfl
theorem aTs (c:List AV) (o:Nat):bn .eql 153 (.pel c o) .nilp=some (.bool false):=by kernel_rfl
theorem WN (i o:Nat):bn .neq 153 (.ptr i o) .nilp=some (.bool true):=by kernel_rfl
theorem JP (i o:Nat):bn .eql 155 (.ptr i o) .nilp=some (.bool false):=by kernel_rfl
theorem aSp (c:List AV) (o:Nat):bn .eql 155 (.pel c o) .nilp=some (.bool false):=by kernel_rfl
theorem VG (i o:Nat):bn .neq 155 (.ptr i o) .nilp=some (.bool true):=by kernel_rfl
theorem aGi (ex:Bool) (l:List AV) (id:Nat) (s:St):bt .len #[161] [.sl ex l] id s=some (.int .i64 l.length,s):=by kernel_rfl
theorem aXu:zr 163=some (.agg [.nilp,.nils]):=by kernel_rfl
theorem bLx (l:List (Nat×AV)):lV 163 l=(jD (fun i=>[(0,1),(1,1)][i]?) [.nilp,.nils] l).map .agg:=by kernel_rfl
theorem bMk:zr 192=some (.agg [.int .i64 0,.bool false,.int .i64 0,.int .i64 0,.int .i64 0,.int .i64 0]):=by kernel_rfl
theorem UZ:zr 211=some (.int .u32 0):=by kernel_rfl
theorem bGn:zr 223=some (.agg [.int .u8 0,.int .u8 0,.int .u8 0,.int .u8 0,.int .u8 0,.int .u8 0,.int .u8 0,.int .u8 0,.int .u8 0]):=by kernel_rfl
theorem aGp:zr 254=some (.agg [.nils,.nils]):=by kernel_rfl
theorem bHr (l:List (Nat×AV)):lV 254 l=(jD (fun i=>[(0,1),(1,1)][i]?) [.nils,.nils] l).map .agg:=by kernel_rfl
theorem bIn (k:IntKind) (n:Int) (s:St):cv 5 3 (.int k n) s=some (.int .i64 (IntKind.wrap .i64 n)):=by kernel_rfl
theorem aUg (k:IntKind) (n:Int) (s:St):cv 5 211 (.int k n) s=some (.int .u32 (IntKind.wrap .u32 n)):=by kernel_rfl
theorem AQ (x:List UInt8) (s:St):cv 9 161 (.str x) s=some (.sl false (x.map fun c=>.int .u8 c.toNat)):=by kernel_rfl
theorem aUo (k:IntKind) (n:Int) (s:St):cv 159 5 (.int k n) s=some (.int .u8 (IntKind.wrap .u8 n)):=by kernel_rfl
theorem rU (k:IntKind) (n:Int) (s:St):cv 159 211 (.int k n) s=some (.int .u32 (IntKind.wrap .u32 n)):=by kernel_rfl
theorem xK (k:IntKind) (n:Int) (s:St):cv 211 159 (.int k n) s=some (.int .u64 (IntKind.wrap .u64 n)):=by kernel_rfl
end
noncomputable section
section
variable {x y:List UInt8} {s:St} {i j n:Nat}
def EZ (c:UInt8):AV:=.int .u8 c.toNat
theorem aTt:eH Tryz.ty 9=some .string:=by kernel_rfl
theorem rJ (k:IntKind) {c:UInt8} (h:x[i]?=some c):OJ 9 (.str x) (.int k (i:Int))=some (.int .u8 c.toNat):=by obtain ⟨hi,rfl⟩:=m012.1 h;simp [OJ,xD,pE,aTt,wR,hi]
theorem aGy (k:IntKind) (h:n<=x.length):lT 9 (.str x) none (some (.int k (n:Int))) none s=some (.str (x.take n)):=by simp [lT,gA,aTt,eF,rZ,pE,h]
theorem JI (k:IntKind) (h:n<=x.length):lT 9 (.str x) (some (.int k (n:Int))) none none s=some (.str (x.drop n)):=by simp [lT,gA,aTt,eF,rZ,pE,h];exact m014 (by simp)
theorem aMf {t:TypeId} (h:x.length+y.length<=KT):lK (T:=Tryz.ty) Tryz.eqOk .add t (.str x) (.str y)=some (.str (x++y)):=by simp [lK,KF,h]
theorem gR {t:TypeId} (h:x.length+y.length<=2 ^ 46):bn .add t (.str x) (.str y)=some (.str (x++y)):=aMf h
theorem bCc:eH Tryz.ty 161=some (.slice 5):=by kernel_rfl
theorem bQb:eH Tryz.ty 5=some (.int .u8):=by kernel_rfl
theorem bNm:PB EZ 1:=⟨fun _=>rfl,fun _=>rfl⟩
theorem aVm (bs:List UInt8):fH (bs.map EZ)=some (bs.map fun c=>(c.toNat:Int)):=by
 induction bs with
 | nil=>rfl
 | cons c l ih =>simp only [m039,fH,ih];rfl
theorem aHa (bs:List UInt8):(bs.map fun c=>(c.toNat:Int)).map (fun n=>UInt8.ofNat n.toNat)=bs:=by
 induction bs with
 | nil=>rfl
 | cons c l ih=>simp only [m039,ih,Int.toNat_natCast,UInt8.ofNat_toNat]
theorem aVv {dI bs post:List UInt8} {id off n:Nat} {cp:Option Nat} {e e':TypeId} {ex wr:Bool} (hs:s.h id=some (.cells ((dI++bs++post).map EZ) e' ex wr)) (ho:dI.length=off) (hn:bs.length=n):cv 161 9 (.ref id off n cp e) s=some (.str bs):=by
 have h1:((((dI++bs++post).map EZ).drop off).take n)=bs.map EZ:=by rw [<- List.map_drop,<- List.map_take,m019,<- ho,List.drop_left,<- hn,List.take_left]
 have h2:off+n<=((dI++bs++post).map EZ).length:=by simp;omega
 simp only [cv,mH,bCc,aTt,bQb,hs];rw [if_pos h2,h1,aVm];simp only [Option.map_some,aHa]
theorem mV {f:FuncId} {g:List AV->St->Option (AV×St)} {args:List AV} {s':St} {r:AV} (h:mEv.prim f=some g) (hg:g args s=some (r,s')):WideC mEv f args s r s':=⟨1,by rw [tE,h];exact hg⟩
end
end
noncomputable section
def IG (c:UInt8):AV:=.int .u8 c.toNat
theorem bAx:eO 161 5 1 false 1:=⟨by kernel_rfl,by kernel_rfl,by kernel_rfl,by kernel_rfl,by decide⟩
theorem bEd:bn .eql 160 .nilp .nilp=some (.bool true):=by kernel_rfl
theorem bFc (i:Nat):bn .eql 160 (.ptr i 0) .nilp=some (.bool false):=by kernel_rfl
theorem bLn (i:Nat):bn .neq 160 (.ptr i 0) (.ptr i 0)=some (.bool false):=by
 have h1:eH Tryz.ty 160=some (.pointer 163):=by kernel_rfl
 have h2:eP Tryz.ty 163=some (2,true):=by kernel_rfl
 simp [bn,lK,dR,h1,oY,h2]
theorem cv1 {i:Nat} {s:St} {a x:AV} (hs:s.h i=some (.cells [a,x] 163 true true)):cv 160 288 (.ptr i 0) s=some (.ptr i 0):=by
 have h1:eH Tryz.ty 160=some (.pointer 163):=by kernel_rfl
 have h2:eH Tryz.ty 288=some .unsafePointer:=by kernel_rfl
 have h3:eP Tryz.ty 163=some (2,true):=by kernel_rfl
 simp [cv,mH,h1,h2,h3,hs]
theorem cv2 {i:Nat} {s:St} {a x:AV} (hs:s.h i=some (.cells [a,x] 163 true true)):cv 288 160 (.ptr i 0) s=some (.ptr i 0):=by
 have h1:eH Tryz.ty 160=some (.pointer 163):=by kernel_rfl
 have h2:eH Tryz.ty 288=some .unsafePointer:=by kernel_rfl
 have h3:eP Tryz.ty 163=some (2,true):=by kernel_rfl
 simp [cv,mH,h1,h2,h3,hs]
theorem aTg (i:Nat) (s:St):WideC mEv 232 [.ptr i 0] s (.ptr i 0) s:=⟨1,by kernel_rfl⟩
theorem OB {id off:Nat} {v:AV} {c:List AV} {e:TypeId} {ex:Bool} {s:St} (h:s.h id=some (.cells c e ex true)) (ho:off < c.length) (hv:v.cells=[v]) (hone:v.one=true):dN 1 (.ptr id off) v s=some (s.set id (some (.cells (c.set off v) e ex true))):=by show Ai.store 1 (.ptr id off) v s=_;unfold Ai.store;simp only [h];rw [if_pos ⟨by rw [hv];rfl,by omega,by rw [hv];simp [hone]⟩,hv];rfl
theorem JR {h:FuncId} {args:List AV} {s:St} {K:aE} (hz:mEv.fz h=false) (hc:∃ r s',WideC mEv h args s r s'/\K r s'):aL mEv h args s K:=by obtain ⟨r,s',h1,h2⟩:=hc;exact .mk (by rw [hz];exact ⟨r,s',h1,h2⟩)
theorem bKz:mEv.fz 202=false:=by kernel_rfl
theorem bHx:mEv.fz 232=false:=by kernel_rfl
theorem aZp:mEv.fz 156=false:=by kernel_rfl
theorem bGw:mEv.fz 108=false:=by kernel_rfl
theorem aRx (x:AV) (bs:List UInt8) (id:Nat) (s:St):bt .append #[161,9] [x,.str bs] id s=bL 5 1 1 x (bs.map IG) id s:=by
 have h1:eH (bX mEv).P 161=some (.slice 5):=by kernel_rfl
 have h2:eP (bX mEv).P 5=some (1,false):=by kernel_rfl
 have h3:dO (bX mEv).P 5=some 1:=by kernel_rfl
 have h5:eH (bX mEv).P 9=some .string:=by kernel_rfl
 have h4:(zero (bX mEv).P 5).map (fun v=>v.cells.length)=some 1:=by kernel_rfl
 cases hz:zero (bX mEv).P 5 with
 | none=>rw [hz] at h4;cases h4
 | some zv =>rw [hz] at h4;simp only [Option.map_some,m000] at h4;simp [bK,h1,h2,h3,h5,hz,h4,aR];rfl
section
variable {lo id:Nat} {s:St} {bs:List UInt8} {K:aE}
theorem bCx (x:List UInt8) (id:Nat) (s:St):bt .len #[9] [.str x] id s=some (.int .i64 x.length,s):=by kernel_rfl
theorem u8s (bs:List UInt8):fH (bs.map IG)=some (bs.map fun c=>(c.toNat:Int)):=by
 induction bs with
 | nil=>rfl
 | cons c l ih =>simp only [m039,fH,ih];rfl
theorem bDd (bs:List UInt8):(bs.map fun c=>(c.toNat:Int)).map (fun n=>UInt8.ofNat n.toNat)=bs:=by
 induction bs with
 | nil=>rfl
 | cons c l ih=>simp only [m039,ih,Int.toNat_natCast,UInt8.ofNat_toNat]
end
end
noncomputable section
mutual
theorem BI {p:Sx->Prop} (h:∀ l k x p' a items,(∀ s∈items,p s)->p (.mk l k x p' a items)):(s:Sx)->p s
 | .mk l k x p' a items=>h l k x p' a items (UH h items)
theorem UH {p:Sx->Prop} (h:∀ l k x p' a items,(∀ s∈items,p s)->p (.mk l k x p' a items)):(l:List Sx)->∀ s∈l,p s
 | []=>fun _ h=>nomatch h
 | s::l=>fun t ht=>(m013.1 ht).elim (fun e=>e ▸ BI h s) (UH h l t)
end
mutual
theorem aS:(s:Sx)->s.av.closed=true
 | .mk l k x p a items=>by simp only [Sx.av,AV.closed,aX,BV items,m027,iR]
theorem BV:(l:List Sx)->aX (Sx.avs l)=true
 | []=>rfl
 | s::l=>by simp only [Sx.avs,aX,aS s,BV l,iR]
end
theorem cI (s:Sx):s.av.cells.all AV.one=true:=by cases s;rfl
theorem iA (s:Sx):s.av.cells.length=6:=by cases s;rfl
theorem eV (l k x p a items):(Sx.mk l k x p a items).av.cells=[.bool l,.int .i64 k,.str x,.int .i64 p,.int .i64 a,.sl false (Sx.avs items)]:=rfl
theorem dG (s:Sx):Ai.part 6 true 0 s.av.cells=some s.av:=by cases s;rfl
theorem aTv {l:List Sx} (h:Sx.oks l=true):∀ s∈l,s.ok=true:=by
 induction l with
 | nil=>intro s hs;cases hs
 | cons a l ih =>
  simp only [Sx.oks,cQ] at h;intro s hs;rcases m013.1 hs with rfl | hs
  ·exact h.1
  ·exact ih h.2 s hs
theorem BM {l k x p a items} (h:(Sx.mk l k x p a items).ok=true):items.length<=maxLen/\∀ s∈items,s.ok=true:=by simp only [Sx.ok,cQ,decide_eq_true_eq] at h;exact ⟨h.1.2,aTv h.2⟩
theorem FQ (ex:Bool) (l:List AV) (id:Nat) (s:St):bt .len #[31] [.sl ex l] id s=some (.int .i64 l.length,s):=by kernel_rfl
theorem eN (l:List Sx):(Sx.avs l).length=l.length:=by rw [Sx.avs_eq,m002]
theorem JN (ex:Bool) (l:List Sx) (i:Nat) (s:Sx) (h:l[i]?=some s):cB 6 (.sl ex (Sx.avs l)) (.int .i64 (i:Int))=some (.pel s.av.cells 0):=by obtain ⟨hi,rfl⟩:=m012.1 h;rw [Sx.avs_eq];simp [cB,pE,wR,hi,iA]
theorem bU (i n:Nat) (h:i < n) (hn:n<=maxLen):IntKind.i64.wrap ((i:Int)+1)=((i+1:Nat):Int):=by have:maxLen=9223372036854775807:=rfl;rw [IntWalk.i64_in _ (by omega)];rfl
theorem bZ {α:Type} (l:List α) (i:Nat) (y:α) (h:l[i]?=some y):l.drop i=y::l.drop (i+1):=by obtain ⟨h',e⟩:=m012.1 h;rw [<- e];exact List.drop_eq_getElem_cons h'
mutual
def Sx.size:Sx->Int
 | .mk _ _ _ _ _ items=>Sx.sizes items 1
def Sx.sizes:List Sx->Int->Int
 | [],n=>n
 | s::l,n=>cond (decide (n<=5000)) (Sx.sizes l (IntKind.i64.wrap (n+s.size))) n
end
theorem l33 (s0:Sx) (items:List Sx) (hlen:items.length<=maxLen) (hc:∃ l k x p a,s0=.mk l k x p a items) (ih:∀ s∈items,bA mEv 33 [s.av] (.int .i64 s.size)) (b:Nat) (e:TypeId) (Q:aE) (r:Int) (hQ:∀ s,Q (.int .i64 r) s) :
  ∀ (m i:Nat) (n:Int) (s:St),i+m=items.length->s.h b=some (.cells s0.av.cells e true true)->r=Sx.sizes (items.drop i) n->∃ f,uF Q f (.ptr b 0) (.int .i64 n) (.int .i64 i) s:=by
 obtain ⟨l,k,x,p,a,rfl⟩:=hc;intro m
 induction m with
 | zero =>intro i n s hi hs hr;refine ⟨1,?_⟩;show sZ Q (uF Q 0) _ _ _ s;rw [m044 (by omega)] at hr;have hr:r=n:=hr;subst hr;simp only [sZ,GI,hs,eV,FQ,eN,nA,show ¬ (i < items.length) by omega,decide_false,wz,wy,reduceAdd];exact hQ _
 | succ m ihm =>
  intro i n s hi hs hr;obtain ⟨y,hy⟩:∃ y,items[i]?=some y:=⟨_,m004 (by omega)⟩;rw [bZ items i y hy] at hr;have hix:=fun ex=>JN ex items i y hy;have hlt:i < items.length:=by omega
  cases hn:decide (n<=5000) with
  | false =>
   have hr:r=n:=by rw [hr,Sx.sizes,hn];rfl
   subst hr;refine ⟨1,?_⟩;show sZ Q (uF Q 0) _ _ _ s;simp only [sZ,GI,hs,eV,FQ,eN,nA,hlt,decide_true,hn,wz,wy,reduceAdd];exact hQ _
  | true =>
   have hr:r=Sx.sizes (items.drop (i+1)) (IntKind.i64.wrap (n+y.size)):=by rw [hr,Sx.sizes,hn];rfl
   have hgo:=fun s' h=>ihm (i+1) _ s' (by omega) h hr;have hmem:y∈items:=m017 hy;obtain ⟨f,hf⟩:=hgo (adv (adv (adv s 9) 9) 3) hs;refine ⟨f+1,?_⟩;show sZ Q (uF Q f) _ _ _ s;simp only [sZ,aFc,hs,eV,FQ,eN,nA,hlt,decide_true,hn,hix,dG,wz,wy,reduceAdd];refine aP (ih y hmem) (by simp [aS]) ?_;simp only [wz,wy,reduceAdd];rw [bU i _ hlt hlen];exact hf
theorem IP:∀ s:Sx,s.ok=true->bA mEv 33 [s.av] (.int .i64 s.size):=by refine BI fun l k x p a items ih ho=>?_;obtain ⟨h1,h2⟩:=BM ho;refine aZ rfl (aVz _ _ ?_);refine ⟨cI _,?_⟩;exact l33 (.mk l k x p a items) items h1 ⟨l,k,x,p,a,rfl⟩ (fun s hs=>ih s hs (h2 s hs)) _ 33 _ _ (fun _=>rfl) items.length 0 1 _ (by omega) (by simp only [adv_h,set_h,beq_self',cond_true]) rfl
mutual
def Sx.dep:Sx->Int->Int
 | .mk l _ _ _ _ items,most=>cond (!l||most==0) 0 (IntKind.i64.wrap (Sx.deps items most 0+1))
def Sx.deps:List Sx->Int->Int->Int
 | [],_,n=>n
 | s::l,most,n=>Sx.deps l most (cond (decide (s.dep (IntKind.i64.wrap (most - 1)) > n)) (s.dep (IntKind.i64.wrap (most - 1))) n)
end
theorem bNo (s0:Sx) (items:List Sx) (most:Int) (hlen:items.length<=maxLen) (hc:∃ l k x p a,s0=.mk l k x p a items) (ih:∀ s∈items,bA mEv 125 [s.av,.int .i64 (IntKind.i64.wrap (most - 1))] (.int .i64 (s.dep (IntKind.i64.wrap (most - 1))))) (b:Nat) (e:TypeId) (Q:aE) (r:Int) (hQ:∀ s,Q (.int .i64 (IntKind.i64.wrap (r+1))) s) :
  ∀ (m i:Nat) (n:Int) (s:St),i+m=items.length->s.h b=some (.cells s0.av.cells e true true)->r=Sx.deps (items.drop i) most n->∃ f,oG Q f (.int .i64 most) (.ptr b 0) (.int .i64 n) (.int .i64 i) s:=by
 obtain ⟨l,k,x,p,a,rfl⟩:=hc;intro m
 induction m with
 | zero =>intro i n s hi hs hr;refine ⟨1,?_⟩;show oC Q (oG Q 0) _ _ _ _ s;rw [m044 (by omega)] at hr;have hr:r=n:=hr;subst hr;simp only [oC,EC,hs,eV,FQ,eN,nA,show ¬ (i < items.length) by omega,decide_false,wz,wy,reduceAdd];exact hQ _
 | succ m ihm =>
  intro i n s hi hs hr;obtain ⟨y,hy⟩:∃ y,items[i]?=some y:=⟨_,m004 (by omega)⟩;rw [bZ items i y hy] at hr;have hix:=fun ex=>JN ex items i y hy;have hlt:i < items.length:=by omega
  have hmem:y∈items:=m017 hy
  cases hn:decide (y.dep (IntKind.i64.wrap (most - 1)) > n) with
  | false =>
   have hr:r=Sx.deps (items.drop (i+1)) most n:=by rw [hr,Sx.deps,hn];rfl
   obtain ⟨f,hf⟩:=ihm (i+1) n (adv (adv (adv (adv s 5) 9) 3) 3) (by omega) hs hr;refine ⟨f+1,?_⟩;show oC Q (oG Q f) _ _ _ _ s;simp only [oC,CQ,hs,eV,FQ,eN,nA,hlt,decide_true,hix,dG,wz,wy,reduceAdd];refine aP (ih y hmem) (by simp [aS,AV.closed]) ?_;simp only [hn,wz,wy,reduceAdd];rw [bU i _ hlt hlen];exact hf
  | true =>
   have hr:r=Sx.deps (items.drop (i+1)) most (y.dep (IntKind.i64.wrap (most - 1))):=by rw [hr,Sx.deps,hn];rfl
   obtain ⟨f,hf⟩:=ihm (i+1) _ (adv (adv (adv (adv s 5) 9) 5) 3) (by omega) hs hr;refine ⟨f+1,?_⟩;show oC Q (oG Q f) _ _ _ _ s;simp only [oC,CQ,hs,eV,FQ,eN,nA,hlt,decide_true,hix,dG,wz,wy,reduceAdd];refine aP (ih y hmem) (by simp [aS,AV.closed]) ?_;simp only [hn,wz,wy,reduceAdd];rw [bU i _ hlt hlen];exact hf
theorem bLr:∀ s:Sx,s.ok=true->∀ most,bA mEv 125 [s.av,.int .i64 most] (.int .i64 (s.dep most)):=by
 refine BI fun l k x p a items ih ho most=>?_;obtain ⟨h1,h2⟩:=BM ho;refine aZ rfl (aFy _ _ _ ?_);refine ⟨cI _,?_⟩;rw [Sx.dep]
 cases l with
 | false=>simp only [eV,wz,wy,reduceAdd,m033]
 | true =>
  simp only [eV,wz,wy,reduceAdd,m026]
  cases hm:(most==0) with
  | true=>simp only [wz,wy,reduceAdd]
  | false =>simp only [wz,wy,reduceAdd];exact bNo (.mk true k x p a items) items most h1 ⟨true,k,x,p,a,rfl⟩ (fun s hs=>ih s hs (h2 s hs) _) _ 33 _ _ (fun _=>rfl) items.length 0 0 _ (by omega) (by simp only [adv_h,set_h,beq_self',cond_true,eV]) rfl
def Sx.depth (s:Sx):Int:=s.dep 65
theorem JF (s:Sx) (h:s.ok=true):bA mEv 74 [s.av] (.int .i64 s.depth):=by refine aZ rfl (aVp _ _ ?_);refine ⟨cI _,?_⟩;simp only [dG,wz,wy,reduceAdd];exact aP (bLr s h 65) (by simp [aS,AV.closed]) rfl
end
noncomputable section
def kQ (r:Int×Int):AV:=.agg [.int .i64 r.1,.int .i64 r.2]
def dT (n:Int):AV:=.int .i64 n
def NW (c:Int):Bool:=decide (c >= 0)&&decide (c<=196607)
theorem bRo (c:Int):bA mEv 181 [.int .i64 c] (.bool (NW c)):=by
 refine aZ rfl (aKe _ _ ?_);unfold f181 NW
 cases h:decide (c >= 0) with
 | false=>simp only [h,wz,wy,reduceAdd];rfl
 | true =>simp only [h,wz,wy,reduceAdd];rfl
theorem VW (d:Int×Int):Ai.part 2 true 0 (kQ d).cells=some (kQ d):=rfl
theorem rn0 (d:Int×Int):(kQ d).cells[0]?=some (AV.int .i64 d.1):=rfl
theorem rn1 (d:Int×Int):(kQ d).cells[1]?=some (AV.int .i64 d.2):=rfl
end
noncomputable section
structure Dc:Type where
 nm:List UInt8
 so:Int
 mac:Bool
 ps:List (List UInt8×Int)
 body:Sx
def iQ (p:List UInt8×Int):AV:=.agg [.str p.1,.int .i64 p.2]
def Dc.av (d:Dc):AV:=.agg (.str d.nm::.int .i64 d.so::.bool d.mac::.sl false (d.ps.map iQ)::d.body.av.cells)
def Dc.ok (d:Dc):Bool:=decide (d.nm.length<=maxLen)&&oW d.so&&decide (d.ps.length<=maxLen)&&d.body.ok
theorem aGw (d:Dc):d.av.cells=.str d.nm::.int .i64 d.so::.bool d.mac::.sl false (d.ps.map iQ)::d.body.av.cells:=rfl
theorem dc0 (d:Dc):d.av.cells[0]?=some (AV.str d.nm):=rfl
theorem dc1 (d:Dc):d.av.cells[1]?=some (AV.int .i64 d.so):=rfl
theorem VL (d:Dc):d.av.cells[2]?=some (AV.bool d.mac):=rfl
theorem QC (d:Dc):d.av.cells[3]?=some (AV.sl false (d.ps.map iQ)):=rfl
theorem iY (d:Dc):Ai.part 6 true 4 d.av.cells=some d.body.av:=by obtain ⟨a,b,c,e,f⟩:=d;cases f;rfl
theorem iX (d:Dc):Ai.part 10 true 0 d.av.cells=some d.av:=by obtain ⟨a,b,c,e,f⟩:=d;cases f;rfl
theorem fD (d:Dc):d.av.cells.length=10:=by obtain ⟨a,b,c,e,f⟩:=d;cases f;rfl
theorem eK {α:Type} (f:α->AV) (l:List α) (h:∀ x,(f x).closed=true):aX (l.map f)=true:=by
 induction l with
 | nil=>rfl
 | cons x l ih=>simp only [m039,aX,h,ih,iR]
theorem eJ (d:Dc):d.av.closed=true:=by have h1:aX (d.ps.map iQ)=true:=eK _ _ fun p=>rfl;have h2:=jZ (aS d.body);simp only [Dc.av,AV.closed,aX,h1,h2,m027,iR]
theorem dP (d:Dc):d.av.cells.all AV.one=true:=by have:=cI d.body;rw [aGw];simp only [List.all_cons,this,m059];rfl
theorem MY (ex:Bool) (l:List AV) (id:Nat) (s:St):bt .len #[49] [.sl ex l] id s=some (.int .i64 l.length,s):=by kernel_rfl
theorem NB (ex:Bool) (l:List AV) (id:Nat) (s:St):bt .len #[65] [.sl ex l] id s=some (.int .i64 l.length,s):=by kernel_rfl
theorem bCa (ex:Bool) (l:List Dc) (i:Nat) (d:Dc) (h:l[i]?=some d):cB 10 (.sl ex (l.map Dc.av)) (.int .i64 (i:Int))=some (.pel d.av.cells 0):=by obtain ⟨hi,rfl⟩:=m012.1 h;simp [cB,pE,wR,hi,fD]
def aOa:List Dc->Int->Int->Bool
 | [],_,_=>true
 | d::l,n,f=>cond (decide ((d.ps.length:Int) > 3)||(decide (d.body.depth > 64)||(decide (IntKind.i64.wrap (n+d.body.size) > 600)||decide (cond d.mac (IntKind.i64.wrap (f+1)) f > 8)))) false
   (aOa l (IntKind.i64.wrap (n+d.body.size)) (cond d.mac (IntKind.i64.wrap (f+1)) f))
def yO (l:List Dc) (x:Sx):Bool:=cond (decide ((l.length:Int) > 60)||(decide (x.size > 600)||decide (x.depth > 64))) false (aOa l 0 0)
theorem l29 (ex:Bool) (l:List Dc) (hlen:l.length<=maxLen) (hok:∀ d∈l,d.ok=true) (Q:aE) (r:Bool) (hQ:∀ s,Q (.bool r) s) :
  ∀ (m i:Nat) (n f:Int) (s:St),i+m=l.length->r=aOa (l.drop i) n f->∃ g,nW Q g (.sl ex (l.map Dc.av)) (.int .i64 n) (.int .i64 f) (.int .i64 i) s:=by
 intro m
 induction m with
 | zero =>intro i n f s hi hr;refine ⟨1,?_⟩;show tW Q (nW Q 0) _ _ _ _ s;rw [m044 (by omega)] at hr;have hr:r=true:=hr;subst hr;simp only [tW,GY,MY,m002,nA,show ¬ (i < l.length) by omega,decide_false,wz,wy,reduceAdd];exact hQ _
 | succ m ihm =>
  intro i n f s hi hr;obtain ⟨d,hd⟩:∃ d,l[i]?=some d:=⟨_,m004 (by omega)⟩;rw [bZ l i d hd] at hr;have hix:=bCa ex l i d hd;have hlt:i < l.length:=by omega
  have hmem:d∈l:=m017 hd;have hdo:d.body.ok=true:=by have:=hok d hmem;simp only [Dc.ok,cQ] at this;exact this.2
  have hsz:=IP d.body hdo;have hdp:=JF d.body hdo;generalize hn':IntKind.i64.wrap (n+d.body.size)=n' at hr;generalize hf':cond d.mac (IntKind.i64.wrap (f+1)) f=f' at hr
  have key:∀ s,(∃ g,wC Q (nW Q g) (.sl ex (l.map Dc.av)) (.int .i64 i) (.int .i64 n') (.int .i64 f') s):=by
   intro s;rw [aOa,hn',hf'] at hr
   cases h1:decide ((d.ps.length:Int) > 3) with
   | true =>refine ⟨0,?_⟩;rw [h1] at hr;have hr:r=false:=hr;subst hr;simp only [wC,hix,dc0,dc1,VL,QC,NB,m002,h1,wz,wy,reduceAdd];exact hQ _
   | false =>
    cases h2:decide (d.body.depth > 64) with
    | true =>refine ⟨0,?_⟩;rw [h1,h2] at hr;have hr:r=false:=hr;subst hr;simp only [wC,hix,dc0,dc1,VL,QC,NB,m002,h1,iY,wz,wy,reduceAdd];refine aP hdp (by simp [aS]) ?_;simp only [h2,wz,wy,reduceAdd];exact hQ _
    | false =>
     cases h3:decide (n' > 600) with
     | true =>refine ⟨0,?_⟩;rw [h1,h2,h3] at hr;have hr:r=false:=hr;subst hr;simp only [wC,hix,dc0,dc1,VL,QC,NB,m002,h1,iY,wz,wy,reduceAdd];refine aP hdp (by simp [aS]) ?_;simp only [h2,h3,wz,wy,reduceAdd];exact hQ _
     | false =>
      cases h4:decide (f' > 8) with
      | true =>refine ⟨0,?_⟩;rw [h1,h2,h3,h4] at hr;have hr:r=false:=hr;subst hr;simp only [wC,hix,dc0,dc1,VL,QC,NB,m002,h1,iY,wz,wy,reduceAdd];refine aP hdp (by simp [aS]) ?_;simp only [h2,h3,h4,wz,wy,reduceAdd];exact hQ _
      | false =>rw [h1,h2,h3,h4] at hr;have hr:r=aOa (l.drop (i+1)) n' f':=hr;obtain ⟨g,hg⟩:=ihm (i+1) n' f' (adv (adv s 24) 3) (by omega) hr;refine ⟨g,?_⟩;simp only [wC,NG,hix,dc0,dc1,VL,QC,NB,m002,h1,iY,wz,wy,reduceAdd];refine aP hdp (by simp [aS]) ?_;simp only [h2,h3,h4,wz,wy,reduceAdd];rw [bU i _ hlt hlen];exact hg
  cases hm:d.mac with
  | true =>obtain ⟨g,hg⟩:=key (adv (adv (adv (adv s 4) 9) 5) 3);rw [hm] at hf';refine ⟨g+1,?_⟩;show tW Q (nW Q g) _ _ _ _ s;simp only [tW,MY,m002,nA,hlt,decide_true,hix,VL,hm,iY,wz,wy,reduceAdd];refine aP hsz (by simp [aS]) ?_;have hf':IntKind.i64.wrap (f+1)=f':=hf';simp only [hix,VL,hm,hn',hf',wz,wy,reduceAdd];exact hg
  | false =>obtain ⟨g,hg⟩:=key (adv (adv (adv s 4) 9) 5);rw [hm] at hf';refine ⟨g+1,?_⟩;show tW Q (nW Q g) _ _ _ _ s;simp only [tW,MY,m002,nA,hlt,decide_true,hix,VL,hm,iY,wz,wy,reduceAdd];refine aP hsz (by simp [aS]) ?_;have hf':f=f':=hf';simp only [hix,VL,hm,hn',hf',wz,wy,reduceAdd];exact hg
theorem bJg (ex:Bool) (l:List Dc) (x:Sx) (hlen:l.length<=maxLen) (hok:∀ d∈l,d.ok=true) (hx:x.ok=true):bA mEv 29 [.sl ex (l.map Dc.av),x.av] (.bool (yO l x)):=by
 refine aZ rfl (aWn _ _ _ ?_);refine ⟨cI _,?_⟩;unfold yO;have hs:=IP x hx;have hd:=JF x hx
 cases h1:decide ((l.length:Int) > 60) with
 | true=>simp only [MY,m002,h1,wz,wy,reduceAdd];rfl
 | false =>
  simp only [MY,m002,h1,dG,wz,wy,reduceAdd];refine aP hs (by simp [aS]) ?_
  cases h2:decide (x.size > 600) with
  | true=>simp only [h2,wz,wy,reduceAdd];rfl
  | false =>
   simp only [h2,dG,wz,wy,reduceAdd];refine aP hd (by simp [aS]) ?_
   cases h3:decide (x.depth > 64) with
   | true=>simp only [h3,wz,wy,reduceAdd];rfl
   | false =>simp only [h3,wz,wy,reduceAdd];exact l29 ex l hlen hok _ _ (fun _=>rfl) l.length 0 0 0 _ (by omega) rfl
theorem aTk (ex:Bool) (l:List Dc) (x:Sx) (hcl:(AV.sl ex (l.map Dc.av)).closed=true) (hlen:l.length<=maxLen) (hok:∀ d∈l,d.ok=true) (hx:x.ok=true):bA mEv 93 [.sl ex (l.map Dc.av),x.av] (.int .i64 (cond (yO l x) 0 1)):=by refine aZ rfl (aTi _ _ _ ?_);refine ⟨cI _,?_⟩;simp only [dG,wz,wy,reduceAdd];refine aP (bJg ex l x hlen hok hx) (by simp only [m013,m052,or_false,forall_eq_or_imp,forall_eq];exact ⟨hcl,aS x⟩) ?_;cases yO l x<;>simp only [wz,wy,reduceAdd]
end
noncomputable section
theorem aYj (a b:Int):bn .neq 34 (.int .i64 a) (.int .i64 b)=some (.bool (a != b)):=bin_neq
end
noncomputable section
theorem sN:PB Sx.av 6:=⟨iA,cI⟩
theorem AJ:∀ (ws dI c:List AV),ws.length<=c.length->bV (dI++c) dI.length ws=dI++ws++c.drop ws.length:=by
 intro ws
 induction ws with
 | nil=>intro dI c _;simp [bV]
 | cons v l ih =>
  intro dI c h
  match c,h with
  | y::c,h =>
   simp only [bV];have e:(dI++y::c).set dI.length v=(dI++[v])++c:=by simp
   have:=ih (dI++[v]) c (by simpa using h);rw [e];simpa using this
section
variable {t e:TypeId} {z b:Nat} {ag:Bool} {s:St}
theorem bDc (h:eO t e z ag b) {vs ws junk:List AV} {i:Nat} (hv:∀ v∈vs,v.cells.length=z/\v.cells.all AV.one=true) (hw:∀ v∈ws,v.cells.length=z/\v.cells.all AV.one=true) (hs:s.h i=some (.cells (vs.flatMap AV.cells++junk) e false true)) (hj:ws.length * z<=junk.length) (ex:Bool) (id:Nat) :
  ∃ s',bt .append #[t,t] [.ref i 0 vs.length none e,.sl ex ws] id s=some (.ref i 0 (vs.length+ws.length) none e,s')/\s'.nx=s.nx/\s'.h i=some (.cells ((vs++ws).flatMap AV.cells++junk.drop (ws.length * z)) e false true)/\∀ j,j≠i->s'.h j=s.h j:=by
 rw [oL h];have hall:ws.all (fun v=>v.cells.length==z)=true:=m032.2 fun v hv=>by simp [(hw v hv).1]
 have hsrc:aR z (.sl ex ws) s=some (ws.flatMap AV.cells):=by simp [aR,hall]
 rw [hsrc,Option.bind_some];have hwl:=dJ hw;have hfl:=dJ hv;by_cases hne:ws=[]
 ·subst hne;exact ⟨s,rfl,rfl,by simpa using hs,fun _ _=>rfl⟩
 ·have hpos:0 < ws.length:=List.length_pos_iff.2 hne;have hmul:0 < ws.length * z:=Nat.mul_pos hpos h.pos
  have hem:(ws.flatMap AV.cells).isEmpty=false:=by
   cases hc:ws.flatMap AV.cells with
   | nil=>rw [hc] at hwl;simp at hwl;omega
   | cons a b=>rfl
  have hones:(ws.flatMap AV.cells).all AV.one=true:=by rw [m032];intro y hy;obtain ⟨v,hv,hy⟩:=List.mem_flatMap.1 hy;exact m032.1 (hw v hv).2 y hy
  have hdiv:(ws.flatMap AV.cells).length / z=ws.length:=by rw [hwl];exact EB _ h.pos
  refine ⟨s.set i (some (.cells ((vs++ws).flatMap AV.cells++junk.drop (ws.length * z)) e false true)),?_,rfl,aG,fun j hj=>aB hj⟩;unfold bL;simp only [hem,hones,m025,m015,if_false,hs,m023];rw [if_pos ⟨by rw [m006,hfl];omega,trivial⟩,if_pos (by rw [m006,hfl,hwl];omega)];rw [hdiv];have:=AJ (ws.flatMap AV.cells) (vs.flatMap AV.cells) junk (by rw [hwl];exact hj);rw [hfl] at this;rw [this,hwl,m056]
end
end
noncomputable section
def kX (n:Nat):AV:=.int .u32 (n:Int)
theorem QI:PB kX 1:=⟨fun _=>rfl,fun _=>rfl⟩
def fX (a:List Nat):AV:=.sl false (a.map kX)
theorem IC (a:List Nat):aX (a.map kX)=true:=oV _ _ fun _ _=>rfl
theorem dB (a:List Nat):(fX a).closed=true:=gP _ _ fun _ _=>rfl
def cG (a:List Nat):Prop:=∀ x∈a,x < 2 ^ 32
theorem BN:(2:Nat) ^ 32=4294967296:=rfl
theorem p64:(2:Nat) ^ 64=18446744073709551616:=rfl
theorem aMq (x:Nat):(kX x).cells[0]?=some (.int .u32 (x:Int)):=rfl
def iI (a:List Nat):Nat->Nat
 | 0=>0
 | n+1=>cond (a[n]?==some 0) (iI a n) (n+1)
def bP (a:List Nat):List Nat:=a.take (iI a a.length)
theorem DH (a:List Nat):∀ n,iI a n<=n:=by
 intro n
 induction n with
 | zero=>exact bJ 0
 | succ n ih=>simp only [iI];cases (a[n]?==some 0)<;>simp only [cond_true,cond_false]<;>omega
theorem bPh (a:List Nat) (Q:aE) (ha:a.length<=2 ^ 30):∀ (n:Nat) (s:St),n<=a.length->(∀ c,xI Q (.int .i64 (iI a n)) (fX a) (adv s c))->wT Q (n+1) (fX a) (.int .i64 n) s:=by
 intro n
 induction n with
 | zero =>intro s hn hj;show vC Q (wT Q 0) _ _ s;simp only [vC,show decide (((0:Nat):Int) > 0)=false from rfl,wx,wy,reduceAdd,reduceEqDiff,reduceCtorEq];exact hj 10
 | succ n ih =>
  intro s hn hj;show vC Q (wT Q (n+1)) _ _ s;obtain ⟨x,hx⟩:∃ x,a[n]?=some x:=⟨_,m004 (by omega)⟩;have h1:decide (((n+1:Nat):Int) > 0)=true:=by simp
  have h2:IntKind.i64.wrap (((n+1:Nat):Int) - 1)=(n:Int):=by rw [IntWalk.i64_in _ (by omega)];try omega
  simp only [vC,h1,h2,fX,cM QI false hx,aMq,wx,wy,reduceAdd,reduceEqDiff,reduceCtorEq];simp only [iI,hx] at hj
  cases h0:(x==0) with
  | true =>
   have e:((x:Int)==0)=true:=by simpa using h0
   have e2:(some x==some 0)=true:=by simpa using h0
   rw [e2] at hj;simp only [e,h2,wx,wy,reduceAdd,reduceEqDiff,reduceCtorEq];exact ih _ (by omega) fun c=>by rw [adv_two];exact hj _
  | false =>
   have e:((x:Int)==0)=false:=by simpa using h0
   have e2:(some x==some 0)=false:=by simpa using h0
   rw [e2] at hj;simp only [e,wx,wy,reduceAdd,reduceEqDiff,reduceCtorEq];exact hj _
theorem bPi (a:List Nat) (ha:a.length<=2 ^ 30) (k:Nat) (hk:k<=a.length) (s:St):xI (oX (fX (a.take k))) (.int .i64 k) (fX a) s:=by
 have hz:zero Tryz.ty 211=some (.int .u32 0):=UZ;unfold xI;simp only [JJ ET hz k (by omega) (by omega),AV.cells,uN,wx,wy,reduceAdd,reduceEqDiff,reduceCtorEq];have hcp:=fun (id j n:Nat) (s:St)=>aVw (id:=id) (k:=j) (s:=Ai.adv (s.set id (some (.cells (List.replicate k (.int .u32 0)) 211 true true))) n) (cp:=some k) (ex:=false) (l:=a) (f:=kX) ET QI (fun _=>rfl) (by rw [adv_h,aG]) (List.length_replicate (n:=k)) hk;simp only [fX,hcp,wx,wy,reduceAdd,reduceEqDiff,reduceCtorEq];have hl:(a.take k).length=k:=by rw [m020];omega
 have:=AK (s:=Ai.adv (s.set (s.nx+1) (some (.cells ((a.take k).map kX) 211 true true))) 8) (id:=s.nx+1) (c:=some k) (k:=11) (l:=a.take k) (f:=kX) ET (by rw [adv_h,aG]) (fun _ _=>rfl) (fun _ _=>rfl);rw [hl] at this;exact ⟨_,this⟩
theorem aAd (a:List Nat) (ha:a.length<=2 ^ 30):bA mEv 110 [fX a] (fX (bP a)):=by refine cR (aGz _ _ ?_);unfold f110;simp only [fX,yV,m002,wx,wy,reduceAdd,reduceEqDiff,reduceCtorEq];exact ⟨_,bPh a _ ha a.length _ (bJ _) fun c=>bPi a ha _ (DH a _) _⟩
def val:List Nat->Nat
 | []=>0
 | x::a=>x+4294967296 * val a
def pw (n:Nat):Nat:=4294967296 ^ n
theorem kJ (n:Nat):pw (n+1)=4294967296 * pw n:=by unfold pw;rw [Nat.pow_succ,Nat.mul_comm]
theorem aMl (n:Nat):0 < pw n:=Nat.pow_pos (by decide)
theorem AN:pw 0=1:=rfl
theorem oK (a b:List Nat):val (a++b)=val a+pw a.length * val b:=by
 induction a with
 | nil=>simp [val,AN]
 | cons x a ih =>simp only [List.cons_append,val,ih,List.length_cons,kJ];rw [FC,PJ,m066]
theorem SB (a:List Nat) (h:cG a):val a < pw a.length:=by
 induction a with
 | nil=>simp [val,AN]
 | cons x a ih =>have hx:=h x (m007 ..);have h2:=ih fun y hy=>h y (m005 _ hy);simp only [val,List.length_cons,kJ];rw [BN] at hx;generalize pw a.length=K at h2;omega
theorem rV (a:List Nat):∀ n,n<=a.length->val (a.take (iI a n))=val (a.take n)/\(iI a n=0\/∃ x,a[iI a n - 1]?=some x/\x≠0):=by
 intro n
 induction n with
 | zero=>intro _;exact ⟨rfl,.inl rfl⟩
 | succ n ih =>
  intro hn;simp only [iI];obtain ⟨x,hx⟩:∃ x,a[n]?=some x:=⟨_,m004 (by omega)⟩
  cases h:(a[n]?==some 0) with
  | true =>
   simp only [cond_true];obtain ⟨h1,h2⟩:=ih (by omega);refine ⟨?_,h2⟩;rw [h1,m062,hx,oK];have:x=0:=by rw [hx] at h;simpa using h
   subst this;simp [val]
  | false =>refine ⟨rfl,.inr ⟨x,by simpa using hx,fun h0=>?_⟩⟩;rw [hx,h0] at h;simp at h
theorem pX (a:List Nat):val (bP a)=val a:=by have:=(rV a a.length (bJ _)).1;rw [m045] at this;exact this
theorem fE {a:List Nat} (h:cG a):cG (bP a):=fun x hx=>h x (List.mem_of_mem_take hx)
theorem wQ (a:List Nat):(bP a).length<=a.length:=by unfold bP;rw [m020];omega
theorem nI {a:List Nat} (h:cG a):val (bP a)=0↔bP a=[]:=by
 constructor
 ·intro hv;rcases (rV a a.length (bJ _)).2 with h0 | ⟨x,hx,h0⟩
  ·unfold bP;rw [h0];rfl
  ·exfalso;have hle:=DH a a.length
   have hpos:0 < iI a a.length:=by
    rcases OW (iI a a.length) with hz | hz
    ·unfold bP at hv;rw [hz] at hx;have:iI a a.length - 1=0:=by omega
     by_cases ha:a.length=0
     ·have:a=[]:=List.length_eq_zero_iff.1 ha;subst this;simp at hx
     ·exfalso;have h3:=(rV a a.length (bJ _)).1;rw [hz,List.take_zero,m045] at h3
      match a,hx,h3 with
      | y::t,hx,h3 =>
       have:y=x:=by simpa using hx
       have h4:0=y+4294967296 * val t:=h3;omega
    ·exact hz
   have e:bP a=a.take (iI a a.length - 1)++[x]:=by
    unfold bP
    conv=>lhs;rw [show iI a a.length=(iI a a.length - 1)+1 by omega,m062,hx]
    rfl
   rw [e,oK] at hv;simp only [val] at hv;have:0 < pw (a.take (iI a a.length - 1)).length * (x+4294967296 * 0):=Nat.mul_pos (aMl _) (by omega);omega
 ·intro h0;rw [h0];rfl
def bD (n:Nat):List Nat->List Nat×Nat
 | []=>([],0)
 | x::t=>(((bD n t).2 * 4294967296+x) / n::(bD n t).1,((bD n t).2 * 4294967296+x) % n)
theorem rN (n:Nat) (a:List Nat):(bD n a).1.length=a.length:=by
 induction a with
 | nil=>rfl
 | cons x t ih=>simp [bD,ih]
theorem uI (n:Nat) (h:0 < n) (a:List Nat):(bD n a).2 < n:=by
 cases a with
 | nil=>exact h
 | cons x t=>exact Nat.mod_lt _ h
theorem pW (n:Nat) (h:0 < n) (a:List Nat) (ha:cG a):cG (bD n a).1:=by
 induction a with
 | nil=>intro x hx;cases hx
 | cons x t ih =>
  intro y hy;simp only [bD,m013] at hy;rcases hy with rfl | hy
  ·have h1:=ha x (m007 ..);have h2:=uI n h t;refine Nat.div_lt_of_lt_mul ?_;have:((bD n t).2+1) * 4294967296<=n * 4294967296:=zP _ h2;rw [pD] at this;rw [BN] at h1 ⊢;omega
  ·exact ih (fun z hz=>ha z (m005 _ hz)) y hy
theorem GF (n:Nat) (h:0 < n) (a:List Nat):val (bD n a).1 * n+(bD n a).2=val a:=by
 induction a with
 | nil=>simp [bD,val]
 | cons x t ih =>
  simp only [bD,val];have e:=Nat.div_add_mod ((bD n t).2 * 4294967296+x) n;rw [<- ih]
  have:(((bD n t).2 * 4294967296+x) / n+4294967296 * val (bD n t).1) * n+((bD n t).2 * 4294967296+x) % n
    = (n * (((bD n t).2 * 4294967296+x) / n)+((bD n t).2 * 4294967296+x) % n)+4294967296 * (val (bD n t).1 * n):=by
   rw [oN,Nat.mul_comm n,PJ];omega
  rw [this,e];rw [FC];omega
theorem bCk {r x:Nat} (hr:r < 2 ^ 32) (hx:x < 2 ^ 32):OG .or .u64 (IntKind.u64.wrap ((r:Int) * 2 ^ 32)) (x:Int)=((r * 4294967296+x:Nat):Int):=by
 have e1:IntKind.u64.wrap ((r:Int) * 2 ^ 32)=((r * 4294967296:Nat):Int):=by rw [IntWalk.u64_in _ (by rw [BN] at hr;omega)];simp
 have e2:(BitVec.ofInt 64 ((r * 4294967296:Nat):Int)).toNat=r * 4294967296:=by rw [BitVec.ofInt_natCast,BitVec.toNat_ofNat,Nat.mod_eq_of_lt (by rw [BN] at hr;rw [p64];omega)]
 have e3:(BitVec.ofInt 64 (x:Int)).toNat=x:=by rw [BitVec.ofInt_natCast,BitVec.toNat_ofNat,Nat.mod_eq_of_lt (by rw [BN] at hx;rw [p64];omega)]
 rw [e1];show IntKind.u64.wrap (((BitVec.ofInt 64 _ ||| BitVec.ofInt 64 _:BitVec 64).toNat:Nat):Int)=_;rw [BitVec.toNat_or,e2,e3];have h:=Nat.shiftLeft_add_eq_or_of_lt (i:=32) hx r;rw [Nat.shiftLeft_eq] at h;rw [show (4294967296:Nat)=2 ^ 32 from rfl,<- h];rw [IntWalk.u64_in _ (by rw [BN] at hr hx ⊢;omega)]
theorem bDp {T:Ty} {q:TypeId->Bool} {t:TypeId} {k:IntKind} {a b:Int}:lK T q .or t (.int k a) (.int k b)=some (.int k (OG .or k a b)):=by simp [lK,dR,eY]
theorem aRw {T:Ty} {q:TypeId->Bool} {t:TypeId} {k k':IntKind} {a:Int} {n:Nat} (h:n<=k.bits):lK T q .shl t (.int k a) (.int k' (n:Int))=some (.int k (k.wrap (a * 2 ^ n))):=by
 have:¬ ((n:Int) < 0):=by omega
 simp [lK,dR,eY,this,qJ h]
theorem aTj {T:Ty} {q:TypeId->Bool} {t:TypeId} {k k':IntKind} {a:Int} {n:Nat} (h:n<=k.bits):lK T q .shr t (.int k a) (.int k' (n:Int))=some (.int k (a.fdiv (2 ^ n))):=by
 have:¬ ((n:Int) < 0):=by omega
 simp [lK,dR,eY,this,qJ h]
theorem WM {T:Ty} {q:TypeId->Bool} {t:TypeId} {k:IntKind} {a b:Nat} (h:b≠0):lK T q .quo t (.int k (a:Int)) (.int k (b:Int))=some (.int k (k.wrap ((a / b:Nat):Int))):=by
 have h1:¬ ((b:Int)=0):=by omega
 have h2:(a:Int).tdiv (b:Int)=((a / b:Nat):Int):=by rw [Int.tdiv_eq_ediv_of_nonneg (by omega)];rfl
 simp [lK,dR,eY,h,h2]
theorem WY {T:Ty} {q:TypeId->Bool} {t:TypeId} {k:IntKind} {a b:Nat} (h:b≠0):lK T q .rem t (.int k (a:Int)) (.int k (b:Int))=some (.int k ((a % b:Nat):Int)):=by
 have h1:¬ ((b:Int)=0):=by omega
 have h2:(a:Int).tmod (b:Int)=((a % b:Nat):Int):=by rw [Int.tmod_eq_emod_of_nonneg (by omega)];rfl
 simp [lK,dR,eY,h,h2]
theorem XG {α:Type} {a:List α} {x v:α} {b:List α}:(a++x::b).set a.length v=a++v::b:=by simp
theorem bRs (a:List Nat) (hl:cG a) (ha:a.length<=2 ^ 30) (n:Nat) (h0:0 < n) (hn:n<=2 ^ 32) (Q:aE) (N c:Nat) (e':TypeId)
  (hQ:∀ s,s.h N=some (.cells ((bD n a).1.map kX) e' true true)->xP Q (.ref N 0 a.length (some c) 211) (.int .u64 (bD n a).2) s) :
  ∀ (i:Nat) (s:St),i<=a.length->s.h N=some (.cells ((List.replicate i 0++(bD n (a.drop i)).1).map kX) e' true true) ->
   pT Q (i+1) (fX a) (.int .u64 n) (.ref N 0 a.length (some c) 211) (.int .u64 (bD n (a.drop i)).2) (.int .i64 ((i:Int) - 1)) s:=by
 intro i
 induction i with
 | zero =>intro s hi hs;show vR Q (pT Q 0) _ _ _ _ _ s;simp only [vR,show decide (((0:Nat):Int) - 1 >= 0)=false from rfl,wx,wy,reduceAdd,reduceEqDiff,reduceCtorEq];refine hQ _ ?_;simpa [adv_h] using hs
 | succ i ih =>
  intro s hi hs;show vR Q (pT Q (i+1)) _ _ _ _ _ s;obtain ⟨x,hx⟩:∃ x,a[i]?=some x:=⟨_,m004 (by omega)⟩;have hxl:=hl x (m017 hx);have hrl:(bD n (a.drop (i+1))).2 < 2 ^ 32:=NH (uI n h0 _) hn;have h1:decide (((i+1:Nat):Int) - 1 >= 0)=true:=by simp
  have h2:((i+1:Nat):Int) - 1=(i:Int):=by omega
  have h3:IntKind.i64.wrap ((i:Int) - 1)=(i:Int) - 1:=IntWalk.i64_in _ (by omega);have e:=bZ a i x hx;have hq:((bD n (a.drop (i+1))).2 * 4294967296+x) / n < 2 ^ 32:=by have:=pW n h0 (a.drop i) (fun y hy=>hl y (List.mem_of_mem_drop hy));rw [e] at this;exact this _ (m007 ..)
  have hor:=bCk hrl hxl;have hshl:∀ (r:Int),bn .shl 159 (.int .u64 r) (.int .u64 32)=some (.int .u64 (IntKind.u64.wrap (r * 2 ^ 32))):=fun r=>aRw (n:=32) (by decide);simp only [h2] at h1 ⊢;simp only [vR,h1,hshl,fX,cM QI false hx,aMq,xK,wx,wy,reduceAdd,reduceEqDiff,reduceCtorEq];rw [show IntKind.u64.wrap (x:Int)=(x:Int) from IntWalk.u64_in _ (by rw [BN] at hxl;omega)];simp only [bDp,hor,wx,wy,reduceAdd,reduceEqDiff,reduceCtorEq];have hne:n≠0:=by omega
  generalize hyy:(bD n (a.drop (i+1))).2 * 4294967296+x=y at *;have hqq:bn .quo 159 (.int .u64 (y:Int)) (.int .u64 (n:Int))=some (.int .u64 (IntKind.u64.wrap ((y / n:Nat):Int))):=WM hne;have hrr:bn .rem 159 (.int .u64 (y:Int)) (.int .u64 (n:Int))=some (.int .u64 ((y % n:Nat):Int)):=WY hne;have es:bD n (a.drop i)=(y / n::(bD n (a.drop (i+1))).1,y % n):=by rw [e,bD,hyy]
  generalize hD:y / n=D at *;rw [BN] at hq;rw [show IntKind.u64.wrap (D:Int)=(D:Int) from IntWalk.u64_in _ (by omega)] at hqq;simp only [hqq,hrr,rU,AB (show i < a.length by omega),wx,wy,reduceAdd,reduceEqDiff,reduceCtorEq];rw [show IntKind.u32.wrap (D:Int)=(D:Int) from IntWalk.u32_in _ (by omega)];have hset:((List.replicate (i+1) 0++(bD n (a.drop (i+1))).1).map kX).set i (.int .u32 (D:Int))=(List.replicate i 0++(bD n (a.drop i)).1).map kX:=by rw [es,List.replicate_succ'];have:=XG (a:=(List.replicate i 0).map kX) (x:=kX 0) (v:=(.int .u32 (D:Int))) (b:=(bD n (a.drop (i+1))).1.map kX);rw [m002,List.length_replicate] at this;simp only [m019,List.singleton_append,m038,m039];exact this
  rw [dW (by rw [adv_h];exact hs) (by simp [rN];omega) rfl rfl,hset];simp only [wx,wy,reduceAdd,reduceEqDiff,reduceCtorEq,SG,h3];have:=ih (Ai.adv (s.set N (some (.cells ((List.replicate i 0++(bD n (a.drop i)).1).map kX) e' true true))) 26) (by omega) (by rw [adv_h,aG]);rw [es] at this;simp only [es];exact this
theorem bQa (a:List Nat) (hl:cG a) (ha:a.length<=2 ^ 30) (n:Nat) (h0:0 < n) (hn:n<=2 ^ 32):bA mEv 111 [fX a,.int .u64 n] (.tup [fX (bP (bD n a).1),.int .u64 (bD n a).2]):=by
 refine cR (aLu _ _ _ ?_);have hz:zero Tryz.ty 211=some (.int .u32 0):=UZ;have hc0:(AV.int .u32 0).cells=[.int .u32 0]:=rfl;unfold f111;simp only [fX,yV,m002,JJ ET hz a.length (by omega) (by omega),hc0,uN,wx,wy,reduceAdd,reduceEqDiff,reduceCtorEq];rw [show IntKind.i64.wrap ((a.length:Int) - 1)=(a.length:Int) - 1 from IntWalk.i64_in _ (by omega)];refine ⟨a.length+1,?_⟩;have:=bRs a hl ha n h0 hn (oX (.tup [fX (bP (bD n a).1),.int .u64 (bD n a).2])) (St.empty.nx+4) a.length 211 (fun s hs=>?_) a.length (Ai.adv (St.empty.set (St.empty.nx+4) (some (.cells (List.replicate a.length (.int .u32 0)) 211 true true))) 11) (bJ _) ?_
 ·simpa [bD,fX] using this
 ·unfold xP;have hp:=AK (s:=Ai.adv s 5) (id:=St.empty.nx+4) (c:=some a.length) (k:=11) (l:=(bD n a).1) (f:=kX) ET (by rw [adv_h];exact hs) (fun _ _=>rfl) (fun _ _=>rfl);rw [rN] at hp;refine rE (args2:=[fX (bD n a).1]) (ids:=[St.empty.nx+4]) (by simp only [dH,hp,fX,m011]) (aAd _ (by rw [rN];exact ha)) ?_;exact aT (by simp only [AV.closed,aX,dB,iR])
 ·rw [adv_h,aG,List.drop_length];simp [bD,kX]
def iF:Nat->Nat->List UInt8
 | 0,_=>[]
 | k+1,n=>iF k (n / 10)++[UInt8.ofNat (48+n % 10)]
theorem EG (k n:Nat):(iF k n).length=k:=by
 induction k generalizing n with
 | zero=>rfl
 | succ k ih=>simp [iF,ih]
theorem bDi (id:Nat) (s:St) (c:List AV) (e':TypeId) (ex wr:Bool) (hs:s.h id=some (.cells c e' ex wr)) (hc:c.length=9):lT 223 (.ptr id 0) none none none s=some (.ref id 0 9 (some 9) 5):=by
 have h1:eH Tryz.ty 223=some (.array 9 5):=by kernel_rfl
 have h2:eP Tryz.ty 5=some (1,false):=by kernel_rfl
 simp [lT,gA,h1,h2,hs,hc,eF,rZ]
theorem bQd (Q:aE) (N:Nat) (e':TypeId) (r:List UInt8) (hQ:∀ s,Q (.str r) s):∀ (i n:Nat) (done:List UInt8) (s:St),n < 2 ^ 64->done.length+i=9->r=iF i n++done ->
  s.h N=some (.cells ((List.replicate i (0:UInt8)++done).map EZ) e' true true)->qO Q (i+1) (.int .u64 n) (.ptr N 0) (.int .i64 ((i:Int) - 1)) s:=by
 intro i
 induction i with
 | zero =>intro n done s hn hd hr hs;show vQ Q (qO Q 0) _ _ _ s;simp only [iF,List.nil_append] at hr;subst hr;simp only [List.replicate_zero,List.nil_append] at hs;have h9:=bDi N (Ai.adv s 5) _ _ _ _ (by rw [adv_h];exact hs) (by rw [m002];omega);have hcv:=aVv (dI:=[]) (post:=[]) (off:=0) (n:=9) (cp:=some 9) (e:=5) (s:=Ai.adv s 5) (id:=N) (bs:=r) (by rw [adv_h,List.nil_append,m011];exact hs) rfl (by omega);simp only [vQ,show decide (((0:Nat):Int) - 1 >= 0)=false from rfl,DZ,wx,wy,reduceAdd,reduceEqDiff,reduceCtorEq,h9,hcv];exact hQ _
 | succ i ih =>
  intro n done s hn hd hr hs;show vQ Q (qO Q (i+1)) _ _ _ s;have h2:((i+1:Nat):Int) - 1=(i:Int):=by omega
  have h1:decide ((i:Int) >= 0)=true:=by simp
  have h3:IntKind.i64.wrap ((i:Int) - 1)=(i:Int) - 1:=IntWalk.i64_in _ (by omega);have hrem:bn .rem 159 (.int .u64 (n:Int)) (.int .u64 10)=some (.int .u64 ((n % 10:Nat):Int)):=WY (b:=10) (by decide);have hquo:bn .quo 159 (.int .u64 (n:Int)) (.int .u64 10)=some (.int .u64 (IntKind.u64.wrap ((n / 10:Nat):Int))):=WM (b:=10) (by decide);rw [p64] at hn;rw [IntWalk.u64_in _ (by omega)] at hquo
  have hix:ixA 9 1 (.ptr N 0) (.int .i64 (i:Int))=some (.ptr N i):=by
   have h8:i < 9:=by omega
   have h9:(i:Int) < 9:=by omega
   simp [ixA,pE,wR,h8,h9,aC]
  have hw:IntKind.u8.wrap (IntKind.u64.wrap (48+((n % 10:Nat):Int)))=((UInt8.ofNat (48+n % 10)).toNat:Int):=by rw [IntWalk.u64_in _ (by omega),IntWalk.u8_in _ (by omega)];simp;omega
  have hset:((List.replicate (i+1) (0:UInt8)++done).map EZ).set i (EZ (UInt8.ofNat (48+n % 10)))=(List.replicate i (0:UInt8)++(UInt8.ofNat (48+n % 10)::done)).map EZ:=by have:=XG (a:=(List.replicate i (0:UInt8)).map EZ) (x:=EZ 0) (v:=EZ (UInt8.ofNat (48+n % 10))) (b:=done.map EZ);rw [m002,List.length_replicate] at this;rw [List.replicate_succ'];simp only [m019,List.singleton_append,m038,m039];exact this
  simp only [h2,vQ,h1,hrem,hquo,aUo,hw,hix,wx,wy,reduceAdd,reduceEqDiff,reduceCtorEq];rw [show AV.int .u8 ((UInt8.ofNat (48+n % 10)).toNat:Int)=EZ (UInt8.ofNat (48+n % 10)) from rfl,dW (by rw [adv_h];exact hs) (by simp;omega) rfl rfl,hset];simp only [wx,wy,reduceAdd,reduceEqDiff,reduceCtorEq,TS,h3];refine ih (n / 10) (UInt8.ofNat (48+n % 10)::done) _ (by rw [p64];omega) (by simp;omega) (by rw [hr];simp [iF]) (by rw [adv_h,aG])
theorem bPl (n:Nat) (hn:n < 2 ^ 64):bA mEv 112 [.int .u64 n] (.str (iF 9 n)):=by refine cR (aRa _ _ ?_);unfold f112;simp only [bGn,wx,wy,reduceAdd,reduceEqDiff,reduceCtorEq];refine ⟨10,bQd (oX (.str (iF 9 n))) (St.empty.nx+1) 223 (iF 9 n) (fun s=>aT rfl) 9 n [] _ hn rfl (by simp) (by rw [adv_h,aG];rfl)⟩
def mX:Nat->List Nat->List UInt8->List UInt8
 | 0,_,s=>s
 | f+1,a,s=>match a with
  | []=>s
  | x::t=>mX f (bP (bD 1000000000 (x::t)).1) (iF 9 (bD 1000000000 (x::t)).2++s)
def GA (a:List Nat):List UInt8:=let t:=(mX (val a) (bP a) []).dropWhile (·==48);if t=[] then [48] else t
theorem bQn (c:UInt8) (Q:aE):∀ (x:List UInt8) (s:St),x.length<=2 ^ 60->(∀ s,Q (.str (x.dropWhile (·==c))) s)->wZ Q (x.length+1) (.str x) (.int .u8 c.toNat) s:=by
 intro x
 induction x with
 | nil =>intro s _ hQ;show vT Q (wZ Q 0) _ _ s;simp only [vT,sC,List.length_nil,show decide (((0:Nat):Int) > 0)=false from rfl,CE,wx,wy,reduceAdd,reduceEqDiff,reduceCtorEq];exact hQ _
 | cons b x ih =>
  intro s hx hQ;show vT Q (wZ Q (x.length+1)) _ _ s;have h1:decide ((((b::x).length:Nat):Int) > 0)=true:=by simp
  have h2:OJ 9 (.str (b::x)) (.int .i64 0)=some (.int .u8 b.toNat):=rJ (i:=0) .i64 rfl;have h3:∀ s,lT 9 (.str (b::x)) (some (.int .i64 1)) none none s=some (.str x):=fun s=>JI (n:=1) .i64 (by simp);simp only [vT,sC,h1,h2,h3,wx,wy,reduceAdd,reduceEqDiff,reduceCtorEq]
  have e:((b.toNat:Int)==(c.toNat:Int))=(b==c):=by
   rw [Bool.eq_iff_iff,beq_iff_eq,beq_iff_eq];constructor
   ·intro h;exact UInt8.toNat_inj.1 (by omega)
   ·intro h;rw [h]
  cases h:(b==c) with
  | true =>rw [h] at e;simp only [e,wx,wy,reduceAdd,reduceEqDiff,reduceCtorEq];refine ih _ (by simp at hx;omega) fun s=>?_;have:=hQ s;rw [List.dropWhile_cons,h,if_pos rfl] at this;exact this
  | false =>rw [h] at e;simp only [e,CE,wx,wy,reduceAdd,reduceEqDiff,reduceCtorEq];have:=hQ (Ai.adv s 11);rw [List.dropWhile_cons,h] at this;exact this
theorem bPy (x:List UInt8) (c:UInt8) (hx:x.length<=2 ^ 60):bA mEv 159 [.str x,.int .u8 c.toNat] (.str (x.dropWhile (·==c))):=by refine cR (aQo _ _ _ ?_);unfold f159;exact ⟨x.length+1,bQn c _ x _ hx fun s=>aT rfl⟩
theorem bNx (x:List UInt8) (c:UInt8) (hx:x.length<=2 ^ 60) (hc:c.toNat < 128):bA mEv 113 [.str x,.str [c]] (.str (x.dropWhile (·==c))):=by
 refine cR (aKv _ _ _ ?_);unfold f113;have h1:OJ 9 (.str [c]) (.int .i64 0)=some (.int .u8 c.toNat):=rJ (i:=0) .i64 rfl;have h2:decide ((c.toNat:Int) < 128)=true:=by simp;omega
 cases h:(x==[]) with
 | true =>
  have:x=[]:=by simpa using h
  subst this;simp only [h,wx,wy,reduceAdd,reduceEqDiff,reduceCtorEq];exact aT rfl
 | false =>simp only [h,sC,List.length_cons,List.length_nil,show ((((0+1:Nat):Nat):Int)==1)=true from rfl,show (([c]:List UInt8)==[])=false from rfl,h1,h2,wx,wy,reduceAdd,reduceEqDiff,reduceCtorEq];refine aP (bPy x c hx) (by simp [AV.closed]) ?_;exact aT rfl
theorem NN:∀ (f k:Nat) (a:List Nat) (s:List UInt8),cG a->(val a=0->a=[])->val a < 1000000000 ^ k->(mX f a s).length<=s.length+9 * k:=by
 intro f
 induction f with
 | zero=>intro k a s _ _ _;exact Nat.le_add_right ..
 | succ f ih =>
  intro k a s hl h0 hv
  match a,hl,h0,hv with
  | [],_,_,_=>exact Nat.le_add_right ..
  | x::t,hl,h0,hv =>
   simp only [mX];generalize hb:x::t=b at *
   cases k with
   | zero =>
    have:val b=0:=by simpa using hv
    rw [h0 this] at hb;cases hb
   | succ k =>
    have hsl:=pW 1000000000 (by decide) b hl;have hsv:=GF 1000000000 (by decide) b;have hm:=uI 1000000000 (by decide) b;have hv':val (bP (bD 1000000000 b).1) < 1000000000 ^ k:=by rw [pX];rw [Nat.pow_succ] at hv;refine Nat.lt_of_mul_lt_mul_right (a:=1000000000) ?_;exact Nat.lt_of_le_of_lt (by omega) hv
    have:=ih k (bP (bD 1000000000 b).1) (iF 9 (bD 1000000000 b).2++s) (fE hsl) (nI hsl).1 hv';rw [m006,EG] at this;omega
theorem VX (a:List Nat) (h:cG a):val a < 1000000000 ^ (2 * a.length):=by refine NH (SB a h) ?_;unfold pw;rw [Nat.pow_mul];exact Nat.pow_le_pow_left (by decide) _
theorem l59 (Q:aE) (w:List UInt8) (hQ:∀ s,Q (.str (if w.dropWhile (·==48)=[] then [48] else w.dropWhile (·==48))) s) (hw:w.length<=2 ^ 40):∀ (f k:Nat) (a:List Nat) (acc:List UInt8) (s:St),cG a->a.length<=2 ^ 30->(val a=0->a=[])->val a<=f->val a < 1000000000 ^ k->k<=2 ^ 33->acc.length+9 * k<=2 ^ 40->mX f a acc=w ->
  IN Q (f+1) (fX a) (.str acc) s:=by
 have hj:∀ s,PK Q (.str w) s:=fun s=>by
  unfold PK;refine aP (bNx w 48 (by omega) (by decide)) (by simp [AV.closed]) ?_;have:=hQ
  cases h:w.dropWhile (·==48) with
  | nil=>rw [h] at this;simp only [show (([]:List UInt8)==[])=true from rfl,wx,wy,reduceAdd,reduceEqDiff,reduceCtorEq];exact this _
  | cons x t=>rw [h] at this;simp only [show (x::t==[])=false from rfl,wx,wy,reduceAdd,reduceEqDiff,reduceCtorEq];exact this _
 intro f
 induction f with
 | zero =>intro k a acc s hl ha h0 hf hk hkk hacc hg;have:=h0 (by omega);subst this;have:acc=w:=hg;subst this;show xE Q (IN Q 0) _ _ s;simp only [xE,fX,yV,List.map_nil,List.length_nil,show decide (((0:Nat):Int) > 0)=false from rfl,wx,wy,reduceAdd,reduceEqDiff,reduceCtorEq];exact hj _
 | succ f ih =>
  intro k a acc s hl ha h0 hf hk hkk hacc hg;show xE Q (IN Q (f+1)) _ _ s
  cases ha0:a with
  | nil =>subst ha0;have:acc=w:=hg;subst this;simp only [xE,fX,yV,List.map_nil,List.length_nil,show decide (((0:Nat):Int) > 0)=false from rfl,wx,wy,reduceAdd,reduceEqDiff,reduceCtorEq];exact hj _
  | cons x t =>
   have hg':mX f (bP (bD 1000000000 a).1) (iF 9 (bD 1000000000 a).2++acc)=w:=by rw [ha0] at hg ⊢;exact hg
   have hpos:0 < val a:=by
    rcases OW (val a) with h | h
    ·rw [h0 h] at ha0;cases ha0
    ·exact h
   rw [<- ha0];have h1:decide (((a.length:Nat):Int) > 0)=true:=by rw [ha0];simp
   cases k with
   | zero=>exfalso;have:val a < 1:=by simpa using hk
           omega
   | succ k =>
    have hsl:=pW 1000000000 (by decide) a hl;have hsv:=GF 1000000000 (by decide) a;have hm:=uI 1000000000 (by decide) a;have hnl:(bP (bD 1000000000 a).1).length<=a.length:=by have:=wQ (bD 1000000000 a).1;rw [rN] at this;exact this
    have hv':val (bP (bD 1000000000 a).1) < 1000000000 ^ k:=by rw [pX];rw [Nat.pow_succ] at hk;refine Nat.lt_of_mul_lt_mul_right (a:=1000000000) ?_;exact Nat.lt_of_le_of_lt (by omega) hk
    have hv2:val (bP (bD 1000000000 a).1)<=f:=by rw [pX];omega
    have h111:=bQa a hl ha 1000000000 (by decide) (by decide);have h112:=bPl (bD 1000000000 a).2 (Nat.lt_trans hm (by decide));have hadd:bn .add 9 (.str (iF 9 (bD 1000000000 a).2)) (.str acc)=some (.str (iF 9 (bD 1000000000 a).2++acc)):=gR (by rw [EG];omega);simp only [xE,fX,yV,m002,h1,wx,wy,reduceAdd,reduceEqDiff,reduceCtorEq];refine aP h111 (by simp [AV.closed,IC]) ?_;simp only [wx,wy,reduceAdd,reduceEqDiff,reduceCtorEq];refine aP h112 (by simp [AV.closed]) ?_;simp only [hadd,wx,wy,reduceAdd,reduceEqDiff,reduceCtorEq];exact ih k _ _ _ (fE hsl) (by omega) (nI hsl).1 hv2 hv' (by omega) (by rw [m006,EG];omega) hg'
theorem c59 (a:List Nat) (hl:cG a) (ha:a.length<=2 ^ 30):bA mEv 59 [fX a] (.str (GA a)):=by refine cR (aTw _ _ ?_);unfold f59;have hnl:=wQ a;have hvt:=VX (bP a) (fE hl);have hlen:=NN (val a) (2 * (bP a).length) (bP a) [] (fE hl) (nI hl).1 hvt;rw [List.length_nil] at hlen;refine aP (aAd a ha) (by simp [dB]) ?_;refine ⟨val a+1,l59 _ (mX (val a) (bP a) []) (fun s=>aT rfl) (by omega) (val a) (2 * (bP a).length) (bP a) [] _ (fE hl) (by omega) (nI hl).1 (by rw [pX];exact bJ _) hvt (by omega) (by simp only [List.length_nil];omega) rfl⟩
end
noncomputable section
def aFt (c:Nat):Int:=if 48<=c/\c<=57 then (c:Int) - 48 else if 97<=c/\c<=102 then (c:Int) - 87 else if 65<=c/\c<=70 then (c:Int) - 55 else -1
theorem t246:(List.range 256).map (fun c:Nat=>XN 246 [.int .u8 (c:Int)])=(List.range 256).map fun c:Nat=>some (.int .i64 (aFt c)):=by kernel_rfl
theorem bPj (c:UInt8):bA mEv 246 [.int .u8 c.toNat] (.int .i64 (aFt c.toNat)):=SS (a:=fun c=>.int .u8 (c:Int)) t246 (by have:=c.toNat_lt;omega)
def PQ:List UInt8->Int->Int
 | [],n=>cond (decide (n > 196607)) (-1) n
 | c::x,n=>cond (decide (aFt c.toNat < 0)) (-1) (PQ x (IntKind.i64.wrap (IntKind.i64.wrap (16 * n)+aFt c.toNat)))
def aJz (x:List UInt8):Int:=cond (x==[]) (-1) (PQ x 0)
theorem bRm (x:List UInt8) (hx:x.length<=maxLen) (Q:aE) (r:Int) (hQ:∀ s,Q (.int .i64 r) s):∀ (m i:Nat) (n:Int) (s:St),i+m=x.length->r=cond (x==[]) (-1) (PQ (x.drop i) n)->qB Q (m+1) (.str x) (.int .i64 n) (.int .i64 x.length) (.int .i64 i) s:=by
 intro m
 induction m with
 | zero =>
  intro i n s hi hr;show uV Q (qB Q 0) _ _ _ _ s;rw [m044 (by omega)] at hr;simp only [uV,BW,nA,show ¬ (i < x.length) by omega,decide_false,wx,wy,reduceAdd,reduceEqDiff,reduceCtorEq];have hq:=hQ
  cases h1:(x==[]) with
  | true=>simp only [h1,cond_true] at hr;subst hr;simp only [wx,wy,reduceAdd,reduceEqDiff,reduceCtorEq];exact hQ _
  | false =>
   simp only [h1,cond_false,PQ] at hr
   cases h2:decide (n > 196607) with
   | true=>rw [h2] at hr;simp only [wx,wy,reduceAdd,reduceEqDiff,reduceCtorEq,h2];subst hr;exact hQ _
   | false=>rw [h2] at hr;simp only [wx,wy,reduceAdd,reduceEqDiff,reduceCtorEq,h2];subst hr;exact hQ _
 | succ m ih =>
  intro i n s hi hr;obtain ⟨c,hc⟩:∃ c,x[i]?=some c:=⟨_,m004 (by omega)⟩;have hlt:i < x.length:=by omega
  show uV Q (qB Q (m+1)) _ _ _ _ s;have hne:(x==[])=false:=by cases x with | nil=>simp at hlt | cons _ _=>rfl
  rw [bZ x i c hc,PQ,hne] at hr;simp only [uV,nA,hlt,decide_true,rJ _ hc,wx,wy,reduceAdd,reduceEqDiff,reduceCtorEq];refine aP (bPj c) (by simp [AV.closed]) ?_
  cases h:decide (aFt c.toNat < 0) with
  | true=>rw [h] at hr;simp only [h,wx,wy,reduceAdd,reduceEqDiff,reduceCtorEq];subst hr;exact hQ _
  | false =>rw [h] at hr;simp only [h,QT,wx,wy,reduceAdd,reduceEqDiff,reduceCtorEq];rw [bU i _ hlt hx];exact ih (i+1) _ _ (by omega) (by rw [hne];exact hr)
theorem bLe (x:List UInt8) (hx:x.length<=maxLen):bA mEv 217 [.str x] (.int .i64 (aJz x)):=by refine aZ rfl (aHt _ _ ?_);unfold f217;simp only [sC,wx,wy,reduceAdd,reduceEqDiff,reduceCtorEq];exact ⟨_,bRm x hx _ _ (fun _=>rfl) x.length 0 0 _ (by omega) rfl⟩
theorem bQf (x p:List UInt8):bA mEv 244 [.str x,.str p] (.tup [.str (cond (dI p x) (x.drop p.length) x),.bool (dI p x)]):=by
 refine aZ rfl (aQm _ _ _ ?_);unfold f244;refine aP (bMg x p) (by simp [AV.closed]) ?_
 cases h:dI p x with
 | false=>simp only [wx,wy,reduceAdd,reduceEqDiff,reduceCtorEq]
 | true =>
  have hl:p.length<=x.length:=by simp only [dI,cQ,decide_eq_true_eq] at h;exact h.1
  simp only [sC,JI _ hl,wx,wy,reduceAdd,reduceEqDiff,reduceCtorEq]
theorem bFv (x p:List UInt8):bA mEv 215 [.str x,.str p] (.tup [.str (cond (dI p x) (x.drop p.length) x),.bool (dI p x)]):=by refine aZ rfl (aQr _ _ _ ?_);unfold f215;refine aP (bQf x p) (by simp [AV.closed]) ?_;simp only [wx,wy,reduceAdd,reduceEqDiff,reduceCtorEq]
theorem bPa (x:List UInt8) (c:Int):bA mEv 285 [.str x,.int .u8 c] (.int .i64 (jN (c.toNat % 256) x 0)) :=
 aZ rfl ⟨_,_,mV (g:=lO) (by kernel_rfl) rfl,rfl⟩
theorem JW (c:Nat):∀ (x:List UInt8) (k:Nat),jN c x k=-1\/∃ i:Nat,jN c x k=((k+i:Nat):Int)/\i < x.length:=by
 intro x
 induction x with
 | nil=>intro k;exact .inl rfl
 | cons b x ih =>
  intro k;simp only [jN]
  cases Nat.beq b.toNat c with
  | true=>exact .inr ⟨0,by simp,by simp⟩
  | false =>
   rcases ih (k+1) with h | ⟨i,h,hi⟩
   ·exact .inl h
   ·exact .inr ⟨i+1,by simp only [cond_false,h];congr 1;omega,by simp;omega⟩
theorem bRl (x:List UInt8) (c:Int):bA mEv 269 [.str x,.int .u8 c] (.int .i64 (jN (c.toNat % 256) x 0)):=by refine aZ rfl (aMe _ _ _ ?_);unfold f269;refine aP (bPa x c) (by simp [AV.closed]) ?_;rfl
theorem bOo (x:List UInt8) (d:UInt8):bA mEv 268 [.str x,.str [d]] (.int .i64 (jN d.toNat x 0)):=by
 refine aZ rfl (aIi _ _ _ ?_);unfold f268;have h:d.toNat % 256=d.toNat:=Nat.mod_eq_of_lt d.toNat_lt;simp only [sC,List.length_cons,List.length_nil,wx,wy,reduceAdd,reduceEqDiff,reduceCtorEq,show ((((0:Nat)+1:Nat):Int)==0)=false from rfl,show ((((0:Nat)+1:Nat):Int)==1)=true from rfl];have hix:OJ 9 (.str [d]) (.int .i64 0)=some (.int .u8 d.toNat):=rJ (x:=[d]) (i:=0) .i64 rfl;simp only [hix,wx,wy,reduceAdd,reduceEqDiff,reduceCtorEq]
 cases hh:([d]==x) with
 | true =>
  have:[d]=x:=by simpa using hh
  subst this;simp only [hh,wx,wy,reduceAdd,reduceEqDiff,reduceCtorEq];simp [jN]
 | false =>simp only [hh,wx,wy,reduceAdd,reduceEqDiff,reduceCtorEq];have hk:=bRl x d.toNat;simp only [Int.toNat_natCast,h] at hk;refine aP hk (by simp [AV.closed]) ?_;rfl
def TL (d:UInt8) (x:List UInt8):AV:=cond (decide (jN d.toNat x 0 >= 0)) (.tup [.str (x.take (jN d.toNat x 0).toNat),.str (x.drop ((jN d.toNat x 0).toNat+1)),.bool true]) (.tup [.str x,.str [],.bool false])
theorem EM (d:UInt8) (x:List UInt8):(TL d x).closed=true:=by unfold TL;cases decide (jN d.toNat x 0 >= 0)<;>rfl
theorem bQj (x:List UInt8) (d:UInt8) (hx:x.length < 2 ^ 60):bA mEv 245 [.str x,.str [d]] (TL d x):=by
 refine aZ (EM d x) (aOj _ _ _ ?_);unfold f245;refine aP (bOo x d) (by simp [AV.closed]) ?_;unfold TL;rcases JW d.toNat x 0 with h | ⟨i,h,hi⟩
 ·simp only [h,show decide ((-1:Int) >= 0)=false from rfl,wx,wy,reduceAdd,reduceEqDiff,reduceCtorEq]
 ·have hw:IntKind.i64.wrap ((i:Int)+1)=((i+1:Nat):Int):=by rw [IntWalk.i64_in _ (by omega)];rfl
  have hge:decide (((0+i:Nat):Int) >= 0)=true:=by simp
  simp only [h,hge,sC,List.length_cons,List.length_nil,wx,wy,reduceAdd,reduceEqDiff,reduceCtorEq];rw [show ((0+i:Nat):Int)=(i:Int) by simp,aGy _ (by omega),show (((0+1:Nat):Nat):Int)=1 from rfl];simp only [hw,JI _ (show i+1<=x.length by omega),wx,wy,reduceAdd,reduceEqDiff,reduceCtorEq,Int.toNat_natCast]
theorem bOj (x:List UInt8) (d:UInt8) (hx:x.length < 2 ^ 60):bA mEv 216 [.str x,.str [d]] (TL d x):=by refine aZ (EM d x) (aRg _ _ _ ?_);unfold f216;refine aP (bQj x d hx) (by simp [AV.closed]) ?_;unfold TL;cases decide (jN d.toNat x 0 >= 0)<;>simp only [wx,wy,reduceAdd,reduceEqDiff,reduceCtorEq]
def mP (x:List UInt8):Int×Int :=
 cond (dI [92,117] x)
  (cond (dI [123] (x.drop 2))
   (cond (decide (jN 125 (x.drop 3) 0 >= 0)&&!decide (jN 125 (x.drop 3) 0 > 5)) (aJz ((x.drop 3).take (jN 125 (x.drop 3) 0).toNat),jN 125 (x.drop 3) 0+4) (-1,0))
   (cond (decide ((x.drop 2).length < 4)) (-1,0) (aJz ((x.drop 2).take 4),6)))
  (-1,0)
theorem bQx (x:List UInt8) (hx:x.length < 2 ^ 60):bA mEv 182 [.str x] (.tup [.int .i64 (mP x).1,.int .i64 (mP x).2]):=by
 refine aZ rfl (aJx _ _ ?_);unfold f182;refine aP (bFv x [92,117]) (by simp [AV.closed]) ?_
 cases h:dI [92,117] x with
 | false=>simp only [mP,h,wx,wy,reduceAdd,reduceEqDiff,reduceCtorEq]
 | true =>
  simp only [h,wx,wy,reduceAdd,reduceEqDiff,reduceCtorEq,List.length_cons,List.length_nil,reduceAdd];refine aP (bFv _ [123]) (by simp [AV.closed]) ?_
  cases h2:dI [123] (x.drop 2) with
  | true =>
   simp only [h2,wx,wy,reduceAdd,reduceEqDiff,reduceCtorEq,List.length_cons,List.length_nil,reduceAdd,m075];have hm:maxLen=9223372036854775807:=rfl;refine aP (bOj (x.drop 3) 125 (by simp only [m058];omega)) (by simp [AV.closed]) ?_;have e:mP x=cond (decide (jN 125 (x.drop 3) 0 >= 0)&&!decide (jN 125 (x.drop 3) 0 > 5)) (aJz ((x.drop 3).take (jN 125 (x.drop 3) 0).toNat),jN 125 (x.drop 3) 0+4) (-1,0):=by simp only [mP,h,h2,cond_true]
   rw [e];unfold TL;show _;rw [show (125:UInt8).toNat=125 from rfl];rcases JW 125 (x.drop 3) 0 with hi | ⟨i,hi,hlt⟩
   ·simp only [hi,show decide ((-1:Int) >= 0)=false from rfl,wx,wy,reduceAdd,reduceEqDiff,reduceCtorEq]
   ·rw [m023] at hi;have hge:decide ((i:Int) >= 0)=true:=by simp
    have hll:((x.drop 3).take i).length=i:=by rw [m020];omega
    cases h3:decide (((i:Nat):Int) > 5) with
    | true =>simp only [hi,hge,sC,Int.toNat_natCast,hll,h3,wx,wy,reduceAdd,reduceEqDiff,reduceCtorEq]
    | false =>simp only [hi,hge,sC,Int.toNat_natCast,hll,h3,wx,wy,reduceAdd,reduceEqDiff,reduceCtorEq];refine aP (bLe _ (by rw [m020,m058];omega)) (by simp [AV.closed]) ?_;show AV.tup [_,.int .i64 (IntKind.i64.wrap ((i:Int)+4))]=_;rw [IntWalk.i64_in _ (by have:=of_decide_eq_false h3;omega)]
  | false =>
   have e:mP x=cond (decide ((x.drop 2).length < 4)) (-1,0) (aJz ((x.drop 2).take 4),6):=by simp only [mP,h,h2,cond_true,cond_false]
   rw [e];simp only [h2,sC,wx,wy,reduceAdd,reduceEqDiff,reduceCtorEq];have hc:decide (((x.drop 2).length:Int) < 4)=decide ((x.drop 2).length < 4):=by congr 1;simp;omega
   rw [hc]
   cases h3:decide ((x.drop 2).length < 4) with
   | true=>simp only [wx,wy,reduceAdd,reduceEqDiff,reduceCtorEq]
   | false =>
    have h4:4<=(x.drop 2).length:=by have:=of_decide_eq_false h3;omega
    have hs:∀ s,lT 9 (.str (x.drop 2)) none (some (.int .i64 4)) none s=some (.str ((x.drop 2).take 4)):=fun s=>aGy (s:=s) (x:=x.drop 2) (n:=4) .i64 h4;simp only [hs,wx,wy,reduceAdd,reduceEqDiff,reduceCtorEq];refine aP (bLe _ (by have hm:maxLen=9223372036854775807:=rfl;rw [m020];omega)) (by simp [AV.closed]) ?_;rfl
theorem aSi {x:List UInt8} (h:0<=(mP x).1):1<=(mP x).2/\(mP x).2<=x.length:=by
 unfold mP at h ⊢
 cases h1:dI [92,117] x with
 | false=>rw [h1] at h;simp only [cond_false] at h;omega
 | true =>
  rw [h1] at h;simp only [cond_true] at h ⊢;have hl:2<=x.length:=by simp only [dI,cQ,decide_eq_true_eq] at h1;exact h1.1
  cases h2:dI [123] (x.drop 2) with
  | true =>
   rw [h2] at h;simp only [cond_true] at h ⊢;have hl2:1<=(x.drop 2).length:=by simp only [dI,cQ,decide_eq_true_eq] at h2;exact h2.1
   rcases JW 125 (x.drop 3) 0 with hi | ⟨i,hi,hlt⟩
   ·rw [hi] at h;simp only [show decide ((-1:Int) >= 0)=false from rfl,m035,cond_false] at h;omega
   ·rw [m023] at hi;rw [m058] at hlt hl2;rw [hi] at h ⊢
    cases h3:(decide ((i:Int) >= 0)&&!decide ((i:Int) > 5)) with
    | false=>rw [h3] at h;simp only [cond_false] at h;omega
    | true=>simp only [cond_true];omega
  | false =>
   rw [h2] at h;simp only [cond_false] at h ⊢
   cases h3:decide ((x.drop 2).length < 4) with
   | true=>rw [h3] at h;simp only [cond_true] at h;omega
   | false =>have:=of_decide_eq_false h3;rw [m058] at this;simp only [cond_false];omega
def vF:Nat->List UInt8->List Int
 | 0,_=>[]
 | n+1,x=>match x with
  | []=>[]
  | c::r=>cond (decide ((mP (c::r)).1 < 0)) ((c.toNat:Int)::vF n r) ((mP (c::r)).1::vF n ((c::r).drop (mP (c::r)).2.toNat))
def KG (x:List UInt8):List Int:=vF x.length x
theorem jP:PB dT 1:=⟨fun _=>rfl,fun _=>rfl⟩
theorem pO:PB kQ 2:=⟨fun _=>rfl,fun _=>rfl⟩
theorem bRv (x:List UInt8) (hx:x.length<=2 ^ 30) (Q:aE) (l:List Int) (hQ:∀ y s,aI s->Gw 3 1 0 s y (l.map dT)->Q y s):∀ (m i:Nat) (y:AV) (p:List Int) (s:St),x.length<=i+m->i<=x.length->p.length<=i->aI s->Gw 3 1 0 s y (p.map dT)->l=p++vF m (x.drop i)->pJ Q (m+1) (.str x) y (.int .i64 i) s:=by
 intro m;have hx2:(2:Nat) ^ 30=1073741824:=rfl;have fin:∀ i (y:AV) (p:List Int) (s:St) (ih1),i=x.length->aI s->Gw 3 1 0 s y (p.map dT)->l=p->vN Q ih1 (.str x) y (.int .i64 i) s:=by intro i y p s ih1 hi fr g hl;subst hi;subst hl;simp only [vN,CD,sC,ge_iff_le,Int.le_refl,decide_true,wx,wy,reduceAdd,reduceEqDiff,reduceCtorEq];exact hQ _ _ fr.adv g.adv
 induction m with
 | zero =>intro i y p s hm hi hp fr g hl;exact fin i y p s _ (by omega) fr g (by rw [hl,vF,m011])
 | succ m ih =>
  intro i y p s hm hi hp fr g hl;show vN Q (pJ Q (m+1)) _ _ _ s;by_cases hge:x.length<=i
  ·refine fin i y p s _ (by omega) fr g ?_;rw [show i=x.length by omega,List.drop_length] at hl;simpa [vF] using hl
  ·have hge2:decide ((i:Int) >= (x.length:Int))=false:=by simp;omega
   obtain ⟨c,hc⟩:∃ c,x[i]?=some c:=⟨_,m004 (by omega)⟩;have hd:=bZ x i c hc;rw [hd,vF] at hl;simp only [vN,sC,hge2,JI _ (show i<=x.length by omega),wx,wy,reduceAdd,reduceEqDiff,reduceCtorEq];refine aP (bQx (x.drop i) (by rw [m058];omega)) (by simp [AV.closed]) ?_;rw [<- hd] at hl;have bs:∀ v:Int,lE 72 1 [(0,.int .i64 v)]=some (.sl true [dT v]):=fun v=>eB sB (by decide) rfl rfl
   cases h:decide ((mP (x.drop i)).1 < 0) with
   | true =>rw [h] at hl;simp only [h,wx,wy,reduceAdd,reduceEqDiff,reduceCtorEq,rJ _ hc,bIn,EO];rw [show IntKind.i64.wrap ((c.toNat:Nat):Int)=(c.toNat:Int) from IntWalk.i64_in _ (by have:=c.toNat_lt;omega),bs];simp only [wx,wy,reduceAdd,reduceEqDiff,reduceCtorEq];rw [gQ sB jP g.adv (by omega) (by omega)];simp only [wx,wy,reduceAdd,reduceEqDiff,reduceCtorEq];rw [bU i _ (show i < x.length by omega) (by have hm:maxLen=9223372036854775807:=rfl;omega)];refine ih (i+1) _ (p++[(c.toNat:Int)]) _ (by omega) (by omega) (by simp;omega) (wY fr _ _ (by omega)) (jW jP) ?_;rw [hl];simp only [cond_true,m019,List.singleton_append]
   | false =>rw [h] at hl;obtain ⟨h1,h2⟩:=aSi (show 0<=(mP (x.drop i)).1 by have:=of_decide_eq_false h;omega);rw [m058] at h2;simp only [h,wx,wy,reduceAdd,reduceEqDiff,reduceCtorEq,EO,bs];rw [gQ sB jP g.adv (by omega) (by omega)];simp only [wx,wy,reduceAdd,reduceEqDiff,reduceCtorEq];obtain ⟨k,hk⟩:∃ k:Nat,(mP (x.drop i)).2=(k:Int):=⟨(mP (x.drop i)).2.toNat,by omega⟩;rw [hk] at h1 h2 hl ⊢;rw [show IntKind.i64.wrap ((i:Int)+(k:Int))=((i+k:Nat):Int) by rw [IntWalk.i64_in _ (by omega)];rfl];refine ih (i+k) _ (p++[(mP (x.drop i)).1]) _ (by omega) (by omega) (by simp;omega) (wY fr _ _ (by omega)) (jW jP) ?_;rw [hl];simp only [cond_false,m019,List.singleton_append,Int.toNat_natCast,m075]
theorem bQo (x:List UInt8) (hx:x.length<=2 ^ 30):bA mEv 129 [.str x] (.sl false ((KG x).map dT)):=by refine cR (aPs _ _ ?_);unfold f129;exact ⟨x.length+1,bRv x hx _ (KG x) (fun y s fr g=>CC (qK sB g (fun _ _=>rfl) (fun _ _=>rfl) 11)) x.length 0 .nils [] _ (by omega) (by omega) (by simp) jF.adv gK rfl⟩
def jY (out:List (Int×Int)) (c:Int):List (Int×Int):=match out.getLast? with
 | none=>out++[(c,1)]
 | some r=>cond (r.1==c) (out.dropLast++[(r.1,IntKind.i64.wrap (r.2+1))]) (out++[(c,1)])
def nQ:List Int->List (Int×Int)->List (Int×Int)×Int
 | [],out=>cond (decide ((out.length:Int) > 65536)) ([],2) (out,0)
 | c::l,out=>cond (NW c) (nQ l (jY out c)) ([],1)
def rtA (r:List (Int×Int)×Int):AV:=.tup [.sl false (r.1.map kQ),.int .i64 r.2]
theorem LC (out:List (Int×Int)) (c:Int):(jY out c).length<=out.length+1:=by
 unfold jY
 cases h:out.getLast? with
 | none=>simp
 | some r =>simp only;cases (r.1==c)<;>simp
theorem ZP (o:List (Int×Int)) (r:Int×Int) (v:AV):(((o++[r]).map kQ).flatMap AV.cells).set (o.length * 2+1) v=((o.map kQ).flatMap AV.cells)++[.int .i64 r.1,v]:=by
 have hl:((o.map kQ).flatMap AV.cells).length=o.length * 2:=by rw [dJ (z:=2) (rF pO.len pO.ones o),m002]
 rw [m038,m056,List.set_append_right _ _ (by omega),hl];simp [kQ,AV.cells]
theorem bOf (l:List Int) (hl:l.length<=2 ^ 30) (Q:aE) (r:List (Int×Int)×Int) (hQ1:∀ s e,r=([],e)->Q (.tup [.nils,.int .i64 e]) s) (hQ2:∀ y s out,aI s->Gw 109 2 0 s y (out.map kQ)->r=(out,0)->Q (.tup [y,.int .i64 0]) s) :
  ∀ (m i:Nat) (y:AV) (out:List (Int×Int)) (s:St),i+m=l.length->out.length<=i->aI s->Gw 109 2 0 s y (out.map kQ)->r=nQ (l.drop i) out->oE Q (m+1) y (.sl false (l.map dT)) (.int .i64 l.length) (.int .i64 i) s:=by
 intro m;have hx2:(2:Nat) ^ 30=1073741824:=rfl
 induction m with
 | zero =>
  intro i y out s hi hp fr g hr;show wP Q (oE Q 0) _ _ _ _ s;rw [m044 (by omega),nQ] at hr;have hl25:=fun k=>bAk (g.adv (n:=4)) k;simp only [m002] at hl25;simp only [wP,EP,nA,show ¬ (i < l.length) by omega,decide_false,hl25,wx,wy,reduceAdd,reduceEqDiff,reduceCtorEq]
  cases h:decide ((out.length:Int) > 65536) with
  | true=>rw [h] at hr;simp only [wx,wy,reduceAdd,reduceEqDiff,reduceCtorEq];exact hQ1 _ 2 hr
  | false=>rw [h] at hr;simp only [wx,wy,reduceAdd,reduceEqDiff,reduceCtorEq];exact hQ2 _ _ out fr.adv g.adv hr
 | succ m ih =>
  intro i y out s hi hp fr g hr;show wP Q (oE Q (m+1)) _ _ _ _ s;obtain ⟨c,hc⟩:∃ c,l[i]?=some c:=⟨_,m004 (by omega)⟩;have hlt:i < l.length:=by omega
  rw [bZ l i c hc,nQ] at hr;simp only [wP,nA,hlt,decide_true,cM jP false hc,wx,wy,reduceAdd,reduceEqDiff,reduceCtorEq];have hin:(dT c).cells[0]?=some (.int .i64 c):=rfl;simp only [hin,wx,wy,reduceAdd,reduceEqDiff,reduceCtorEq];refine aP (bRo c) (by simp [AV.closed]) ?_
  cases hp2:NW c with
  | false=>rw [hp2] at hr;simp only [wx,wy,reduceAdd,reduceEqDiff,reduceCtorEq];exact hQ1 _ 1 hr
  | true =>
   rw [hp2] at hr;have hl25:=fun n k=>bAk (g.adv (n:=n)) k;simp only [m002] at hl25;have hw:IntKind.i64.wrap ((out.length:Int) - 1)=(out.length:Int) - 1:=IntWalk.i64_in _ (by omega);have hm:maxLen=9223372036854775807:=rfl;have bs:lE 25 1 [(0,kQ (c,1))]=some (.sl true [kQ (c,1)]):=eB aRm (by decide) rfl rfl;have bl:lV 109 [(0,.int .i64 c),(1,.int .i64 1)]=some (kQ (c,1)):=by rw [bFu];rfl
   have hnew:∀ q,aI q->Gw 109 2 0 q y (out.map kQ)->q.nx=s.nx->jY out c=out++[(c,1)]->∀ k,wU Q (oE Q (m+1)) (.int .i64 i) (.ref (s.nx+k) 0 (out.length+1) none 109) (.sl false (l.map dT)) (.int .i64 l.length) (Ai.adv ((q.drop (aF y)).set (s.nx+k) (some (.cells (((out++[(c,1)]).map kQ).flatMap AV.cells) 109 false true))) (k+2)):=by intro q fq gq hq hst k;simp only [wU,wx,wy,reduceAdd,reduceEqDiff,reduceCtorEq];rw [bU i _ hlt (by omega)];exact ih (i+1) _ (out++[(c,1)]) _ (by omega) (by simp;omega) (wY fq _ _ (by omega)) (jW pO) (by rw [hr,hst];rfl)
   cases ho:out.getLast? with
   | none =>
    have ho2:out=[]:=by simpa using ho
    subst ho2;simp only [hl25,wx,wy,reduceAdd,reduceEqDiff,reduceCtorEq,List.length_nil,show IntKind.i64.wrap (((0:Nat):Int) - 1)=-1 from rfl,show decide ((-1:Int) >= 0)=false from rfl,bl,bs];rw [gQ aRm pO g.adv (by simp) (by simp)];simp only [wx,wy,reduceAdd,reduceEqDiff,reduceCtorEq];exact hnew s fr g rfl rfl _
   | some q =>
    obtain ⟨o,hoo⟩:∃ o,out=o++[q]:=⟨out.dropLast,by
     have:=List.getLast?_eq_some_iff.1 ho;obtain ⟨ys,rfl⟩:=this
     simp⟩
    subst hoo;have hk:((o++[q]).length:Int) - 1=(o.length:Int):=by simp
    obtain ⟨_,⟨_,hbad⟩ | ⟨b,_,rfl,hb⟩⟩:=id g
    ·simp at hbad
    have hixr:∀ e,cB 2 (.ref b 0 ((o++[q]).map kQ).length none e) (.int .i64 (o.length:Int))=some (.ptr b (o.length * 2)):=fun e=>by have:=oF (e:=e) (z:=2) (id:=b) (off:=0) (c:=none) (show o.length < ((o++[q]).map kQ).length by simp) .i64;rw [this];simp
    have hc0:(((o++[q]).map kQ).flatMap AV.cells)[o.length * 2]?=some (.int .i64 q.1):=by have:=fC (vs:=(o++[q]).map kQ) (z:=2) (fun v hv=>(g.1 v hv).1) (i:=o.length) (v:=kQ q) (by simp) (k:=0) (by omega);rw [<- Nat.add_zero (o.length * 2),this];rfl
    have hc1:(((o++[q]).map kQ).flatMap AV.cells)[o.length * 2+1]?=some (.int .i64 q.2):=by have:=fC (vs:=(o++[q]).map kQ) (z:=2) (fun v hv=>(g.1 v hv).1) (i:=o.length) (v:=kQ q) (by simp) (k:=1) (by omega);rw [this];rfl
    have hw2:IntKind.i64.wrap (o.length:Int)=(o.length:Int):=bJj (by simp at hp;omega);simp only [hl25,hk,hw2,hixr,hb,hc0,wx,wy,reduceAdd,reduceEqDiff,reduceCtorEq,show decide ((o.length:Int) >= 0)=true by simp]
    cases hq:(q.1==c) with
    | true =>
     simp only [hixr,hb,hc1,wx,wy,reduceAdd,reduceEqDiff,reduceCtorEq];have hsto:∀ v n,dN 1 (.ptr b (o.length * 2+1)) (.int .i64 v) (adv s n)=some (adv (s.set b (some (.cells (((o.map kQ).flatMap AV.cells)++[.int .i64 q.1,.int .i64 v]) 109 false true))) n):=fun v n=>by have:=dW (id:=b) (off:=o.length * 2+1) (v:=.int .i64 v) (s:=adv s n) hb (by rw [dJ (fun v hv=>g.1 v hv)];simp;omega) rfl rfl;rw [this,ZP];rfl
     simp only [hsto,wU,wx,wy,reduceAdd,reduceEqDiff,reduceCtorEq];rw [bU i _ hlt (by omega)];have e:jY (o++[q]) c=o++[(q.1,IntKind.i64.wrap (q.2+1))]:=by simp only [jY,ho,hq,cond_true,List.dropLast_concat]
     refine ih (i+1) _ (o++[(q.1,IntKind.i64.wrap (q.2+1))]) _ (by omega) (by simp at hp ⊢;omega) (bW fr _ ?_) ?_ (by rw [hr,e];rfl)
     ·have:=g.id_lt fr b (by simp [aF]);omega
     ·refine ⟨rF pO.len pO.ones _,.inr ⟨b,mM _,by simp,?_⟩⟩;rw [adv_h,aG,m038,m056];rfl
    | false =>
     simp only [wx,wy,reduceAdd,reduceEqDiff,reduceCtorEq,bl,bs];rw [gQ aRm pO g.adv (by simp at hp ⊢;omega) (by simp at hp ⊢;omega)];simp only [wx,wy,reduceAdd,reduceEqDiff,reduceCtorEq];have e:jY (o++[q]) c=(o++[q])++[(c,1)]:=by simp only [jY,ho,hq,cond_false]
     exact hnew s fr g rfl e _
theorem bPo (l:List Int) (hl:l.length<=2 ^ 30):bA mEv 128 [.sl false (l.map dT)] (rtA (nQ l [])):=by
 refine cR (aFd _ _ ?_);unfold f128;simp only [LT,m002,wx,wy,reduceAdd,reduceEqDiff,reduceCtorEq];refine ⟨l.length+1,bOf l hl _ (nQ l []) (fun s e h=>?_) (fun y s out fr g h=>?_) l.length 0 .nils [] _ (by omega) (by simp) jF.adv gK rfl⟩
 ·rw [h];exact ⟨[],rfl⟩
 ·rw [h];obtain ⟨ids,hp,_⟩:=IZ aRm g (fun _ _=>rfl) (fun _ _=>rfl) 10;exact ⟨ids,OM g.not_closed hp rfl⟩
end
noncomputable section
theorem PP:∀ f u,(wF f u).length<=f:=by
 intro f
 induction f with
 | zero=>intro u;exact bJ _
 | succ f ih =>
  intro u;simp only [wF]
  cases Nat.blt u 10 with
  | true=>simp
  | false=>simp only [cond_false,m006,List.length_cons,List.length_nil];have:=ih (u / 10);omega
theorem gE (n:Int):(cK n).length<=21:=by
 unfold cK
 split
 ·have:=PP 20 n.natAbs;simp;omega
 ·have:=PP 20 n.toNat;omega
theorem SK (n:Int) (h0:-9223372036854775808<=n) (h1:n<=9223372036854775807):bA mEv 206 [.int .i64 n] (.str (cK n)) :=
 cR ⟨_,_,mV (g:=HU) (by kernel_rfl) (by simp only [HU,h0,h1,and_self,if_true];rfl),aT rfl⟩
def FG (neg:Bool) (n:List Nat):AV:=.agg [.bool neg,fX n]
theorem kP (neg:Bool) (n:List Nat):(FG neg n).closed=true:=by simp only [FG,AV.closed,aX,dB,iR]
def lZ (neg:Bool) (n:List Nat):Bool×List Nat:=(neg&&!(bP n==[]),bP n)
theorem bOk (neg:Bool) (n:List Nat) (hn:n.length<=2 ^ 30):bA mEv 105 [.bool neg,fX n] (FG (lZ neg n).1 (lZ neg n).2):=by
 refine cR (aLc _ _ _ ?_);unfold f105;simp only [bKl,wx,wy,reduceAdd,reduceEqDiff,reduceCtorEq];refine aP (aAd n hn) (by simp [dB]) ?_;have hb:∀ b:Bool,lV 24 [(0,.bool b),(1,fX (bP n))]=some (FG b (bP n)):=fun b=>by rw [bFo];rfl
 have hl:decide (((bP n).length:Int) > 0)=!(bP n==[]):=by
  cases h:bP n with
  | nil=>rfl
  | cons x t=>simp
 have hln:∀ id s,bt .len #[22] [fX (bP n)] id s=some (.int .i64 (bP n).length,s):=fun id s=>by show bt .len #[22] [.sl false ((bP n).map kX)] id s=_;rw [yV,m002]
 have hfin:∀ (b:Bool) (s:St) (n1:Nat),dN 2 (.ptr s.nx 0) (FG b (bP n)) (Ai.adv (s.set s.nx (some (.cells (AV.agg [.bool false,.nils]).cells 24 true true))) n1)=some (Ai.adv (s.set s.nx (some (.cells (FG b (bP n)).cells 24 true true))) n1):=fun b s n1=>by rw [bI (z:=2) (by rw [adv_h,aG]) rfl rfl rfl,adv_set,set_set]
 have hp:∀ b:Bool,Ai.part 2 true 0 (FG b (bP n)).cells=some (FG b (bP n)):=fun b=>rfl
 cases neg with
 | false =>simp only [hb,wx,wy,reduceAdd,reduceEqDiff,reduceCtorEq];rw [hfin];simp only [wx,wy,reduceAdd,reduceEqDiff,reduceCtorEq,hp];exact aT (kP _ _)
 | true =>simp only [hln,hl,hb,wx,wy,reduceAdd,reduceEqDiff,reduceCtorEq];rw [hfin];simp only [wx,wy,reduceAdd,reduceEqDiff,reduceCtorEq,hp];exact aT (kP _ _)
theorem AH (b:Bool) (n:List Nat):Ai.part 2 true 0 (FG b n).cells=some (FG b n):=rfl
theorem wz0 (b:Bool) (n:List Nat):(FG b n).cells[0]?=some (.bool b):=rfl
theorem wz1 (b:Bool) (n:List Nat):(FG b n).cells[1]?=some (fX n):=rfl
theorem wX (n:List Nat) (id:Nat) (s:St):bt .len #[22] [fX n] id s=some (.int .i64 n.length,s):=by show bt .len #[22] [.sl false (n.map kX)] id s=_;rw [yV,m002]
theorem bCr (b b':Bool) (n n':List Nat) (q:St) (i c:Nat):dN 2 (.ptr i 0) (FG b n) (Ai.adv (q.set i (some (.cells (FG b' n').cells 24 true true))) c)=some (Ai.adv (q.set i (some (.cells (FG b n).cells 24 true true))) c):=by rw [bI (z:=2) (by rw [adv_h,aG]) rfl rfl rfl,adv_set,set_set]
theorem c69 (neg:Bool) (n:List Nat) (hn:n.length<=2 ^ 30):bA mEv 69 [FG neg n] (FG (lZ neg n).1 (lZ neg n).2):=by refine cR (aUf _ _ ?_);unfold f69;refine ⟨rfl,?_⟩;simp only [bKl,wz0,wz1,wx,wy,reduceAdd,reduceEqDiff,reduceCtorEq];refine aP (bOk neg n hn) (by simp [dB,AV.closed]) ?_;rw [bI (z:=2) (by rw [adv_h,aG]) rfl rfl rfl];simp only [wx,wy,reduceAdd,reduceEqDiff,reduceCtorEq,AH];exact aT (kP _ _)
def LP (neg:Bool) (n:List Nat):Int:=bif bP n==[] then 0 else bif neg then -1 else 1
theorem c20 (neg:Bool) (n:List Nat) (hn:n.length<=2 ^ 30):bA mEv 20 [FG neg n] (.int .i64 (LP neg n)):=by
 refine cR (aWm _ _ ?_);unfold f20;refine ⟨rfl,?_⟩;simp only [AH,wx,wy,reduceAdd,reduceEqDiff,reduceCtorEq];refine aP (c69 neg n hn) (by simp [kP]) ?_;rw [bCr];simp only [wz0,wz1,wX,wx,wy,reduceAdd,reduceEqDiff,reduceCtorEq]
 have hl:decide (((bP n).length:Int) > 0)=!(bP n==[]):=by
  cases h:bP n with
  | nil=>rfl
  | cons x t=>simp
 unfold LP lZ;simp only [hl];cases h:(bP n==[])<;>cases neg<;>simp only [m025,m027,cond_true,cond_false,wx,wy,reduceAdd,reduceEqDiff,reduceCtorEq,aIt]<;>exact aT rfl
def BY (left:Int) (p:Option Int):List (Int×Int)->Bool
 | []=>true
 | r::l=>bif decide (r.1 < 0)||(decide (r.1 > 196607)||(decide (r.2 < 1)||(decide (r.2 > left)||p==some r.1))) then false else BY (left - r.2) (some r.1) l
def SR (l:List (Int×Int)):Bool:=decide (l.length<=65536)&&BY 1099511627776 none l
theorem l60 (l:List (Int×Int)) (hl:l.length<=65536) (ex:Bool) (Q:aE) (b:Bool) (hQ:∀ s,Q (.bool b) s):∀ (m i:Nat) (left:Int) (p:Option Int) (s:St),i+m=l.length->0<=left->left<=2 ^ 40->(p=if i=0 then none else (l[i - 1]?).map Prod.fst)->BY left p (l.drop i)=b ->
  yQ Q (m+1) (.sl ex (l.map kQ)) (.int .i64 left) (.sl ex (l.map kQ)) (.int .i64 l.length) (.int .i64 i) s:=by
 intro m
 induction m with
 | zero =>
  intro i left p s hi h0 h1 hp hb;show EH Q (yQ Q 0) _ _ _ _ _ s;have c1:decide ((i:Int) < (l.length:Int))=false:=by simp;omega
  rw [m037 (by omega)] at hb;simp only [EH,c1,PX,wx,wy,reduceAdd,reduceEqDiff,reduceCtorEq];have:b=true:=hb.symm;subst this;exact hQ _
 | succ m ih =>
  intro i left p s hi h0 h1 hp hb;show EH Q (yQ Q (m+1)) _ _ _ _ _ s;have c1:decide ((i:Int) < (l.length:Int))=true:=by simp;omega
  obtain ⟨r,hr⟩:∃ r,l[i]?=some r:=⟨_,m004 (by omega)⟩;rw [bZ l i r hr] at hb;simp only [BY] at hb;have hst:∀ (v:AV) (q:St) (i n:Nat),v.cells.length=2->v.cells.all AV.one=true->dN 2 (.ptr i 0) v (Ai.adv (q.set i (some (.cells (AV.agg [.int .i64 0,.int .i64 0]).cells 109 true true))) n)=some (Ai.adv (q.set i (some (.cells v.cells 109 true true))) n):=fun v q i n e1 e2=>by rw [bI (z:=2) (by rw [adv_h,aG]) rfl e1 e2,adv_set,set_set]
  have hix:=cM pO ex hr .i64;have w1:IntKind.i64.wrap ((i:Int)+1)=((i+1:Nat):Int):=by rw [IntWalk.i64_in _ (by omega)];rfl
  simp only [EH,c1,hix,VW,aZi,wx,wy,reduceAdd,reduceEqDiff,reduceCtorEq];rw [hst _ _ _ _ rfl rfl]
  cases e1:decide (r.1 < 0) with
  | true =>rw [e1,m033,cond_true] at hb;subst hb;simp only [rn0,rn1,e1,wx,wy,reduceAdd,reduceEqDiff,reduceCtorEq];exact hQ _
  | false =>
  cases e2:decide (r.1 > 196607) with
  | true =>rw [e1,e2,m026,m033,cond_true] at hb;subst hb;simp only [rn0,rn1,e1,e2,wx,wy,reduceAdd,reduceEqDiff,reduceCtorEq];exact hQ _
  | false =>
  cases e3:decide (r.2 < 1) with
  | true =>rw [e1,e2,e3,m026,m026,m033,cond_true] at hb;subst hb;simp only [rn0,rn1,e1,e2,e3,wx,wy,reduceAdd,reduceEqDiff,reduceCtorEq];exact hQ _
  | false =>
  cases e4:decide (r.2 > left) with
  | true =>rw [e1,e2,e3,e4,m026,m026,m026,m033,cond_true] at hb;subst hb;simp only [rn0,rn1,e1,e2,e3,e4,wx,wy,reduceAdd,reduceEqDiff,reduceCtorEq];exact hQ _
  | false =>
  rw [e1,e2,e3,e4,m026,m026,m026,m026] at hb;have o3:=of_decide_eq_false e3;have o4:=of_decide_eq_false e4;have w2:IntKind.i64.wrap (left - r.2)=left - r.2:=IntWalk.i64_in _ (by omega)
  cases i with
  | zero =>simp only [if_true] at hp;subst hp;have hb:BY (left - r.2) (some r.1) (l.drop 1)=b:=hb;simp only [rn0,rn1,e1,e2,e3,e4,show decide (((0:Nat):Int) > 0)=false from rfl,VP,w1,w2,wx,wy,reduceAdd,reduceEqDiff,reduceCtorEq];exact ih 1 _ (some r.1) _ (by omega) (by omega) (by omega) (by simp only [Nat.one_ne_zero,if_false,Nat.sub_self];rw [hr];rfl) hb
  | succ k =>
   have c2:decide (((k+1:Nat):Int) > 0)=true:=by simp
   obtain ⟨q,hq⟩:∃ q,l[k]?=some q:=⟨_,m004 (by omega)⟩;have hix2:=cM pO ex hq .i64;have w3:IntKind.i64.wrap (((k+1:Nat):Int) - 1)=(k:Int):=by rw [IntWalk.i64_in _ (by omega)];omega
   have hp:p=some q.1:=by rw [hp,if_neg (by omega),Nat.add_sub_cancel,hq];rfl
   subst hp;have e5:(some q.1==some r.1)=(q.1==r.1):=rfl;rw [e5] at hb
   cases e6:(q.1==r.1) with
   | true =>rw [e6,cond_true] at hb;subst hb;simp only [rn0,rn1,e1,e2,e3,e4,c2,w3,hix2,e6,wx,wy,reduceAdd,reduceEqDiff,reduceCtorEq];exact hQ _
   | false =>rw [e6,cond_false] at hb;simp only [rn0,rn1,e1,e2,e3,e4,c2,w3,hix2,e6,VP,w1,w2,wx,wy,reduceAdd,reduceEqDiff,reduceCtorEq];exact ih (k+1+1) _ (some r.1) _ (by omega) (by omega) (by omega) (by rw [if_neg (by omega),Nat.add_sub_cancel,hr];rfl) hb
theorem c60 (ex:Bool) (l:List (Int×Int)) (hl:l.length<=2 ^ 40):bA mEv 60 [.sl ex (l.map kQ)] (.bool (SR l)):=by
 refine cR (aSr _ _ ?_);unfold f60 SR;simp only [bBt,m002,wx,wy,reduceAdd,reduceEqDiff,reduceCtorEq]
 cases h:decide (l.length<=65536) with
 | false =>
  have h1:decide ((l.length:Int) > 65536)=true:=by simp at h ⊢;omega
  simp only [h1,wx,wy,reduceAdd,reduceEqDiff,reduceCtorEq];exact aT rfl
 | true =>
  have h2:=of_decide_eq_true h;have h1:decide ((l.length:Int) > 65536)=false:=by simp;omega
  simp only [h1,wx,wy,reduceAdd,reduceEqDiff,reduceCtorEq];exact ⟨l.length+1,l60 l h2 ex _ _ (fun s=>aT rfl) l.length 0 1099511627776 none _ (by omega) (by decide) (by decide) rfl rfl⟩
end
noncomputable section
structure Nd:Type where
 op:Int
 so:Int
 a:List Int
 nm:List UInt8
 neg:Bool
 num:List Nat
 str:List (Int×Int)
abbrev Bk:=List Nd
abbrev Mm:=List (List UInt8×Int)
abbrev Sg:=Bk×Mm
abbrev Ev:=List (List UInt8×Int)
abbrev Rt:=Option ((Int×Int)×Sg)
def jH (n:Nd):List UInt8 :=
 cK n.op++[58]++cK n.so++n.a.flatMap (fun i=>32::cK i)++35::GA n.num++n.str.flatMap (fun r=>32::cK r.1++42::cK r.2)++61::n.nm
def hO (k:List UInt8):Bk->Option Nat
 | []=>none
 | m::B=>bif k==jH m then some 0 else (hO k B).map (·+1)
def gF (B:Bk) (n:Nd):(Int×Int)×Bk :=
 match hO (jH n) B with
 | some i=>(((i:Int),0),B)
 | none=>bif (B.length:Int)==20000 then ((0,2),B) else (((B.length:Int),0),B++[n])
def oR (B:Bk) (nm:List UInt8) (so:Int):(Int×Int)×Bk :=
 bif decide (so < 1)||(decide (so > 3)||decide ((nm.length:Int) > 16384)) then ((0,1),B) else gF B ⟨1,so,[],nm,false,[],[]⟩
def IW (B:Bk) (v:Bool):(Int×Int)×Bk:=gF B ⟨bif v then 2 else 3,1,[],[],false,[],[]⟩
def HL (B:Bk) (neg:Bool) (n:List Nat):(Int×Int)×Bk :=
 bif decide (LP neg n < 0) then ((0,1),B) else gF B ⟨4,2,[],[],(lZ neg n).1,(lZ neg n).2,[]⟩
def aBl (B:Bk) (s:List (Int×Int)):(Int×Int)×Bk :=
 bif SR s then gF B ⟨5,3,[],[],false,[],s⟩ else ((0,1),B)
structure zT:Type where
 parts:Int
 more:Bool
 s0:Int
 s1:Int
 s2:Int
 own:Int
def jU:List zT :=
 let z:zT:=⟨0,false,0,0,0,0⟩
 let b2:zT:=⟨2,true,1,1,1,1⟩
 let e2:zT:=⟨2,true,-2,-1,-1,1⟩
 let i2:zT:=⟨2,true,2,2,2,2⟩
 let l2:zT:=⟨2,true,2,2,2,1⟩
 let t2:zT:=⟨2,false,3,3,3,1⟩
 [z,z,z,z,z,z,⟨1,false,1,1,1,1⟩,b2,b2,b2,b2,e2,e2,⟨3,false,1,-2,-1,-1⟩,⟨1,false,2,2,2,2⟩,i2,i2,i2,l2,l2,l2,l2,
  ⟨2,true,3,3,3,3⟩,⟨1,false,3,3,3,2⟩,⟨2,false,3,2,2,3⟩,⟨3,false,3,2,2,3⟩,t2,t2,t2,⟨3,false,3,3,2,2⟩,⟨3,false,3,3,3,3⟩]
def zT.sort (x:zT):Nat->Int
 | 0=>x.s0
 | 1=>x.s1
 | _=>x.s2
def qV (B:Bk) (i:Int):Option Nd:=bif decide (i < 0) then none else B[i.toNat]?
def sU (B:Bk) (i:Int):Int:=match qV B i with
 | some n=>n.so
 | none=>0
def aMn (B:Bk) (i:Int):Int:=match qV B i with
 | some n=>n.op
 | none=>0
def eR (B:Bk) (x:zT):Nat->Int->List Int->Int
 | _,last,[]=>bif x.own==-1 then last else x.own
 | i,last,id::a =>
  let want:=bif x.sort i==-1 then last else x.sort i
  bif want != -2&&want != sU B id then 0 else eR B x (i+1) (sU B id) a
def iB (B:Bk) (id:Int):Bool:=match qV B id with
 | none=>false
 | some n=>n.op==4||(n.op==14&&match n.a with
  | i::_=>aMn B i==4
  | []=>false)
def gH (B:Bk):List Int->Nat
 | []=>0
 | id::a=>(bif iB B id then 0 else 1)+gH B a
def zR (B:Bk) (id:Int):Bool:=decide (id < 0)||decide (id >= (B.length:Int))
def oO (B:Bk) (op:Int) (a:List Int):(Int×Int)×Bk :=
 bif decide (op < 0) then ((0,101),B) else
 match jU[op.toNat]? with
 | none=>((0,101),B)
 | some x=>bif x.parts==0 then ((0,101),B) else
  bif decide ((a.length:Int) < x.parts)||((decide ((a.length:Int) > x.parts)&&!x.more)||(decide ((a.length:Int) > 200)||a.any (zR B))) then ((0,1),B) else
  bif eR B x 0 0 a==0 then ((0,90),B) else
  bif op==17&&!decide (gH B a<=1) then ((0,101),B) else gF B ⟨op,eR B x 0 0 a,a,[],false,[],[]⟩
def cD (nm:List UInt8) (parts:Int):Int:=bif nm==[45]&&parts==1 then 14 else EX nm
def bC (x:List UInt8):Bool:=(uC QR x).isSome||(EX x != 0)||dI [115,116,114,46] x||dI [114,101,46] x
def bY:Ev->List UInt8->Option Int
 | [],_=>none
 | p::l,nm=>match bY l nm with
  | some i=>some i
  | none=>bif p.1==nm then some p.2 else none
def dQ:List Dc->List UInt8->Option Nat
 | [],_=>none
 | d::l,nm=>match dQ l nm with
  | some i=>some (i+1)
  | none=>bif d.nm==nm then some 0 else none
def oB (k:List UInt8):Mm->Option Int
 | []=>none
 | (a,v)::l=>bif k==a then some v else oB k l
def IX (k:List UInt8) (v:Int):Mm->Mm
 | []=>[(k,v)]
 | (a,u)::l=>bif k==a then (k,v)::l else (a,u)::IX k v l
def eQ (B:Bk):List (List UInt8×Int)->List Int->Bool
 | p::ps,i::a=>sU B i==p.2&&eQ B ps a
 | _,_=>true
def jL (k:Nat) (a:List Int):List UInt8:=a.flatMap (fun i=>cK i++[32])++102::cK k
def wS (r:(Int×Int)×Bk) (M:Mm):Rt:=some (r.1,(r.2,M))
def Sx.lst:Sx->Bool
 | .mk l _ _ _ _ _=>l
def Sx.kind:Sx->Int
 | .mk _ k _ _ _ _=>k
def Sx.txt:Sx->List UInt8
 | .mk _ _ x _ _ _=>x
def Sx.its:Sx->List Sx
 | .mk _ _ _ _ _ l=>l
def Sx.isN (x:Sx):Bool:=!x.lst&&x.kind==3
def dbl:List (List UInt8)->Bool
 | l=>(List.range l.length).any fun i=>(l.take i).any fun y=>some y==l[i]?
def lQ:List UInt8:=[116,114,117,101]
def qX:List UInt8:=[102,97,108,115,101]
def RL:List UInt8:=[108,101,116]
def cF:List Sx->Option (List (List UInt8)×List Sx)
 | []=>some ([],[])
 | p::l=>match p.lst,p.its with
  | true,[x,y]=>bif x.isN then (cF l).map fun q=>(x.txt::q.1,y::q.2) else none
  | _,_=>none
section
variable (ps:List UInt8->List Nat×Int) (mm:Bool) (f:List Dc->Ev->Sx->Sg->Rt)
def eE (L:List Dc) (env:Ev):List Sx->Sg->Option ((List Int×Int)×Sg)
 | [],σ=>some (([],0),σ)
 | x::l,σ=>(f L env x σ).bind fun r=>bif r.1.2==0 then (eE L env l r.2).map fun q=>((bif q.1.2==0 then r.1.1::q.1.1 else [],q.1.2),q.2) else some (([],r.1.2),r.2)
def gJ (L:List Dc) (k:Nat) (a:List Int) (σ:Sg):Rt :=
 match L[k]? with
 | none=>none
 | some d=>bif a.length==d.ps.length then
   (bif eQ σ.1 d.ps a then
    match (bif mm then oB (jL k a) σ.2 else none) with
    | some id=>some ((id,0),σ)
    | none=>(f (L.take k) (List.zip (d.ps.map (·.1)) a) d.body σ).map fun r=>(r.1,(r.2.1,bif mm&&r.1.2==0 then IX (jL k a) r.1.1 r.2.2 else r.2.2))
   else some ((0,90),σ)) else some ((0,1),σ)
def kW (L:List Dc) (env:Ev) (nm:List UInt8) (σ:Sg):Rt :=
 bif nm==lQ||nm==qX then wS (IW σ.1 (nm==lQ)) σ.2 else
 bif bC nm then some ((0,101),σ) else
 match bY env nm with
 | some id=>some ((id,0),σ)
 | none=>match dQ L nm with
  | none=>some ((0,100),σ)
  | some k=>match L[k]? with
   | none=>none
   | some d=>bif d.mac then (bif d.ps.length==0 then gJ mm f L k [] σ else some ((0,1),σ)) else wS (oR σ.1 nm d.so) σ.2
def mQ (L:List Dc) (env:Ev) (rest:List Sx) (σ:Sg):Rt :=
 match rest with
 | [h,y]=>bif h.lst then
   match cF h.its with
   | none=>some ((0,1),σ)
   | some (ns,ts)=>bif ns.any bC then some ((0,101),σ) else bif dbl ns then some ((0,4),σ) else
    (eE f L env ts σ).bind fun r=>bif r.1.2==0 then f L (env++List.zip ns r.1.1) y r.2 else some ((0,r.1.2),r.2)
  else some ((0,1),σ)
 | _=>some ((0,1),σ)
def sW (L:List Dc) (env:Ev) (l:List Sx) (σ:Sg):Rt :=
 match l with
 | []=>some ((0,1),σ)
 | h::rest=>bif !h.isN then some ((0,101),σ) else
  bif h.txt==RL then mQ f L env rest σ else
  bif cD h.txt rest.length==0&&bC h.txt then some ((0,101),σ) else
  bif cD h.txt rest.length==0 then
   match bY env h.txt,dQ L h.txt with
   | none,some k=>match L[k]? with
    | none=>none
    | some d=>bif d.mac then (eE f L env rest σ).bind fun r=>bif r.1.2==0 then gJ mm f L k r.1.1 r.2 else some ((0,r.1.2),r.2)
     else some ((0,100),σ)
   | _,_=>some ((0,100),σ)
  else (eE f L env rest σ).bind fun r=>bif r.1.2==0 then wS (oO r.2.1 (cD h.txt rest.length) r.1.1) r.2.2 else some ((0,r.1.2),r.2)
def iJ (L:List Dc) (env:Ev) (x:Sx) (σ:Sg):Rt :=
 bif x.lst then sW mm f L env x.its σ else
 bif x.kind==4 then (bif (ps x.txt).2 != 0 then some ((0,101),σ) else wS (HL σ.1 false (ps x.txt).1) σ.2) else
 bif x.kind==6 then wS (aBl σ.1 (nQ (KG x.txt) []).1) σ.2 else
 bif x.kind==3 then kW mm f L env x.txt σ else some ((0,101),σ)
end
def T (ps:List UInt8->List Nat×Int) (mm:Bool):Nat->List Dc->Ev->Sx->Sg->Rt
 | 0=>fun _ _ _ _=>none
 | n+1=>iJ ps mm (T ps mm n)
end
end Go.Proofs.YtdehdahimkcakaaGreatDoor
