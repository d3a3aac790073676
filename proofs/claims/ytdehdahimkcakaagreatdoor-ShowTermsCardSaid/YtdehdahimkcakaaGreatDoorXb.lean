/- Texts joined by wip/tools/pack.py: Sim1. -/
import Derived.Below
import Derived.Test.YtdehdahimkcakaaGreatDoorXa
open Nat renaming reduceAdd→Z0, reduceEqDiff→Z1
namespace Go.Proofs.YtdehdahimkcakaaGreatDoor.Ai
open Go
noncomputable section
abbrev Fz:=Addr->Option Value
abbrev fD:=Nat->Option (Nat×Nat)
inductive VR (T:Ty) (F:Fz) (ρ:fD):AV->Value->Prop
 | undef (v:Value):VR T F ρ .undef v
 | bool (b:Bool):VR T F ρ (.bool b) (.bool b)
 | int (k:IntKind) (n:Int):VR T F ρ (.int k n) (.int k n)
 | str (s:List UInt8) (b:ByteArray) (h:b.data.toList=s):VR T F ρ (.str s) (.string b)
 | nilp:VR T F ρ .nilp (.pointer none)
 | ptr (id off β z:Nat) (h:ρ id=some (β,z)):VR T F ρ (.ptr id off) (.pointer (some ⟨β,off,none⟩))
 | pel (cs:List AV) (off β b:Nat) (w:Nat->Value) (hf:∀ j,j < cs.length->F ⟨β,b+j,none⟩=some (w j))
   (hv:∀ j (h:j < cs.length),VR T F ρ cs[j] (w j)):VR T F ρ (.pel cs off) (.pointer (some ⟨β,b+off,none⟩))
 | nils:VR T F ρ .nils (.slice none 0 0)
 | emp (a:Addr) (c:Nat):VR T F ρ .emp (.slice (some a) 0 c)
 | sl0 (ex:Bool) (a:Option Addr) (c:Nat) (h:ex=true->c=0) (hn:a=none->c=0):VR T F ρ (.sl ex []) (.slice a 0 c)
 | sl (ex:Bool) (l:List AV) (β b z c:Nat) (w:Nat->Nat->Value) (hc:l.length<=c) (hx:ex=true->c=l.length)
   (hz:∀ i (h:i < l.length),l[i].cells.length=z) (hf:∀ i j,i < l.length->j < z->F ⟨β,b+i * z+j,none⟩=some (w i j))
   (hv:∀ i j (h:i < l.length) (h2:j < l[i].cells.length),VR T F ρ l[i].cells[j] (w i j)):VR T F ρ (.sl ex l) (.slice (some ⟨β,b,none⟩) l.length c)
 | ref (id off n:Nat) (cap:Option Nat) (e:TypeId) (β size c z:Nat) (ag:Bool) (h:ρ id=some (β,size)) (hz:eN T e=some (z,ag)) (hn:n<=c)
   (hk:∀ k,cap=some k->c=k/\off+c * z<=size) (hk2:cap=none->off+c * z=size):VR T F ρ (.ref id off n cap e) (.slice (some ⟨β,off,none⟩) n c)
 | nilm:VR T F ρ .nilm (.map none)
 | map (id β z:Nat) (h:ρ id=some (β,z)):VR T F ρ (.map id) (.map (some β))
 | nilc:VR T F ρ .nilc (.chan none)
 | chan (id β z:Nat) (h:ρ id=some (β,z)):VR T F ρ (.chan id) (.chan (some β))
 | nilf:VR T F ρ .nilf .nilFunc
 | fn (f:FuncId) (as bs:List AV) (us vs:Array Value) (h1:as.length=us.size) (h2:bs.length=vs.size)
   (ha:∀ i (h:i < as.length) (h':i < us.size),VR T F ρ as[i] us[i]) (hb:∀ i (h:i < bs.length) (h':i < vs.size),VR T F ρ bs[i] vs[i]):VR T F ρ (.fn f as bs) (.func (.func f) us vs)
 | nili:VR T F ρ .nili .nilIface
 | iface (t:TypeId) (a:AV) (v:Value) (h:VR T F ρ a v):VR T F ρ (.iface t a) (.iface t v)
 | agg (cs:List AV) (vs:Array Value) (hl:cs.length=vs.size) (h:∀ i (h:i < cs.length) (h':i < vs.size),VR T F ρ cs[i] vs[i]):VR T F ρ (.agg cs) (.agg vs)
 | tup (cs:List AV) (vs:Array Value) (hl:cs.length=vs.size) (h:∀ i (h:i < cs.length) (h':i < vs.size),VR T F ρ cs[i] vs[i]):VR T F ρ (.tup cs) (.tuple vs)
def oA (F F':Fz):Prop:=∀ a v,F a=some v->F' a=some v
def rE (ρ ρ':fD):Prop:=∀ i b,ρ i=some b->ρ' i=some b
theorem oA.refl (F:Fz):oA F F:=fun _ _ h=>h
theorem rE.refl (ρ:fD):rE ρ ρ:=fun _ _ h=>h
theorem oA.trans {F F' F'':Fz} (h:oA F F') (h':oA F' F''):oA F F'':=fun _ _ x=>h' _ _ (h _ _ x)
theorem rE.trans {ρ ρ' ρ'':fD} (h:rE ρ ρ') (h':rE ρ' ρ''):rE ρ ρ'':=fun _ _ x=>h' _ _ (h _ _ x)
theorem VR.mono {T:Ty} {F F':Fz} {ρ ρ':fD} (hF:oA F F') (hρ:rE ρ ρ') {a:AV} {v:Value} (h:VR T F ρ a v):VR T F' ρ' a v:=by
 induction h with
 | undef v=>exact .undef v
 | bool b=>exact .bool b
 | int k n=>exact .int k n
 | str s b h=>exact .str s b h
 | nilp=>exact .nilp
 | ptr id off β z h=>exact .ptr id off β z (hρ _ _ h)
 | pel cs off β b w hf _ ih=>exact .pel cs off β b w (fun j hj=>hF _ _ (hf j hj)) ih
 | nils=>exact .nils
 | emp a c=>exact .emp a c
 | sl0 ex a c h hn=>exact .sl0 ex a c h hn
 | sl ex l β b z c w hc hx hz hf _ ih=>exact .sl ex l β b z c w hc hx hz (fun i j hi hj=>hF _ _ (hf i j hi hj)) ih
 | ref id off n cap e β size c z ag h hz hn hk hk2=>exact .ref id off n cap e β size c z ag (hρ _ _ h) hz hn hk hk2
 | nilm=>exact .nilm
 | map id β z h=>exact .map id β z (hρ _ _ h)
 | nilc=>exact .nilc
 | chan id β z h=>exact .chan id β z (hρ _ _ h)
 | nilf=>exact .nilf
 | fn f as bs us vs h1 h2 _ _ ia ib=>exact .fn f as bs us vs h1 h2 ia ib
 | nili=>exact .nili
 | iface t a v _ ih=>exact .iface t a v ih
 | agg cs vs hl _ ih=>exact .agg cs vs hl ih
 | tup cs vs hl _ ih=>exact .tup cs vs hl ih
def OR (T:Ty) (F:Fz) (ρ:fD) (z:Nat):mK->Obj->Prop
 | .cells c e ex wr,.cells C e' fr=>e'=e/\C.size=z/\c.length<=z/\(ex=true->c.length=z)/\(∀ j (h:j < c.length) (h':j < C.size),VR T F ρ c[j] C[j])/\(wr=true->∀ j,j < z->¬ (fr.1<=j/\j < fr.2))
 | .map m,.map es _=>m.length=es.size/\∀ j (h:j < m.length) (h':j < es.size),aFv m[j].1=true/\VR T F ρ m[j].1 es[j].key/\VR T F ρ m[j].2 es[j].val
 | .chan cl,.chan cap buf closed _ _ timer=>cl=closed/\cap=0/\buf=#[]/\timer=false
 | _,_=>False
theorem OR.mono {T:Ty} {F F':Fz} {ρ ρ':fD} (hF:oA F F') (hρ:rE ρ ρ') {z:Nat} {b:mK} {o:Obj} (h:OR T F ρ z b o):OR T F' ρ' z b o:=by
 cases b<;>cases o<;>first | exact h.elim | skip
 ·obtain ⟨h1,h2,h3,h4,h5,h6⟩:=h;exact ⟨h1,h2,h3,h4,fun j a b=>(h5 j a b).mono hF hρ,h6⟩
 ·obtain ⟨h1,h2⟩:=h;exact ⟨h1,fun j a b=>⟨(h2 j a b).1,(h2 j a b).2.1.mono hF hρ,(h2 j a b).2.2.mono hF hρ⟩⟩
 ·exact h
structure R (T:Ty) (F:Fz) (ρ:fD) (s:St) (W:World):Prop where
 blk:∀ id b,s.h id=some b->∃ β z o,ρ id=some (β,z)/\W.heap[β]?=some o/\OR T F ρ z b o
 inj:∀ i j β z z',s.h i≠none->s.h j≠none->ρ i=some (β,z)->ρ j=some (β,z')->i=j
 fz:∀ a v,F a=some v->W.cell? a=some v/\∀ i z,s.h i≠none->ρ i≠some (a.block,z)
 fresh:∀ i,s.nx<=i->ρ i=none
def uV (ρ:fD) (s:St) (β:Nat):Prop:=∃ i z,s.h i≠none/\ρ i=some (β,z)
structure dM (s:St) (ρ:fD) (F:Fz) (W:World) (s':St) (ρ':fD) (F':Fz) (W':World):Prop where
 rho:rE ρ ρ'
 fz:oA F F'
 os:W'.os=W.os
 tape:W'.tape=W.tape
 output:W'.output=W.output
 size:W.heap.size<=W'.heap.size
 same:∀ β,β < W.heap.size->¬ uV ρ s β->W'.heap[β]?=W.heap[β]?
 born:∀ β,uV ρ' s' β->β < W.heap.size->uV ρ s β
 cold:∀ a v,F' a=some v->a.block < W.heap.size->¬ uV ρ s a.block->F a=some v
theorem dM.refl (s:St) (ρ:fD) (F:Fz) (W:World):dM s ρ F W s ρ F W :=
 ⟨rE.refl _,oA.refl _,rfl,rfl,rfl,bH _,fun _ _ _=>rfl,fun _ h _=>h,fun _ _ h _ _=>h⟩
theorem dM.trans {s s' s'':St} {ρ ρ' ρ'':fD} {F F' F'':Fz} {W W' W'':World} (h:dM s ρ F W s' ρ' F' W') (k:dM s' ρ' F' W' s'' ρ'' F'' W''):dM s ρ F W s'' ρ'' F'' W'' :=
 ⟨h.rho.trans k.rho,h.fz.trans k.fz,k.os.trans h.os,k.tape.trans h.tape,k.output.trans h.output,FN h.size k.size,
  fun β hb hl=>(k.same β (HT hb h.size) fun hl'=>hl (h.born β hl' hb)).trans (h.same β hb hl),
  fun β hl hb=>h.born β (k.born β hl (HT hb h.size)) hb,
  fun a v ha hb hl=>h.cold a v (k.cold a v ha (HT hb h.size) fun hl'=>hl (h.born _ hl' hb)) hb hl⟩
end
end Go.Proofs.YtdehdahimkcakaaGreatDoor.Ai
