/- Texts joined by wip/tools/pack.py: SimA. -/
import Derived.WalkKit
import Derived.Scope
import Derived.Laws.Cells
import Derived.Laws.IdiomCopy
import Derived.Laws.Slices
import Derived.Test.YtdehdahimkcakaaGreatDoorXb
open Nat renaming reduceAdd→Z0, reduceEqDiff→Z1
set_option linter.unusedSimpArgs false
set_option linter.unusedVariables false
noncomputable section
namespace Go.Proofs.YtdehdahimkcakaaGreatDoor.Ai
open Go
def dO (P:Program) (T:Ty):Prop:=∀ t i,T t=some i->P.info? t=some i
section
variable {P:Program} {T:Ty} (hT:dO P T)
include hT
theorem cH {t:TypeId} {d:TypeDesc} (h:dZ T t=some d):P.underlying t=some d:=by
 unfold dZ at h
 cases hi:T t with
 | none=>rw [hi] at h;cases h
 | some i =>
  rw [hi] at h;have hp:=hT _ _ hi
  cases hd:i.desc with
  | named n u =>
   simp only [hd] at h
   cases hu:T u with
   | none=>rw [hu] at h;cases h
   | some j =>rw [hu] at h;have hq:=hT _ _ hu;obtain ⟨dd,_⟩:=i;simp only at hd;subst hd;unfold Program.underlying;rw [hp];simp only [hq];exact h
  | _ =>simp only [hd] at h;obtain ⟨dd,_⟩:=i;simp only at hd;subst hd;unfold Program.underlying;rw [hp];exact h
theorem mQ {t:TypeId} {z:Nat} {ag:Bool} (h:eN T t=some (z,ag)):∃ i d,P.info? t=some i/\i.size=z/\P.underlying t=some d/\agD d=ag:=by
 unfold eN at h
 cases hi:T t with
 | none=>rw [hi] at h;cases h
 | some i =>
  cases hd:dZ T t with
  | none=>rw [hi,hd] at h;cases h
  | some d =>rw [hi,hd] at h;simp only [m000,m001] at h;exact ⟨i,d,hT _ _ hi,h.1,cH hT hd,h.2⟩
theorem bA {t:TypeId} {z:Nat} {ag:Bool} (h:eN T t=some (z,ag)) (W:World):(sizeOf t).run P W=.ok z W:=by obtain ⟨i,d,h1,h2,_,_⟩:=mQ hT h;simp [sizeOf,typeInfo,h1,h2]
theorem sP {t:TypeId} {z:Nat} {ag:Bool} (h:eN T t=some (z,ag)) (W:World):(isAgg t).run P W=.ok ag W:=by obtain ⟨i,d,_,_,h3,h4⟩:=mQ hT h;simp only [isAgg,Sem.run_bind,run_underlying h3,Result.andThen_ok];cases d<;>simp_all [agD]
theorem xO {t:TypeId} {b:Nat} (h:dN T t=some b):∃ i,P.info? t=some i/\i.bytes=b:=by
 unfold dN at h
 cases hi:T t with
 | none=>rw [hi] at h;cases h
 | some i=>rw [hi] at h;exact ⟨i,hT _ _ hi,by simpa using h⟩
end
theorem zZ {T:Ty} {F:Fz} {ρ:fD} (v:Value):VR T F ρ (RT v) v:=by
 unfold RT
 split
 ·exact .bool _
 ·exact .int _ _
 ·exact .str _ _ rfl
 ·exact .nilp
 ·exact .nils
 ·exact .nilm
 ·exact .nilc
 ·exact .nilf
 ·exact .nili
 ·split
  ·rename_i f a b h;obtain ⟨h1,h2⟩:=h;exact .fn _ _ _ _ _ (by simpa using h1.symm) (by simpa using h2.symm) (fun i h=>by simp at h) (fun i h=>by simp at h)
  ·exact .undef _
 ·exact .undef _
theorem QU {T:Ty} {F:Fz} {ρ:fD} (v:Value):VR T F ρ (ofV v) v:=by
 unfold ofV
 split
 ·exact .agg _ _ (by simp) (fun i h h'=>by simpa using zZ _)
 ·exact zZ _
def cX (P:Program) (T:Ty) (F:Fz) (ρ:fD) (W:World) (r:AV) (m:Sem Value):Prop:=∃ v,m.run P W=.ok v W/\VR T F ρ r v
section
variable {P:Program} {T:Ty} {F:Fz} {ρ:fD} {W:World}
theorem ZH {op:BinOp} {k:IntKind} {x y:Int} {r:AV} (h:eL op k x y=some r) (hs:dC op=false) (t:TypeId):cX P T F ρ W r (binOp op t (.int k x) (.int k y)):=by
 cases op<;>simp only [eL,dC] at h hs<;>try contradiction
 all_goals first
  | (simp only [m000] at h;subst h;simp only [cX,binOp_add,binOp_sub,binOp_mul,binOp_and,binOp_or,binOp_xor,binOp_andNot,binOp_eql,binOp_neq,binOp_lss,binOp_leq,binOp_gtr,binOp_geq,Op.intArith,Op.intBits,DU,Sem.run_pure];exact ⟨_,rfl,by first | exact .int _ _ | exact .bool _⟩)
  | (split at h
     ·cases h
     ·rename_i hy;simp only [m000] at h;subst h;refine ⟨_,?_,.int _ _⟩
      simp only [binOp_quo,binOp_rem,Op.intDiv,if_neg hy,Sem.run_pure])
theorem aJv {op:BinOp} {k k':IntKind} {x y:Int} {r:AV} (h:eL op k x y=some r) (hs:dC op=true) (t:TypeId):cX P T F ρ W r (binOp op t (.int k x) (.int k' y)):=by
 cases op<;>simp only [eL,dC] at h hs<;>try contradiction
 all_goals
  split at h
  ·cases h
  ·rename_i hy;simp only [m000] at h;subst h;refine ⟨_,?_,.int _ _⟩;simp only [binOp_shl,binOp_shr,Op.shift,if_neg hy,Sem.run_pure]
theorem XX {op:BinOp} {x y:List UInt8} {r:AV} (h:IH op x y=some r) {a b:ByteArray} (ha:a.data.toList=x) (hb:b.data.toList=y) (t:TypeId):cX P T F ρ W r (binOp op t (.string a) (.string b)):=by
 have ea:a.toList=x:=by rw [<- ha];exact ByteArray.toList_eq a
 have eb:b.toList=y:=by rw [<- hb];exact ByteArray.toList_eq b
 have hq:binOp op t (.string a) (.string b)=Op.stringOp op a b:=by cases op<;>rfl
 simp only [cX];rw [hq];cases op<;>simp only [IH] at h<;>try contradiction
 case add =>
  split at h
  ·rename_i hl;simp only [m000] at h;subst h
   have hs:a.size+b.size<=ID:=by
    have h1:a.size=x.length:=by rw [<- ha];simp
    have h2:b.size=y.length:=by rw [<- hb];simp
    omega
   refine ⟨.string (a++b),?_,.str _ _ (by simp [ha,hb])⟩;have:¬ (((a.size+b.size:Nat):Int) > IntKind.i64.max):=by rw [IntKind.max_i64];unfold ID at hs;omega
   simp only [Op.stringOp,if_neg this,Sem.run_pure]
  ·cases h
 all_goals
  simp only [m000] at h;subst h;refine ⟨_,?_,.bool _⟩;simp only [Op.stringOp,ea,eb,Sem.run_pure]
theorem XU {d:TypeDesc} {t:TypeId} (hd:P.underlying t=some d) (x y:Value):(Op.equal t x y).run P W=(do
  match d,x,y with
  | .bool,.bool a,.bool b=>pure (a==b)
  | .pointer _,.pointer none,.pointer b=>pure b.isNone
  | .pointer _,.pointer _,.pointer none=>pure false
  | .pointer elem,.pointer (some a),.pointer (some b) =>
   if (<- sizeOf elem)≠0 then sameAddr a b
   else if a==b then pure true
   else pure ((<- choose .zeroSizeEq)=1)
  | .slice _,.slice none _ _,.slice b _ _=>pure b.isNone
  | .slice _,.slice _ _ _,.slice none _ _=>pure false
  | .map _ _,.map none,.map b=>pure b.isNone
  | .map _ _,.map _,.map none=>pure false
  | .func _ _ _,.nilFunc,.nilFunc=>pure true
  | .func _ _ _,.nilFunc,.func _ _ _ | .func _ _ _,.func _ _ _,.nilFunc=>pure false
  | _,_,_=>Op.equal t x y:Sem Bool).run P W:=by
 have e:(Op.equal t x y).run P W=(Op.equalIn (9999+1) t x y).run P W:=rfl
 split
 all_goals first
  | (rw [e];unfold Op.equalIn;simp only [Sem.run_bind,run_underlying hd,Result.andThen_ok])
  | rfl
theorem aMb (hT:dO P T) {d:TypeDesc} {t:TypeId} (hd:P.underlying t=some d) {x y:AV} {r:Bool} (h:oT T d x y=some r) {u v:Value} (hu:VR T F ρ x u) (hv:VR T F ρ y v) :
  (Op.equal t u v).run P W=.ok r W:=by
 rw [XU hd];unfold oT at h
 split at h
 all_goals first | contradiction | (simp only [m000] at h;subst h) | skip
 all_goals first
  | (cases hu;cases hv;rfl)
  | skip
 ·rename_i e i a j b
  cases hl:eN T e with
  | none=>rw [hl] at h;cases h
  | some zz =>
   obtain ⟨z,ag⟩:=zz;rw [hl] at h;simp only at h
   split at h
   ·rename_i hij;obtain ⟨rfl,hz⟩:=hij;simp only [m000] at h;subst h
    cases hu with
    | ptr _ _ β z1 h1 =>
     cases hv with
     | ptr _ _ β2 z2 h2 =>rw [h1] at h2;cases h2;simp only [Sem.run_bind,bA hT hl,Result.andThen_ok,if_pos hz];simp only [sameAddr,beq_self_eq_true,if_true,Sem.run_pure];congr 1;rw [Bool.eq_iff_iff];simp
   ·cases h
def xU (P:Program) (T:Ty) (eqOk:TypeId->Bool):Prop:=∀ t,eqOk t=true->P.eqGuardType P.depth t=false /\
 ∀ (F:Fz) (ρ:fD) (W:World) (a b:List AV) (r:Bool) (u v:Value),(zero T t).any (fun z=>kC z.cells a&&kC z.cells b)=true->mD a b=some r->VR T F ρ (.agg a) u->VR T F ρ (.agg b) v->(Op.equal t u v).run P W=.ok r W
def bKo:Value->Prop
 | .int _ _ | .float _ _ | .complex _ _ _ | .string _=>False
 | _=>True
theorem vU (t:TypeId) {u v:Value} (hu:bKo u) :
  binOp .eql t u v=(do pure (.bool (<- Op.equal t u v)))/\binOp .neq t u v=(do pure (.bool (!(<- Op.equal t u v)))):=by
 cases u<;>first | exact hu.elim | exact ⟨rfl,rfl⟩
theorem bBl (hT:dO P T) {eqOk:TypeId->Bool} (hE:xU P T eqOk) {op:BinOp} {t:TypeId} {x y:AV} {r:AV} (h:lA T eqOk op t x y=some r) {u v:Value} (hu:VR T F ρ x u) (hv:VR T F ρ y v) (xo yo:Operand) :
  cX P T F ρ W r (do eqGuard op t xo yo u v;binOp op t u v):=by
 have red:∀ (hg:eqGuard op t xo yo u v=pure ()),cX P T F ρ W r (binOp op t u v)->cX P T F ρ W r (do eqGuard op t xo yo u v;binOp op t u v):=fun hg hs=>by rw [hg];exact hs
 unfold lA at h
 split at h
 ·rename_i k a k' b;cases hu;cases hv;refine red (eqGuard_at_int ..) ?_
  split at h
  ·rename_i hs;exact aJv h hs t
  ·rename_i hs
   split at h
   ·rename_i hk;subst hk;exact ZH h (by simpa using hs) t
   ·cases h
 ·cases hu with
  | str _ b1 h1 =>
   cases hv with
   | str _ b2 h2 =>refine red (eqGuard_at_string ..) ?_;exact XX h h1 h2 t
 ·rename_i a b
  split at h
  ·rename_i hq;simp only [bN] at hq;obtain ⟨hq,hsh⟩:=hq;obtain ⟨hg,he⟩:=hE t hq
   cases hu with
   | agg _ us hl hcs =>
    cases hv with
    | agg _ vs hl2 hcs2 =>
     cases hc:mD a b with
     | none=>rw [hc] at h;cases op<;>cases h
     | some rr =>
      rw [hc] at h;have hr:=he F ρ W a b rr _ _ hsh hc (.agg _ us hl hcs) (.agg _ vs hl2 hcs2)
      have hgg:∀ op,(eqGuard op t xo yo (.agg us) (.agg vs)).run P W=.ok () W:=by
       intro op
       have hk:((do if !(<- program).eqGuardType (<- program).depth t then return
                    if <- Op.eqGuardIn Op.maxDepth t (.agg us) (.agg vs) then unsupported (.noEntry "binop/eql: two nil values of an interface type with methods, in a part of a struct or an array")):Sem Unit).run P W=.ok () W:=by
        simp only [Sem.run_bind,run_program,Result.andThen_ok,hg,m027,if_true,Sem.run_pure]
       cases op<;>first | rfl | exact hk
      cases op<;>simp only [Option.map_some,m000] at h<;>try contradiction
      all_goals
       subst h;refine ⟨_,?_,.bool _⟩;simp only [Sem.run_bind,hgg,Result.andThen_ok]
       first
        | rw [(vU t (u:=.agg us) (v:=.agg vs) trivial).1]
        | rw [(vU t (u:=.agg us) (v:=.agg vs) trivial).2]
       simp only [Sem.run_bind,hr,Result.andThen_ok,Sem.run_pure]
  ·cases h
 ·cases hd:dZ T t with
  | none=>rw [hd] at h;cases h
  | some d =>
   rw [hd] at h;simp only [Option.bind_some] at h
   cases hq:oT T d x y with
   | none=>rw [hq] at h;cases op<;>cases h
   | some rr =>
    rw [hq] at h;have hr:=aMb (W:=W) hT (cH hT hd) hq hu hv
    have hgu:eqGuard op t xo yo u v=pure ()/\bKo u:=by
     unfold oT at hq
     split at hq<;>first | contradiction | skip
     all_goals (cases hu<;>cases hv)
     all_goals first
      | exact ⟨eqGuard_at_pointer ..,trivial⟩
      | exact ⟨eqGuard_at_slice ..,trivial⟩
      | exact ⟨eqGuard_at_map ..,trivial⟩
      | exact ⟨eqGuard_at_func ..,trivial⟩
      | exact ⟨eqGuard_at_nilFunc ..,trivial⟩
      | exact ⟨eqGuard_at_bool ..,trivial⟩
    refine red hgu.1 ?_;cases op<;>simp only [Option.map_some,m000] at h<;>try contradiction
    all_goals
     subst h;refine ⟨_,?_,.bool _⟩
     first
      | rw [(vU t hgu.2).1]
      | rw [(vU t hgu.2).2]
     simp only [Sem.run_bind,hr,Result.andThen_ok,Sem.run_pure]
theorem bEr {op:UnOp} {x r:AV} (h:un op x=some r) {u:Value} (hu:VR T F ρ x u):cX P T F ρ W r (Op.unary op u):=by
 unfold un at h
 split at h
 ·simp only [m000] at h;subst h;cases hu;exact ⟨_,rfl,.bool _⟩
 ·simp only [m000] at h;subst h;cases hu;exact ⟨_,rfl,.int _ _⟩
 ·simp only [m000] at h;subst h;cases hu;exact ⟨_,rfl,.int _ _⟩
 ·cases h
theorem EG {x:AV} {n:Int} (h:pF x=some n) {u:Value} (hu:VR T F ρ x u):∃ k,u=.int k n:=by
 unfold pF at h
 split at h
 ·simp only [m000] at h;subst h;cases hu;exact ⟨_,rfl⟩
 ·cases h
theorem aEo {x:AV} {b:Bool} (h:KA x=some b) {u:Value} (hu:VR T F ρ x u):u=.bool b:=by
 unfold KA at h
 split at h
 ·simp only [m000] at h;subst h;cases hu;rfl
 ·cases h
def CR (T:Ty) (F:Fz) (ρ:fD) (cs:List AV) (vs:List Value):Prop:=cs.length=vs.length/\∀ i (h:i < cs.length) (h':i < vs.length),VR T F ρ cs[i] vs[i]
theorem VR.agg_cr {cs:List AV} {vs:Array Value} (h:CR T F ρ cs vs.toList):VR T F ρ (.agg cs) (.agg vs) :=
 .agg _ _ (by simpa using h.1) fun i a b=>by have:=h.2 i a (by simpa using b);rwa [Array.getElem_toList] at this
theorem oI {cs:List AV} {v:Value} (h:VR T F ρ (.agg cs) v):∃ vs:Array Value,v=.agg vs/\CR T F ρ cs vs.toList:=by
 cases h with
 | agg _ vs hl h=>exact ⟨vs,rfl,by simpa using hl,fun i a b=>by simpa using h i a (by simpa using b)⟩
theorem CR.drop {cs:List AV} {vs:List Value} (h:CR T F ρ cs vs) (n:Nat):CR T F ρ (cs.drop n) (vs.drop n) :=
 ⟨by simp [h.1],fun i a b=>by simp only [List.getElem_drop];exact h.2 _ _ _⟩
theorem CR.take {cs:List AV} {vs:List Value} (h:CR T F ρ cs vs) (n:Nat):CR T F ρ (cs.take n) (vs.take n) :=
 ⟨by simp [h.1],fun i a b=>by simp only [m072];exact h.2 _ _ _⟩
theorem CR.append {a b:List AV} {u v:List Value} (h:CR T F ρ a u) (k:CR T F ρ b v):CR T F ρ (a++b) (u++v):=by
 refine ⟨by simp [h.1,k.1],fun i x y=>?_⟩;by_cases hi:i < a.length
 ·rw [List.getElem_append_left hi,List.getElem_append_left (by have:=h.1;omega)];exact h.2 _ _ _
 ·rw [List.getElem_append_right (by omega),List.getElem_append_right (by have:=h.1;omega)];have e:i - a.length=i - u.length:=by rw [h.1]
  have:=k.2 (i - a.length) (by simp at x;omega) (by simp at y;have:=h.1;omega);simpa [e] using this
theorem CR.mono {F':Fz} {ρ':fD} (hF:oA F F') (hρ:rE ρ ρ') {a:List AV} {u:List Value} (h:CR T F ρ a u):CR T F' ρ' a u:=⟨h.1,fun i x y=>(h.2 i x y).mono hF hρ⟩
theorem CR.set {a:List AV} {u:List Value} (h:CR T F ρ a u) {x:AV} {v:Value} (hx:VR T F ρ x v) (i:Nat):CR T F ρ (a.set i x) (u.set i v):=by
 refine ⟨by simp [h.1],fun j p q=>?_⟩;rw [List.getElem_set,List.getElem_set]
 split
 ·exact hx
 ·exact h.2 _ _ _
theorem CR.cons {a:List AV} {u:List Value} {x:AV} {v:Value} (hx:VR T F ρ x v) (h:CR T F ρ a u):CR T F ρ (x::a) (v::u):=by
 refine ⟨by simp [h.1],fun i p q=>?_⟩
 cases i with
 | zero=>exact hx
 | succ i=>exact h.2 i _ _
theorem CR.nil:CR T F ρ [] []:=⟨rfl,fun i h=>by simp at h⟩
theorem CR.get? {a:List AV} {u:List Value} (h:CR T F ρ a u) {i:Nat} {x:AV} (hx:a[i]?=some x):∃ v,u[i]?=some v/\VR T F ρ x v:=by obtain ⟨hi,rfl⟩:=m012.1 hx;exact ⟨u[i]'(by have:=h.1;omega),m004 _,h.2 i hi _⟩
theorem part_ok (hT:dO P T) {t:TypeId} {z off:Nat} {ag:Bool} (hl:eN T t=some (z,ag)) {cs:List AV} {vs:Array Value} (hc:CR T F ρ cs vs.toList) {r:AV} (h:part z ag off cs=some r):cX P T F ρ W r (Go.part t vs off):=by
 unfold Ai.part at h;simp only [cX,Go.part,Sem.run_bind,sP hT hl,Result.andThen_ok]
 cases ag with
 | true =>
  simp only [if_true] at h ⊢
  split at h
  ·rename_i hle;simp only [m000] at h;subst h;refine ⟨.agg (vs.extract off (off+z)),?_,?_⟩
   ·simp only [Sem.run_bind,bA hT hl,Result.andThen_ok,Sem.run_pure]
   ·refine VR.agg_cr ?_;have e:(vs.extract off (off+z)).toList=(vs.toList.drop off).take z:=by simp [Array.toList_extract,List.extract_eq_take_drop]
    rw [e];exact (hc.drop off).take z
  ·cases h
 | false =>
  simp only [m015,if_false] at h ⊢;obtain ⟨v,h1,h2⟩:=hc.get? h;have:vs[off]?=some v:=by simpa using h1
  exact ⟨v,by rw [this];rfl,h2⟩
end
end Go.Proofs.YtdehdahimkcakaaGreatDoor.Ai
namespace Go.Proofs.YtdehdahimkcakaaGreatDoor.Ai
open Go
variable {P:Program} {T:Ty} {F:Fz} {ρ:fD} {s:St} {W:World}
def xF (ρ:fD) (id:Nat) (b:Nat×Nat):fD:=fun i=>if i=id then some b else ρ i
theorem UB {id:Nat} (h:ρ id=none) (b:Nat×Nat):rE ρ (xF ρ id b):=by
 intro i c hi;unfold xF
 split
 ·rename_i e;subst e;rw [h] at hi;cases hi
 ·exact hi
theorem cQ (id:Nat) (b:Nat×Nat):xF ρ id b id=some b:=by simp [xF]
theorem dT {i id:Nat} (h:i≠id) (b:Nat×Nat):xF ρ id b i=ρ i:=by simp [xF,h]
@[simp] theorem DH (s:St) (n:Nat) (b:Option mK):(s.set n b).h n=b:=by have:Nat.beq n n=true:=Nat.beq_refl n;simp [St.set,this]
theorem gK (s:St) {m n:Nat} (b:Option mK) (h:m≠n):(s.set n b).h m=s.h m:=by
 have:Nat.beq m n=false:=by
  cases hb:Nat.beq m n with
  | false=>rfl
  | true=>exact absurd (jS hb) h
 simp [St.set,this]
@[simp] theorem set_nx (s:St) (n:Nat) (b:Option mK):(s.set n b).nx=s.nx:=rfl
def Old (lo:Nat) (ρ ρ':fD):Prop:=∀ i,i < lo->ρ' i=ρ i
theorem Old.refl (lo:Nat) (ρ:fD):Old lo ρ ρ:=fun _ _=>rfl
theorem Old.trans {lo lo':Nat} {ρ ρ' ρ'':fD} (h:Old lo ρ ρ') (h':Old lo' ρ' ρ'') (hl:lo<=lo'):Old lo ρ ρ'':=fun i hi=>(h' i (by omega)).trans (h i hi)
theorem R.lt (h:R T F ρ s W) {id:Nat} {b:mK} (hb:s.h id=some b):∃ β z o,ρ id=some (β,z)/\W.heap[β]?=some o/\OR T F ρ z b o/\β < W.heap.size:=by
 obtain ⟨β,z,o,h1,h2,h3⟩:=h.blk id b hb
 exact ⟨β,z,o,h1,h2,h3,by
  rcases zP β W.heap.size with h' | h'
  ·exact h'
  ·rw [Array.getElem?_eq_none h'] at h2;cases h2⟩
theorem wE {W:World} {a:Addr} {v:Value} (h:W.cell? a=some v):a.block < W.heap.size:=World.block_lt_of_cell? W a h
theorem R.born (h:R T F ρ s W) {id:Nat} {s':St} (hid:ρ id=none) (b:mK) (o:Obj) (z:Nat) (ho:OR T F ρ z b o)
  (hs:s'.h=(s.set id (some b)).h) (hn:s.nx<=s'.nx) (hi:id < s'.nx) :
  R T F (xF ρ id (W.heap.size,z)) s' (W.alloc o)/\dM s ρ F W s' (xF ρ id (W.heap.size,z)) F (W.alloc o):=by
 have hle:=UB hid (W.heap.size,z)
 have hdead:s.h id=none:=by
  cases hb:s.h id with
  | none=>rfl
  | some b'=>obtain ⟨β,z',o',h1,_⟩:=h.blk id b' hb;rw [hid] at h1;cases h1
 have hheap:∀ β,β < W.heap.size->(W.alloc o).heap[β]?=W.heap[β]?:=fun β hβ=>by simp only [World.alloc];rw [Array.getElem?_push];rw [if_neg (by omega)]
 refine ⟨⟨?_,?_,?_,?_⟩,⟨hle,oA.refl _,rfl,rfl,rfl,by simp,fun β hβ _=>hheap β hβ,?_,fun _ _ h _ _=>h⟩⟩
 ·intro i b' hb';rw [hs] at hb';by_cases hii:i=id
  ·subst hii;rw [DH] at hb';cases hb';exact ⟨W.heap.size,z,o,cQ _ _,by show (W.heap.push o)[W.heap.size]?=some o;simp,ho.mono (oA.refl _) hle⟩
  ·rw [gK _ _ hii] at hb';obtain ⟨β,z',o',h1,h2,h3,h4⟩:=h.lt hb';exact ⟨β,z',o',hle _ _ h1,by rw [hheap β h4];exact h2,h3.mono (oA.refl _) hle⟩
 ·intro i j β z1 z2 hi1 hj1 h1 h2;rw [hs] at hi1 hj1;by_cases hii:i=id
  ·by_cases hjj:j=id
   ·rw [hii,hjj]
   ·subst hii;rw [cQ] at h1;cases h1;rw [dT hjj] at h2;rw [gK _ _ hjj] at hj1;obtain ⟨b',hb'⟩:=Option.ne_none_iff_exists'.1 hj1;obtain ⟨β',z',o',k1,_,_,k4⟩:=h.lt hb';rw [h2] at k1;cases k1;omega
  ·by_cases hjj:j=id
   ·subst hjj;rw [cQ] at h2;cases h2;rw [dT hii] at h1;rw [gK _ _ hii] at hi1;obtain ⟨b',hb'⟩:=Option.ne_none_iff_exists'.1 hi1;obtain ⟨β',z',o',k1,_,_,k4⟩:=h.lt hb';rw [h1] at k1;cases k1;omega
   ·rw [dT hii] at h1;rw [dT hjj] at h2;rw [gK _ _ hii] at hi1;rw [gK _ _ hjj] at hj1;exact h.inj i j β z1 z2 hi1 hj1 h1 h2
 ·intro a v ha;obtain ⟨h1,h2⟩:=h.fz a v ha;refine ⟨by rw [World.cell?_alloc_lt _ _ _ (wE h1)];exact h1,fun i z' hi1 hc=>?_⟩;rw [hs] at hi1;by_cases hii:i=id
  ·subst hii;rw [cQ] at hc;simp only [m000,m001] at hc;have:=wE h1;omega
  ·rw [dT hii] at hc;rw [gK _ _ hii] at hi1;exact h2 i z' hi1 hc
 ·intro i hi2;rw [dT (by omega)];exact h.fresh i (by omega)
 ·intro β ⟨i,z',hi1,hc⟩ hβ;rw [hs] at hi1;by_cases hii:i=id
  ·subst hii;rw [cQ] at hc;cases hc;omega
  ·rw [dT hii] at hc;rw [gK _ _ hii] at hi1;exact ⟨i,z',hi1,hc⟩
def dV (W:World) (β:Nat) (o:Obj):World:={ W with heap:=W.heap.setIfInBounds β o }
theorem R.put (h:R T F ρ s W) {id β z:Nat} {b b':mK} {o':Obj} (hb:s.h id=some b) (hr:ρ id=some (β,z)) (ho:OR T F ρ z b' o') :
  R T F ρ (s.set id (some b')) (dV W β o')/\dM s ρ F W (s.set id (some b')) ρ F (dV W β o'):=by
 obtain ⟨β0,z0,o0,k1,k2,k3,k4⟩:=h.lt hb;rw [hr] at k1;cases k1;have hother:∀ γ,γ≠β->(dV W β o').heap[γ]?=W.heap[γ]?:=fun γ hγ=>by simp only [dV];rw [m029];rw [if_neg (Ne.symm hγ)]
 have hlive:∀ i,(s.set id (some b')).h i≠none↔s.h i≠none:=fun i=>by
  by_cases hii:i=id
  ·subst hii;simp [hb]
  ·rw [gK _ _ hii]
 refine ⟨⟨?_,?_,?_,?_⟩,⟨rE.refl _,oA.refl _,rfl,rfl,rfl,by simp [dV],fun γ hγ hl=>hother γ fun e=>hl ⟨id,z,by rw [hb];simp,by rw [e];exact hr⟩,fun γ ⟨i,z',h1,h2⟩ _=>⟨i,z',(hlive i).1 h1,h2⟩,fun _ _ h _ _=>h⟩⟩
 ·intro i c hc;by_cases hii:i=id
  ·subst hii;rw [DH] at hc;cases hc;exact ⟨β,z,o',hr,by simp only [dV];rw [m029];simp [k4],ho⟩
  ·rw [gK _ _ hii] at hc;obtain ⟨γ,z',o,h1,h2,h3,h4⟩:=h.lt hc;refine ⟨γ,z',o,h1,?_,h3⟩;rw [hother γ]
   ·exact h2
   ·intro e;subst e;exact hii (h.inj i id γ z' z (by rw [hc];simp) (by rw [hb];simp) h1 hr)
 ·intro i j γ z1 z2 hi hj h1 h2;exact h.inj i j γ z1 z2 ((hlive i).1 hi) ((hlive j).1 hj) h1 h2
 ·intro a v ha;obtain ⟨h1,h2⟩:=h.fz a v ha;refine ⟨?_,fun i z' hi=>h2 i z' ((hlive i).1 hi)⟩;have hne:a.block≠β:=fun e=>h2 id z (by rw [hb];simp) (by rw [e];exact hr);unfold World.cell? at h1 ⊢;rw [hother _ hne];exact h1
 ·exact h.fresh
theorem R.drop (h:R T F ρ s W) (id:Nat):R T F ρ (s.set id none) W/\dM s ρ F W (s.set id none) ρ F W:=by
 have hlive:∀ i,(s.set id none).h i≠none->s.h i≠none:=fun i hi=>by
  by_cases hii:i=id
  ·subst hii;simp at hi
  ·rwa [gK _ _ hii] at hi
 refine ⟨⟨?_,fun i j γ z1 z2 hi hj=>h.inj i j γ z1 z2 (hlive i hi) (hlive j hj),fun a v ha=>⟨(h.fz a v ha).1,fun i z hi=>(h.fz a v ha).2 i z (hlive i hi)⟩,h.fresh⟩,
  ⟨rE.refl _,oA.refl _,rfl,rfl,rfl,bH _,fun _ _ _=>rfl,fun γ ⟨i,z',h1,h2⟩ _=>⟨i,z',hlive i h1,h2⟩,fun _ _ h _ _=>h⟩⟩
 intro i b hb;by_cases hii:i=id
 ·subst hii;simp at hb
 ·rw [gK _ _ hii] at hb;exact h.blk i b hb
def uE (F:Fz) (β n:Nat) (C:Array Value):Fz:=fun a=>if a.block=β/\a.spot=none/\a.off < n then C[a.off]? else F a
theorem UE {β n j:Nat} {C:Array Value} (hj:j < n):uE F β n C ⟨β,j,none⟩=C[j]?:=by simp [uE,hj]
theorem R.cold (h:R T F ρ s W) (C:Array Value) (e:TypeId) (fr:Nat×Nat) :
  R T (uE F W.heap.size C.size C) ρ s (W.alloc (.cells C e fr))/\dM s ρ F W s ρ (uE F W.heap.size C.size C) (W.alloc (.cells C e fr)):=by
 have hold:∀ a v,F a=some v->a.block < W.heap.size:=fun a v ha=>wE (h.fz a v ha).1;have hle:oA F (uE F W.heap.size C.size C):=fun a v ha=>by unfold uE;rw [if_neg (fun hc=>by have:=hold a v ha;omega)];exact ha
 have hheap:∀ β,β < W.heap.size->(W.alloc (.cells C e fr)).heap[β]?=W.heap[β]?:=fun β hβ=>by simp only [World.alloc];rw [Array.getElem?_push];rw [if_neg (by omega)]
 refine ⟨⟨?_,h.inj,?_,h.fresh⟩,⟨rE.refl _,hle,rfl,rfl,rfl,by simp,fun β hβ _=>hheap β hβ,fun _ hl _=>hl,fun a v ha hb _=>by
  unfold uE at ha;rw [if_neg (fun hc=>by have:=hc.1;omega)] at ha;exact ha⟩⟩
 ·intro i b hb;obtain ⟨β,z,o,h1,h2,h3,h4⟩:=h.lt hb;exact ⟨β,z,o,h1,by rw [hheap β h4];exact h2,h3.mono hle (rE.refl _)⟩
 ·intro a v ha;unfold uE at ha
  split at ha
  ·rename_i hc;obtain ⟨h1,h2,h3⟩:=hc;obtain ⟨ab,ao,as⟩:=a;simp only at h1 h2 h3 ha;subst h1 h2;refine ⟨by show (match (W.heap.push (.cells C e fr))[W.heap.size]? with | some (.cells c _ _)=>_ | _=>_)=_;simp [ha],fun i z hi hc=>?_⟩
   obtain ⟨b',hb'⟩:=Option.ne_none_iff_exists'.1 hi;obtain ⟨β',z',o',k1,_,_,k4⟩:=h.lt hb';rw [hc] at k1;cases k1;exact absurd k4 (Nat.lt_irrefl _)
  ·obtain ⟨h1,h2⟩:=h.fz a v ha;exact ⟨by rw [World.cell?_alloc_lt _ _ _ (wE h1)];exact h1,h2⟩
theorem R.freeze (h:R T F ρ s W) {id:Nat} {c:List AV} {e:TypeId} {ex wr:Bool} (hb:s.h id=some (.cells c e ex wr)) :
  ∃ β z C fr,ρ id=some (β,z)/\W.heap[β]?=some (.cells C e fr)/\c.length<=C.size/\(∀ j (a:j < c.length) (b:j < C.size),VR T F ρ c[j] C[j])/\R T (uE F β c.length C) ρ (s.set id none) W/\dM s ρ F W (s.set id none) ρ (uE F β c.length C) W:=by
 obtain ⟨β,z,o,h1,h2,h3,h4⟩:=h.lt hb
 cases o with
 | cells C e' fr =>
  obtain ⟨rfl,k2,k3,k4,k5,k6⟩:=h3;have hnot:∀ a v,F a=some v->a.block≠β:=fun a v ha e=>(h.fz a v ha).2 id z (by rw [hb];simp) (by rw [e];exact h1);have hle:oA F (uE F β c.length C):=fun a v ha=>by unfold uE;rw [if_neg (fun hc=>hnot a v ha hc.1)];exact ha
  obtain ⟨hd,hs⟩:=h.drop id
  refine ⟨β,z,C,fr,h1,h2,by omega,k5,⟨?_,hd.inj,?_,hd.fresh⟩,⟨rE.refl _,hle,rfl,rfl,rfl,bH _,fun _ _ _=>rfl,hs.born,fun a v ha _ hl=>by
   unfold uE at ha;rw [if_neg (fun hc=>hl ⟨id,z,by rw [hb];simp,by rw [hc.1];exact h1⟩)] at ha;exact ha⟩⟩
  ·intro i b hb';obtain ⟨γ,z',o,q1,q2,q3⟩:=hd.blk i b hb';exact ⟨γ,z',o,q1,q2,q3.mono hle (rE.refl _)⟩
  ·intro a v ha;unfold uE at ha
   split at ha
   ·rename_i hc;obtain ⟨q1,q2,q3⟩:=hc;obtain ⟨ab,ao,as⟩:=a;simp only at q1 q2 q3 ha;subst q1 q2;refine ⟨by simp [World.cell?,h2,ha],fun i z' hi hc=>?_⟩;have hii:i≠id:=fun e=>by subst e;simp at hi
    rw [gK _ _ hii] at hi;exact hii (h.inj i id ab z' z hi (by rw [hb];simp) hc h1)
   ·exact hd.fz a v ha
 | _=>exact h3.elim
end Go.Proofs.YtdehdahimkcakaaGreatDoor.Ai
namespace Go.Proofs.YtdehdahimkcakaaGreatDoor.Ai
open Go
section
variable {P:Program} {T:Ty} {F:Fz} {ρ:fD} {s:St} {W:World}
def iS (P:Program) (T:Ty) (id:Nat) (s:St) (ρ:fD) (F:Fz) (W:World) (r:AV) (s':St) (m:Sem Value):Prop :=
 ∃ v W' ρ' F',m.run P W=.ok v W'/\VR T F' ρ' r v/\R T F' ρ' s' W'/\dM s ρ F W s' ρ' F' W'/\(∀ i,i < s.nx->i≠id->ρ' i=ρ i)/\s.nx<=s'.nx
def TA (P:Program) (T:Ty) (id:Nat) (s:St) (ρ:fD) (F:Fz) (W:World) (s':St) (m:Sem Unit):Prop :=
 ∃ W' ρ' F',m.run P W=.ok () W'/\R T F' ρ' s' W'/\dM s ρ F W s' ρ' F' W'/\(∀ i,i < s.nx->i≠id->ρ' i=ρ i)/\s.nx<=s'.nx
theorem cX.does {r:AV} {m:Sem Value} (hR:R T F ρ s W) (id:Nat) (h:cX P T F ρ W r m):iS P T id s ρ F W r s m:=by obtain ⟨v,h1,h2⟩:=h;exact ⟨v,W,ρ,F,h1,h2,hR,dM.refl _ _ _ _,fun _ _ _=>rfl,bH _⟩
def At (T:Ty) (F:Fz) (ρ:fD) (W:World) (cs:List AV) (β b:Nat):Prop :=
 ∃ g:Nat->Value,∀ j (h:j < cs.length),W.cell? ⟨β,b+j,none⟩=some (g j)/\VR T F ρ cs[j] (g j)
theorem At.get {cs:List AV} {β b:Nat} (h:At T F ρ W cs β b) {j:Nat} {x:AV} (hx:cs[j]?=some x):∃ v,W.cell? ⟨β,b+j,none⟩=some v/\VR T F ρ x v:=by obtain ⟨g,hg⟩:=h;obtain ⟨hj,rfl⟩:=m012.1 hx;exact ⟨g j,hg j hj⟩
theorem At.loads {cs:List AV} {β b:Nat} (h:At T F ρ W cs β b) (off n:Nat) (hle:off+n<=cs.length):∃ vs:Array Value,(loadCells ⟨β,b+off,none⟩ n).run P W=.ok vs W/\CR T F ρ ((cs.drop off).take n) vs.toList:=by
 obtain ⟨g,hg⟩:=h;refine ⟨((List.range n).map fun j=>g (off+j)).toArray,run_loadCells W _ n (fun j=>g (off+j)) (fun j hj=>?_),?_⟩
 ·rw [Addr.add_lit,m066];exact (hg (off+j) (by omega)).1
 ·refine ⟨by simp;omega,fun i p q=>?_⟩;simp only [m072,List.getElem_drop,m070,List.getElem_range];exact (hg (off+i) (by simp at p;omega)).2
theorem At.part_ok {cs:List AV} {β b:Nat} (hT:dO P T) {t:TypeId} {z off:Nat} {ag:Bool} (hl:eN T t=some (z,ag)) (h:At T F ρ W cs β b) {r:AV} (hp:Ai.part z ag off cs=some r) :
  cX P T F ρ W r (loadVar t ⟨β,b+off,none⟩):=by
 simp only [cX,loadVar,Sem.run_bind,sP hT hl,Result.andThen_ok];unfold Ai.part at hp
 cases ag with
 | true =>
  simp only [if_true] at hp ⊢
  split at hp
  ·rename_i hle;simp only [m000] at hp;subst hp;obtain ⟨vs,h1,h2⟩:=h.loads (P:=P) off z hle;exact ⟨.agg vs,by simp only [Sem.run_bind,bA hT hl,Result.andThen_ok,h1,Sem.run_pure],VR.agg_cr h2⟩
  ·cases hp
 | false =>simp only [m015,if_false] at hp ⊢;obtain ⟨v,h1,h2⟩:=h.get hp;exact ⟨v,by rw [run_load];simp [h1],h2⟩
theorem R.at (h:R T F ρ s W) {id:Nat} {c:List AV} {e:TypeId} {ex wr:Bool} (hb:s.h id=some (.cells c e ex wr)):∃ β z,ρ id=some (β,z)/\At T F ρ W c β 0:=by
 obtain ⟨β,z,o,h1,h2,h3,h4⟩:=h.lt hb
 cases o with
 | cells C e' fr =>
  obtain ⟨rfl,k2,k3,k4,k5,k6⟩:=h3;refine ⟨β,z,h1,fun j=>C.getD j undef,fun j hj=>?_⟩;have hC:j < C.size:=by omega
  have hc:W.cell? ⟨β,0+j,none⟩=some C[j]:=by simp [World.cell?,h2,hC]
  have hg:C.getD j undef=C[j]:=by simp [Array.getD,hC]
  exact ⟨by simp only [hg];exact hc,by simp only [hg];exact k5 j hj hC⟩
 | _=>exact h3.elim
theorem UJ (hT:dO P T) (hR:R T F ρ s W) {t:TypeId} {z:Nat} {ag:Bool} (hl:eN T t=some (z,ag)) {a r:AV} (h:load z ag a s=some r) {u:Value} (hu:VR T F ρ a u) :
  cX P T F ρ W r (Instr.loadAt t u):=by
 unfold load at h
 split at h
 ·rename_i id off
  cases hu with
  | ptr _ _ β z1 h1 =>
   cases hb:s.h id with
   | none=>rw [hb] at h;cases h
   | some b =>
    rw [hb] at h
    cases b with
    | cells c e ex wr =>obtain ⟨β',z',q1,q2⟩:=hR.at hb;rw [h1] at q1;cases q1;have:=q2.part_ok (P:=P) hT hl h;rw [m023] at this;exact this
    | _=>cases h
 ·rename_i cs off
  cases hu with
  | pel _ _ β b w hf hv =>have:At T F ρ W cs β b:=⟨w,fun j hj=>⟨(hR.fz _ _ (hf j hj)).1,hv j hj⟩⟩;exact this.part_ok hT hl h
 ·cases h
theorem aKl {a:AV} {v:Value} (h1:a.one=true) (h:VR T F ρ a v):v.oneCell'=true:=by cases h<;>first | rfl | cases h1
theorem vG {a:AV} {v:Value} (h1:a.cells.all AV.one=true) (h:VR T F ρ a v):CR T F ρ a.cells v.cells.toList/\∀ u∈v.cells.toList,u.oneCell'=true:=by
 have key:CR T F ρ a.cells v.cells.toList:=by
  by_cases hagg:∃ cs,a=.agg cs
  ·obtain ⟨cs,rfl⟩:=hagg;obtain ⟨vs,rfl,hcr⟩:=oI h;exact hcr
  ·have ha:a.cells=[a]:=by cases a<;>first | rfl | exact absurd ⟨_,rfl⟩ hagg
   have hv:v.cells=#[v]:=by cases h<;>first | rfl | (exfalso;exact hagg ⟨_,rfl⟩) | (exfalso;simp [AV.cells,AV.one] at h1)
   rw [ha,hv];exact CR.cons h CR.nil
 refine ⟨key,fun u hu=>?_⟩;obtain ⟨i,hi,rfl⟩:=List.getElem_of_mem hu;have hi':i < a.cells.length:=by rw [key.1];exact hi
 exact aKl (m032.1 h1 _ (List.getElem_mem hi')) (key.2 i hi' hi)
def mR:Array Value->Nat->List Value->Array Value
 | C,_,[]=>C
 | C,off,v::vs=>mR (C.setIfInBounds off v) (off+1) vs
theorem nN (vs:List Value):∀ (C:Array Value) (off:Nat),(mR C off vs).size=C.size:=by
 induction vs with
 | nil=>intro C off;rfl
 | cons v vs ih=>intro C off;simp [mR,ih]
theorem kQ (vs:List Value):∀ (W:World) (β off:Nat) (C:Array Value) (e:TypeId) (fr:Nat×Nat),W.heap[β]?=some (.cells C e fr) ->
  W.setCells β off vs=if vs=[] then W else dV W β (.cells (mR C off vs) e fr):=by
 induction vs with
 | nil=>intro W β off C e fr h;rfl
 | cons v vs ih =>
  intro W β off C e fr h
  have hβ:β < W.heap.size:=by
   rcases zP β W.heap.size with h' | h'
   ·exact h'
   ·rw [Array.getElem?_eq_none h'] at h;cases h
  have h1:W.setCell ⟨β,off,none⟩ v=dV W β (.cells (C.setIfInBounds off v) e fr):=by
   simp only [World.setCell,dV];congr 1;have hw:W.heap[β]=.cells C e fr:=by rw [m016 hβ] at h;simpa using h
   apply Array.ext_getElem?;intro i;rw [Array.getElem?_modify,m029];by_cases hi:β=i
   ·subst hi;simp [hw,hβ]
   ·simp [hi]
  rw [World.setCells,h1,ih _ _ _ (C.setIfInBounds off v) e fr (by simp [dV,hβ])];simp only [List.cons_ne_nil,if_false]
  split
  ·rename_i he;subst he;rfl
  ·simp only [dV,mR];congr 1;apply Array.ext_getElem?;intro i;rw [m029,m029,m029];by_cases hi:β=i
   ·subst hi;simp
   ·simp [hi]
theorem tM (vs:List Value):∀ (xs:List AV) (c:List AV) (C:Array Value) (off:Nat),CR T F ρ xs vs->c.length<=C.size->off+xs.length<=c.length ->
  (∀ j (a:j < c.length) (b:j < C.size),VR T F ρ c[j] C[j]) ->
  (cD c off xs).length=c.length/\∀ j (a:j < (cD c off xs).length) (b:j < (mR C off vs).size),VR T F ρ (cD c off xs)[j] (mR C off vs)[j]:=by
 induction vs with
 | nil =>intro xs c C off h hc ho hr;have:xs=[]:=m034 (by simpa using h.1);subst this;exact ⟨rfl,hr⟩
 | cons v vs ih =>
  intro xs c C off h hc ho hr
  cases xs with
  | nil=>have:=h.1;simp at this
  | cons x xs =>
   have hx:VR T F ρ x v:=h.2 0 (by simp) (by simp);have ht:CR T F ρ xs vs:=⟨by have:=h.1;simpa using this,fun i a b=>h.2 (i+1) (by simp;omega) (by simp;omega)⟩;simp only [List.length_cons] at ho
   have:=ih xs (c.set off x) (C.setIfInBounds off v) (off+1) ht (by simpa using hc) (by simp;omega) (fun j a b=>by
    rw [List.getElem_set,Array.getElem_setIfInBounds (by simpa using b)]
    split
    ·exact hx
    ·exact hr j _ _)
   refine ⟨by rw [cD,this.1];simp,?_⟩;exact this.2
theorem aHz (hT:dO P T) (hR:R T F ρ s W) {t:TypeId} {z:Nat} {ag:Bool} (hl:eN T t=some (z,ag)) {a x:AV} {s':St} (h:store z a x s=some s') {u v:Value} (hu:VR T F ρ a u) (hv:VR T F ρ x v) (id0:Nat) :
  TA P T id0 s ρ F W s' (Instr.storeAt t u v):=by
 unfold store at h
 split at h
 ·rename_i id off
  cases hu with
  | ptr _ _ β z1 h1 =>
   cases hb:s.h id with
   | none=>rw [hb] at h;cases h
   | some b =>
    rw [hb] at h
    cases b with
    | cells c e ex wr =>
     cases wr with
     | false=>cases h
     | true =>
      simp only at h
      split at h
      ·rename_i hc;obtain ⟨q1,q2,q3⟩:=hc;simp only [m000] at h;subst h;obtain ⟨β',z',o,k1,k2,k3,k4⟩:=hR.lt hb;rw [h1] at k1;cases k1
       cases o with
       | cells C e' fr =>
        obtain ⟨rfl,m2,m3,m4,m5,m6⟩:=k3;obtain ⟨hcr,hone⟩:=vG q3 hv;have hlen:v.cells.toList.length=z:=by rw [<- hcr.1];exact q1
        have hrun:(Instr.storeAt t (.pointer (some ⟨β,off,none⟩)) v).run P W=.ok () (W.setCells β off v.cells.toList):=by
         have hsz:¬ v.cells.size≠z:=by simpa using hlen
         simp only [Instr.storeAt,Instr.sureAddr,Sem.run_bind,Sem.run_pure,Result.andThen_ok,storeVar,bA hT hl];rw [if_neg hsz]
         have:=run_storeCells_cells (P:=P) β off v.cells.toList 0 W (fun j hj=>by
           have:off+0+j < C.size:=by omega
           simp [World.cell?,k2];omega)
          (fun j hj=>by
           have hj2:off+0+j < z1:=by omega
           have:=m6 rfl (off+0+j) hj2;simp only [World.frozen?,k2]
           simpa using this) hone
         rw [Nat.add_zero] at this;exact this
        by_cases hnil:v.cells.toList=[]
        ·have hx:x.cells=[]:=m034 (by rw [hcr.1,hnil];rfl);rw [hx];obtain ⟨r1,r2⟩:=hR.put (b':=.cells c e' ex true) (o':=.cells C e' fr) hb h1 ⟨rfl,m2,m3,m4,m5,m6⟩;refine ⟨dV W β (.cells C e' fr),ρ,F,?_,r1,r2,fun _ _ _=>rfl,bH _⟩;rw [hrun,kQ _ W β off C e' fr k2,if_pos hnil];congr 1;have hβ:β < W.heap.size:=k4;have hw:W.heap[β]=.cells C e' fr:=by rw [m016 hβ] at k2;simpa using k2
         cases W;simp only [dV];congr 1;apply Array.ext_getElem?;intro i;rw [m029]
         split
         ·rename_i e;subst e;simp at hβ;simp [hβ];exact hw
         ·rfl
        ·obtain ⟨l1,l2⟩:=tM v.cells.toList x.cells c C off hcr (by omega) (by omega) m5
         obtain ⟨r1,r2⟩:=hR.put (b':=.cells (cD c off x.cells) e' ex true) (o':=.cells (mR C off v.cells.toList) e' fr) hb h1
          ⟨rfl,by rw [nN];exact m2,by rw [l1];exact m3,fun hx=>by rw [l1];exact m4 hx,fun j a b=>l2 j a b,m6⟩
         refine ⟨_,ρ,F,?_,r1,r2,fun _ _ _=>rfl,bH _⟩;rw [hrun,kQ _ W β off C e' fr k2,if_neg hnil]
       | _=>exact k3.elim
      ·cases h
    | _=>cases h
 ·cases h
end
end Go.Proofs.YtdehdahimkcakaaGreatDoor.Ai
end
