/- Texts joined by wip/tools/pack.py: Ai. -/
import Derived.Calls
import Derived.KernelRfl
open Nat renaming reduceAdd→Z0, reduceEqDiff→Z1
namespace Go.Proofs.YtdehdahimkcakaaGreatDoor.Ai
open Go
noncomputable section
theorem m000.{u}:type_of% @Option.some.injEq.{u}:=@Option.some.injEq.{u}
theorem m001.{u,v}:type_of% @Prod.mk.injEq.{u,v}:=@Prod.mk.injEq.{u,v}
theorem m002.{u,v}:type_of% @List.length_map.{u,v}:=@List.length_map.{u,v}
theorem m003.{u}:type_of% @List.mem_append.{u}:=@List.mem_append.{u}
theorem m004.{u}:type_of% @List.getElem?_eq_getElem.{u}:=@List.getElem?_eq_getElem.{u}
theorem m005.{u}:type_of% @List.mem_cons_of_mem.{u}:=@List.mem_cons_of_mem.{u}
theorem m006.{u}:type_of% @List.length_append.{u}:=@List.length_append.{u}
theorem m007.{u}:type_of% @List.mem_cons_self.{u}:=@List.mem_cons_self.{u}
theorem m008.{u}:type_of% @List.mem_singleton.{u}:=@List.mem_singleton.{u}
theorem bN:type_of% @Bool.and_eq_true:=@Bool.and_eq_true
theorem bH:type_of% @Nat.le_refl:=@Nat.le_refl
theorem m011.{u}:type_of% @List.append_nil.{u}:=@List.append_nil.{u}
theorem m012.{u}:type_of% @List.getElem?_eq_some_iff.{u}:=@List.getElem?_eq_some_iff.{u}
theorem m013.{u}:type_of% @List.mem_cons.{u}:=@List.mem_cons.{u}
theorem m014.{u}:type_of% @List.take_of_length_le.{u}:=@List.take_of_length_le.{u}
theorem m015:type_of% @Bool.false_eq_true:=@Bool.false_eq_true
theorem m016.{u}:type_of% @Array.getElem?_eq_getElem.{u}:=@Array.getElem?_eq_getElem.{u}
theorem m017.{u}:type_of% @List.mem_of_getElem?.{u}:=@List.mem_of_getElem?.{u}
theorem jS:type_of% @Nat.eq_of_beq_eq_true:=@Nat.eq_of_beq_eq_true
theorem m019.{u}:type_of% @List.append_assoc.{u}:=@List.append_assoc.{u}
theorem m020.{u}:type_of% @List.length_take.{u}:=@List.length_take.{u}
theorem m021.{u,v}:type_of% @List.mem_map.{u,v}:=@List.mem_map.{u,v}
theorem m022.{u,v}:type_of% @Option.map_eq_some_iff.{u,v}:=@Option.map_eq_some_iff.{u,v}
theorem m023:type_of% @Nat.zero_add:=@Nat.zero_add
theorem m024.{u,v}:type_of% @List.flatMap_cons.{u,v}:=@List.flatMap_cons.{u,v}
theorem m025:type_of% @Bool.not_true:=@Bool.not_true
theorem m026:type_of% @Bool.false_or:=@Bool.false_or
theorem m027:type_of% @Bool.not_false:=@Bool.not_false
theorem m028.{u,v}:type_of% @Option.bind_eq_some_iff.{u,v}:=@Option.bind_eq_some_iff.{u,v}
theorem m029.{u}:type_of% @Array.getElem?_setIfInBounds.{u}:=@Array.getElem?_setIfInBounds.{u}
theorem gA:type_of% @Bool.and_self:=@Bool.and_self
theorem m031:type_of% @Bool.true_and:=@Bool.true_and
theorem m032.{u}:type_of% @List.all_eq_true.{u}:=@List.all_eq_true.{u}
theorem m033:type_of% @Bool.true_or:=@Bool.true_or
theorem m034.{u}:type_of% @List.eq_nil_of_length_eq_zero.{u}:=@List.eq_nil_of_length_eq_zero.{u}
theorem m035:type_of% @Bool.false_and:=@Bool.false_and
theorem m036.{u}:type_of% @List.nodup_cons.{u}:=@List.nodup_cons.{u}
theorem m037.{u}:type_of% @List.drop_of_length_le.{u}:=@List.drop_of_length_le.{u}
theorem m038.{u,v}:type_of% @List.map_append.{u,v}:=@List.map_append.{u,v}
theorem m039.{u,v}:type_of% @List.map_cons.{u,v}:=@List.map_cons.{u,v}
theorem zQ:type_of% @Nat.mul_le_mul_right:=@Nat.mul_le_mul_right
theorem m041.{u}:type_of% @List.mem_append_left.{u}:=@List.mem_append_left.{u}
theorem tG:type_of% @Int.ofNat_lt:=@Int.ofNat_lt
theorem m044.{u}:type_of% @List.drop_eq_nil_of_le.{u}:=@List.drop_eq_nil_of_le.{u}
theorem m045.{u}:type_of% @List.take_length.{u}:=@List.take_length.{u}
theorem m047.{u,v}:type_of% @List.getElem?_map.{u,v}:=@List.getElem?_map.{u,v}
theorem m048.{u}:type_of% @List.drop_zero.{u}:=@List.drop_zero.{u}
theorem m049.{u}:type_of% @List.mem_append_right.{u}:=@List.mem_append_right.{u}
theorem hO:type_of% @Nat.zero_le:=@Nat.zero_le
theorem m051.{u}:type_of% @List.getElem?_append_left.{u}:=@List.getElem?_append_left.{u}
theorem m052.{u}:type_of% @List.mem_nil_iff.{u}:=@List.mem_nil_iff.{u}
theorem vL:type_of% @Nat.succ_mul:=@Nat.succ_mul
theorem CD:type_of% @Nat.mul_div_cancel:=@Nat.mul_div_cancel
theorem pX:type_of% @Nat.add_mul:=@Nat.add_mul
theorem m057.{u}:type_of% @List.cons.injEq.{u}:=@List.cons.injEq.{u}
theorem m059:type_of% @Bool.and_true:=@Bool.and_true
theorem FJ:type_of% @Nat.mul_one:=@Nat.mul_one
theorem m062.{u}:type_of% @List.take_add_one.{u}:=@List.take_add_one.{u}
theorem JX:type_of% @Bool.or_eq_false_iff:=@Bool.or_eq_false_iff
theorem m066:type_of% @Nat.add_assoc:=@Nat.add_assoc
theorem uN:type_of% @Bool.or_eq_true:=@Bool.or_eq_true
theorem HT:type_of% @Nat.lt_of_lt_of_le:=@Nat.lt_of_lt_of_le
theorem MZ:type_of% @Nat.eq_zero_or_pos:=@Nat.eq_zero_or_pos
theorem m070.{u,v}:type_of% @List.getElem_map.{u,v}:=@List.getElem_map.{u,v}
theorem m071:type_of% @Bool.and_false:=@Bool.and_false
theorem m072.{u}:type_of% @List.getElem_take.{u}:=@List.getElem_take.{u}
theorem FN:type_of% @Nat.le_trans:=@Nat.le_trans
theorem m078:type_of% @Bool.or_true:=@Bool.or_true
theorem HS:type_of% @Nat.le_succ:=@Nat.le_succ
theorem zP:type_of% @Nat.lt_or_ge:=@Nat.lt_or_ge
inductive AV where
 | undef
 | bool (b:Bool)
 | int (k:IntKind) (n:Int)
 | str (s:List UInt8)
 | nilp
 | ptr (id off:Nat)
 | pel (cs:List AV) (off:Nat)
 | nils
 | emp
 | sl (ex:Bool) (l:List AV)
 | ref (id off len:Nat) (cap:Option Nat) (e:TypeId)
 | nilm
 | map (id:Nat)
 | nilc
 | chan (id:Nat)
 | nilf
 | fn (f:FuncId) (first cap:List AV)
 | nili
 | iface (t:TypeId) (v:AV)
 | agg (cs:List AV)
 | tup (vs:List AV)
inductive mK where
 | cells (c:List AV) (e:TypeId) (ex wr:Bool)
 | map (m:List (AV×AV))
 | chan (closed:Bool)
structure St where
 h:Nat->Option mK
 nx:Nat
abbrev aC:=AV->St->Prop
def St.empty:St:=⟨fun _=>none,0⟩
def St.set (s:St) (n:Nat) (b:Option mK):St:=⟨fun m=>cond (Nat.beq m n) b (s.h m),s.nx⟩
def St.new (s:St) (b:mK):St:=⟨fun m=>cond (Nat.beq m s.nx) (some b) (s.h m),s.nx+1⟩
def St.drop (s:St):List Nat->St
 | []=>s
 | n::l=>St.drop (s.set n none) l
def AV.cells:AV->List AV
 | .agg cs=>cs
 | v=>[v]
def AV.one:AV->Bool
 | .undef | .agg _ | .tup _=>false
 | _=>true
mutual
def AV.closed:AV->Bool
 | .undef | .bool _ | .int _ _ | .str _ | .nilp | .nilm | .nilc | .nilf | .nili=>true
 | .sl ex l=>!ex&&aW l
 | .pel cs _=>aW cs
 | .agg cs=>aW cs
 | .tup vs=>aW vs
 | .fn _ a cap=>aW a&&aW cap
 | _=>false
def aW:List AV->Bool
 | []=>true
 | v::l=>v.closed&&aW l
end
mutual
def AV.flat:AV->Bool
 | .bool _ | .int _ _ | .str _ | .nilp | .nilm | .nilc | .nilf | .nili=>true
 | .agg cs=>NS cs
 | .tup vs=>NS vs
 | _=>false
def NS:List AV->Bool
 | []=>true
 | v::l=>v.flat&&NS l
end
inductive Tr (α:Type) where
 | e
 | n (v:α) (l r:Tr α)
def Tr.get {α:Type}:Tr α->Nat->Option α
 | .e,_=>none
 | .n v l r,k=>cond (Nat.beq k 0) (some v) (cond (Nat.beq (k % 2) 1) (l.get (k / 2)) (r.get (k / 2 - 1)))
abbrev Ty:=TypeId->Option TypeInfo
def dZ (P:Ty) (t:TypeId):Option TypeDesc :=
 match P t with
 | none=>none
 | some i=>match i.desc with
  | .named _ u=>(P u).map (·.desc)
  | d=>some d
def agD:TypeDesc->Bool
 | .struct _ | .array _ _=>true
 | _=>false
def eN (P:Ty) (t:TypeId):Option (Nat×Bool) :=
 match P t,dZ P t with
 | some i,some d=>some (i.size,agD d)
 | _,_=>none
def dN (P:Ty) (t:TypeId):Option Nat:=(P t).map (·.bytes)
def RT:Value->AV
 | .bool b=>.bool b
 | .int k n=>.int k n
 | .string s=>.str s.data.toList
 | .pointer none=>.nilp
 | .slice none 0 0=>.nils
 | .map none=>.nilm
 | .chan none=>.nilc
 | .nilFunc=>.nilf
 | .nilIface=>.nili
 | .func (.func f) a b=>if a.size=0/\b.size=0 then .fn f [] [] else .undef
 | _=>.undef
def ofV:Value->AV
 | .agg cs=>.agg (cs.toList.map RT)
 | v=>RT v
def zero (P:Ty) (t:TypeId):Option AV:=(((P t).map (·.zero)).bind id).map ofV
def DU (op:BinOp) (k:IntKind) (x y:Int):Int :=
 let a:=BitVec.ofInt k.bits x
 let b:=BitVec.ofInt k.bits y
 match op with
 | .and=>k.wrap (a &&& b).toNat
 | .or=>k.wrap (a ||| b).toNat
 | .xor=>k.wrap (a ^^^ b).toNat
 | _=>k.wrap (a &&& ~~~b).toNat
def eL (op:BinOp) (k:IntKind) (x y:Int):Option AV :=
 match op with
 | .add=>some (.int k (k.wrap (x+y)))
 | .sub=>some (.int k (k.wrap (x - y)))
 | .mul=>some (.int k (k.wrap (x * y)))
 | .quo=>if y=0 then none else some (.int k (k.wrap (x.tdiv y)))
 | .rem=>if y=0 then none else some (.int k (x.tmod y))
 | .and | .or | .xor | .andNot=>some (.int k (DU op k x y))
 | .shl=>if y < 0 then none else some (.int k (k.wrap (x * 2 ^ (min y.toNat k.bits))))
 | .shr=>if y < 0 then none else some (.int k (x.fdiv (2 ^ (min y.toNat k.bits))))
 | .eql=>some (.bool (x==y))
 | .neq=>some (.bool (x != y))
 | .lss=>some (.bool (decide (x < y)))
 | .leq=>some (.bool (decide (x<=y)))
 | .gtr=>some (.bool (decide (x > y)))
 | .geq=>some (.bool (decide (x >= y)))
def dC:BinOp->Bool
 | .shl | .shr=>true
 | _=>false
def ID:Nat:=2 ^ 46
def IH (op:BinOp) (x y:List UInt8):Option AV :=
 match op with
 | .add=>if x.length+y.length<=ID then some (.str (x++y)) else none
 | .eql=>some (.bool (x==y))
 | .neq=>some (.bool !(x==y))
 | .lss=>some (.bool (Op.bytesLess x y))
 | .leq=>some (.bool (Op.bytesLess x y||x==y))
 | .gtr=>some (.bool !(Op.bytesLess x y||x==y))
 | .geq=>some (.bool !(Op.bytesLess x y))
 | _=>none
def jZ:AV->AV->Option Bool
 | .int k a,.int k' b=>if k=k' then some (a==b) else none
 | .str a,.str b=>some (a==b)
 | .bool a,.bool b=>some (a==b)
 | _,_=>none
def mD:List AV->List AV->Option Bool
 | [],[]=>some true
 | a::as,b::bs=>match jZ a b,mD as bs with
  | some x,some y=>some (x&&y)
  | _,_=>none
 | _,_=>none
def oT (T:Ty):TypeDesc->AV->AV->Option Bool
 | .pointer _,.nilp,.nilp=>some true
 | .pointer _,.nilp,.ptr _ _ | .pointer _,.ptr _ _,.nilp | .pointer _,.nilp,.pel _ _ | .pointer _,.pel _ _,.nilp=>some false
 | .pointer e,.ptr i a,.ptr j b=>match eN T e with
  | some (z,_)=>if i=j/\z≠0 then some (a==b) else none
  | none=>none
 | .slice _,.nils,.nils=>some true
 | .slice _,.nils,.emp | .slice _,.emp,.nils | .slice _,.nils,.sl _ (_::_) | .slice _,.sl _ (_::_),.nils=>some false
 | .slice _,.nils,.ref _ _ _ _ _ | .slice _,.ref _ _ _ _ _,.nils=>some false
 | .map _ _,.nilm,.nilm=>some true
 | .map _ _,.nilm,.map _ | .map _ _,.map _,.nilm=>some false
 | .func _ _ _,.nilf,.nilf=>some true
 | .func _ _ _,.nilf,.fn _ _ _ | .func _ _ _,.fn _ _ _,.nilf=>some false
 | .bool,.bool a,.bool b=>some (a==b)
 | _,_,_=>none
def kC:List AV->List AV->Bool
 | [],[]=>true
 | .int k _::z,.int k' _::a=>decide (k=k')&&kC z a
 | .str _::z,.str _::a=>kC z a
 | .bool _::z,.bool _::a=>kC z a
 | _,_=>false
def lA (T:Ty) (eqOk:TypeId->Bool) (op:BinOp) (t:TypeId) (x y:AV):Option AV :=
 match x,y with
 | .int k a,.int k' b=>if dC op then eL op k a b else if k=k' then eL op k a b else none
 | .str a,.str b=>IH op a b
 | .agg a,.agg b=>if eqOk t&&(zero T t).any (fun z=>kC z.cells a&&kC z.cells b) then match op with
  | .eql=>(mD a b).map .bool
  | .neq=>(mD a b).map fun r=>.bool !r
  | _=>none else none
 | x,y=>(dZ T t).bind fun d=>match op with
  | .eql=>(oT T d x y).map .bool
  | .neq=>(oT T d x y).map fun r=>.bool !r
  | _=>none
def un (op:UnOp) (x:AV):Option AV :=
 match op,x with
 | .not,.bool b=>some (.bool !b)
 | .neg,.int k n=>some (.int k (k.wrap (0 - n)))
 | .xor,.int k n=>some (.int k (DU .xor k (if k.signed then -1 else k.max) n))
 | _,_=>none
def KA:AV->Option Bool
 | .bool b=>some b
 | _=>none
def pF:AV->Option Int
 | .int _ n=>some n
 | _=>none
def part (z:Nat) (ag:Bool) (off:Nat) (cs:List AV):Option AV :=
 if ag then (if off+z<=cs.length then some (.agg ((cs.drop off).take z)) else none) else cs[off]?
def cD:List AV->Nat->List AV->List AV
 | c,_,[]=>c
 | c,off,v::vs=>cD (c.set off v) (off+1) vs
def lJ (yM:Nat->Option (Nat×Nat)):List AV->List (Nat×AV)->Option (List AV)
 | c,[]=>some c
 | c,(i,v)::rest=>match yM i with
  | none=>none
  | some (off,z)=>if v.cells.length=z/\off+z<=c.length/\v.cells.all AV.one then lJ yM (cD c off v.cells) rest else none
def rQ (P:Ty):List Field->Option (List (Nat×Nat))
 | []=>some []
 | f::fs=>match P f.type,rQ P fs with
  | some i,some l=>some ((f.offset,i.size)::l)
  | _,_=>none
def DP (P:Ty) (t:TypeId) (parts:List (Nat×AV)):Option AV :=
 match zero P t,dZ P t with
 | some (.agg z),some (.struct fs)=>(rQ P fs.toList).bind fun l=>(lJ (fun i=>l[i]?) z parts).map .agg
 | some (.agg z),some (.array _ e)=>(eN P e).bind fun l=>(lJ (fun i=>some (i * l.1,l.1)) z parts).map .agg
 | _,_=>none
def iM (z:Nat):List AV->List (Nat×AV)->Option (List AV)
 | l,[]=>some l
 | l,(i,v)::rest=>if v.cells.length=z/\i < l.length/\v.cells.all AV.one then iM z (l.set i v) rest else none
def iQ (P:Ty) (t:TypeId) (n:Nat) (parts:List (Nat×AV)):Option AV :=
 match dZ P t with
 | some (.slice e)=>match eN P e,zero P e with
  | some (z,_),some v=>if n * z<=2 ^ 24/\0 < z/\v.cells.length=z then (iM z (List.replicate n v) parts).map (.sl true) else none
  | _,_=>none
 | _=>none
def JP (P:Ty) (t:TypeId) (f:Nat) (x:AV):Option AV :=
 match dZ P t,x with
 | some (.struct fs),.agg cs=>(fs[f]?).bind fun f=>(eN P f.type).bind fun l=>part l.1 l.2 f.offset cs
 | _,_=>none
def aD (n:Nat):AV->Option AV
 | .ptr id off=>some (.ptr id (off+n))
 | .pel cs off=>some (.pel cs (off+n))
 | _=>none
def AK (P:Ty) (t:TypeId) (f:Nat) (x:AV):Option AV :=
 match dZ P t with
 | some (.struct fs)=>(fs[f]?).bind fun f=>(eN P f.type).bind fun l=>if l.1=0 then none else aD f.offset x
 | _=>none
def zK (i:Int) (n:Nat):Option Nat:=if 0<=i/\i < n then some i.toNat else none
def AM (P:Ty) (t:TypeId) (x ix:AV):Option AV :=
 (pF ix).bind fun i=>match dZ P t with
 | some (.slice e)=>match x with
  | .sl _ l=>(zK i l.length).bind fun j=>(l[j]?).bind fun v=>(eN P e).bind fun y=>if v.cells.length=y.1 then some (.pel v.cells 0) else none
  | .ref id off n _ _=>(zK i n).bind fun j=>(eN P e).map fun l=>.ptr id (off+j * l.1)
  | _=>none
 | some (.array n e)=>(zK i n).bind fun j=>(eN P e).bind fun l=>if 2<=n then aD (j * l.1) x else none
 | _=>none
def yE (P:Ty) (t:TypeId) (x ix:AV):Option AV :=
 (pF ix).bind fun i=>match x,dZ P t with
 | .str s,some .string=>(zK i s.length).bind fun j=>(s[j]?).map fun b=>.int .u8 b.toNat
 | .agg cs,some (.array n e)=>(zK i n).bind fun j=>(eN P e).bind fun l=>part l.1 l.2 (j * l.1) cs
 | _,_=>none
def pK (d:Nat):Option AV->Option Int
 | none=>some d
 | some v=>pF v
def eF (n c:Nat) (lo hi mx:Option AV):Option (Nat×Nat×Nat) :=
 if mx.isSome&&hi.isNone then none else
 (pK c mx).bind fun m=>(pK n hi).bind fun h=>(pK 0 lo).bind fun l =>
  if 0<=l/\l<=h/\h<=m/\m<=c then some (l.toNat,h.toNat,m.toNat) else none
def yO (cap:Option Nat) (n z:Nat):Nat :=
 match cap with
 | some k=>k
 | none=>n / z
def fJ (P:Ty) (t:TypeId) (x:AV) (lo hi mx:Option AV) (s:St):Option AV :=
 match dZ P t with
 | some .string=>match x,mx with
  | .str b,none=>(eF b.length b.length lo hi none).map fun r=>.str ((b.drop r.1).take (r.2.1 - r.1))
  | _,_=>none
 | some (.slice e)=>(eN P e).bind fun y=>match x with
  | .nils=>(eF 0 0 lo hi mx).map fun _=>.nils
  | .sl ex l=>if l.isEmpty||(l.head?).any (fun v=>v.cells.length==y.1) then
    (eF l.length l.length lo hi mx).map fun r=>.sl (if mx.isSome then r.2.2==r.2.1 else ex&&r.2.1==l.length) ((l.drop r.1).take (r.2.1 - r.1)) else none
  | .ref id off n cap e'=>match s.h id with
   | some (.cells c _ _ _) =>
    if e'=e/\0 < y.1/\off<=c.length then
     (eF n (yO cap (c.length - off) y.1) lo hi mx).map fun r =>
      if r.1≠0/\r.2.1=r.1 then .sl false [] else .ref id (off+r.1 * y.1) (r.2.1 - r.1) (if mx.isSome then some (r.2.2 - r.1) else cap.map (· - r.1)) e'
    else none
   | _=>none
  | _=>none
 | some (.array n e)=>match x with
  | .ptr id off=>(eN P e).bind fun y=>match s.h id with
   | some (.cells c _ _ _)=>if off+n * y.1<=c.length then (eF n n lo hi mx).map fun r =>
     if r.1≠0/\r.2.1=r.1 then .sl false [] else .ref id (off+r.1 * y.1) (r.2.1 - r.1) (some (r.2.2 - r.1)) e else none
   | _=>none
  | _=>none
 | _=>none
def aBa:AV->Option Int
 | .int .u8 n=>some n
 | _=>none
def fW:List AV->Option (List Int)
 | []=>some []
 | v::l=>match aBa v,fW l with
  | some n,some ns=>some (n::ns)
  | _,_=>none
def kG (P:Ty) (src dst:TypeId) (x:AV) (s:St):Option AV :=
 match dZ P src,dZ P dst,x with
 | some _,some (.int k),.int _ n=>some (.int k (k.wrap n))
 | some _,some .string,.str b=>some (.str b)
 | some _,some (.slice e),.str b=>match dZ P e with
  | some (.int .u8)=>some (.sl false (b.map fun c=>.int .u8 c.toNat))
  | _=>none
 | some (.slice e),some .string,x=>match dZ P e,x with
  | some (.int .u8),.nils=>some (.str [])
  | some (.int .u8),.sl _ l=>(fW l).map fun ns=>.str (ns.map fun n=>UInt8.ofNat n.toNat)
  | some (.int .u8),.ref id off n _ _=>match s.h id with
   | some (.cells c _ _ _)=>if off+n<=c.length then (fW ((c.drop off).take n)).map fun ns=>.str (ns.map fun n=>UInt8.ofNat n.toNat) else none
   | _=>none
  | _,_=>none
 | some (.pointer _),some .unsafePointer,.nilp | some .unsafePointer,some (.pointer _),.nilp=>some .nilp
 | some (.pointer t),some .unsafePointer,.ptr id off=>match s.h id,eN P t with
  | some (.cells c _ _ _),some (z,_)=>if z≠0/\off < c.length then some (.ptr id off) else none
  | _,_=>none
 | some .unsafePointer,some (.pointer u),.ptr id off=>match s.h id with
  | some (.cells c e _ _)=>match eN P u with
   | some (z,_)=>if e=u/\off=0/\0 < z/\z<=c.length then some (.ptr id off) else none
   | none=>none
  | _=>none
 | _,_,_=>none
def load (z:Nat) (ag:Bool) (a:AV) (s:St):Option AV :=
 match a with
 | .ptr id off=>match s.h id with
  | some (.cells c _ _ _)=>part z ag off c
  | _=>none
 | .pel cs off=>part z ag off cs
 | _=>none
def store (z:Nat) (a v:AV) (s:St):Option St :=
 match a with
 | .ptr id off=>match s.h id with
  | some (.cells c e ex true)=>if v.cells.length=z/\off+z<=c.length/\v.cells.all AV.one then some (s.set id (some (.cells (cD c off v.cells) e ex true))) else none
  | _=>none
 | _=>none
def tE (x:AV) (s:St):Option Int :=
 match x with
 | .str b=>some b.length
 | .nils | .emp | .nilm=>some 0
 | .sl _ l=>some l.length
 | .ref _ _ n _ _=>some n
 | .map id=>match s.h id with
  | some (.map m)=>some m.length
  | _=>none
 | _=>none
def bDg:TypeDesc->AV->Bool
 | .string,.str _ | .slice _,.nils | .slice _,.emp | .slice _,.sl _ _ | .slice _,.ref _ _ _ _ _ | .map _ _,.nilm | .map _ _,.map _=>true
 | _,_=>false
def QA (x:AV):Option Int :=
 match x with
 | .nils=>some 0
 | .sl true l=>some l.length
 | .ref _ _ _ (some k) _=>some k
 | _=>none
def aR (z:Nat) (x:AV) (s:St):Option (List AV) :=
 match x with
 | .nils | .emp=>some []
 | .str b=>if z=1 then some (b.map fun c=>.int .u8 c.toNat) else none
 | .sl _ l=>if l.all (fun v=>v.cells.length==z) then some (l.flatMap AV.cells) else none
 | .ref id off n _ _=>match s.h id with
  | some (.cells c _ _ _)=>if off+n * z<=c.length then some ((c.drop off).take (n * z)) else none
  | _=>none
 | _=>none
def most:Nat:=2 ^ 40
def kD (e:TypeId) (z:Nat) (c:List AV) (id:Nat) (s:St):AV×St:=(.ref id 0 (c.length / z) none e,s.set id (some (.cells c e false true)))
def jA (n b:Nat):Bool:=Nat.ble (n * b) most&&Nat.ble n most
def eC (e:TypeId) (z b:Nat) (c:List AV) (id:Nat) (s:St):Option (AV×St):=if jA (c.length / z) b then some (kD e z c id s) else none
def bM (e:TypeId) (z b:Nat) (x:AV) (news:List AV) (nid:Nat) (s:St):Option (AV×St) :=
 if news.isEmpty then (match x with
  | .nils | .sl _ _=>some (x,s)
  | .ref _ _ _ _ _=>some (x,s)
  | _=>none) else
 if !(news.all AV.one) then none else
 match x with
 | .nils=>eC e z b news nid s
 | .sl true l=>if l.all (fun v=>v.cells.length==z) then eC e z b (l.flatMap AV.cells++news) nid s else none
 | .ref id off n cap e1=>match s.h id with
  | some (.cells c e' ex true) =>
   if off+n * z<=c.length/\e1=e then
    match cap with
    | some k =>
     if n+news.length / z<=k then
      (if off+n * z+news.length<=c.length then some (.ref id off (n+news.length / z) cap e,s.set id (some (.cells (cD c (off+n * z) news) e' ex true))) else none)
     else eC e z b ((c.take (off+n * z)).drop off++news) nid s
    | none =>
     if off+n * z+news.length<=c.length then some (.ref id off (n+news.length / z) none e,s.set id (some (.cells (cD c (off+n * z) news) e' ex true)))
     else if off+n * z=c.length/\off=0/\e'=e then eC e z b (c++news) nid (s.set id none)
     else none
   else none
  | _=>none
 | _=>none
def oX (z:Nat) (x:AV) (src:List AV) (s:St):Option (AV×St) :=
 match x with
 | .nils | .emp=>some (.int .i64 0,s)
 | .sl _ []=>some (.int .i64 0,s)
 | .ref id off n _ _ =>
  let m:=min (src.length / z) n
  match s.h id with
  | some (.cells c e ex true)=>if off+m * z<=c.length/\(src.take (m * z)).all AV.one then some (.int .i64 m,s.set id (some (.cells (cD c off (src.take (m * z))) e ex true))) else none
  | _=>none
 | _=>none
def aFv:AV->Bool
 | .int _ _ | .str _=>true
 | _=>false
def find (k:AV):List (AV×AV)->Option (Option AV)
 | []=>some none
 | (a,v)::l=>match jZ k a with
  | some true=>some (some v)
  | some false=>find k l
  | none=>none
def jF (k v:AV):List (AV×AV)->List (AV×AV)
 | []=>[(k,v)]
 | (a,u)::l=>if jZ k a==some true then (k,v)::l else (a,u)::jF k v l
def BT:TypeDesc->AV->Bool
 | .int k,.int k' _=>decide (k'=k)
 | .string,.str _=>true
 | _,_=>false
def qY (m k:AV) (s:St):Option (Option AV) :=
 match m with
 | .nilm=>some none
 | .map id=>match s.h id with
  | some (.map l)=>find k l
  | _=>none
 | _=>none
def hJ (P:Ty) (t:TypeId) (m k:AV) (ok:Bool) (s:St):Option AV :=
 match dZ P t with
 | some (.map kt e)=>(dZ P kt).bind fun kd=>if BT kd k then (zero P e).bind fun z =>
  (qY m k s).map fun v=>if ok then .tup [v.getD z,.bool v.isSome] else v.getD z else none
 | _=>none
def iC (P:Ty) (t:TypeId) (m k v:AV) (s:St):Option St :=
 match dZ P t with
 | some (.map kt _)=>(dZ P kt).bind fun kd=>match m with
  | .map id=>match s.h id with
   | some (.map l)=>if BT kd k then (find k l).map fun _=>s.set id (some (.map (jF k v l))) else none
   | _=>none
  | _=>none
 | _=>none
def nO (z:Nat):Nat->List AV->List AV
 | 0,_=>[]
 | n+1,c=>.agg (c.take z)::nO z n (c.drop z)
def dJ (f:AV->Option (AV×List Nat)):List AV->Option (List AV×List Nat)
 | []=>some ([],[])
 | v::l=>match f v,dJ f l with
  | some (a,i),some (b,j)=>some (a::b,i++j)
  | _,_=>none
def mB (f:AV->Option (AV×List Nat)):List AV->List AV×List Nat
 | []=>([],[])
 | v::l=>match f v with
  | some (a,i)=>(a::(mB f l).1,i++(mB f l).2)
  | none=>(.undef::(mB f l).1,(mB f l).2)
def iK:AV->Bool
 | .agg _=>false
 | _=>true
def pur (P:Ty) (s:St):Nat->AV->Option (AV×List Nat)
 | k,v=>if v.closed then some (v,[]) else
  match k with
  | 0=>none
  | k+1=>match v with
   | .nils | .emp=>some (.sl false [],[])
   | .sl _ l=>(dJ (pur P s k) l).map fun r=>(.sl false r.1,r.2)
   | .ref id off n _ e=>match s.h id,eN P e with
    | some (.cells c _ _ _),some (z,ag)=>if off+n * z<=c.length/\0 < z then
      (dJ (pur P s k) ((c.drop off).take (n * z))).bind fun r=>if ag||(Nat.beq z 1&&r.1.all iK) then some (.sl false (if ag then nO z n r.1 else r.1),id::r.2) else none else none
    | _,_=>none
   | .ptr id off=>match s.h id with
    | some (.cells c _ _ _)=>some (.pel (mB (pur P s k) c).1 off,id::(mB (pur P s k) c).2)
    | _=>none
   | .agg cs=>(dJ (pur P s k) cs).map fun r=>(.agg r.1,r.2)
   | .tup cs=>(dJ (pur P s k) cs).map fun r=>(.tup r.1,r.2)
   | _=>none
structure Cx where
 P:Ty
 eqOk:TypeId->Bool
 glob:Nat->Option (List AV)
 call:Bool->FuncId->List AV->St->Option (AV×St)
 pm:FuncId->Bool
def ev (X:Cx) (g:Nat->AV):Operand->AV
 | .tmp t=>g t
 | .const v=>ofV v
 | .global g=>match X.glob g with
  | some cs=>.pel cs 0
  | none=>.undef
 | .func f=>.fn f [] []
def gt (tm:List AV) (t:Nat):AV:=tm.getD t .undef
def put (tm:List AV) (d:Option Nat) (v:AV):List AV :=
 match d with
 | some d=>tm.set d v
 | none=>tm
def FG (f:Int->Int->Bool):List AV->Option AV
 | [.int k a,.int k' b]=>if k=k' then some (.int k (if f b a then b else a)) else none
 | _=>none
def bG (X:Cx) (b:Builtin) (ats:Array TypeId) (args:List AV) (nid:Nat) (s:St):Option (AV×St) :=
 match b,args with
 | .len,[x]=>((ats[0]?).bind (dZ X.P)).bind fun d=>if bDg d x then (tE x s).map fun n=>(.int .i64 n,s) else none
 | .cap,[x]=>((ats[0]?).bind (dZ X.P)).bind fun d=>match d with
  | .slice _=>(QA x).map fun n=>(.int .i64 n,s)
  | _=>none
 | .min,args=>(FG (fun y x=>decide (y < x)) args).map (·,s)
 | .max,args=>(FG (fun y x=>decide (x < y)) args).map (·,s)
 | .append,[x,y]=>match (ats[0]?).bind (dZ X.P),(ats[1]?).bind (dZ X.P) with
  | some (.slice e),some (.int _)=>match eN X.P e,dN X.P e,zero X.P e,y with
   | some (z,_),some b,some zv,.int _ n=>if 0 < z/\0<=n/\n * b<=most/\n<=most/\zv.cells.length=z then bM e z b x (List.replicate n.toNat zv.cells).flatten nid s else none
   | _,_,_,_=>none
  | some (.slice e),some (.slice _) | some (.slice e),some .string=>match eN X.P e,dN X.P e,zero X.P e with
   | some (z,_),some b,some zv=>if 0 < z/\zv.cells.length=z then (aR z y s).bind fun c=>bM e z b x c nid s else none
   | _,_,_=>none
  | _,_=>none
 | .copy,[x,y]=>match (ats[0]?).bind (dZ X.P) with
  | some (.slice e)=>match eN X.P e with
   | some (z,_)=>if z=0 then none else (aR z y s).bind fun c=>oX z x c s
   | none=>none
  | _=>none
 | .unsafeSliceData,[x]=>match x with
  | .nils=>some (.nilp,s)
  | .ref id off _ cap _=>match s.h id with
   | some (.cells c _ _ _)=>if off < c.length/\cap.isNone then some (.ptr id off,s) else none
   | _=>none
  | _=>none
 | .unsafeString,[p,n]=>match ats.toList with
  | [pt,_]=>match dZ X.P pt,p,n with
   | some (.pointer e1),.ptr id 0,.int .i64 n=>match s.h id with
    | some (.cells c e ex _)=>match eN X.P e with
     | some (1,_)=>if e1=e/\0 < n/\n.toNat<=c.length/\n<=most then (fW (c.take n.toNat)).bind fun ns =>
       if ns.all (fun n=>decide (0<=n)&&decide (n < 256)) then some (.str (ns.map fun n=>UInt8.ofNat n.toNat),s.set id (some (.cells c e ex false))) else none else none
     | _=>none
    | _=>none
   | _,.nilp,.int .i64 0=>some (.str [],s)
   | _,.ptr _ _,.int .i64 0=>some (.str [],s)
   | _,_,_=>none
  | _=>none
 | _,_=>none
def fX (X:Cx) (dr:Bool) (id:Nat) (e:Operand->AV) (o:Oper) (s:St):Option (AV×St) :=
 let v (r:Option AV):Option (AV×St):=r.map (·,s)
 match o.op with
 | .move x | .assign x=>some (e x,s)
 | .pick c a b=>(KA (e c)).bind fun t=>some (if t then e a else e b,s)
 | .alloc t=>(zero X.P t).map fun z=>(.ptr id 0,s.set id (some (.cells z.cells t true true)))
 | .box t x=>if (e x).cells.all AV.one then some (.ptr id 0,s.set id (some (.cells (e x).cells t true true))) else none
 | .build t parts=>v (DP X.P t (parts.toList.map fun p=>(p.1,e p.2)))
 | .buildSlice t n parts=>v (iQ X.P t n (parts.toList.map fun p=>(p.1,e p.2)))
 | .load t a=>(eN X.P t).bind fun l=>v (load l.1 l.2 (e a) s)
 | .store t a x=>(eN X.P t).bind fun l=>(store l.1 (e a) (e x) s).map (.tup [],·)
 | .nilCheck x=>match e x with
  | .ptr i o=>some (.ptr i o,s)
  | .pel c o=>some (.pel c o,s)
  | .fn f a c=>some (.fn f a c,s)
  | _=>none
 | .binOp op t x y _=>v (lA X.P X.eqOk op t (e x) (e y))
 | .unOp op _ x=>v (un op (e x))
 | .convert src dst x=>v (kG X.P src dst (e x) s)
 | .makeInterface t x=>match dZ X.P t with
  | none | some (.interface _)=>none
  | some _=>some (.iface t (e x),s)
 | .makeFunc (.func f) first captured=>some (.fn f (first.toList.map e) (captured.toList.map e),s)
 | .makeMap _ none=>some (.map id,s.set id (some (.map [])))
 | .makeSlice t n c=>match dZ X.P t with
  | some (.slice et)=>match eN X.P et,dN X.P et,zero X.P et,pF (e n),pF (e c) with
   | some (z,_),some b,some zv,some n,some c=>if 0<=n/\n=c/\n * b<=most/\n<=most/\zv.cells.length=z/\0 < z then
     some (.ref id 0 n.toNat (some n.toNat) et,s.set id (some (.cells (List.replicate n.toNat zv.cells).flatten et true true))) else none
   | _,_,_,_,_=>none
  | _=>none
 | .slice t x lo hi mx=>v (fJ X.P t (e x) (lo.map e) (hi.map e) (mx.map e) s)
 | .fieldAddr t x f=>v (AK X.P t f (e x))
 | .field t x f=>v (JP X.P t f (e x))
 | .indexAddr t x i=>v (AM X.P t (e x) (e i))
 | .index t x i=>v (yE X.P t (e x) (e i))
 | .lookup t m k ok=>v (hJ X.P t (e m) (e k) ok s)
 | .mapUpdate t m k x=>(iC X.P t (e m) (e k) (e x) s).map (.tup [],·)
 | .extract t i=>match e t with
  | .tup vs=>(vs[i]?).map (·,s)
  | _=>none
 | .call c=>match c.callee with
  | .builtin b=>bG X b c.argTypes (c.args.toList.map e) id s
  | .value f=>match e f with
   | .fn g a cap=>X.call dr g (a++c.args.toList.map e++cap) s
   | _=>none
  | _=>none
 | _=>none
def bD (all:List Oper) (g:Nat->AV) (o:Oper):Option Bool :=
 match o.guard with
 | none=>some true
 | some (j,want)=>match (all[j]?).bind (·.dst) with
  | none=>some false
  | some d=>match g d with
   | .bool b=>some (b==want)
   | .undef=>none
   | _=>some false
noncomputable def iR (X:Cx) (dr:Bool) (base:Nat) (all:List Oper) (l:List Oper):Nat->List AV->St->Option (List AV×St) :=
 List.rec (motive:=fun _=>Nat->List AV->St->Option (List AV×St))
  (fun _ tm s=>some (tm,s))
  (fun o _ ih i tm s=>(bD all (gt tm) o).bind fun w =>
   cond w ((fX X dr (base+i) (ev X (gt tm)) o s).bind fun r=>ih (i+1) (put tm o.dst r.1) r.2) (ih (i+1) (put tm o.dst (.tup [])) s)) l
def dY (n:Nat):List Nat->Bool
 | []=>false
 | m::l=>Nat.beq n m||dY n l
def aS:AV->List Nat
 | .ptr id _ | .ref id _ _ _ _ | .map id=>[id]
 | _=>[]
def iX:Op->List Operand
 | .move x | .assign x | .box _ x | .load _ x | .nilCheck x | .unOp _ _ x | .convert _ _ x | .makeInterface _ x | .fieldAddr _ x _ | .field _ x _ | .extract x _=>[x]
 | .pick a b c | .mapUpdate _ a b c=>[a,b,c]
 | .build _ parts | .buildSlice _ _ parts=>parts.toList.map (·.2)
 | .store _ a b | .binOp _ _ a b _ | .makeSlice _ a b | .indexAddr _ a b | .index _ a b | .lookup _ a b _=>[a,b]
 | .makeFunc _ f c=>f.toList++c.toList
 | .slice _ x lo hi mx=>x::(lo.toList++hi.toList++mx.toList)
 | .call c=>(match c.callee with
  | .value f=>[f]
  | _=>[])++c.args.toList
 | _=>[]
def cI:Op->Bool
 | .alloc _ | .box _ _ | .makeMap _ _ | .makeSlice _ _ _ | .store _ _ _ | .mapUpdate _ _ _ _=>true
 | .call c=>match c.callee with
  | .builtin .append | .builtin .copy | .builtin .unsafeString=>true
  | _=>false
 | _=>false
def sD (o:Op) (e:Operand->AV):List Nat :=
 match o with
 | .load _ a | .store _ a _ | .mapUpdate _ a _ _ | .convert _ _ a | .lookup _ a _ _ | .slice _ a _ _ _=>aS (e a)
 | .call c=>match c.callee with
  | .builtin _=>c.args.toList.flatMap fun x=>aS (e x)
  | _=>[]
 | _=>[]
def St.only (s:St) (l:List Nat):St:=⟨fun m=>cond (dY m l) (s.h m) none,s.nx⟩
def St.merge (s t:St) (l:List Nat):St:=⟨fun m=>cond (dY m l) (t.h m) (s.h m),s.nx⟩
def gQ (X:Cx) (e:Operand->AV):Op->Bool
 | .call c=>match c.callee with
  | .value f=>match e f with
   | .fn g _ _=>!X.pm g
   | _=>false
  | _=>false
 | _=>false
mutual
def gF:AV->List Nat
 | .ptr id _ | .ref id _ _ _ _ | .map id | .chan id=>[id]
 | .pel cs _ | .agg cs | .tup cs | .sl _ cs=>iA cs
 | .fn _ a b=>iA a++iA b
 | .iface _ v=>gF v
 | _=>[]
def iA:List AV->List Nat
 | []=>[]
 | v::l=>gF v++iA l
end
def fQ:mK->List Nat
 | .cells c _ _ _=>iA c
 | .map m=>iA (m.map (·.2))
 | .chan _=>[]
def kK (h:Nat->Option mK):Nat->List Nat->List Nat->List Nat
 | 0,_,seen=>seen
 | _+1,[],seen=>seen
 | f+1,n::w,seen=>cond (dY n seen) (kK h f w seen) (match h n with
  | none=>kK h f w (n::seen)
  | some b=>kK h f (fQ b++w) (n::seen))
def lP (s t:St) (l:List Nat):St:=⟨fun m=>cond (dY m l||Nat.ble s.nx m) (t.h m) (s.h m),t.nx⟩
def dL (e:Operand->AV) (o:Op) (s:St):List Nat :=
 let all:=kK s.h 4000 (iA ((iX o).map e)) []
 match o with
 | .call c=>match c.callee with
  | .value _=>all
  | _=>sD o e
 | _=>sD o e
def rR (X:Cx) (id:Nat) (e:Operand->AV) (o:Oper) (s:St):Option (AV×St) :=
 cond (gQ X e o.op) ((fX X false id e o (s.only (dL e o.op s))).map fun r=>(r.1,lP s r.2 (dL e o.op s)))
  ((fX X true id e o (s.only (dL e o.op s))).map fun r=>(r.1,cond (cI o.op) (s.merge r.2 (id::dL e o.op s)) s))
def vE (o:Op) (id:Nat) (e:Operand->AV) (s:St):List Nat:=cond (cI o) (id::dL e o s) (dL e o s)
def tH:List Nat->List Nat->Bool
 | [],_=>true
 | n::l,m=>!dY n m&&tH l m
def bO (m k:Nat):Bool:=Nat.beq ((m >>> k) % 2) 1
def mE (o:Oper) (ms:List Nat):Nat:=o.after.toList.foldl (fun m e=>cond (Region.binds .any e) (m ||| ((1 <<< e.on) ||| ms.getD e.on 0)) m) 0
def eB:List Nat->List Oper->List Nat
 | ms,[]=>ms
 | ms,o::l=>eB (ms++[mE o ms]) l
structure eD where
 i:Nat
 wr:Bool
 t:List Nat
 lo:Option Nat
def bF (X:Cx) (i id:Nat) (e:Operand->AV) (o:Op) (s:St):eD:=cond (gQ X e o) ⟨i,true,dL e o s,some s.nx⟩ ⟨i,cI o,vE o id e s,none⟩
def DF (a b:eD):Bool:=match a.lo with
 | none=>true
 | some n=>b.lo.isNone&&b.t.all fun m=>Nat.blt m n
def eD.apart (a b:eD):Bool:=(!a.wr&&!b.wr)||(DF a b&&DF b a&&tH a.t b.t)
def clear (ms:Nat) (k:eD) (lg:List eD):Bool:=lg.all fun p=>bO ms p.i||p.apart k
noncomputable def mX (X:Cx) (base:Nat) (all:List Oper) (ms:List Nat) (l:List Oper):Nat->List eD->List AV->St->Option (List AV×St) :=
 List.rec (motive:=fun _=>Nat->List eD->List AV->St->Option (List AV×St))
  (fun _ _ tm s=>some (tm,s))
  (fun o _ ih i lg tm s=>(bD all (gt tm) o).bind fun w=>cond w
   (cond (clear (ms.getD i 0) (bF X i (base+i) (ev X (gt tm)) o.op s) lg)
    ((rR X (base+i) (ev X (gt tm)) o s).bind fun r=>ih (i+1) (bF X i (base+i) (ev X (gt tm)) o.op s::lg) (put tm o.dst r.1) r.2) none)
   (ih (i+1) lg (put tm o.dst (.tup [])) s)) l
def aKv (t:Nat):Operand->Bool
 | .tmp u=>Nat.beq t u
 | _=>false
def MO (all:List Oper) (o:Oper) (t:Nat):Bool :=
 (iX o.op).any (aKv t)||match o.guard with
  | some (j,_)=>match (all[j]?).bind (·.dst) with
   | some d=>Nat.beq t d
   | none=>false
  | none=>false
def tK (all:List Oper) (a x:Oper):Bool :=
 (match a.dst with
  | some d=>!MO all x d&&(match x.dst with
   | some u=>!Nat.beq d u
   | none=>true)
  | none=>true) &&
 match x.dst with
 | some d=>!MO all a d
 | none=>true
def JG (all:List Oper) (m:Nat) (x:Oper):Nat->List Oper->Bool
 | _,[]=>true
 | a,o::l=>(bO m a||tK all o x)&&JG all m x (a+1) l
def JI (all:List Oper) (ms:List Nat):List Oper->Nat->List Oper->Bool
 | _,_,[]=>true
 | fF,i,x::l=>x.after.toList.all (fun e=>!Region.binds .any e||Nat.blt e.on i)&&JG all (ms.getD i 0) x 0 fF&&JI all ms (fF++[x]) (i+1) l
def CV (ms:List Nat) (l:List Oper):Bool:=JI l ms [] 0 l
noncomputable def drawn (X:Cx) (base:Nat) (all:List Oper) (tm:List AV) (s:St):Option (List AV×St) :=
 cond (CV (eB [] all) all) (mX X base all (eB [] all) all 0 [] tm s) none
inductive Ex where
 | nm
 | ex (id:Nat)
 | gt (l:Nat)
 | rt
abbrev CB:=Option (Ex×List AV×St)
def GC (r:CB) (f:List AV->St->CB):CB :=
 match r with
 | some (.nm,tm,s)=>f tm s
 | r=>r
def blk (id:Nat) (r:CB):CB :=
 match r with
 | some (.ex i,tm,s)=>if i=id then some (.nm,tm,s) else some (.ex i,tm,s)
 | r=>r
def XP (r:CB):CB :=
 match r with
 | some (.gt _,_,_)=>none
 | r=>r
noncomputable def code (X:Cx) (loopf:Code->List AV->St->CB) (c:Code):List AV->St->CB :=
 Code.rec (motive:=fun _=>List AV->St->CB)
  (fun tm s=>some (.nm,tm,s))
  (fun _ ops dr tm s=>(cond dr (drawn X s.nx ops.toList tm ⟨s.h,s.nx+ops.size⟩)
   (iR X false s.nx ops.toList ops.toList 0 tm ⟨s.h,s.nx+ops.size⟩)).map fun r=>(.nm,r.1,r.2))
  (fun _ _ ia ib tm s=>GC (ia tm s) ib)
  (fun c _ _ ia ib tm s=>(KA (ev X (gt tm) c)).bind fun t=>cond t (ia tm s) (ib tm s))
  (fun id _ ic tm s=>blk id (ic tm s))
  (fun c _ tm s=>loopf c tm s)
  (fun _ _ _ _ _ _ _ _=>none)
  (fun id tm s=>some (.ex id,tm,s))
  (fun _ ic tm s=>XP (ic tm s))
  (fun _ tm s=>some (.nm,tm,s))
  (fun l tm s=>some (.gt l,tm,s))
  (fun tm s=>some (.rt,tm,s))
  (fun _ _ _=>none) c
def mask (m:Nat):Nat->List AV->List AV
 | _,[]=>[]
 | i,v::l=>cond (bO m i) v .undef::mask m (i+1) l
def FI (P:Ty) (g:Nat->AV) (s:St):List ResultVar->Option (List AV)
 | []=>some []
 | .tmp t::l=>(FI P g s l).map ((g t)::·)
 | .cell a t::l=>(eN P t).bind fun y=>(load y.1 y.2 (g a) s).bind fun v=>(FI P g s l).map (v::·)
def iB (P:Ty) (fn:Func) (g:Nat->AV) (s:St):Option AV :=
 (FI P g s fn.results.toList).map fun vs=>match vs with
  | [v]=>v
  | vs=>.tup vs
def uI:AV->Bool
 | .emp | .sl _ (_::_) | .ref _ _ _ _ _=>true
 | _=>false
def eZ (P:Ty) (e:TypeId):List AV->St->Option (AV×St)
 | [x],s=>match eN P e,dN P e with
  | some (z,_),some b=>match x with
   | .nils=>some (.nils,⟨s.h,s.nx+4⟩)
   | .sl _ []=>some (.sl false [],⟨s.h,s.nx+7⟩)
   | x=>cond (uI x) ((aR z x s).bind fun c=>bM e z b (.sl true []) c (s.nx+5) ⟨s.h,s.nx+7⟩) none
  | _,_=>none
 | _,_=>none
def UI:List AV->St->Option (AV×St)
 | [x],s=>some (x,s)
 | _,_=>none
def IP (c:Nat):List UInt8->Nat->Int
 | [],_=>-1
 | b::l,i=>cond (Nat.beq b.toNat c) i (IP c l (i+1))
def oO:List AV->St->Option (AV×St)
 | [.str b,.int .u8 c],s=>some (.int .i64 (IP (c.toNat % 256) b 0),s)
 | _,_=>none
def JA (c:Nat):List UInt8->Nat
 | []=>0
 | b::l=>cond (Nat.beq b.toNat c) 1 0+JA c l
def IS:List AV->St->Option (AV×St)
 | [.str b,.int .u8 c],s=>some (.int .i64 (JA (c.toNat % 256) b),s)
 | _,_=>none
def uO:Nat->Nat->List UInt8
 | 0,_=>[]
 | f+1,u=>cond (Nat.blt u 10) [UInt8.ofNat (48+u)] (uO f (u / 10)++[UInt8.ofNat (48+u % 10)])
def cM (n:Int):List UInt8:=if n < 0 then 45::uO 20 n.natAbs else uO 20 n.toNat
def GV:List AV->St->Option (AV×St)
 | [.int .i64 n],s=>if -9223372036854775808<=n/\n<=9223372036854775807 then some (.str (cM n),s) else none
 | _,_=>none
def AH (e:TypeId):List AV->St->Option (AV×St)
 | [.int .i64 n],s=>if 0<=n/\n<=most then some (.ref s.nx 0 n.toNat none e,s.new (.cells (List.replicate n.toNat .undef) e false true)) else none
 | _,_=>none
structure lX where
 P:Ty
 fns:FuncId->Option Func
 eqOk:TypeId->Bool
 glob:Nat->Option (List AV)
 pm:FuncId->FuncId->Bool
 kp:FuncId->Nat
 fz:FuncId->Bool
 prim:FuncId->Option (List AV->St->Option (AV×St))
 se:FuncId->List Bool
def qF (P:Ty) (s:St):List Bool->List AV->Option (List AV×List Nat)
 | [],as=>some (as,[])
 | b::m,as=>match as with
  | []=>some ([],[])
  | a::as=>(qF P s m as).bind fun r=>cond b ((pur P s 12 a).map fun v=>(v.1::r.1,v.2++r.2)) (some (a::r.1,r.2))
def gW (E:lX) (call:FuncId->List AV->St->Option (AV×St)) (f:FuncId) (dr:Bool) (g:FuncId) (args:List AV) (s:St):Option (AV×St) :=
 if E.pm f g then
  (dJ (pur E.P s 12) args).bind fun as =>
   (call g as.1 St.empty).bind fun r=>(pur E.P r.2 12 r.1).bind fun v =>
    if as.2.isEmpty||v.1.flat then some (v.1,s) else if dr then none else some (v.1,s.drop as.2)
 else if dr then none else if E.fz g then (qF E.P s (E.se g) args).bind fun q=>(call g q.1 (s.drop q.2)).bind fun r=>(pur E.P r.2 12 r.1).map fun v=>(v.1,r.2.drop v.2) else call g args s
def cx (E:lX) (call:FuncId->List AV->St->Option (AV×St)) (f:FuncId):Cx:=⟨E.P,E.eqOk,E.glob,gW E call f,E.pm f⟩
noncomputable def gR (X:Cx) (kp:Nat) (n:Nat):Code->List AV->St->CB :=
 Nat.rec (motive:=fun _=>Code->List AV->St->CB) (fun _ _ _=>none)
  (fun _ ih c tm s=>GC (code X ih c tm s) fun tm s=>ih c (mask kp 0 tm) s) n
def fR (fn:Func) (args:List AV):List AV:=args++List.replicate (fn.ntmps - args.length) (.tup [])
def lV (P:Ty) (fn:Func) (r:CB):Option (AV×St) :=
 match r with
 | some (.nm,tm,s) | some (.rt,tm,s)=>(iB P fn (gt tm) s).map (·,s)
 | _=>none
noncomputable def cL (E:lX) (n:Nat):FuncId->List AV->St->Option (AV×St) :=
 Nat.rec (motive:=fun _=>FuncId->List AV->St->Option (AV×St)) (fun _ _ _=>none)
  (fun n ih f args s=>match E.prim f with
   | some g=>g args s
   | none=>match E.fns f with
    | none=>none
    | some fn=>match fn.body with
     | none=>none
     | some c=>lV E.P fn (code (cx E ih f) (gR (cx E ih f) (E.kp f) n) c (fR fn args) s)) n
end
end Go.Proofs.YtdehdahimkcakaaGreatDoor.Ai
