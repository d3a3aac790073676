/- Texts joined by wip/tools/pack.py: Row,Sx,Dc,Kit,Tf,Str,Na,Li,Lt,Wh,Um. -/
import Derived.Test.YtdehdahimkcakaaGreatDoorCards
import Derived.Test.YtdehdahimkcakaaGreatDoorTie
import Derived.ProofKit
import Derived.LaidMore
import Derived.Lay
import Derived.SevenTiedAt
import Derived.Test.YtdehdahimkcakaaGreatDoorZo
set_option linter.unusedSimpArgs false
set_option linter.unusedVariables false
set_option maxHeartbeats 4000000
set_option maxRecDepth 100000
namespace Go.Proofs.YtdehdahimkcakaaGreatDoor
open Go Ai
noncomputable section
theorem own:ownKnob Tryz.prog.godebug = none:=by kernel_rfl
def plainTys:List Nat:=[3,4,5,9,22,24,25,27,30,31,32,33,34,49,65,67,79,93,109,119,151,159,190,192,193,211,298,300,301,310,317,318]
theorem plain_all:(plainTys.all fun t=>shapeOk Tryz.ty plainTys t) = true:=by kernel_rfl
theorem plain_ok:∀ t∈plainTys,shapeOk Tryz.env.P plainTys t = true:=fun t ht=>List.all_eq_true.1 plain_all t ht
theorem glob_of {laid:List (String × DataW Unit)} (hp:(laid.all fun x=>x.2.handleName?.isNone) = true) {W:World} (h:laidMetH Tryz.prog laid W)
  (hg:∀ g cs,Tryz.glob g = some cs→∃ nd∈laid,Tryz.prog.globalNamed nd.1 = some g∧(∃ t∈plainTys,(Tryz.prog.globals[g]?).map (·.type) = some t)∧cs = (dAV nd.2).cells):GlobOk Tryz.env.P Tryz.env.glob W.cell? W:=by
 rw [MakeChecks.laidMetH_plain _ _ _ hp] at h
 exact glob_ok env_ok.ty plain_ok h hg
section
variable {H:Type}
theorem cells_closed {v:AV} (h:v.closed = true):closedL v.cells = true:=by
 cases v <;> first | exact h | (simp only [AV.cells,closedL,h,Bool.and_self]; done) | (simp only [AV.cells,closedL,Bool.and_true]; exact h)
def fieldTys (T:Ty) (t:TypeId):Option (List TypeId):=match und T t with
 | some (.struct fs)=>some (fs.toList.map (·.type))
 | _=>none
def intTy (T:Ty) (t:TypeId):Option IntKind:=match und T t with
 | some (.int k)=>some k
 | _=>none
def elemTy (T:Ty) (t:TypeId):Option TypeId:=match und T t with
 | some (.slice e)=>some e
 | _=>none
def oneTy (T:Ty) (t:TypeId):Nat:=match und T t with
 | some .bool=>1
 | some .string=>2
 | _=>0
variable {T:Ty} {n:Nat} {t:TypeId} {d:DataW H}
theorem Ai.TyD.struct {ts:List TypeId} (h:fieldTys T t = some ts) (hd:TyD T n t d):∃ m l,n = m + 1∧d = .agg l∧l.length = ts.length∧∀ (i:Nat) t x,ts[i]? = some t→l[i]? = some x→TyD T m t x:=by
 cases n with
 | zero=>exact hd.elim
 | succ m =>
  unfold fieldTys at h
  unfold TyD at hd
  split at h
  ·rename_i fs hu
   rw [hu] at hd
   obtain ⟨l,rfl,h1,h2⟩:=hd
   cases h
   refine ⟨m,l,rfl,rfl,by simp [h1],fun i t x ht hx=>?_⟩
   obtain ⟨hi,rfl⟩:=List.getElem?_eq_some_iff.1 hx
   have:=h2 i hi (by omega)
   have e:fs[i].type = t:=by
    rw [List.getElem?_map,Option.map_eq_some_iff] at ht
    obtain ⟨f,hf,rfl⟩:=ht
    rw [Array.getElem?_toList,Array.getElem?_eq_getElem (by omega)] at hf
    cases hf; rfl
   rw [← e]; exact this
  ·cases h
theorem Ai.TyD.int {k:IntKind} (h:intTy T t = some k) (hd:TyD T n t d):∃ m,d = .lit (.int k m)∧(Lit.int k m).wf = true:=by
 cases n with
 | zero=>exact hd.elim
 | succ m =>
  unfold intTy at h
  unfold TyD at hd
  split at h
  ·rename_i k' hu
   rw [hu] at hd; cases h; exact hd
  ·cases h
theorem Ai.TyD.bool (h:oneTy T t = 1) (hd:TyD T n t d):∃ b,d = .lit (.bool b):=by
 cases n with
 | zero=>exact hd.elim
 | succ m =>
  unfold oneTy at h
  unfold TyD at hd
  split at h
  ·rename_i hu
   rw [hu] at hd; exact hd
  ·cases h
  ·cases h
theorem Ai.TyD.str (h:oneTy T t = 2) (hd:TyD T n t d):∃ s,d = .lit (.string s)∧s.length≤maxLen:=by
 cases n with
 | zero=>exact hd.elim
 | succ m =>
  unfold oneTy at h
  unfold TyD at hd
  split at h
  ·cases h
  ·rename_i hu
   rw [hu] at hd; exact hd
  ·cases h
def isInt (n:Int):Bool:=(Lit.int .i64 n).wf
inductive Sx:Type where
 | mk (l:Bool) (k:Int) (x:List UInt8) (p a:Int) (items:List Sx)
mutual
def Sx.av:Sx→AV
 | .mk l k x p a items=>.agg [.bool l,.int .i64 k,.str x,.int .i64 p,.int .i64 a,.sl false (Sx.avs items)]
def Sx.avs:List Sx→List AV
 | []=>[]
 | s :: l=>s.av :: Sx.avs l
end
theorem Sx.avs_eq (l:List Sx):Sx.avs l = l.map Sx.av:=by induction l with | nil=>rfl | cons s l ih=>simp [Sx.avs,ih]
mutual
def Sx.ok:Sx→Bool
 | .mk _ k x p a items=>isInt k && decide (x.length≤maxLen) && isInt p && isInt a && decide (items.length≤maxLen) && Sx.oks items
def Sx.oks:List Sx→Bool
 | []=>true
 | s :: l=>s.ok && Sx.oks l
end
theorem fields33:fieldTys Tryz.ty 33 = some [4,30,3,31]:=by kernel_rfl
theorem fields30:fieldTys Tryz.ty 30 = some [3,9,3]:=by kernel_rfl
end
end
noncomputable section
mutual
theorem sx_all {p:Sx→Prop} (h:∀ l k x p' a items,(∀ s∈items,p s)→p (.mk l k x p' a items)):(s:Sx)→p s
 | .mk l k x p' a items=>h l k x p' a items (sxs_all h items)
theorem sxs_all {p:Sx→Prop} (h:∀ l k x p' a items,(∀ s∈items,p s)→p (.mk l k x p' a items)):(l:List Sx)→∀ s∈l,p s
 | []=>fun _ h=>nomatch h
 | s :: l=>fun t ht=>(List.mem_cons.1 ht).elim (fun e=>e ▸ sx_all h s) (sxs_all h l t)
end
mutual
theorem sx_closed:(s:Sx)→s.av.closed = true
 | .mk l k x p a items=>by simp only [Sx.av,AV.closed,closedL,sxs_closed items,Bool.not_false,Bool.and_self]
theorem sxs_closed:(l:List Sx)→closedL (Sx.avs l) = true
 | []=>rfl
 | s :: l=>by simp only [Sx.avs,closedL,sx_closed s,sxs_closed l,Bool.and_self]
end
theorem sx_ones (s:Sx):s.av.cells.all AV.one = true:=by cases s; rfl
theorem sx_len (s:Sx):s.av.cells.length = 6:=by cases s; rfl
theorem mk_cells (l k x p a items):(Sx.mk l k x p a items).av.cells = [.bool l,.int .i64 k,.str x,.int .i64 p,.int .i64 a,.sl false (Sx.avs items)]:=rfl
theorem sx_part (s:Sx):Ai.part 6 true 0 s.av.cells = some s.av:=by cases s; rfl
theorem oks_mem {l:List Sx} (h:Sx.oks l = true):∀ s∈l,s.ok = true:=by
 induction l with
 | nil=>intro s hs; cases hs
 | cons a l ih =>
  simp only [Sx.oks,Bool.and_eq_true] at h
  intro s hs
  rcases List.mem_cons.1 hs with rfl | hs
  ·exact h.1
  ·exact ih h.2 s hs
theorem ok_items {l k x p a items} (h:(Sx.mk l k x p a items).ok = true):items.length≤maxLen∧∀ s∈items,s.ok = true:=by
 simp only [Sx.ok,Bool.and_eq_true,decide_eq_true_eq] at h
 exact ⟨h.1.2,oks_mem h.2⟩
theorem len31 (ex:Bool) (l:List AV) (id:Nat) (s:St):bt .len #[31] [.sl ex l] id s = some (.int .i64 l.length,s):=by kernel_rfl
theorem avs_length (l:List Sx):(Sx.avs l).length = l.length:=by rw [Sx.avs_eq,List.length_map]
theorem ix_avs (ex:Bool) (l:List Sx) (i:Nat) (s:Sx) (h:l[i]? = some s):ixS 6 (.sl ex (Sx.avs l)) (.int .i64 (i:Int)) = some (.pel s.av.cells 0):=by
 obtain ⟨hi,rfl⟩:=List.getElem?_eq_some_iff.1 h
 rw [Sx.avs_eq]
 simp [ixS,asI,idx,hi,sx_len]
theorem wrap_len (i n:Nat) (h:i < n) (hn:n≤maxLen):IntKind.i64.wrap ((i:Int) + 1) = ((i + 1:Nat):Int):=by
 have:maxLen = 9223372036854775807:=rfl
 rw [IntWalk.i64_in _ (by omega)]; rfl
theorem get_drop {α:Type} (l:List α) (i:Nat) (y:α) (h:l[i]? = some y):l.drop i = y :: l.drop (i + 1):=by
 obtain ⟨h',e⟩:=List.getElem?_eq_some_iff.1 h
 rw [← e]; exact List.drop_eq_getElem_cons h'
mutual
def Sx.size:Sx→Int
 | .mk _ _ _ _ _ items=>Sx.sizes items 1
def Sx.sizes:List Sx→Int→Int
 | [],n=>n
 | s :: l,n=>cond (decide (n≤5000)) (Sx.sizes l (IntKind.i64.wrap (n + s.size))) n
end
theorem l33 (s0:Sx) (items:List Sx) (hlen:items.length≤maxLen) (hc:∃ l k x p a,s0 = .mk l k x p a items) (ih:∀ s∈items,PureC Tryz.env 33 [s.av] (.int .i64 s.size)) (b:Nat) (e:TypeId) (Q:AV→St→Prop) (r:Int) (hQ:∀ s,Q (.int .i64 r) s) :
  ∀ (m i:Nat) (n:Int) (s:St),i + m = items.length→s.h b = some (.cells s0.av.cells e true true)→r = Sx.sizes (items.drop i) n→∃ f,f33l1 Q f (.ptr b 0) (.int .i64 n) (.int .i64 i) s:=by
 obtain ⟨l,k,x,p,a,rfl⟩:=hc
 intro m
 induction m with
 | zero =>
  intro i n s hi hs hr
  refine ⟨1,?_⟩
  show f33l1s Q (f33l1 Q 0) _ _ _ s
  rw [List.drop_eq_nil_of_le (by omega)] at hr
  have hr:r = n:=hr
  subst hr
  simp only [f33l1s,f33j1,hs,mk_cells,len31,avs_length,Int.ofNat_lt,show ¬ (i < items.length) by omega,decide_false,wz,wy,Nat.reduceAdd]
  exact hQ _
 | succ m ihm =>
  intro i n s hi hs hr
  obtain ⟨y,hy⟩:∃ y,items[i]? = some y:=⟨_,List.getElem?_eq_getElem (by omega)⟩
  rw [get_drop items i y hy] at hr
  have hix:=fun ex=>ix_avs ex items i y hy
  have hlt:i < items.length:=by omega
  cases hn:decide (n≤5000) with
  | false =>
   have hr:r = n:=by rw [hr,Sx.sizes,hn]; rfl
   subst hr
   refine ⟨1,?_⟩
   show f33l1s Q (f33l1 Q 0) _ _ _ s
   simp only [f33l1s,f33j1,hs,mk_cells,len31,avs_length,Int.ofNat_lt,hlt,decide_true,hn,wz,wy,Nat.reduceAdd]
   exact hQ _
  | true =>
   have hr:r = Sx.sizes (items.drop (i + 1)) (IntKind.i64.wrap (n + y.size)):=by rw [hr,Sx.sizes,hn]; rfl
   have hgo:=fun s' h=>ihm (i + 1) _ s' (by omega) h hr
   have hmem:y∈items:=List.mem_of_getElem? hy
   obtain ⟨f,hf⟩:=hgo (adv (adv (adv s 9) 9) 3) hs
   refine ⟨f + 1,?_⟩
   show f33l1s Q (f33l1 Q f) _ _ _ s
   simp only [f33l1s,f33j2,hs,mk_cells,len31,avs_length,Int.ofNat_lt,hlt,decide_true,hn,hix,sx_part,wz,wy,Nat.reduceAdd]
   refine callPu (ih y hmem) (by simp [sx_closed]) ?_
   simp only [wz,wy,Nat.reduceAdd]
   rw [wrap_len i _ hlt hlen]
   exact hf
theorem size_c:∀ s:Sx,s.ok = true→PureC Tryz.env 33 [s.av] (.int .i64 s.size):=by
 refine sx_all fun l k x p a items ih ho=>?_
 obtain ⟨h1,h2⟩:=ok_items ho
 refine pure_closed rfl (f33_run _ _ ?_)
 refine ⟨sx_ones _,?_⟩
 exact l33 (.mk l k x p a items) items h1 ⟨l,k,x,p,a,rfl⟩ (fun s hs=>ih s hs (h2 s hs)) _ 33 _ _ (fun _=>rfl) items.length 0 1 _ (by omega) (by simp only [adv_h,set_h,beq_self',cond_true]) rfl
mutual
def Sx.dep:Sx→Int→Int
 | .mk l _ _ _ _ items,most=>cond (!l || most == 0) 0 (IntKind.i64.wrap (Sx.deps items most 0 + 1))
def Sx.deps:List Sx→Int→Int→Int
 | [],_,n=>n
 | s :: l,most,n=>Sx.deps l most (cond (decide (s.dep (IntKind.i64.wrap (most - 1)) > n)) (s.dep (IntKind.i64.wrap (most - 1))) n)
end
theorem l125 (s0:Sx) (items:List Sx) (most:Int) (hlen:items.length≤maxLen) (hc:∃ l k x p a,s0 = .mk l k x p a items) (ih:∀ s∈items,PureC Tryz.env 125 [s.av,.int .i64 (IntKind.i64.wrap (most - 1))] (.int .i64 (s.dep (IntKind.i64.wrap (most - 1))))) (b:Nat) (e:TypeId) (Q:AV→St→Prop) (r:Int) (hQ:∀ s,Q (.int .i64 (IntKind.i64.wrap (r + 1))) s) :
  ∀ (m i:Nat) (n:Int) (s:St),i + m = items.length→s.h b = some (.cells s0.av.cells e true true)→r = Sx.deps (items.drop i) most n→∃ f,f125l1 Q f (.int .i64 most) (.ptr b 0) (.int .i64 n) (.int .i64 i) s:=by
 obtain ⟨l,k,x,p,a,rfl⟩:=hc
 intro m
 induction m with
 | zero =>
  intro i n s hi hs hr
  refine ⟨1,?_⟩
  show f125l1s Q (f125l1 Q 0) _ _ _ _ s
  rw [List.drop_eq_nil_of_le (by omega)] at hr
  have hr:r = n:=hr
  subst hr
  simp only [f125l1s,f125j1,hs,mk_cells,len31,avs_length,Int.ofNat_lt,show ¬ (i < items.length) by omega,decide_false,wz,wy,Nat.reduceAdd]
  exact hQ _
 | succ m ihm =>
  intro i n s hi hs hr
  obtain ⟨y,hy⟩:∃ y,items[i]? = some y:=⟨_,List.getElem?_eq_getElem (by omega)⟩
  rw [get_drop items i y hy] at hr
  have hix:=fun ex=>ix_avs ex items i y hy
  have hlt:i < items.length:=by omega
  have hmem:y∈items:=List.mem_of_getElem? hy
  cases hn:decide (y.dep (IntKind.i64.wrap (most - 1)) > n) with
  | false =>
   have hr:r = Sx.deps (items.drop (i + 1)) most n:=by rw [hr,Sx.deps,hn]; rfl
   obtain ⟨f,hf⟩:=ihm (i + 1) n (adv (adv (adv (adv s 5) 9) 3) 3) (by omega) hs hr
   refine ⟨f + 1,?_⟩
   show f125l1s Q (f125l1 Q f) _ _ _ _ s
   simp only [f125l1s,f125j2,hs,mk_cells,len31,avs_length,Int.ofNat_lt,hlt,decide_true,hix,sx_part,wz,wy,Nat.reduceAdd]
   refine callPu (ih y hmem) (by simp [sx_closed,AV.closed]) ?_
   simp only [hn,wz,wy,Nat.reduceAdd]
   rw [wrap_len i _ hlt hlen]
   exact hf
  | true =>
   have hr:r = Sx.deps (items.drop (i + 1)) most (y.dep (IntKind.i64.wrap (most - 1))):=by rw [hr,Sx.deps,hn]; rfl
   obtain ⟨f,hf⟩:=ihm (i + 1) _ (adv (adv (adv (adv s 5) 9) 5) 3) (by omega) hs hr
   refine ⟨f + 1,?_⟩
   show f125l1s Q (f125l1 Q f) _ _ _ _ s
   simp only [f125l1s,f125j2,hs,mk_cells,len31,avs_length,Int.ofNat_lt,hlt,decide_true,hix,sx_part,wz,wy,Nat.reduceAdd]
   refine callPu (ih y hmem) (by simp [sx_closed,AV.closed]) ?_
   simp only [hn,wz,wy,Nat.reduceAdd]
   rw [wrap_len i _ hlt hlen]
   exact hf
theorem dep_c:∀ s:Sx,s.ok = true→∀ most,PureC Tryz.env 125 [s.av,.int .i64 most] (.int .i64 (s.dep most)):=by
 refine sx_all fun l k x p a items ih ho most=>?_
 obtain ⟨h1,h2⟩:=ok_items ho
 refine pure_closed rfl (f125_run _ _ _ ?_)
 refine ⟨sx_ones _,?_⟩
 rw [Sx.dep]
 cases l with
 | false=>simp only [mk_cells,wz,wy,Nat.reduceAdd,Bool.true_or]
 | true =>
  simp only [mk_cells,wz,wy,Nat.reduceAdd,Bool.false_or]
  cases hm:(most == 0) with
  | true=>simp only [wz,wy,Nat.reduceAdd]
  | false =>
   simp only [wz,wy,Nat.reduceAdd]
   exact l125 (.mk true k x p a items) items most h1 ⟨true,k,x,p,a,rfl⟩ (fun s hs=>ih s hs (h2 s hs) _) _ 33 _ _ (fun _=>rfl) items.length 0 0 _ (by omega) (by simp only [adv_h,set_h,beq_self',cond_true,mk_cells]) rfl
def Sx.depth (s:Sx):Int:=s.dep 65
theorem depth_c (s:Sx) (h:s.ok = true):PureC Tryz.env 74 [s.av] (.int .i64 s.depth):=by
 refine pure_closed rfl (f74_run _ _ ?_)
 refine ⟨sx_ones _,?_⟩
 simp only [sx_part,wz,wy,Nat.reduceAdd]
 exact callPu (dep_c s h 65) (by simp [sx_closed,AV.closed]) rfl
end
noncomputable section
structure Dc:Type where
 nm:List UInt8
 so:Int
 mac:Bool
 ps:List (List UInt8 × Int)
 body:Sx
def pmA (p:List UInt8 × Int):AV:=.agg [.str p.1,.int .i64 p.2]
def Dc.av (d:Dc):AV:=.agg (.str d.nm :: .int .i64 d.so :: .bool d.mac :: .sl false (d.ps.map pmA) :: d.body.av.cells)
def Dc.ok (d:Dc):Bool:=decide (d.nm.length≤maxLen) && isInt d.so && decide (d.ps.length≤maxLen) && d.body.ok
theorem dc_cells (d:Dc):d.av.cells = .str d.nm :: .int .i64 d.so :: .bool d.mac :: .sl false (d.ps.map pmA) :: d.body.av.cells:=rfl
theorem dc0 (d:Dc):d.av.cells[0]? = some (AV.str d.nm):=rfl
theorem dc1 (d:Dc):d.av.cells[1]? = some (AV.int .i64 d.so):=rfl
theorem dc2 (d:Dc):d.av.cells[2]? = some (AV.bool d.mac):=rfl
theorem dc3 (d:Dc):d.av.cells[3]? = some (AV.sl false (d.ps.map pmA)):=rfl
theorem dc_body (d:Dc):Ai.part 6 true 4 d.av.cells = some d.body.av:=by
 obtain ⟨a,b,c,e,f⟩:=d
 cases f; rfl
theorem dc_part (d:Dc):Ai.part 10 true 0 d.av.cells = some d.av:=by
 obtain ⟨a,b,c,e,f⟩:=d
 cases f; rfl
theorem dc_len (d:Dc):d.av.cells.length = 10:=by
 obtain ⟨a,b,c,e,f⟩:=d
 cases f; rfl
theorem closedL_map {α:Type} (f:α→AV) (l:List α) (h:∀ x,(f x).closed = true):closedL (l.map f) = true:=by
 induction l with
 | nil=>rfl
 | cons x l ih=>simp only [List.map_cons,closedL,h,ih,Bool.and_self]
theorem dc_closed (d:Dc):d.av.closed = true:=by
 have h1:closedL (d.ps.map pmA) = true:=closedL_map _ _ fun p=>rfl
 have h2:=cells_closed (sx_closed d.body)
 simp only [Dc.av,AV.closed,closedL,h1,h2,Bool.not_false,Bool.and_self]
theorem dc_ones (d:Dc):d.av.cells.all AV.one = true:=by
 have:=sx_ones d.body
 rw [dc_cells]
 simp only [List.all_cons,this,Bool.and_true]
 rfl
theorem len49 (ex:Bool) (l:List AV) (id:Nat) (s:St):bt .len #[49] [.sl ex l] id s = some (.int .i64 l.length,s):=by kernel_rfl
theorem len65 (ex:Bool) (l:List AV) (id:Nat) (s:St):bt .len #[65] [.sl ex l] id s = some (.int .i64 l.length,s):=by kernel_rfl
theorem ix_dc (ex:Bool) (l:List Dc) (i:Nat) (d:Dc) (h:l[i]? = some d):ixS 10 (.sl ex (l.map Dc.av)) (.int .i64 (i:Int)) = some (.pel d.av.cells 0):=by
 obtain ⟨hi,rfl⟩:=List.getElem?_eq_some_iff.1 h
 simp [ixS,asI,idx,hi,dc_len]
def dfew:List Dc→Int→Int→Bool
 | [],_,_=>true
 | d :: l,n,f=>cond (decide ((d.ps.length:Int) > 3) || (decide (d.body.depth > 64) || (decide (IntKind.i64.wrap (n + d.body.size) > 600) || decide (cond d.mac (IntKind.i64.wrap (f + 1)) f > 8)))) false
   (dfew l (IntKind.i64.wrap (n + d.body.size)) (cond d.mac (IntKind.i64.wrap (f + 1)) f))
def few10 (l:List Dc) (x:Sx):Bool:=cond (decide ((l.length:Int) > 60) || (decide (x.size > 600) || decide (x.depth > 64))) false (dfew l 0 0)
theorem l29 (ex:Bool) (l:List Dc) (hlen:l.length≤maxLen) (hok:∀ d∈l,d.ok = true) (Q:AV→St→Prop) (r:Bool) (hQ:∀ s,Q (.bool r) s) :
  ∀ (m i:Nat) (n f:Int) (s:St),i + m = l.length→r = dfew (l.drop i) n f→∃ g,f29l1 Q g (.sl ex (l.map Dc.av)) (.int .i64 n) (.int .i64 f) (.int .i64 i) s:=by
 intro m
 induction m with
 | zero =>
  intro i n f s hi hr
  refine ⟨1,?_⟩
  show f29l1s Q (f29l1 Q 0) _ _ _ _ s
  rw [List.drop_eq_nil_of_le (by omega)] at hr
  have hr:r = true:=hr
  subst hr
  simp only [f29l1s,f29j1,len49,List.length_map,Int.ofNat_lt,show ¬ (i < l.length) by omega,decide_false,wz,wy,Nat.reduceAdd]
  exact hQ _
 | succ m ihm =>
  intro i n f s hi hr
  obtain ⟨d,hd⟩:∃ d,l[i]? = some d:=⟨_,List.getElem?_eq_getElem (by omega)⟩
  rw [get_drop l i d hd] at hr
  have hix:=ix_dc ex l i d hd
  have hlt:i < l.length:=by omega
  have hmem:d∈l:=List.mem_of_getElem? hd
  have hdo:d.body.ok = true:=by have:=hok d hmem; simp only [Dc.ok,Bool.and_eq_true] at this; exact this.2
  have hsz:=size_c d.body hdo
  have hdp:=depth_c d.body hdo
  generalize hn':IntKind.i64.wrap (n + d.body.size) = n' at hr
  generalize hf':cond d.mac (IntKind.i64.wrap (f + 1)) f = f' at hr
  have key:∀ s,(∃ g,f29j3 Q (f29l1 Q g) (.sl ex (l.map Dc.av)) (.int .i64 i) (.int .i64 n') (.int .i64 f') s):=by
   intro s
   rw [dfew,hn',hf'] at hr
   cases h1:decide ((d.ps.length:Int) > 3) with
   | true =>
    refine ⟨0,?_⟩
    rw [h1] at hr
    have hr:r = false:=hr
    subst hr
    simp only [f29j3,hix,dc0,dc1,dc2,dc3,len65,List.length_map,h1,wz,wy,Nat.reduceAdd]
    exact hQ _
   | false =>
    cases h2:decide (d.body.depth > 64) with
    | true =>
     refine ⟨0,?_⟩
     rw [h1,h2] at hr
     have hr:r = false:=hr
     subst hr
     simp only [f29j3,hix,dc0,dc1,dc2,dc3,len65,List.length_map,h1,dc_body,wz,wy,Nat.reduceAdd]
     refine callPu hdp (by simp [sx_closed]) ?_
     simp only [h2,wz,wy,Nat.reduceAdd]
     exact hQ _
    | false =>
     cases h3:decide (n' > 600) with
     | true =>
      refine ⟨0,?_⟩
      rw [h1,h2,h3] at hr
      have hr:r = false:=hr
      subst hr
      simp only [f29j3,hix,dc0,dc1,dc2,dc3,len65,List.length_map,h1,dc_body,wz,wy,Nat.reduceAdd]
      refine callPu hdp (by simp [sx_closed]) ?_
      simp only [h2,h3,wz,wy,Nat.reduceAdd]
      exact hQ _
     | false =>
      cases h4:decide (f' > 8) with
      | true =>
       refine ⟨0,?_⟩
       rw [h1,h2,h3,h4] at hr
       have hr:r = false:=hr
       subst hr
       simp only [f29j3,hix,dc0,dc1,dc2,dc3,len65,List.length_map,h1,dc_body,wz,wy,Nat.reduceAdd]
       refine callPu hdp (by simp [sx_closed]) ?_
       simp only [h2,h3,h4,wz,wy,Nat.reduceAdd]
       exact hQ _
      | false =>
       rw [h1,h2,h3,h4] at hr
       have hr:r = dfew (l.drop (i + 1)) n' f':=hr
       obtain ⟨g,hg⟩:=ihm (i + 1) n' f' (adv (adv s 24) 3) (by omega) hr
       refine ⟨g,?_⟩
       simp only [f29j3,f29j2,hix,dc0,dc1,dc2,dc3,len65,List.length_map,h1,dc_body,wz,wy,Nat.reduceAdd]
       refine callPu hdp (by simp [sx_closed]) ?_
       simp only [h2,h3,h4,wz,wy,Nat.reduceAdd]
       rw [wrap_len i _ hlt hlen]
       exact hg
  cases hm:d.mac with
  | true =>
   obtain ⟨g,hg⟩:=key (adv (adv (adv (adv s 4) 9) 5) 3)
   rw [hm] at hf'
   refine ⟨g + 1,?_⟩
   show f29l1s Q (f29l1 Q g) _ _ _ _ s
   simp only [f29l1s,len49,List.length_map,Int.ofNat_lt,hlt,decide_true,hix,dc2,hm,dc_body,wz,wy,Nat.reduceAdd]
   refine callPu hsz (by simp [sx_closed]) ?_
   have hf':IntKind.i64.wrap (f + 1) = f':=hf'
   simp only [hix,dc2,hm,hn',hf',wz,wy,Nat.reduceAdd]
   exact hg
  | false =>
   obtain ⟨g,hg⟩:=key (adv (adv (adv s 4) 9) 5)
   rw [hm] at hf'
   refine ⟨g + 1,?_⟩
   show f29l1s Q (f29l1 Q g) _ _ _ _ s
   simp only [f29l1s,len49,List.length_map,Int.ofNat_lt,hlt,decide_true,hix,dc2,hm,dc_body,wz,wy,Nat.reduceAdd]
   refine callPu hsz (by simp [sx_closed]) ?_
   have hf':f = f':=hf'
   simp only [hix,dc2,hm,hn',hf',wz,wy,Nat.reduceAdd]
   exact hg
theorem few_c (ex:Bool) (l:List Dc) (x:Sx) (hlen:l.length≤maxLen) (hok:∀ d∈l,d.ok = true) (hx:x.ok = true):PureC Tryz.env 29 [.sl ex (l.map Dc.av),x.av] (.bool (few10 l x)):=by
 refine pure_closed rfl (f29_run _ _ _ ?_)
 refine ⟨sx_ones _,?_⟩
 unfold few10
 have hs:=size_c x hx
 have hd:=depth_c x hx
 cases h1:decide ((l.length:Int) > 60) with
 | true=>simp only [len49,List.length_map,h1,wz,wy,Nat.reduceAdd]; rfl
 | false =>
  simp only [len49,List.length_map,h1,sx_part,wz,wy,Nat.reduceAdd]
  refine callPu hs (by simp [sx_closed]) ?_
  cases h2:decide (x.size > 600) with
  | true=>simp only [h2,wz,wy,Nat.reduceAdd]; rfl
  | false =>
   simp only [h2,sx_part,wz,wy,Nat.reduceAdd]
   refine callPu hd (by simp [sx_closed]) ?_
   cases h3:decide (x.depth > 64) with
   | true=>simp only [h3,wz,wy,Nat.reduceAdd]; rfl
   | false =>
    simp only [h3,wz,wy,Nat.reduceAdd]
    exact l29 ex l hlen hok _ _ (fun _=>rfl) l.length 0 0 0 _ (by omega) rfl
end
noncomputable section
section
variable {s s':St} {n m i j:Nat} {o p:Option Blk}
theorem set_set:(s.set i o).set i p = s.set i p:=by
 show (⟨_,_⟩:St) = ⟨_,_⟩
 congr 1
 funext k
 show cond (Nat.beq k i) p (cond (Nat.beq k i) o (s.h k)) = cond (Nat.beq k i) p (s.h k)
 cases Nat.beq k i <;> rfl
theorem adv_set:(adv s n).set i o = adv (s.set i o) n:=rfl
theorem adv_drop (l:List Nat):(adv s n).drop l = adv (s.drop l) n:=by
 induction l generalizing s with
 | nil=>rfl
 | cons a l ih=>exact ih (s:=s.set a none)
theorem adv_two:adv (adv s n) m = adv s (n + m):=by simp [adv,Nat.add_assoc]
theorem get_set:(s.set n o).h m = if m = n then o else s.h m:=by
 by_cases h:m = n
 ·subst h; rw [if_pos rfl,st_same]
 ·rw [if_neg h,st_other h]
theorem nx_drop (l:List Nat):(s.drop l).nx = s.nx:=by
 induction l generalizing s with
 | nil=>rfl
 | cons a l ih=>exact ih
theorem get_drop' (l:List Nat):(s.drop l).h m = if m∈l then none else s.h m:=by
 induction l generalizing s with
 | nil=>simp [St.drop]
 | cons a l ih =>
  show ((s.set a none).drop l).h m = _
  rw [ih,get_set]
  by_cases h1:m∈l
  ·simp [h1]
  ·by_cases h2:m = a <;> simp [h1,h2]
theorem idOf_ref {i a n:Nat} {c:Option Nat} {e:TypeId}:idOf (.ref i a n c e) = [i]:=rfl
theorem idOf_nils:idOf .nils = []:=rfl
theorem idOf_ptr {i a:Nat}:idOf (.ptr i a) = [i]:=rfl
theorem idOf_sl {ex:Bool} {l:List AV}:idOf (.sl ex l) = []:=rfl
theorem idOf_pel {l:List AV} {n:Nat}:idOf (.pel l n) = []:=rfl
theorem drop_nil:s.drop [] = s:=rfl
theorem drop_cons {l:List Nat}:s.drop (i :: l) = (s.set i none).drop l:=rfl
theorem wantV_tup {l:List AV} {w:Bool}:wantV (.tup l) w = some false:=rfl
theorem resC_nil:resC [] = some []:=rfl
theorem resC_some {v:AV} {l:List (Option AV)}:resC (some v :: l) = (resC l).map (v :: ·):=rfl
theorem retP_some {v:AV} {Q:AV→Prop}:RetP (some v) Q = Q v:=rfl
theorem map_some' {α β:Type} {f:α→β} {a:α}:Option.map f (some a) = some (f a):=rfl
theorem tupV_one {v:AV}:tupV [v] = v:=rfl
theorem tupV_two {v w:AV}:tupV [v,w] = .tup [v,w]:=rfl
structure EF (M:List Nat) (s s':St):Prop where
 nx:s.nx≤s'.nx
 h:∀ j,j < s.nx→j ∉ M→s'.h j = s.h j
 fr:Fresh s'
theorem EF.refl (M:List Nat) (fr:Fresh s):EF M s s:=⟨Nat.le_refl _,fun _ _ _=>rfl,fr⟩
theorem EF.adv {M:List Nat} (h:EF M s s'):EF M s (adv s' n):=⟨by have:=h.nx; show s.nx≤s'.nx + n; omega,h.h,h.fr.adv⟩
theorem EF.set {M:List Nat} (h:EF M s s') (hi:i < s'.nx) (hm:s.nx≤i∨i∈M):EF M s (s'.set i o) :=
 ⟨h.nx,fun j hj hn=>by rw [get_set,if_neg (by rintro rfl; rcases hm with hm | hm; omega; exact hn hm)]; exact h.h j hj hn,h.fr.set hi⟩
theorem EF.drop {M l:List Nat} (h:EF M s s') (hm:∀ i∈l,s.nx≤i∨i∈M):EF M s (s'.drop l) :=
 ⟨by rw [nx_drop]; exact h.nx,fun j hj hn=>by rw [get_drop',if_neg (fun hl=>by rcases hm j hl with hm | hm; omega; exact hn hm)]; exact h.h j hj hn,
  fun j hj=>by rw [nx_drop] at hj; rw [get_drop']; split; rfl; exact h.fr j hj⟩
theorem EF.trans {M M':List Nat} {s'':St} (h:EF M s s') (k:EF M' s' s'') (hm:∀ i∈M',s.nx≤i∨i∈M):EF M s s'' :=
 ⟨Nat.le_trans h.nx k.nx,fun j hj hn=>by
  rw [k.h j (Nat.lt_of_lt_of_le hj h.nx) (fun hl=>by rcases hm j hl with hm | hm; omega; exact hn hm)]; exact h.h j hj hn,k.fr⟩
theorem EF.sub {M M':List Nat} (h:EF M s s') (hm:∀ i∈M,s.nx≤i∨i∈M'):EF M' s s' :=
 ⟨h.nx,fun j hj hn=>h.h j hj fun hl=>by rcases hm j hl with hm | hm; omega; exact hn hm,h.fr⟩
theorem fresh_set (fr:Fresh s) (k:Nat) (h:i < s.nx + k):Fresh (Ai.adv (s.set i o) k):=by
 have:Fresh (Ai.adv s k):=fr.adv
 rw [← adv_set]; exact this.set h
theorem fresh_app (fr:Fresh s) (l:List Nat) (k:Nat) (h:i < s.nx + k):Fresh (Ai.adv ((s.drop l).set i o) k):=by
 have h1:Fresh (s.drop l):=fun j hj=>by
  rw [nx_drop] at hj; rw [get_drop']; split; rfl; exact fr j hj
 exact fresh_set h1 k (by rw [nx_drop]; exact h)
end
section
variable {t e:TypeId} {z b id:Nat} {ag:Bool} {s s':St} {x:AV} {vs:List AV}
theorem Gw.id_lt (g:Gw e z 0 s x vs) (fr:Fresh s):∀ j∈idOf x,j < s.nx:=by
 obtain ⟨_,⟨rfl,_⟩ | ⟨i,_,rfl,hs⟩⟩:=g
 ·intro j hj; cases hj
 ·intro j hj
  simp only [idOf,List.mem_cons,List.mem_nil_iff,or_false] at hj
  subst hj
  refine Nat.lt_of_not_le fun hc=>?_
  rw [fr _ hc] at hs; cases hs
theorem Gw.keep (g:Gw e z 0 s x vs) (h:∀ j∈idOf x,s'.h j = s.h j):Gw e z 0 s' x vs:=by
 obtain ⟨h1,⟨rfl,rfl⟩ | ⟨i,hi,rfl,hs⟩⟩:=g
 ·exact ⟨h1,.inl ⟨rfl,rfl⟩⟩
 ·exact ⟨h1,.inr ⟨i,hi,rfl,by rw [h i (by simp [idOf])]; exact hs⟩⟩
theorem Gw.ext {M:List Nat} (g:Gw e z 0 s x vs) (fr:Fresh s) (h:EF M s s') (hd:∀ j∈idOf x,j ∉ M):Gw e z 0 s' x vs :=
 g.keep fun j hj=>h.h j (g.id_lt fr j hj) (hd j hj)
theorem Gw.here (h:∀ v∈vs,v.cells.length = z∧v.cells.all AV.one = true) {s0:St} {n k:Nat} (hk:k = vs.length):Gw e z 0 (Ai.adv (s0.set id (some (.cells (vs.flatMap AV.cells) e false true))) n) (.ref id 0 k none e) vs:=by
 subst hk
 exact ⟨h,.inr ⟨id,Nat.zero_le _,rfl,by rw [adv_h,st_same]⟩⟩
theorem Gw.one (g:Gw e z 0 s x vs):x.cells = [x]∧x.one = true:=by
 obtain ⟨h1,⟨rfl,rfl⟩ | ⟨i,hi,rfl,hs⟩⟩:=g <;> exact ⟨rfl,rfl⟩
theorem app_one (h:SlTy t e z ag b) (g:Gw e z 0 s x vs) {v:AV} (hv:v.cells.length = z) (ho:v.cells.all AV.one = true) (hf:fitsA (vs.length + 1) b = true) (ex:Bool) (id:Nat) :
  bt .append #[t,t] [x,.sl ex [v]] id s = some (.ref id 0 (vs.length + 1) none e,(s.drop (idOf x)).set id (some (.cells ((vs ++ [v]).flatMap AV.cells) e false true))):=by
 rw [app_any h]
 have hsrc:srcCells z (.sl ex [v]) s = some v.cells:=by simp [srcCells,hv]
 rw [hsrc,Option.bind_some]
 have hne:v.cells≠[]:=fun hh=>by rw [hh] at hv; have:=h.pos; simp at hv; omega
 have hem:v.cells.isEmpty = false:=by cases hc:v.cells with | nil=>exact absurd hc hne | cons a b=>rfl
 have hdiv:v.cells.length / z = 1:=by rw [hv]; exact Nat.div_self h.pos
 obtain ⟨h1,⟨rfl,rfl⟩ | ⟨i,hi,rfl,hs⟩⟩:=g
 ·have hf':fitsA 1 b = true:=by simpa using hf
  unfold appendA
  simp [hem,ho,grown,hdiv,hf',newSl,idOf,St.drop]
 ·have hfl:=flat_len h1
  have hlen:(vs.flatMap AV.cells ++ v.cells).length / z = vs.length + 1:=by
   rw [List.length_append,hfl,hv,← Nat.succ_mul,Nat.mul_div_cancel _ h.pos]
  have hgt:¬ (vs.length * z + v.cells.length≤(vs.flatMap AV.cells).length):=by rw [hfl,hv]; have:=h.pos; omega
  unfold appendA
  simp only [hem,ho,Bool.not_true,Bool.false_eq_true,if_false,hs,Nat.zero_add,hfl,Nat.le_refl,and_self,if_true]
  rw [if_neg (by rw [hv]; have:=h.pos; omega)]
  simp only [grown,hlen,hf,if_true,newSl,idOf,St.drop]
  simp
theorem app_many (h:SlTy t e z ag b) (g:Gw e z 0 s x vs) {ws:List AV} (hw:∀ v∈ws,v.cells.length = z∧v.cells.all AV.one = true) (hne:ws≠[]) (hf:fitsA (vs.length + ws.length) b = true) (ex:Bool) (id:Nat) :
  bt .append #[t,t] [x,.sl ex ws] id s = some (.ref id 0 (vs.length + ws.length) none e,(s.drop (idOf x)).set id (some (.cells ((vs ++ ws).flatMap AV.cells) e false true))):=by
 rw [app_any h]
 have hall:ws.all (fun v=>v.cells.length == z) = true:=List.all_eq_true.2 fun v hv=>by simp [(hw v hv).1]
 have hsrc:srcCells z (.sl ex ws) s = some (ws.flatMap AV.cells):=by simp [srcCells,hall]
 rw [hsrc,Option.bind_some]
 have hwl:=flat_len hw
 have hpos:0 < ws.length:=List.length_pos_iff.2 hne
 have hmul:0 < ws.length * z:=Nat.mul_pos hpos h.pos
 have hem:(ws.flatMap AV.cells).isEmpty = false:=by
  cases hc:ws.flatMap AV.cells with
  | nil=>rw [hc] at hwl; simp at hwl; omega
  | cons a b=>rfl
 have hones:(ws.flatMap AV.cells).all AV.one = true:=by
  rw [List.all_eq_true]
  intro y hy
  obtain ⟨v,hv,hy⟩:=List.mem_flatMap.1 hy
  exact List.all_eq_true.1 (hw v hv).2 y hy
 have hdiv:(ws.flatMap AV.cells).length / z = ws.length:=by rw [hwl]; exact Nat.mul_div_cancel _ h.pos
 obtain ⟨h1,⟨rfl,rfl⟩ | ⟨i,hi,rfl,hs⟩⟩:=g
 ·have hf':fitsA ws.length b = true:=by simpa using hf
  unfold appendA
  simp only [hem,hones,grown,hdiv,hf',newSl,idOf,St.drop,Bool.not_true,Bool.false_eq_true,if_false,if_true,List.length_nil,Nat.zero_add,List.nil_append]
 ·have hfl:=flat_len h1
  have hlen:(vs.flatMap AV.cells ++ ws.flatMap AV.cells).length / z = vs.length + ws.length:=by
   rw [List.length_append,hfl,hwl,← Nat.add_mul,Nat.mul_div_cancel _ h.pos]
  unfold appendA
  simp only [hem,hones,Bool.not_true,Bool.false_eq_true,if_false,hs,Nat.zero_add,hfl,Nat.le_refl,and_self,if_true]
  rw [if_neg (by rw [hwl]; omega)]
  simp only [grown,hlen,hf,if_true,newSl,idOf,St.drop]
  simp
theorem app_nothing (h:SlTy t e z ag b) (g:Gw e z 0 s x vs) (ex:Bool) (id:Nat):bt .append #[t,t] [x,.sl ex []] id s = some (x,s):=by
 rw [app_any h]
 have hsrc:srcCells z (.sl ex []) s = some []:=by simp [srcCells]
 rw [hsrc,Option.bind_some]
 obtain ⟨h1,⟨rfl,rfl⟩ | ⟨i,hi,rfl,hs⟩⟩:=g <;> rfl
theorem fits_of {n b:Nat} (h:n * b≤2 ^ 40) (h2:n≤2 ^ 40):fitsA n b = true:=by
 have h1:n * b≤Ai.most:=by unfold Ai.most; omega
 have h2:n≤Ai.most:=by unfold Ai.most; omega
 simp only [fitsA,Nat.ble_eq_true_of_le h1,Nat.ble_eq_true_of_le h2,Bool.and_self]
theorem slc_take {α:Type} {f:α→AV} (h:SlTy t e z ag b) (he:∀ a,(f a).cells.length = z) (ex:Bool) (l:List α) {k:Nat} (hk:k≤l.length) (kd:IntKind):slc t (.sl ex (l.map f)) none (some (.int kd (k:Int))) none s = some (.sl (ex && k == l.length) ((l.take k).map f)):=by
 have hh:((l.map f).isEmpty || ((l.map f).head?).any fun v=>v.cells.length == z) = true:=by
  cases l with
  | nil=>rfl
  | cons a l=>simp [he]
 simp only [slc,sliceA,h.u,h.l,Option.bind_some]
 rw [if_pos hh]
 simp [bounds,optI,asI,hk]
theorem slc_drop {α:Type} {f:α→AV} (h:SlTy t e z ag b) (he:∀ a,(f a).cells.length = z) (ex:Bool) (l:List α) {k:Nat} (hk:k≤l.length) (kd:IntKind):slc t (.sl ex (l.map f)) (some (.int kd (k:Int))) none none s = some (.sl ex ((l.drop k).map f)):=by
 have hh:((l.map f).isEmpty || ((l.map f).head?).any fun v=>v.cells.length == z) = true:=by
  cases l with
  | nil=>rfl
  | cons a l=>simp [he]
 simp only [slc,sliceA,h.u,h.l,Option.bind_some]
 rw [if_pos hh]
 simp [bounds,optI,asI,hk]
 exact List.take_of_length_le (by simp)
theorem disj_nil:∀ l:List Nat,disj l [] = true
 | []=>rfl
 | _ :: l=>by simp only [disj,memB,Bool.not_false,Bool.true_and]; exact disj_nil l
theorem slc_ref0 (h:SlTy t e z ag b) {i n k:Nat} {c:List AV} {e':TypeId} {ex wr:Bool} (hs:s.h i = some (.cells c e' ex wr)) (hn:n * z≤c.length) (hk:k≤c.length / z) (kd:IntKind):slc t (.ref i 0 n none e) none (some (.int kd (k:Int))) none s = some (.ref i 0 k none e):=by
 have hp:=h.pos
 have h1:bounds n (roomA none (c.length - 0) z) none (some (.int kd (k:Int))) none = some (0,k,c.length / z):=by
  unfold bounds optI asI roomA
  simp only [Option.isSome_none,Option.isNone_some,Bool.and_false,Bool.false_eq_true,if_false,Option.bind_some,Nat.sub_zero]
  rw [if_pos ⟨by omega,by omega,by omega,by omega⟩]
  simp only [Int.toNat_natCast,Int.toNat_zero]
 have h2:slc t (.ref i 0 n none e) none (some (.int kd (k:Int))) none s = (if e = e∧0 < z∧0≤c.length then (bounds n (roomA none (c.length - 0) z) none (some (.int kd (k:Int))) none).map fun r =>
   if r.1≠0∧r.2.1 = r.1 then .sl false [] else .ref i (0 + r.1 * z) (r.2.1 - r.1) none e else none):=by
  simp only [slc,sliceA,h.u,h.l,Option.bind_some,hs]
  rfl
 rw [h2,h1,if_pos ⟨rfl,hp,Nat.zero_le _⟩]
 simp
theorem sto_c {id off:Nat} {v:AV} {c:List AV} {e:TypeId} {ex:Bool} {s:St} (h:s.h id = some (.cells c e ex true)) (ho:off < c.length) (hv:v.cells = [v]) (hone:v.one = true):sto 1 (.ptr id off) v s = some (s.set id (some (.cells (c.set off v) e ex true))):=by
 show Ai.store 1 (.ptr id off) v s = _
 unfold Ai.store
 simp only [h]
 rw [if_pos ⟨by rw [hv]; rfl,by omega,by rw [hv]; simp [hone]⟩,hv]
 rfl
structure Enc {α:Type} (f:α→AV) (z:Nat):Prop where
 len:∀ a,(f a).cells.length = z
 ones:∀ a,(f a).cells.all AV.one = true
theorem ix_map {α:Type} {f:α→AV} {z:Nat} (hf:Enc f z) (ex:Bool) {l:List α} {i:Nat} {a:α} (h:l[i]? = some a) (k:IntKind):ixS z (.sl ex (l.map f)) (.int k (i:Int)) = some (.pel (f a).cells 0):=by
 obtain ⟨hi,rfl⟩:=List.getElem?_eq_some_iff.1 h
 simp [ixS,asI,idx,hi,hf.len]
theorem ix_ref {e:TypeId} {z i id off n:Nat} {c:Option Nat} (h:i < n) (k:IntKind):ixS z (.ref id off n c e) (.int k (i:Int)) = some (.ptr id (off + i * z)):=by
 simp [ixS,asI,idx,h]
theorem getElem_flat (h:∀ v∈vs,v.cells.length = z) {i:Nat} {v:AV} (hi:vs[i]? = some v) {k:Nat} (hk:k < z):(vs.flatMap AV.cells)[i * z + k]? = v.cells[k]?:=by
 induction vs generalizing i with
 | nil=>cases hi
 | cons a l ih =>
  have ha:=h a (List.mem_cons_self ..)
  rw [List.flatMap_cons]
  cases i with
  | zero =>
   simp only [List.getElem?_cons_zero,Option.some.injEq] at hi
   subst hi
   rw [Nat.zero_mul,Nat.zero_add,List.getElem?_append_left (by omega)]
  | succ i =>
   rw [List.getElem?_append_right (by rw [ha,Nat.succ_mul]; omega),ha]
   have:(i + 1) * z + k - z = i * z + k:=by rw [Nat.succ_mul]; omega
   rw [this]
   exact ih (fun x hx=>h x (List.mem_cons_of_mem _ hx)) (by simpa using hi)
theorem drop_flat (h:∀ v∈vs,v.cells.length = z) {i:Nat} {v:AV} (hi:vs[i]? = some v):((vs.flatMap AV.cells).drop (i * z)).take z = v.cells∧i * z + z≤(vs.flatMap AV.cells).length:=by
 induction vs generalizing i with
 | nil=>cases hi
 | cons a l ih =>
  have ha:=h a (List.mem_cons_self ..)
  rw [List.flatMap_cons]
  cases i with
  | zero =>
   simp only [List.getElem?_cons_zero,Option.some.injEq] at hi
   subst hi
   rw [Nat.zero_mul,Nat.zero_add,List.drop_zero,List.take_left' ha,List.length_append]
   exact ⟨rfl,by omega⟩
  | succ i =>
   obtain ⟨h1,h2⟩:=ih (fun x hx=>h x (List.mem_cons_of_mem _ hx)) (by simpa using hi)
   rw [List.drop_append,List.length_append,ha,Nat.succ_mul,List.drop_eq_nil_of_le (by omega),List.nil_append,Nat.add_sub_cancel]
   exact ⟨h1,by omega⟩
theorem callPuD {h:FuncId} {args:List AV} {l:List Nat} {v:AV} {K:AV→St→Prop} (hc:PureC Tryz.env h args v) (hcl:∀ x∈args,x.closed = true) (hk:K v s):CallPuD Tryz.env h args l s K:=by
 have hcl2:closedL args = true:=by
  clear hc
  induction args with
  | nil=>rfl
  | cons x l ih=>simp only [closedL,hcl x (List.mem_cons_self ..),ih fun y hy=>hcl y (List.mem_cons_of_mem _ hy),Bool.and_self]
 exact .mk args [] v (purL_closed 12 hcl2) hc rfl hk
theorem callPur {h:FuncId} {args args2:List AV} {ids:List Nat} {v:AV} {K:AV→St→Prop} (hp:purL (pur Tryz.env.P s 12) args = some (args2,ids)) (hc:PureC Tryz.env h args2 v) (hk:K v (if ids.isEmpty || v.flat then s else s.drop ids)):CallPu Tryz.env h args s K:=.mk args2 ids v hp hc hk
theorem callWiF {h:FuncId} {args:List AV} {s:St} {K:AV→St→Prop} (hz:Tryz.env.fz h = false) (hc:∃ r s',WideC Tryz.env h args s r s'∧K r s'):CallWi Tryz.env h args s K:=by
 obtain ⟨r,s',h1,h2⟩:=hc
 exact .mk (by rw [hz]; exact ⟨r,s',h1,h2⟩)
theorem callWiZ {h:FuncId} {args:List AV} {s:St} {K:AV→St→Prop} (hz:Tryz.env.fz h = true) (hs:Tryz.env.se h = []) (hc:∃ r s',WideC Tryz.env h args s r s'∧Bnd (pur Tryz.env.P s' 12 r) fun v=>K v.1 (s'.drop v.2)):CallWi Tryz.env h args s K:=by
 exact .mk (by
  rw [hz,hs,cond_true]
  show Bnd (some (args,[])) _
  rw [Bnd_some]
  exact hc)
theorem callWiS {h:FuncId} {args bs:List AV} {ids:List Nat} {s:St} {K:AV→St→Prop} (hz:Tryz.env.fz h = true) (hq:sealA Tryz.env.P s (Tryz.env.se h) args = some (bs,ids)) (hc:∃ r s',WideC Tryz.env h bs (s.drop ids) r s'∧Bnd (pur Tryz.env.P s' 12 r) fun v=>K v.1 (s'.drop v.2)):CallWi Tryz.env h args s K:=by
 exact .mk (by rw [hz,hq,cond_true,Bnd_some]; exact hc)
abbrev PureQ (v:AV):AV→St→Prop:=fun r s'=>∃ ids,pur Tryz.env.P s' 12 r = some (v,ids)
theorem pure_q {h:FuncId} {args:List AV} {v:AV} (hw:∃ r s',WideC Tryz.env h args St.empty r s'∧PureQ v r s'):PureC Tryz.env h args v:=pure_of hw
theorem pureQ_closed {v:AV} {s:St} (h:v.closed = true):PureQ v v s:=⟨[],pur_closed 12 h⟩
theorem cells_map {α:Type} {f:α→AV} {z:Nat} (h1:∀ a,(f a).cells.length = z) (h2:∀ a,(f a).cells.all AV.one = true) (l:List α):∀ v∈l.map f,v.cells.length = z∧v.cells.all AV.one = true:=fun v hv=>by
 obtain ⟨a,_,rfl⟩:=List.mem_map.1 hv
 exact ⟨h1 a,h2 a⟩
theorem closedL_map' {α:Type} (f:α→AV) (l:List α) (h:∀ x∈l,(f x).closed = true):closedL (l.map f) = true:=by
 induction l with
 | nil=>rfl
 | cons x l ih=>simp only [List.map_cons,closedL,h x (List.mem_cons_self ..),ih fun y hy=>h y (List.mem_cons_of_mem _ hy),Bool.and_self]
theorem sl_closed {l:List AV} (h:closedL l = true):(AV.sl false l).closed = true:=by simp only [AV.closed,Bool.not_false,Bool.true_and,h]
theorem sl_closed_map {α:Type} (f:α→AV) (l:List α) (h:∀ x∈l,(f x).closed = true):(AV.sl false (l.map f)).closed = true:=sl_closed (closedL_map' f l h)
theorem Gw.not_closed (g:Gw e z 0 s x vs):x.closed = false:=by
 obtain ⟨_,⟨rfl,_⟩ | ⟨_,_,rfl,_⟩⟩:=g <;> rfl
theorem gw_purk (h:SlTy t e z true b) (g:Gw e z 0 s x vs) (hc:∀ v∈vs,v.closed = true) (ha:∀ v∈vs,v = .agg v.cells) (k:Nat):pur Tryz.env.P s (k + 1) x = some (.sl false vs,idOf x):=by
 obtain ⟨h1,⟨rfl,rfl⟩ | ⟨i,hi,rfl,hs⟩⟩:=g
 ·rfl
 ·have h2:lay Tryz.env.P e = some (z,true):=h.l
  have hp:=purL_closed (s:=s) k (flat_closed hc)
  have hfl:=flat_len h1
  have hnc:(AV.ref i 0 vs.length none e).closed = false:=rfl
  unfold pur
  rw [hnc,if_neg (by simp)]
  simp only [hs,h2,hfl,Nat.zero_add,Nat.le_refl,h.pos,and_self,if_true,List.drop_zero]
  rw [show (vs.flatMap AV.cells).take (vs.length * z) = vs.flatMap AV.cells from List.take_of_length_le (by rw [hfl]; exact Nat.le_refl _)]
  simp only [hp,Option.bind_some,Bool.true_or,if_true,chunk_back h1 ha,idOf]
theorem gw_purk1 (h:SlTy t e 1 false b) (g:Gw e 1 0 s x vs) (hc:∀ v∈vs,v.closed = true) (ha:∀ v∈vs,notAgg v = true) (k:Nat):pur Tryz.env.P s (k + 1) x = some (.sl false vs,idOf x):=by
 obtain ⟨h1,⟨rfl,rfl⟩ | ⟨i,hi,rfl,hs⟩⟩:=g
 ·rfl
 ·have h2:lay Tryz.env.P e = some (1,false):=h.l
  have hp:=purL_closed (s:=s) k (flat_closed hc)
  have hfl:=flat_len h1
  have hone:vs.flatMap AV.cells = vs:=flat_one fun v hv=>by
   have:=ha v hv
   cases v <;> first | rfl | cases this
  have hall:vs.all notAgg = true:=List.all_eq_true.2 ha
  rw [hone] at hp
  have hnc:(AV.ref i 0 vs.length none e).closed = false:=rfl
  unfold pur
  rw [hnc,if_neg (by simp)]
  simp only [hs,h2,hfl,Nat.zero_add,Nat.mul_one,Nat.le_refl,Nat.lt_one_iff,and_self,if_true,List.drop_zero,hone]
  rw [show vs.take vs.length = vs from List.take_length]
  simp [hp,idOf]
  exact ha
section
variable {α:Type} {f:α→AV} {l:List α}
theorem app_map (h:SlTy t e z ag b) (he:Enc f z) (g:Gw e z 0 s x (l.map f)) (hf:(l.length + 1) * b≤2 ^ 40) (hf2:l.length + 1≤2 ^ 40) (a:α) (ex:Bool) (id:Nat) :
  bt .append #[t,t] [x,.sl ex [f a]] id s = some (.ref id 0 (l.length + 1) none e,(s.drop (idOf x)).set id (some (.cells (((l ++ [a]).map f).flatMap AV.cells) e false true))):=by
 have:=app_one h g (he.len a) (he.ones a) (by rw [List.length_map]; exact fits_of hf hf2) ex id
 rw [List.length_map] at this
 rw [this,List.map_append]; rfl
theorem gw_map (he:Enc f z) {id k n:Nat} {s0:St} (hk:k = l.length):Gw e z 0 (Ai.adv (s0.set id (some (.cells ((l.map f).flatMap AV.cells) e false true))) n) (.ref id 0 k none e) (l.map f):=by
 refine Gw.here (cells_map he.len he.ones _) ?_
 rw [List.length_map]; exact hk
theorem gw_map1 (he:Enc f z) {a:α} {id n:Nat} {s0:St}:Gw e z 0 (Ai.adv (s0.set id (some (.cells (((l ++ [a]).map f).flatMap AV.cells) e false true))) n) (.ref id 0 (l.length + 1) none e) ((l ++ [a]).map f) :=
 gw_map he (by simp)
theorem pur_map (h:SlTy t e z true b) (g:Gw e z 0 s x (l.map f)) (h1:∀ a∈l,(f a).closed = true) (h2:∀ a∈l,f a = .agg (f a).cells) (k:Nat):∃ ids,pur Tryz.env.P s (k + 1) x = some (.sl false (l.map f),ids)∧ids = idOf x :=
 ⟨_,gw_purk h g (fun v hv=>by obtain ⟨a,ha,rfl⟩:=List.mem_map.1 hv; exact h1 a ha) (fun v hv=>by obtain ⟨a,ha,rfl⟩:=List.mem_map.1 hv; exact h2 a ha) k,rfl⟩
theorem pur_map1 (h:SlTy t e 1 false b) (g:Gw e 1 0 s x (l.map f)) (h1:∀ a∈l,(f a).closed = true) (h2:∀ a∈l,notAgg (f a) = true) (k:Nat):∃ ids,pur Tryz.env.P s (k + 1) x = some (.sl false (l.map f),ids)∧ids = idOf x :=
 ⟨_,gw_purk1 h g (fun v hv=>by obtain ⟨a,ha,rfl⟩:=List.mem_map.1 hv; exact h1 a ha) (fun v hv=>by obtain ⟨a,ha,rfl⟩:=List.mem_map.1 hv; exact h2 a ha) k,rfl⟩
theorem pureQ_of {x v:AV} {ids:List Nat} (h:∃ ids',pur Tryz.env.P s 12 x = some (v,ids')∧ids' = ids):PureQ v x s:=by
 obtain ⟨i,h1,_⟩:=h
 exact ⟨i,h1⟩
end
theorem mkS_eq (h:SlTy t e z ag b) {zv:AV} (hz:zero Tryz.ty e = some zv) (n:Nat) (h1:n * b≤2 ^ 40) (h2:n≤2 ^ 40) (k k':IntKind) (id:Nat) (s:St) :
  mkS Tryz.ty t (.int k n) (.int k' n) id s = some (.ref id 0 n (some n) e,s.set id (some (.cells (List.replicate n zv.cells).flatten e true true))):=by
 have hl:zv.cells.length = z:=by
  have:=h.zr
  rw [hz] at this; simpa using this
 have hm:(n:Int) * ((b:Nat):Int)≤(most:Int)∧(n:Int)≤(most:Int):=by
  have:(most:Nat) = 2 ^ 40:=rfl
  rw [this]
  refine ⟨?_,by omega⟩
  have:((n * b:Nat):Int)≤((2 ^ 40:Nat):Int):=Int.ofNat_le.2 h1
  rw [Int.natCast_mul] at this
  exact this
 unfold mkS
 simp only [h.u,h.l,h.b,hz,asI]
 rw [if_pos ⟨by omega,trivial,hm.1,hm.2,hl,h.pos⟩,Int.toNat_natCast]
theorem flat_rep {v:AV} (n:Nat):(List.replicate n [v]).flatten = List.replicate n v:=by
 induction n with
 | zero=>rfl
 | succ n ih=>rw [List.replicate_succ,List.flatten_cons,ih,List.replicate_succ]; rfl
theorem pur_ref {α:Type} {f:α→AV} {l:List α} {c:Option Nat} {ex wr:Bool} {e':TypeId} (h:SlTy t e 1 false b) (hs:s.h id = some (.cells (l.map f) e' ex wr)) (h1:∀ a∈l,(f a).closed = true) (h2:∀ a∈l,notAgg (f a) = true) (k:Nat):pur Tryz.env.P s (k + 1) (.ref id 0 l.length c e) = some (.sl false (l.map f),[id]):=by
 have h3:lay Tryz.env.P e = some (1,false):=h.l
 have hp:purL (pur Tryz.env.P s k) (l.map f) = some (l.map f,[]):=purL_closed (s:=s) k (closedL_map' f l h1)
 have hnc:(AV.ref id 0 l.length c e).closed = false:=rfl
 have hall:(l.map f).all notAgg = true:=List.all_eq_true.2 fun v hv=>by obtain ⟨a,ha,rfl⟩:=List.mem_map.1 hv; exact h2 a ha
 have htk:((l.map f).drop 0).take (l.length * 1) = l.map f:=by rw [List.drop_zero,Nat.mul_one]; exact List.take_of_length_le (by simp)
 have e1:pur Tryz.env.P s (k + 1) (.ref id 0 l.length c e) = if 0 + l.length * 1≤(l.map f).length∧0 < 1 then
      (purL (pur Tryz.env.P s k) (((l.map f).drop 0).take (l.length * 1))).bind fun r=>if false || (Nat.beq 1 1 && r.1.all notAgg) then some (.sl false (if false then chunk 1 l.length r.1 else r.1),id :: r.2) else none else none:=by
  conv=>lhs; unfold pur
  rw [hnc,if_neg (by simp)]
  simp only [hs,h3]
 rw [e1,if_pos ⟨by simp,by decide⟩,htk,hp]
 simp
 exact h2
theorem many_pre:∀ (ws c:List AV) (n:Nat),ws.length = n→n≤c.length→setMany c 0 ws = ws ++ c.drop n:=by
 have key:∀ (ws pre c:List AV),ws.length≤c.length→setMany (pre ++ c) pre.length ws = pre ++ ws ++ c.drop ws.length:=by
  intro ws
  induction ws with
  | nil=>intro pre c _; simp [setMany]
  | cons v l ih =>
   intro pre c h
   match c,h with
   | y :: c,h =>
    simp only [setMany]
    have e:(pre ++ y :: c).set pre.length v = (pre ++ [v]) ++ c:=by simp
    have:=ih (pre ++ [v]) c (by simpa using h)
    rw [e]
    simpa using this
 intro ws c n h1 h2
 have:=key ws [] c (by omega)
 simpa [h1] using this
theorem copy_eq {α:Type} {f:α→AV} {l:List α} {c:List AV} {cp:Option Nat} {e':TypeId} {ex ex2:Bool} {n k:Nat} (h:SlTy t e 1 false b) (hf:Enc f 1) (hf1:∀ a,(f a).cells = [f a]) (hs:s.h id = some (.cells c e' ex2 true)) (hc:c.length = n) (hn:n≤l.length) :
  bt .copy #[t,t] [.ref id 0 n cp e,.sl ex (l.map f)] k s = some (.int .i64 n,s.set id (some (.cells ((l.take n).map f) e' ex2 true))):=by
 have h1:und (bX Tryz.env).P t = some (.slice e):=h.u
 have h2:lay (bX Tryz.env).P e = some (1,false):=h.l
 have hall:(l.map f).all (fun v=>v.cells.length == 1) = true:=List.all_eq_true.2 fun v hv=>by obtain ⟨a,_,rfl⟩:=List.mem_map.1 hv; simp [hf.len]
 have hflat:(l.map f).flatMap AV.cells = l.map f:=flat_one fun v hv=>by obtain ⟨a,_,rfl⟩:=List.mem_map.1 hv; exact hf1 a
 have hones:((l.map f).take n).all AV.one = true:=by
  rw [List.all_eq_true]
  intro v hv
  obtain ⟨a,_,rfl⟩:=List.mem_map.1 (List.mem_of_mem_take hv)
  have:=hf.ones a
  rw [hf1] at this
  simpa using this
 have hsrc:srcCells 1 (.sl ex (l.map f)) s = some (l.map f):=by simp only [srcCells,hall,if_true,hflat]
 have hmin:min ((l.map f).length / 1) n = n:=by rw [List.length_map,Nat.div_one]; omega
 have hset:setMany c 0 ((l.map f).take n) = (l.take n).map f:=by
  rw [many_pre _ c n (by rw [List.length_take,List.length_map]; omega) (by omega),List.drop_of_length_le (by omega),List.append_nil,List.map_take]
 have hcp:copyA 1 (.ref id 0 n cp e) (l.map f) s = some (.int .i64 n,s.set id (some (.cells ((l.take n).map f) e' ex2 true))):=by
  unfold copyA
  simp only [hs,hmin,Nat.mul_one,Nat.zero_add]
  rw [if_pos ⟨by omega,hones⟩,hset]
 simp only [bt,builtinA,List.getElem?_toArray,List.getElem?_cons_zero,Option.bind_some,h1,h2,Nat.one_ne_zero,if_false,hsrc,hcp]
theorem ix_ref0 {e:TypeId} {i id n:Nat} {c:Option Nat} (h:i < n) (k:IntKind):ixS 1 (.ref id 0 n c e) (.int k (i:Int)) = some (.ptr id i):=by
 have:=ix_ref (e:=e) (z:=1) (id:=id) (off:=0) (c:=c) h k
 rw [this]; simp
theorem wrapN {k:Nat} (h:k < 2 ^ 63):IntKind.i64.wrap (k:Int) = (k:Int):=IntWalk.i64_in _ (by omega)
end
theorem ft_beq:(false == true) = false:=rfl
theorem tf_beq:(true == false) = false:=rfl
theorem wx:type_of% (And.intro @and_true <| And.intro @true_and <| And.intro @shiftP_ptr <| And.intro @shiftP_pel <| And.intro @Bnd_some <| And.intro @IfP_bool <| And.intro @Gd_some <| And.intro @ld_ptr <| And.intro @ld_pel <| And.intro @adv_h <| And.intro @adv_nx <| And.intro @set_nx <| And.intro @part_one <| And.intro @un_not <| And.intro @wantV_bool <| And.intro @pickV_bool <| And.intro @extr_tup <| And.intro @bin_lss <| And.intro @bin_leq <| And.intro @bin_gtr <| And.intro @bin_geq <| And.intro @bin_eql <| And.intro @bin_neq <| And.intro @bin_seql <| And.intro @bin_sneq <| And.intro @bin_add <| And.intro @bin_sub <| And.intro @Bool.false_eq_true <| And.intro @Bool.not_true <| And.intro @Bool.not_false <| And.intro @Bnd_none <| And.intro @get_set <| And.intro @nx_drop <| And.intro @get_drop' <| And.intro @adv_set <| And.intro @adv_two <| And.intro @adv_drop <| And.intro @set_set <| And.intro @Nat.add_assoc <| And.intro @Nat.add_left_cancel_iff <| And.intro @Nat.left_eq_add <| And.intro @Nat.add_eq_left <| And.intro @Nat.add_zero <| And.intro @wantV_tup <| And.intro @resC_nil <| And.intro @resC_some <| And.intro @retP_some <| And.intro @map_some' <| And.intro @tupV_one <| And.intro @tupV_two <| And.intro @idOf_ref <| And.intro @idOf_nils <| And.intro @idOf_ptr <| And.intro @idOf_sl <| And.intro @idOf_pel <| And.intro @drop_nil <| And.intro @drop_cons <| And.intro @bin_mul <| And.intro @Bool.or_true <| And.intro @Bool.or_false <| And.intro @Bool.and_true <| And.intro @Bool.and_false <| And.intro @Bool.true_and <| And.intro @Bool.false_and <| And.intro @Bool.true_or <| And.intro @Bool.false_or <| And.intro ft_beq tf_beq):=And.intro @and_true <| And.intro @true_and <| And.intro @shiftP_ptr <| And.intro @shiftP_pel <| And.intro @Bnd_some <| And.intro @IfP_bool <| And.intro @Gd_some <| And.intro @ld_ptr <| And.intro @ld_pel <| And.intro @adv_h <| And.intro @adv_nx <| And.intro @set_nx <| And.intro @part_one <| And.intro @un_not <| And.intro @wantV_bool <| And.intro @pickV_bool <| And.intro @extr_tup <| And.intro @bin_lss <| And.intro @bin_leq <| And.intro @bin_gtr <| And.intro @bin_geq <| And.intro @bin_eql <| And.intro @bin_neq <| And.intro @bin_seql <| And.intro @bin_sneq <| And.intro @bin_add <| And.intro @bin_sub <| And.intro @Bool.false_eq_true <| And.intro @Bool.not_true <| And.intro @Bool.not_false <| And.intro @Bnd_none <| And.intro @get_set <| And.intro @nx_drop <| And.intro @get_drop' <| And.intro @adv_set <| And.intro @adv_two <| And.intro @adv_drop <| And.intro @set_set <| And.intro @Nat.add_assoc <| And.intro @Nat.add_left_cancel_iff <| And.intro @Nat.left_eq_add <| And.intro @Nat.add_eq_left <| And.intro @Nat.add_zero <| And.intro @wantV_tup <| And.intro @resC_nil <| And.intro @resC_some <| And.intro @retP_some <| And.intro @map_some' <| And.intro @tupV_one <| And.intro @tupV_two <| And.intro @idOf_ref <| And.intro @idOf_nils <| And.intro @idOf_ptr <| And.intro @idOf_sl <| And.intro @idOf_pel <| And.intro @drop_nil <| And.intro @drop_cons <| And.intro @bin_mul <| And.intro @Bool.or_true <| And.intro @Bool.or_false <| And.intro @Bool.and_true <| And.intro @Bool.and_false <| And.intro @Bool.true_and <| And.intro @Bool.false_and <| And.intro @Bool.true_or <| And.intro @Bool.false_or <| And.intro ft_beq tf_beq
end
noncomputable section
theorem ln9t (x:List UInt8) (id:Nat) (s:St):bt .len #[9] [.str x] id s = some (.int .i64 x.length,s):=by kernel_rfl
theorem tf22:SlTy 22 211 1 false 4:=⟨by kernel_rfl,by kernel_rfl,by kernel_rfl,by kernel_rfl,by decide⟩
theorem ln22s (ex:Bool) (l:List AV) (id:Nat) (s:St):bt .len #[22] [.sl ex l] id s = some (.int .i64 l.length,s):=by kernel_rfl
theorem zf24:zr 24 = some (.agg [.bool false,.nils]):=by kernel_rfl
theorem bf24 (l:List (Nat × AV)):bld 24 l = (fillA (fun i=>[(0,1),(1,1)][i]?) [.bool false,.nils] l).map .agg:=by kernel_rfl
theorem tf25:SlTy 25 109 2 true 16:=⟨by kernel_rfl,by kernel_rfl,by kernel_rfl,by kernel_rfl,by decide⟩
theorem ln25s (ex:Bool) (l:List AV) (id:Nat) (s:St):bt .len #[25] [.sl ex l] id s = some (.int .i64 l.length,s):=by kernel_rfl
theorem ln25n (id:Nat) (s:St):bt .len #[25] [.nils] id s = some (.int .i64 0,s):=by kernel_rfl
theorem ln25r (i o n:Nat) (c:Option Nat) (e:TypeId) (id:Nat) (s:St):bt .len #[25] [.ref i o n c e] id s = some (.int .i64 n,s):=by kernel_rfl
theorem ln25g {x:AV} {l:List AV} {s:St} (g:Gw 109 2 0 s x l) (id:Nat):bt .len #[25] [x] id s = some (.int .i64 l.length,s):=by
 obtain ⟨_,⟨rfl,rfl⟩ | ⟨i,_,rfl,_⟩⟩:=g
 ·exact ln25n id s
 ·exact ln25r ..
theorem tf31:SlTy 31 33 6 true 72:=⟨by kernel_rfl,by kernel_rfl,by kernel_rfl,by kernel_rfl,by decide⟩
theorem ln31s (ex:Bool) (l:List AV) (id:Nat) (s:St):bt .len #[31] [.sl ex l] id s = some (.int .i64 l.length,s):=by kernel_rfl
theorem ln31n (id:Nat) (s:St):bt .len #[31] [.nils] id s = some (.int .i64 0,s):=by kernel_rfl
theorem ln31r (i o n:Nat) (c:Option Nat) (e:TypeId) (id:Nat) (s:St):bt .len #[31] [.ref i o n c e] id s = some (.int .i64 n,s):=by kernel_rfl
theorem ln31g {x:AV} {l:List AV} {s:St} (g:Gw 33 6 0 s x l) (id:Nat):bt .len #[31] [x] id s = some (.int .i64 l.length,s):=by
 obtain ⟨_,⟨rfl,rfl⟩ | ⟨i,_,rfl,_⟩⟩:=g
 ·exact ln31n id s
 ·exact ln31r ..
theorem zf33:zr 33 = some (.agg [.bool false,.int .i64 0,.str [],.int .i64 0,.int .i64 0,.nils]):=by kernel_rfl
theorem tf49:SlTy 49 67 10 true 128:=⟨by kernel_rfl,by kernel_rfl,by kernel_rfl,by kernel_rfl,by decide⟩
theorem ln49s (ex:Bool) (l:List AV) (id:Nat) (s:St):bt .len #[49] [.sl ex l] id s = some (.int .i64 l.length,s):=by kernel_rfl
theorem eqf51p (i o:Nat):bn .eql 51 (.ptr i o) .nilp = some (.bool false):=by kernel_rfl
theorem tf52:SlTy 52 9 1 false 16:=⟨by kernel_rfl,by kernel_rfl,by kernel_rfl,by kernel_rfl,by decide⟩
theorem ln52s (ex:Bool) (l:List AV) (id:Nat) (s:St):bt .len #[52] [.sl ex l] id s = some (.int .i64 l.length,s):=by kernel_rfl
theorem ln52n (id:Nat) (s:St):bt .len #[52] [.nils] id s = some (.int .i64 0,s):=by kernel_rfl
theorem ln52r (i o n:Nat) (c:Option Nat) (e:TypeId) (id:Nat) (s:St):bt .len #[52] [.ref i o n c e] id s = some (.int .i64 n,s):=by kernel_rfl
theorem ln52g {x:AV} {l:List AV} {s:St} (g:Gw 9 1 0 s x l) (id:Nat):bt .len #[52] [x] id s = some (.int .i64 l.length,s):=by
 obtain ⟨_,⟨rfl,rfl⟩ | ⟨i,_,rfl,_⟩⟩:=g
 ·exact ln52n id s
 ·exact ln52r ..
theorem tf56:SlTy 56 101 7 true 112:=⟨by kernel_rfl,by kernel_rfl,by kernel_rfl,by kernel_rfl,by decide⟩
theorem ln56n (id:Nat) (s:St):bt .len #[56] [.nils] id s = some (.int .i64 0,s):=by kernel_rfl
theorem ln56r (i o n:Nat) (c:Option Nat) (e:TypeId) (id:Nat) (s:St):bt .len #[56] [.ref i o n c e] id s = some (.int .i64 n,s):=by kernel_rfl
theorem ln56g {x:AV} {l:List AV} {s:St} (g:Gw 101 7 0 s x l) (id:Nat):bt .len #[56] [x] id s = some (.int .i64 l.length,s):=by
 obtain ⟨_,⟨rfl,rfl⟩ | ⟨i,_,rfl,_⟩⟩:=g
 ·exact ln56n id s
 ·exact ln56r ..
theorem bf58 (l:List (Nat × AV)):bld 58 l = (fillA (fun i=>[(0,2),(2,1)][i]?) [.nils,.nilm,.nils] l).map .agg:=by kernel_rfl
theorem ln65s (ex:Bool) (l:List AV) (id:Nat) (s:St):bt .len #[65] [.sl ex l] id s = some (.int .i64 l.length,s):=by kernel_rfl
theorem zf67:zr 67 = some (.agg [.str [],.int .i64 0,.bool false,.nils,.bool false,.int .i64 0,.str [],.int .i64 0,.int .i64 0,.nils]):=by kernel_rfl
theorem tf72:SlTy 72 3 1 false 8:=⟨by kernel_rfl,by kernel_rfl,by kernel_rfl,by kernel_rfl,by decide⟩
theorem ln72s (ex:Bool) (l:List AV) (id:Nat) (s:St):bt .len #[72] [.sl ex l] id s = some (.int .i64 l.length,s):=by kernel_rfl
theorem ln72n (id:Nat) (s:St):bt .len #[72] [.nils] id s = some (.int .i64 0,s):=by kernel_rfl
theorem zf101:zr 101 = some (.agg [.int .i64 0,.int .i64 0,.nils,.str [],.bool false,.nils,.nils]):=by kernel_rfl
theorem bf101 (l:List (Nat × AV)):bld 101 l = (fillA (fun i=>[(0,1),(1,1),(2,1),(3,1),(4,2),(6,1)][i]?) [.int .i64 0,.int .i64 0,.nils,.str [],.bool false,.nils,.nils] l).map .agg:=by kernel_rfl
theorem zf109:zr 109 = some (.agg [.int .i64 0,.int .i64 0]):=by kernel_rfl
theorem bf109 (l:List (Nat × AV)):bld 109 l = (fillA (fun i=>[(0,1),(1,1)][i]?) [.int .i64 0,.int .i64 0] l).map .agg:=by kernel_rfl
theorem tf122:SlTy 122 254 2 true 48:=⟨by kernel_rfl,by kernel_rfl,by kernel_rfl,by kernel_rfl,by decide⟩
theorem ln122s (ex:Bool) (l:List AV) (id:Nat) (s:St):bt .len #[122] [.sl ex l] id s = some (.int .i64 l.length,s):=by kernel_rfl
theorem ln122n (id:Nat) (s:St):bt .len #[122] [.nils] id s = some (.int .i64 0,s):=by kernel_rfl
theorem ln122r (i o n:Nat) (c:Option Nat) (e:TypeId) (id:Nat) (s:St):bt .len #[122] [.ref i o n c e] id s = some (.int .i64 n,s):=by kernel_rfl
theorem bf124 (l:List (Nat × AV)):bld 124 l = (fillA (fun i=>[(0,1),(1,1),(2,1),(3,1)][i]?) [.nilp,.nils,.nils,.nilm] l).map .agg:=by kernel_rfl
theorem zf151:zr 151 = some (.agg [.str [],.int .i64 0]):=by kernel_rfl
theorem ln161s (ex:Bool) (l:List AV) (id:Nat) (s:St):bt .len #[161] [.sl ex l] id s = some (.int .i64 l.length,s):=by kernel_rfl
theorem zf163:zr 163 = some (.agg [.nilp,.nils]):=by kernel_rfl
theorem bf163 (l:List (Nat × AV)):bld 163 l = (fillA (fun i=>[(0,1),(1,1)][i]?) [.nilp,.nils] l).map .agg:=by kernel_rfl
theorem zf192:zr 192 = some (.agg [.int .i64 0,.bool false,.int .i64 0,.int .i64 0,.int .i64 0,.int .i64 0]):=by kernel_rfl
theorem zf211:zr 211 = some (.int .u32 0):=by kernel_rfl
theorem zf223:zr 223 = some (.agg [.int .u8 0,.int .u8 0,.int .u8 0,.int .u8 0,.int .u8 0,.int .u8 0,.int .u8 0,.int .u8 0,.int .u8 0]):=by kernel_rfl
theorem zf254:zr 254 = some (.agg [.nils,.nils]):=by kernel_rfl
theorem bf254 (l:List (Nat × AV)):bld 254 l = (fillA (fun i=>[(0,1),(1,1)][i]?) [.nils,.nils] l).map .agg:=by kernel_rfl
theorem cf5_3 (k:IntKind) (n:Int) (s:St):cv 5 3 (.int k n) s = some (.int .i64 (IntKind.wrap .i64 n)):=by kernel_rfl
theorem cf5_211 (k:IntKind) (n:Int) (s:St):cv 5 211 (.int k n) s = some (.int .u32 (IntKind.wrap .u32 n)):=by kernel_rfl
theorem cf9_161 (x:List UInt8) (s:St):cv 9 161 (.str x) s = some (.sl false (x.map fun c=>.int .u8 c.toNat)):=by kernel_rfl
theorem cf159_5 (k:IntKind) (n:Int) (s:St):cv 159 5 (.int k n) s = some (.int .u8 (IntKind.wrap .u8 n)):=by kernel_rfl
theorem cf159_211 (k:IntKind) (n:Int) (s:St):cv 159 211 (.int k n) s = some (.int .u32 (IntKind.wrap .u32 n)):=by kernel_rfl
theorem cf211_159 (k:IntKind) (n:Int) (s:St):cv 211 159 (.int k n) s = some (.int .u64 (IntKind.wrap .u64 n)):=by kernel_rfl
end
noncomputable section
section
variable {x y:List UInt8} {s:St} {i j n:Nat}
def byt (c:UInt8):AV:=.int .u8 c.toNat
theorem und9:und Tryz.ty 9 = some .string:=by kernel_rfl
theorem ixa_str (k:IntKind) {c:UInt8} (h:x[i]? = some c):ixa 9 (.str x) (.int k (i:Int)) = some (.int .u8 c.toNat):=by
 obtain ⟨hi,rfl⟩:=List.getElem?_eq_some_iff.1 h
 simp [ixa,indexA,asI,und9,idx,hi]
theorem slc_hi (k:IntKind) (h:n≤x.length):slc 9 (.str x) none (some (.int k (n:Int))) none s = some (.str (x.take n)):=by
 simp [slc,sliceA,und9,bounds,optI,asI,h]
theorem slc_lo (k:IntKind) (h:n≤x.length):slc 9 (.str x) (some (.int k (n:Int))) none none s = some (.str (x.drop n)):=by
 simp [slc,sliceA,und9,bounds,optI,asI,h]
 exact List.take_of_length_le (by simp)
theorem bin_sadd {t:TypeId} (h:x.length + y.length≤maxStr):bin (T:=Tryz.ty) Tryz.eqOk .add t (.str x) (.str y) = some (.str (x ++ y)):=by simp [bin,strBin,h]
theorem add_str {t:TypeId} (h:x.length + y.length≤2 ^ 46):bn .add t (.str x) (.str y) = some (.str (x ++ y)):=bin_sadd h
theorem und161:und Tryz.ty 161 = some (.slice 5):=by kernel_rfl
theorem und5:und Tryz.ty 5 = some (.int .u8):=by kernel_rfl
theorem encBy:Enc byt 1:=⟨fun _=>rfl,fun _=>rfl⟩
theorem u8s_map (bs:List UInt8):asU8s (bs.map byt) = some (bs.map fun c=>(c.toNat:Int)):=by
 induction bs with
 | nil=>rfl
 | cons c l ih =>
  simp only [List.map_cons,asU8s,ih]
  rfl
theorem u8s_back (bs:List UInt8):(bs.map fun c=>(c.toNat:Int)).map (fun n=>UInt8.ofNat n.toNat) = bs:=by
 induction bs with
 | nil=>rfl
 | cons c l ih=>simp only [List.map_cons,ih,Int.toNat_natCast,UInt8.ofNat_toNat]
theorem str_ref {pre bs post:List UInt8} {id off n:Nat} {cp:Option Nat} {e e':TypeId} {ex wr:Bool} (hs:s.h id = some (.cells ((pre ++ bs ++ post).map byt) e' ex wr)) (ho:pre.length = off) (hn:bs.length = n):cv 161 9 (.ref id off n cp e) s = some (.str bs):=by
 have h1:((((pre ++ bs ++ post).map byt).drop off).take n) = bs.map byt:=by
  rw [← List.map_drop,← List.map_take,List.append_assoc,← ho,List.drop_left,← hn,List.take_left]
 have h2:off + n≤((pre ++ bs ++ post).map byt).length:=by simp; omega
 simp only [cv,convA,und161,und9,und5,hs]
 rw [if_pos h2,h1,u8s_map]
 simp only [Option.map_some,u8s_back]
theorem prim_f {f:FuncId} {g:List AV→St→Option (AV × St)} {args:List AV} {s':St} {r:AV} (h:Tryz.env.prim f = some g) (hg:g args s = some (r,s')):WideC Tryz.env f args s r s':=⟨1,by rw [callN_step,h]; exact hg⟩
end
end
noncomputable section
def u3A (n:Nat):AV:=.int .u32 (n:Int)
theorem encU:Enc u3A 1:=⟨fun _=>rfl,fun _=>rfl⟩
def nsA (a:List Nat):AV:=.sl false (a.map u3A)
theorem us_closed (a:List Nat):closedL (a.map u3A) = true:=closedL_map' _ _ fun _ _=>rfl
theorem ns_closed (a:List Nat):(nsA a).closed = true:=sl_closed_map _ _ fun _ _=>rfl
def limbs (a:List Nat):Prop:=∀ x∈a,x < 2 ^ 32
theorem p32:(2:Nat) ^ 32 = 4294967296:=rfl
theorem p64:(2:Nat) ^ 64 = 18446744073709551616:=rfl
theorem u3_0 (x:Nat):(u3A x).cells[0]? = some (.int .u32 (x:Int)):=rfl
def trimN (a:List Nat):Nat→Nat
 | 0=>0
 | n + 1=>cond (a[n]? == some 0) (trimN a n) (n + 1)
def normM (a:List Nat):List Nat:=a.take (trimN a a.length)
theorem trimN_le (a:List Nat):∀ n,trimN a n≤n:=by
 intro n
 induction n with
 | zero=>exact Nat.le_refl 0
 | succ n ih=>simp only [trimN]; cases (a[n]? == some 0) <;> simp only [cond_true,cond_false] <;> omega
theorem l110 (a:List Nat) (Q:AV→St→Prop) (ha:a.length≤2 ^ 30):∀ (n:Nat) (s:St),n≤a.length→(∀ c,f110j1 Q (.int .i64 (trimN a n)) (nsA a) (adv s c))→f110l1 Q (n + 1) (nsA a) (.int .i64 n) s:=by
 intro n
 induction n with
 | zero =>
  intro s hn hj
  show f110l1s Q (f110l1 Q 0) _ _ s
  simp only [f110l1s,show decide (((0:Nat):Int) > 0) = false from rfl,wx,wy,Nat.reduceAdd,Nat.reduceEqDiff,reduceCtorEq]
  exact hj 10
 | succ n ih =>
  intro s hn hj
  show f110l1s Q (f110l1 Q (n + 1)) _ _ s
  obtain ⟨x,hx⟩:∃ x,a[n]? = some x:=⟨_,List.getElem?_eq_getElem (by omega)⟩
  have h1:decide (((n + 1:Nat):Int) > 0) = true:=by simp
  have h2:IntKind.i64.wrap (((n + 1:Nat):Int) - 1) = (n:Int):=by rw [IntWalk.i64_in _ (by omega)]; try omega
  simp only [f110l1s,h1,h2,nsA,ix_map encU false hx,u3_0,wx,wy,Nat.reduceAdd,Nat.reduceEqDiff,reduceCtorEq]
  simp only [trimN,hx] at hj
  cases h0:(x == 0) with
  | true =>
   have e:((x:Int) == 0) = true:=by simpa using h0
   have e2:(some x == some 0) = true:=by simpa using h0
   rw [e2] at hj
   simp only [e,h2,wx,wy,Nat.reduceAdd,Nat.reduceEqDiff,reduceCtorEq]
   exact ih _ (by omega) fun c=>by rw [adv_two]; exact hj _
  | false =>
   have e:((x:Int) == 0) = false:=by simpa using h0
   have e2:(some x == some 0) = false:=by simpa using h0
   rw [e2] at hj
   simp only [e,wx,wy,Nat.reduceAdd,Nat.reduceEqDiff,reduceCtorEq]
   exact hj _
theorem j110 (a:List Nat) (ha:a.length≤2 ^ 30) (k:Nat) (hk:k≤a.length) (s:St):f110j1 (PureQ (nsA (a.take k))) (.int .i64 k) (nsA a) s:=by
 have hz:zero Tryz.ty 211 = some (.int .u32 0):=zf211
 unfold f110j1
 simp only [mkS_eq tf22 hz k (by omega) (by omega),AV.cells,flat_rep,wx,wy,Nat.reduceAdd,Nat.reduceEqDiff,reduceCtorEq]
 have hcp:=fun (id j n:Nat) (s:St)=>copy_eq (id:=id) (k:=j) (s:=Ai.adv (s.set id (some (.cells (List.replicate k (.int .u32 0)) 211 true true))) n) (cp:=some k) (ex:=false) (l:=a) (f:=u3A) tf22 encU (fun _=>rfl) (by rw [adv_h,st_same]) (List.length_replicate (n:=k)) hk
 simp only [nsA,hcp,wx,wy,Nat.reduceAdd,Nat.reduceEqDiff,reduceCtorEq]
 have hl:(a.take k).length = k:=by rw [List.length_take]; omega
 have:=pur_ref (s:=Ai.adv (s.set (s.nx + 1) (some (.cells ((a.take k).map u3A) 211 true true))) 8) (id:=s.nx + 1) (c:=some k) (k:=11) (l:=a.take k) (f:=u3A) tf22 (by rw [adv_h,st_same]) (fun _ _=>rfl) (fun _ _=>rfl)
 rw [hl] at this
 exact ⟨_,this⟩
theorem c110 (a:List Nat) (ha:a.length≤2 ^ 30):PureC Tryz.env 110 [nsA a] (nsA (normM a)):=by
 refine pure_q (f110_run _ _ ?_)
 unfold f110
 simp only [nsA,ln22s,List.length_map,wx,wy,Nat.reduceAdd,Nat.reduceEqDiff,reduceCtorEq]
 exact ⟨_,l110 a _ ha a.length _ (Nat.le_refl _) fun c=>j110 a ha _ (trimN_le a _) _⟩
def val:List Nat→Nat
 | []=>0
 | x :: a=>x + 4294967296 * val a
def pw (n:Nat):Nat:=4294967296 ^ n
theorem pw_succ (n:Nat):pw (n + 1) = 4294967296 * pw n:=by unfold pw; rw [Nat.pow_succ,Nat.mul_comm]
theorem pw_pos (n:Nat):0 < pw n:=Nat.pow_pos (by decide)
theorem pw_zero:pw 0 = 1:=rfl
theorem val_append (a b:List Nat):val (a ++ b) = val a + pw a.length * val b:=by
 induction a with
 | nil=>simp [val,pw_zero]
 | cons x a ih =>
  simp only [List.cons_append,val,ih,List.length_cons,pw_succ]
  rw [Nat.mul_add,Nat.mul_assoc,Nat.add_assoc]
theorem val_lt (a:List Nat) (h:limbs a):val a < pw a.length:=by
 induction a with
 | nil=>simp [val,pw_zero]
 | cons x a ih =>
  have hx:=h x (List.mem_cons_self ..)
  have h2:=ih fun y hy=>h y (List.mem_cons_of_mem _ hy)
  simp only [val,List.length_cons,pw_succ]
  rw [p32] at hx
  generalize pw a.length = K at h2
  omega
theorem trim_spec (a:List Nat):∀ n,n≤a.length→val (a.take (trimN a n)) = val (a.take n)∧(trimN a n = 0∨∃ x,a[trimN a n - 1]? = some x∧x≠0):=by
 intro n
 induction n with
 | zero=>intro _; exact ⟨rfl,.inl rfl⟩
 | succ n ih =>
  intro hn
  simp only [trimN]
  obtain ⟨x,hx⟩:∃ x,a[n]? = some x:=⟨_,List.getElem?_eq_getElem (by omega)⟩
  cases h:(a[n]? == some 0) with
  | true =>
   simp only [cond_true]
   obtain ⟨h1,h2⟩:=ih (by omega)
   refine ⟨?_,h2⟩
   rw [h1,List.take_add_one,hx,val_append]
   have:x = 0:=by rw [hx] at h; simpa using h
   subst this
   simp [val]
  | false =>
   refine ⟨rfl,.inr ⟨x,by simpa using hx,fun h0=>?_⟩⟩
   rw [hx,h0] at h; simp at h
theorem val_norm (a:List Nat):val (normM a) = val a:=by
 have:=(trim_spec a a.length (Nat.le_refl _)).1
 rw [List.take_length] at this
 exact this
theorem norm_limbs {a:List Nat} (h:limbs a):limbs (normM a):=fun x hx=>h x (List.mem_of_mem_take hx)
theorem norm_len (a:List Nat):(normM a).length≤a.length:=by
 unfold normM; rw [List.length_take]; omega
theorem norm_zero {a:List Nat} (h:limbs a):val (normM a) = 0↔normM a = []:=by
 constructor
 ·intro hv
  rcases (trim_spec a a.length (Nat.le_refl _)).2 with h0 | ⟨x,hx,h0⟩
  ·unfold normM; rw [h0]; rfl
  ·exfalso
   have hle:=trimN_le a a.length
   have hpos:0 < trimN a a.length:=by
    rcases Nat.eq_zero_or_pos (trimN a a.length) with hz | hz
    ·unfold normM at hv
     rw [hz] at hx
     have:trimN a a.length - 1 = 0:=by omega
     by_cases ha:a.length = 0
     ·have:a = []:=List.length_eq_zero_iff.1 ha
      subst this; simp at hx
     ·exfalso
      have h3:=(trim_spec a a.length (Nat.le_refl _)).1
      rw [hz,List.take_zero,List.take_length] at h3
      match a,hx,h3 with
      | y :: t,hx,h3 =>
       have:y = x:=by simpa using hx
       have h4:0 = y + 4294967296 * val t:=h3
       omega
    ·exact hz
   have e:normM a = a.take (trimN a a.length - 1) ++ [x]:=by
    unfold normM
    conv=>lhs; rw [show trimN a a.length = (trimN a a.length - 1) + 1 by omega,List.take_add_one,hx]
    rfl
   rw [e,val_append] at hv
   simp only [val] at hv
   have:0 < pw (a.take (trimN a a.length - 1)).length * (x + 4294967296 * 0):=Nat.mul_pos (pw_pos _) (by omega)
   omega
 ·intro h0; rw [h0]; rfl
def smallM (n:Nat):List Nat→List Nat × Nat
 | []=>([],0)
 | x :: t=>(((smallM n t).2 * 4294967296 + x) / n :: (smallM n t).1,((smallM n t).2 * 4294967296 + x) % n)
theorem small_len (n:Nat) (a:List Nat):(smallM n a).1.length = a.length:=by
 induction a with
 | nil=>rfl
 | cons x t ih=>simp [smallM,ih]
theorem small_lt (n:Nat) (h:0 < n) (a:List Nat):(smallM n a).2 < n:=by
 cases a with
 | nil=>exact h
 | cons x t=>exact Nat.mod_lt _ h
theorem small_limbs (n:Nat) (h:0 < n) (a:List Nat) (ha:limbs a):limbs (smallM n a).1:=by
 induction a with
 | nil=>intro x hx; cases hx
 | cons x t ih =>
  intro y hy
  simp only [smallM,List.mem_cons] at hy
  rcases hy with rfl | hy
  ·have h1:=ha x (List.mem_cons_self ..)
   have h2:=small_lt n h t
   refine Nat.div_lt_of_lt_mul ?_
   have:((smallM n t).2 + 1) * 4294967296≤n * 4294967296:=Nat.mul_le_mul_right _ h2
   rw [Nat.succ_mul] at this
   rw [p32] at h1 ⊢
   omega
  ·exact ih (fun z hz=>ha z (List.mem_cons_of_mem _ hz)) y hy
theorem small_val (n:Nat) (h:0 < n) (a:List Nat):val (smallM n a).1 * n + (smallM n a).2 = val a:=by
 induction a with
 | nil=>simp [smallM,val]
 | cons x t ih =>
  simp only [smallM,val]
  have e:=Nat.div_add_mod ((smallM n t).2 * 4294967296 + x) n
  rw [← ih]
  have:(((smallM n t).2 * 4294967296 + x) / n + 4294967296 * val (smallM n t).1) * n + ((smallM n t).2 * 4294967296 + x) % n
    = (n * (((smallM n t).2 * 4294967296 + x) / n) + ((smallM n t).2 * 4294967296 + x) % n) + 4294967296 * (val (smallM n t).1 * n):=by
   rw [Nat.add_mul,Nat.mul_comm n,Nat.mul_assoc]; omega
  rw [this,e]
  rw [Nat.mul_add]; omega
theorem or_add {r x:Nat} (hr:r < 2 ^ 32) (hx:x < 2 ^ 32):bitsA .or .u64 (IntKind.u64.wrap ((r:Int) * 2 ^ 32)) (x:Int) = ((r * 4294967296 + x:Nat):Int):=by
 have e1:IntKind.u64.wrap ((r:Int) * 2 ^ 32) = ((r * 4294967296:Nat):Int):=by
  rw [IntWalk.u64_in _ (by rw [p32] at hr; omega)]
  simp
 have e2:(BitVec.ofInt 64 ((r * 4294967296:Nat):Int)).toNat = r * 4294967296:=by
  rw [BitVec.ofInt_natCast,BitVec.toNat_ofNat,Nat.mod_eq_of_lt (by rw [p32] at hr; rw [p64]; omega)]
 have e3:(BitVec.ofInt 64 (x:Int)).toNat = x:=by
  rw [BitVec.ofInt_natCast,BitVec.toNat_ofNat,Nat.mod_eq_of_lt (by rw [p32] at hx; rw [p64]; omega)]
 rw [e1]
 show IntKind.u64.wrap (((BitVec.ofInt 64 _ ||| BitVec.ofInt 64 _:BitVec 64).toNat:Nat):Int) = _
 rw [BitVec.toNat_or,e2,e3]
 have h:=Nat.shiftLeft_add_eq_or_of_lt (i:=32) hx r
 rw [Nat.shiftLeft_eq] at h
 rw [show (4294967296:Nat) = 2 ^ 32 from rfl,← h]
 rw [IntWalk.u64_in _ (by rw [p32] at hr hx ⊢; omega)]
theorem bin_or {T:Ty} {q:TypeId→Bool} {t:TypeId} {k:IntKind} {a b:Int}:bin T q .or t (.int k a) (.int k b) = some (.int k (bitsA .or k a b)):=by simp [bin,isShift,intBin]
theorem bin_shl {T:Ty} {q:TypeId→Bool} {t:TypeId} {k k':IntKind} {a:Int} {n:Nat} (h:n≤k.bits):bin T q .shl t (.int k a) (.int k' (n:Int)) = some (.int k (k.wrap (a * 2 ^ n))):=by
 have:¬ ((n:Int) < 0):=by omega
 simp [bin,isShift,intBin,this,Nat.min_eq_left h]
theorem bin_shr {T:Ty} {q:TypeId→Bool} {t:TypeId} {k k':IntKind} {a:Int} {n:Nat} (h:n≤k.bits):bin T q .shr t (.int k a) (.int k' (n:Int)) = some (.int k (a.fdiv (2 ^ n))):=by
 have:¬ ((n:Int) < 0):=by omega
 simp [bin,isShift,intBin,this,Nat.min_eq_left h]
theorem bin_quo {T:Ty} {q:TypeId→Bool} {t:TypeId} {k:IntKind} {a b:Nat} (h:b≠0):bin T q .quo t (.int k (a:Int)) (.int k (b:Int)) = some (.int k (k.wrap ((a / b:Nat):Int))):=by
 have h1:¬ ((b:Int) = 0):=by omega
 have h2:(a:Int).tdiv (b:Int) = ((a / b:Nat):Int):=by rw [Int.tdiv_eq_ediv_of_nonneg (by omega)]; rfl
 simp [bin,isShift,intBin,h,h2]
theorem bin_rem {T:Ty} {q:TypeId→Bool} {t:TypeId} {k:IntKind} {a b:Nat} (h:b≠0):bin T q .rem t (.int k (a:Int)) (.int k (b:Int)) = some (.int k ((a % b:Nat):Int)):=by
 have h1:¬ ((b:Int) = 0):=by omega
 have h2:(a:Int).tmod (b:Int) = ((a % b:Nat):Int):=by rw [Int.tmod_eq_emod_of_nonneg (by omega)]; rfl
 simp [bin,isShift,intBin,h,h2]
theorem set_mid {α:Type} {a:List α} {x v:α} {b:List α}:(a ++ x :: b).set a.length v = a ++ v :: b:=by simp
theorem l111 (a:List Nat) (hl:limbs a) (ha:a.length≤2 ^ 30) (n:Nat) (h0:0 < n) (hn:n≤2 ^ 32) (Q:AV→St→Prop) (N c:Nat) (e':TypeId)
  (hQ:∀ s,s.h N = some (.cells ((smallM n a).1.map u3A) e' true true)→f111j1 Q (.ref N 0 a.length (some c) 211) (.int .u64 (smallM n a).2) s) :
  ∀ (i:Nat) (s:St),i≤a.length→s.h N = some (.cells ((List.replicate i 0 ++ (smallM n (a.drop i)).1).map u3A) e' true true) →
   f111l1 Q (i + 1) (nsA a) (.int .u64 n) (.ref N 0 a.length (some c) 211) (.int .u64 (smallM n (a.drop i)).2) (.int .i64 ((i:Int) - 1)) s:=by
 intro i
 induction i with
 | zero =>
  intro s hi hs
  show f111l1s Q (f111l1 Q 0) _ _ _ _ _ s
  simp only [f111l1s,show decide (((0:Nat):Int) - 1 ≥ 0) = false from rfl,wx,wy,Nat.reduceAdd,Nat.reduceEqDiff,reduceCtorEq]
  refine hQ _ ?_
  simpa [adv_h] using hs
 | succ i ih =>
  intro s hi hs
  show f111l1s Q (f111l1 Q (i + 1)) _ _ _ _ _ s
  obtain ⟨x,hx⟩:∃ x,a[i]? = some x:=⟨_,List.getElem?_eq_getElem (by omega)⟩
  have hxl:=hl x (List.mem_of_getElem? hx)
  have hrl:(smallM n (a.drop (i + 1))).2 < 2 ^ 32:=Nat.lt_of_lt_of_le (small_lt n h0 _) hn
  have h1:decide (((i + 1:Nat):Int) - 1 ≥ 0) = true:=by simp
  have h2:((i + 1:Nat):Int) - 1 = (i:Int):=by omega
  have h3:IntKind.i64.wrap ((i:Int) - 1) = (i:Int) - 1:=IntWalk.i64_in _ (by omega)
  have e:=get_drop a i x hx
  have hq:((smallM n (a.drop (i + 1))).2 * 4294967296 + x) / n < 2 ^ 32:=by
   have:=small_limbs n h0 (a.drop i) (fun y hy=>hl y (List.mem_of_mem_drop hy))
   rw [e] at this
   exact this _ (List.mem_cons_self ..)
  have hor:=or_add hrl hxl
  have hshl:∀ (r:Int),bn .shl 159 (.int .u64 r) (.int .u64 32) = some (.int .u64 (IntKind.u64.wrap (r * 2 ^ 32))):=fun r=>bin_shl (n:=32) (by decide)
  simp only [h2] at h1 ⊢
  simp only [f111l1s,h1,hshl,nsA,ix_map encU false hx,u3_0,cf211_159,wx,wy,Nat.reduceAdd,Nat.reduceEqDiff,reduceCtorEq]
  rw [show IntKind.u64.wrap (x:Int) = (x:Int) from IntWalk.u64_in _ (by rw [p32] at hxl; omega)]
  simp only [bin_or,hor,wx,wy,Nat.reduceAdd,Nat.reduceEqDiff,reduceCtorEq]
  have hne:n≠0:=by omega
  generalize hyy:(smallM n (a.drop (i + 1))).2 * 4294967296 + x = y at *
  have hqq:bn .quo 159 (.int .u64 (y:Int)) (.int .u64 (n:Int)) = some (.int .u64 (IntKind.u64.wrap ((y / n:Nat):Int))):=bin_quo hne
  have hrr:bn .rem 159 (.int .u64 (y:Int)) (.int .u64 (n:Int)) = some (.int .u64 ((y % n:Nat):Int)):=bin_rem hne
  have es:smallM n (a.drop i) = (y / n :: (smallM n (a.drop (i + 1))).1,y % n):=by rw [e,smallM,hyy]
  generalize hD:y / n = D at *
  rw [p32] at hq
  rw [show IntKind.u64.wrap (D:Int) = (D:Int) from IntWalk.u64_in _ (by omega)] at hqq
  simp only [hqq,hrr,cf159_211,ix_ref0 (show i < a.length by omega),wx,wy,Nat.reduceAdd,Nat.reduceEqDiff,reduceCtorEq]
  rw [show IntKind.u32.wrap (D:Int) = (D:Int) from IntWalk.u32_in _ (by omega)]
  have hset:((List.replicate (i + 1) 0 ++ (smallM n (a.drop (i + 1))).1).map u3A).set i (.int .u32 (D:Int)) = (List.replicate i 0 ++ (smallM n (a.drop i)).1).map u3A:=by
   rw [es,List.replicate_succ']
   have:=set_mid (a:=(List.replicate i 0).map u3A) (x:=u3A 0) (v:=(.int .u32 (D:Int))) (b:=(smallM n (a.drop (i + 1))).1.map u3A)
   rw [List.length_map,List.length_replicate] at this
   simp only [List.append_assoc,List.singleton_append,List.map_append,List.map_cons]
   exact this
  rw [sto_c (by rw [adv_h]; exact hs) (by simp [small_len]; omega) rfl rfl,hset]
  simp only [wx,wy,Nat.reduceAdd,Nat.reduceEqDiff,reduceCtorEq,f111j2,h3]
  have:=ih (Ai.adv (s.set N (some (.cells ((List.replicate i 0 ++ (smallM n (a.drop i)).1).map u3A) e' true true))) 26) (by omega) (by rw [adv_h,st_same])
  rw [es] at this
  simp only [es]
  exact this
theorem c111 (a:List Nat) (hl:limbs a) (ha:a.length≤2 ^ 30) (n:Nat) (h0:0 < n) (hn:n≤2 ^ 32):PureC Tryz.env 111 [nsA a,.int .u64 n] (.tup [nsA (normM (smallM n a).1),.int .u64 (smallM n a).2]):=by
 refine pure_q (f111_run _ _ _ ?_)
 have hz:zero Tryz.ty 211 = some (.int .u32 0):=zf211
 have hc0:(AV.int .u32 0).cells = [.int .u32 0]:=rfl
 unfold f111
 simp only [nsA,ln22s,List.length_map,mkS_eq tf22 hz a.length (by omega) (by omega),hc0,flat_rep,wx,wy,Nat.reduceAdd,Nat.reduceEqDiff,reduceCtorEq]
 rw [show IntKind.i64.wrap ((a.length:Int) - 1) = (a.length:Int) - 1 from IntWalk.i64_in _ (by omega)]
 refine ⟨a.length + 1,?_⟩
 have:=l111 a hl ha n h0 hn (PureQ (.tup [nsA (normM (smallM n a).1),.int .u64 (smallM n a).2])) (St.empty.nx + 4) a.length 211 (fun s hs=>?_) a.length (Ai.adv (St.empty.set (St.empty.nx + 4) (some (.cells (List.replicate a.length (.int .u32 0)) 211 true true))) 11) (Nat.le_refl _) ?_
 ·simpa [smallM,nsA] using this
 ·unfold f111j1
  have hp:=pur_ref (s:=Ai.adv s 5) (id:=St.empty.nx + 4) (c:=some a.length) (k:=11) (l:=(smallM n a).1) (f:=u3A) tf22 (by rw [adv_h]; exact hs) (fun _ _=>rfl) (fun _ _=>rfl)
  rw [small_len] at hp
  refine callPur (args2:=[nsA (smallM n a).1]) (ids:=[St.empty.nx + 4]) (by simp only [purL,hp,nsA,List.append_nil]) (c110 _ (by rw [small_len]; exact ha)) ?_
  exact pureQ_closed (by simp only [AV.closed,closedL,ns_closed,Bool.and_self])
 ·rw [adv_h,st_same,List.drop_length]
  simp [smallM,u3A]
def nineGo:Nat→Nat→List UInt8
 | 0,_=>[]
 | k + 1,n=>nineGo k (n / 10) ++ [UInt8.ofNat (48 + n % 10)]
theorem nine_len (k n:Nat):(nineGo k n).length = k:=by
 induction k generalizing n with
 | zero=>rfl
 | succ k ih=>simp [nineGo,ih]
theorem slc223 (id:Nat) (s:St) (c:List AV) (e':TypeId) (ex wr:Bool) (hs:s.h id = some (.cells c e' ex wr)) (hc:c.length = 9):slc 223 (.ptr id 0) none none none s = some (.ref id 0 9 (some 9) 5):=by
 have h1:und Tryz.ty 223 = some (.array 9 5):=by kernel_rfl
 have h2:lay Tryz.ty 5 = some (1,false):=by kernel_rfl
 simp [slc,sliceA,h1,h2,hs,hc,bounds,optI]
theorem l112 (Q:AV→St→Prop) (N:Nat) (e':TypeId) (r:List UInt8) (hQ:∀ s,Q (.str r) s):∀ (i n:Nat) (done:List UInt8) (s:St),n < 2 ^ 64→done.length + i = 9→r = nineGo i n ++ done →
  s.h N = some (.cells ((List.replicate i (0:UInt8) ++ done).map byt) e' true true)→f112l1 Q (i + 1) (.int .u64 n) (.ptr N 0) (.int .i64 ((i:Int) - 1)) s:=by
 intro i
 induction i with
 | zero =>
  intro n done s hn hd hr hs
  show f112l1s Q (f112l1 Q 0) _ _ _ s
  simp only [nineGo,List.nil_append] at hr
  subst hr
  simp only [List.replicate_zero,List.nil_append] at hs
  have h9:=slc223 N (Ai.adv s 5) _ _ _ _ (by rw [adv_h]; exact hs) (by rw [List.length_map]; omega)
  have hcv:=str_ref (pre:=[]) (post:=[]) (off:=0) (n:=9) (cp:=some 9) (e:=5) (s:=Ai.adv s 5) (id:=N) (bs:=r) (by rw [adv_h,List.nil_append,List.append_nil]; exact hs) rfl (by omega)
  simp only [f112l1s,show decide (((0:Nat):Int) - 1 ≥ 0) = false from rfl,f112j1,wx,wy,Nat.reduceAdd,Nat.reduceEqDiff,reduceCtorEq,h9,hcv]
  exact hQ _
 | succ i ih =>
  intro n done s hn hd hr hs
  show f112l1s Q (f112l1 Q (i + 1)) _ _ _ s
  have h2:((i + 1:Nat):Int) - 1 = (i:Int):=by omega
  have h1:decide ((i:Int) ≥ 0) = true:=by simp
  have h3:IntKind.i64.wrap ((i:Int) - 1) = (i:Int) - 1:=IntWalk.i64_in _ (by omega)
  have hrem:bn .rem 159 (.int .u64 (n:Int)) (.int .u64 10) = some (.int .u64 ((n % 10:Nat):Int)):=bin_rem (b:=10) (by decide)
  have hquo:bn .quo 159 (.int .u64 (n:Int)) (.int .u64 10) = some (.int .u64 (IntKind.u64.wrap ((n / 10:Nat):Int))):=bin_quo (b:=10) (by decide)
  rw [p64] at hn
  rw [IntWalk.u64_in _ (by omega)] at hquo
  have hix:ixA 9 1 (.ptr N 0) (.int .i64 (i:Int)) = some (.ptr N i):=by
   have h8:i < 9:=by omega
   have h9:(i:Int) < 9:=by omega
   simp [ixA,asI,idx,h8,h9,shiftP]
  have hw:IntKind.u8.wrap (IntKind.u64.wrap (48 + ((n % 10:Nat):Int))) = ((UInt8.ofNat (48 + n % 10)).toNat:Int):=by
   rw [IntWalk.u64_in _ (by omega),IntWalk.u8_in _ (by omega)]
   simp
   omega
  have hset:((List.replicate (i + 1) (0:UInt8) ++ done).map byt).set i (byt (UInt8.ofNat (48 + n % 10))) = (List.replicate i (0:UInt8) ++ (UInt8.ofNat (48 + n % 10) :: done)).map byt:=by
   have:=set_mid (a:=(List.replicate i (0:UInt8)).map byt) (x:=byt 0) (v:=byt (UInt8.ofNat (48 + n % 10))) (b:=done.map byt)
   rw [List.length_map,List.length_replicate] at this
   rw [List.replicate_succ']
   simp only [List.append_assoc,List.singleton_append,List.map_append,List.map_cons]
   exact this
  simp only [h2,f112l1s,h1,hrem,hquo,cf159_5,hw,hix,wx,wy,Nat.reduceAdd,Nat.reduceEqDiff,reduceCtorEq]
  rw [show AV.int .u8 ((UInt8.ofNat (48 + n % 10)).toNat:Int) = byt (UInt8.ofNat (48 + n % 10)) from rfl,sto_c (by rw [adv_h]; exact hs) (by simp; omega) rfl rfl,hset]
  simp only [wx,wy,Nat.reduceAdd,Nat.reduceEqDiff,reduceCtorEq,f112j2,h3]
  refine ih (n / 10) (UInt8.ofNat (48 + n % 10) :: done) _ (by rw [p64]; omega) (by simp; omega) (by rw [hr]; simp [nineGo]) (by rw [adv_h,st_same])
theorem c112 (n:Nat) (hn:n < 2 ^ 64):PureC Tryz.env 112 [.int .u64 n] (.str (nineGo 9 n)):=by
 refine pure_q (f112_run _ _ ?_)
 unfold f112
 simp only [zf223,wx,wy,Nat.reduceAdd,Nat.reduceEqDiff,reduceCtorEq]
 refine ⟨10,l112 (PureQ (.str (nineGo 9 n))) (St.empty.nx + 1) 223 (nineGo 9 n) (fun s=>pureQ_closed rfl) 9 n [] _ hn rfl (by simp) (by rw [adv_h,st_same]; rfl)⟩
def textGo:Nat→List Nat→List UInt8→List UInt8
 | 0,_,s=>s
 | f + 1,a,s=>match a with
  | []=>s
  | x :: t=>textGo f (normM (smallM 1000000000 (x :: t)).1) (nineGo 9 (smallM 1000000000 (x :: t)).2 ++ s)
def textM (a:List Nat):List UInt8:=let t:=(textGo (val a) (normM a) []).dropWhile (· == 48); if t = [] then [48] else t
theorem l159 (c:UInt8) (Q:AV→St→Prop):∀ (x:List UInt8) (s:St),x.length≤2 ^ 60→(∀ s,Q (.str (x.dropWhile (· == c))) s)→f159l1 Q (x.length + 1) (.str x) (.int .u8 c.toNat) s:=by
 intro x
 induction x with
 | nil =>
  intro s _ hQ
  show f159l1s Q (f159l1 Q 0) _ _ s
  simp only [f159l1s,ln9t,List.length_nil,show decide (((0:Nat):Int) > 0) = false from rfl,f159j1,wx,wy,Nat.reduceAdd,Nat.reduceEqDiff,reduceCtorEq]
  exact hQ _
 | cons b x ih =>
  intro s hx hQ
  show f159l1s Q (f159l1 Q (x.length + 1)) _ _ s
  have h1:decide ((((b :: x).length:Nat):Int) > 0) = true:=by simp
  have h2:ixa 9 (.str (b :: x)) (.int .i64 0) = some (.int .u8 b.toNat):=ixa_str (i:=0) .i64 rfl
  have h3:∀ s,slc 9 (.str (b :: x)) (some (.int .i64 1)) none none s = some (.str x):=fun s=>slc_lo (n:=1) .i64 (by simp)
  simp only [f159l1s,ln9t,h1,h2,h3,wx,wy,Nat.reduceAdd,Nat.reduceEqDiff,reduceCtorEq]
  have e:((b.toNat:Int) == (c.toNat:Int)) = (b == c):=by
   rw [Bool.eq_iff_iff,beq_iff_eq,beq_iff_eq]
   constructor
   ·intro h; exact UInt8.toNat_inj.1 (by omega)
   ·intro h; rw [h]
  cases h:(b == c) with
  | true =>
   rw [h] at e
   simp only [e,wx,wy,Nat.reduceAdd,Nat.reduceEqDiff,reduceCtorEq]
   refine ih _ (by simp at hx; omega) fun s=>?_
   have:=hQ s
   rw [List.dropWhile_cons,h,if_pos rfl] at this
   exact this
  | false =>
   rw [h] at e
   simp only [e,f159j1,wx,wy,Nat.reduceAdd,Nat.reduceEqDiff,reduceCtorEq]
   have:=hQ (Ai.adv s 11)
   rw [List.dropWhile_cons,h] at this
   exact this
theorem c159 (x:List UInt8) (c:UInt8) (hx:x.length≤2 ^ 60):PureC Tryz.env 159 [.str x,.int .u8 c.toNat] (.str (x.dropWhile (· == c))):=by
 refine pure_q (f159_run _ _ _ ?_)
 unfold f159
 exact ⟨x.length + 1,l159 c _ x _ hx fun s=>pureQ_closed rfl⟩
theorem c113 (x:List UInt8) (c:UInt8) (hx:x.length≤2 ^ 60) (hc:c.toNat < 128):PureC Tryz.env 113 [.str x,.str [c]] (.str (x.dropWhile (· == c))):=by
 refine pure_q (f113_run _ _ _ ?_)
 unfold f113
 have h1:ixa 9 (.str [c]) (.int .i64 0) = some (.int .u8 c.toNat):=ixa_str (i:=0) .i64 rfl
 have h2:decide ((c.toNat:Int) < 128) = true:=by simp; omega
 cases h:(x == []) with
 | true =>
  have:x = []:=by simpa using h
  subst this
  simp only [h,wx,wy,Nat.reduceAdd,Nat.reduceEqDiff,reduceCtorEq]
  exact pureQ_closed rfl
 | false =>
  simp only [h,ln9t,List.length_cons,List.length_nil,show ((((0 + 1:Nat):Nat):Int) == 1) = true from rfl,show (([c]:List UInt8) == []) = false from rfl,h1,h2,wx,wy,Nat.reduceAdd,Nat.reduceEqDiff,reduceCtorEq]
  refine callPu (c159 x c hx) (by simp [AV.closed]) ?_
  exact pureQ_closed rfl
theorem text_len:∀ (f k:Nat) (a:List Nat) (s:List UInt8),limbs a→(val a = 0→a = [])→val a < 1000000000 ^ k→(textGo f a s).length≤s.length + 9 * k:=by
 intro f
 induction f with
 | zero=>intro k a s _ _ _; exact Nat.le_add_right ..
 | succ f ih =>
  intro k a s hl h0 hv
  match a,hl,h0,hv with
  | [],_,_,_=>exact Nat.le_add_right ..
  | x :: t,hl,h0,hv =>
   simp only [textGo]
   generalize hb:x :: t = b at *
   cases k with
   | zero =>
    have:val b = 0:=by simpa using hv
    rw [h0 this] at hb; cases hb
   | succ k =>
    have hsl:=small_limbs 1000000000 (by decide) b hl
    have hsv:=small_val 1000000000 (by decide) b
    have hm:=small_lt 1000000000 (by decide) b
    have hv':val (normM (smallM 1000000000 b).1) < 1000000000 ^ k:=by
     rw [val_norm]
     rw [Nat.pow_succ] at hv
     refine Nat.lt_of_mul_lt_mul_right (a:=1000000000) ?_
     exact Nat.lt_of_le_of_lt (by omega) hv
    have:=ih k (normM (smallM 1000000000 b).1) (nineGo 9 (smallM 1000000000 b).2 ++ s) (norm_limbs hsl) (norm_zero hsl).1 hv'
    rw [List.length_append,nine_len] at this
    omega
theorem val_ten (a:List Nat) (h:limbs a):val a < 1000000000 ^ (2 * a.length):=by
 refine Nat.lt_of_lt_of_le (val_lt a h) ?_
 unfold pw
 rw [Nat.pow_mul]
 exact Nat.pow_le_pow_left (by decide) _
theorem l59 (Q:AV→St→Prop) (w:List UInt8) (hQ:∀ s,Q (.str (if w.dropWhile (· == 48) = [] then [48] else w.dropWhile (· == 48))) s) (hw:w.length≤2 ^ 40):∀ (f k:Nat) (a:List Nat) (acc:List UInt8) (s:St),limbs a→a.length≤2 ^ 30→(val a = 0→a = [])→val a≤f→val a < 1000000000 ^ k→k≤2 ^ 33→acc.length + 9 * k≤2 ^ 40→textGo f a acc = w →
  f59l1 Q (f + 1) (nsA a) (.str acc) s:=by
 have hj:∀ s,f59j1 Q (.str w) s:=fun s=>by
  unfold f59j1
  refine callPu (c113 w 48 (by omega) (by decide)) (by simp [AV.closed]) ?_
  have:=hQ
  cases h:w.dropWhile (· == 48) with
  | nil=>rw [h] at this; simp only [show (([]:List UInt8) == []) = true from rfl,wx,wy,Nat.reduceAdd,Nat.reduceEqDiff,reduceCtorEq]; exact this _
  | cons x t=>rw [h] at this; simp only [show (x :: t == []) = false from rfl,wx,wy,Nat.reduceAdd,Nat.reduceEqDiff,reduceCtorEq]; exact this _
 intro f
 induction f with
 | zero =>
  intro k a acc s hl ha h0 hf hk hkk hacc hg
  have:=h0 (by omega)
  subst this
  have:acc = w:=hg
  subst this
  show f59l1s Q (f59l1 Q 0) _ _ s
  simp only [f59l1s,nsA,ln22s,List.map_nil,List.length_nil,show decide (((0:Nat):Int) > 0) = false from rfl,wx,wy,Nat.reduceAdd,Nat.reduceEqDiff,reduceCtorEq]
  exact hj _
 | succ f ih =>
  intro k a acc s hl ha h0 hf hk hkk hacc hg
  show f59l1s Q (f59l1 Q (f + 1)) _ _ s
  cases ha0:a with
  | nil =>
   subst ha0
   have:acc = w:=hg
   subst this
   simp only [f59l1s,nsA,ln22s,List.map_nil,List.length_nil,show decide (((0:Nat):Int) > 0) = false from rfl,wx,wy,Nat.reduceAdd,Nat.reduceEqDiff,reduceCtorEq]
   exact hj _
  | cons x t =>
   have hg':textGo f (normM (smallM 1000000000 a).1) (nineGo 9 (smallM 1000000000 a).2 ++ acc) = w:=by rw [ha0] at hg ⊢; exact hg
   have hpos:0 < val a:=by
    rcases Nat.eq_zero_or_pos (val a) with h | h
    ·rw [h0 h] at ha0; cases ha0
    ·exact h
   rw [← ha0]
   have h1:decide (((a.length:Nat):Int) > 0) = true:=by rw [ha0]; simp
   cases k with
   | zero=>exfalso; have:val a < 1:=by simpa using hk
           omega
   | succ k =>
    have hsl:=small_limbs 1000000000 (by decide) a hl
    have hsv:=small_val 1000000000 (by decide) a
    have hm:=small_lt 1000000000 (by decide) a
    have hnl:(normM (smallM 1000000000 a).1).length≤a.length:=by have:=norm_len (smallM 1000000000 a).1; rw [small_len] at this; exact this
    have hv':val (normM (smallM 1000000000 a).1) < 1000000000 ^ k:=by
     rw [val_norm]
     rw [Nat.pow_succ] at hk
     refine Nat.lt_of_mul_lt_mul_right (a:=1000000000) ?_
     exact Nat.lt_of_le_of_lt (by omega) hk
    have hv2:val (normM (smallM 1000000000 a).1)≤f:=by rw [val_norm]; omega
    have h111:=c111 a hl ha 1000000000 (by decide) (by decide)
    have h112:=c112 (smallM 1000000000 a).2 (Nat.lt_trans hm (by decide))
    have hadd:bn .add 9 (.str (nineGo 9 (smallM 1000000000 a).2)) (.str acc) = some (.str (nineGo 9 (smallM 1000000000 a).2 ++ acc)):=add_str (by rw [nine_len]; omega)
    simp only [f59l1s,nsA,ln22s,List.length_map,h1,wx,wy,Nat.reduceAdd,Nat.reduceEqDiff,reduceCtorEq]
    refine callPu h111 (by simp [AV.closed,us_closed]) ?_
    simp only [wx,wy,Nat.reduceAdd,Nat.reduceEqDiff,reduceCtorEq]
    refine callPu h112 (by simp [AV.closed]) ?_
    simp only [hadd,wx,wy,Nat.reduceAdd,Nat.reduceEqDiff,reduceCtorEq]
    exact ih k _ _ _ (norm_limbs hsl) (by omega) (norm_zero hsl).1 hv2 hv' (by omega) (by rw [List.length_append,nine_len]; omega) hg'
theorem c59 (a:List Nat) (hl:limbs a) (ha:a.length≤2 ^ 30):PureC Tryz.env 59 [nsA a] (.str (textM a)):=by
 refine pure_q (f59_run _ _ ?_)
 unfold f59
 have hnl:=norm_len a
 have hvt:=val_ten (normM a) (norm_limbs hl)
 have hlen:=text_len (val a) (2 * (normM a).length) (normM a) [] (norm_limbs hl) (norm_zero hl).1 hvt
 rw [List.length_nil] at hlen
 refine callPu (c110 a ha) (by simp [ns_closed]) ?_
 refine ⟨val a + 1,l59 _ (textGo (val a) (normM a) []) (fun s=>pureQ_closed rfl) (by omega) (val a) (2 * (normM a).length) (normM a) [] _ (norm_limbs hl) (by omega) (norm_zero hl).1 (by rw [val_norm]; exact Nat.le_refl _) hvt (by omega) (by simp only [List.length_nil]; omega) rfl⟩
end
noncomputable section
def rnA (r:Int × Int):AV:=.agg [.int .i64 r.1,.int .i64 r.2]
def inA (n:Int):AV:=.int .i64 n
def point (c:Int):Bool:=decide (c ≥ 0) && decide (c≤196607)
theorem c181 (c:Int):PureC Tryz.env 181 [.int .i64 c] (.bool (point c)):=by
 refine pure_closed rfl (f181_run _ _ ?_)
 unfold f181 point
 cases h:decide (c ≥ 0) with
 | false=>simp only [h,wz,wy,Nat.reduceAdd]; rfl
 | true =>
  simp only [h,wz,wy,Nat.reduceAdd]; rfl
def bad (r:Int × Int):Bool:=!(point r.1) || decide (r.2 < 1)
theorem rn_part (d:Int × Int):Ai.part 2 true 0 (rnA d).cells = some (rnA d):=rfl
theorem rn0 (d:Int × Int):(rnA d).cells[0]? = some (AV.int .i64 d.1):=rfl
theorem rn1 (d:Int × Int):(rnA d).cells[1]? = some (AV.int .i64 d.2):=rfl
end
noncomputable section
def hexN (c:Nat):Int:=if 48≤c∧c≤57 then (c:Int) - 48 else if 97≤c∧c≤102 then (c:Int) - 87 else if 65≤c∧c≤70 then (c:Int) - 55 else -1
theorem t246:(List.range 256).map (fun c:Nat=>pureF 246 [.int .u8 (c:Int)]) = (List.range 256).map fun c:Nat=>some (.int .i64 (hexN c)):=by kernel_rfl
theorem c246 (c:UInt8):PureC Tryz.env 246 [.int .u8 c.toNat] (.int .i64 (hexN c.toNat)):=pure_table (a:=fun c=>.int .u8 (c:Int)) t246 (by have:=c.toNat_lt; omega)
def numGo:List UInt8→Int→Int
 | [],n=>cond (decide (n > 196607)) (-1) n
 | c :: x,n=>cond (decide (hexN c.toNat < 0)) (-1) (numGo x (IntKind.i64.wrap (IntKind.i64.wrap (16 * n) + hexN c.toNat)))
def numM (x:List UInt8):Int:=cond (x == []) (-1) (numGo x 0)
theorem l217 (x:List UInt8) (hx:x.length≤maxLen) (Q:AV→St→Prop) (r:Int) (hQ:∀ s,Q (.int .i64 r) s):∀ (m i:Nat) (n:Int) (s:St),i + m = x.length→r = cond (x == []) (-1) (numGo (x.drop i) n)→f217l1 Q (m + 1) (.str x) (.int .i64 n) (.int .i64 x.length) (.int .i64 i) s:=by
 intro m
 induction m with
 | zero =>
  intro i n s hi hr
  show f217l1s Q (f217l1 Q 0) _ _ _ _ s
  rw [List.drop_eq_nil_of_le (by omega)] at hr
  simp only [f217l1s,f217j1,Int.ofNat_lt,show ¬ (i < x.length) by omega,decide_false,wx,wy,Nat.reduceAdd,Nat.reduceEqDiff,reduceCtorEq]
  have hq:=hQ
  cases h1:(x == []) with
  | true=>simp only [h1,cond_true] at hr; subst hr; simp only [wx,wy,Nat.reduceAdd,Nat.reduceEqDiff,reduceCtorEq]; exact hQ _
  | false =>
   simp only [h1,cond_false,numGo] at hr
   cases h2:decide (n > 196607) with
   | true=>rw [h2] at hr; simp only [wx,wy,Nat.reduceAdd,Nat.reduceEqDiff,reduceCtorEq,h2]; subst hr; exact hQ _
   | false=>rw [h2] at hr; simp only [wx,wy,Nat.reduceAdd,Nat.reduceEqDiff,reduceCtorEq,h2]; subst hr; exact hQ _
 | succ m ih =>
  intro i n s hi hr
  obtain ⟨c,hc⟩:∃ c,x[i]? = some c:=⟨_,List.getElem?_eq_getElem (by omega)⟩
  have hlt:i < x.length:=by omega
  show f217l1s Q (f217l1 Q (m + 1)) _ _ _ _ s
  have hne:(x == []) = false:=by cases x with | nil=>simp at hlt | cons _ _=>rfl
  rw [get_drop x i c hc,numGo,hne] at hr
  simp only [f217l1s,Int.ofNat_lt,hlt,decide_true,ixa_str _ hc,wx,wy,Nat.reduceAdd,Nat.reduceEqDiff,reduceCtorEq]
  refine callPu (c246 c) (by simp [AV.closed]) ?_
  cases h:decide (hexN c.toNat < 0) with
  | true=>rw [h] at hr; simp only [h,wx,wy,Nat.reduceAdd,Nat.reduceEqDiff,reduceCtorEq]; subst hr; exact hQ _
  | false =>
   rw [h] at hr
   simp only [h,f217j2,wx,wy,Nat.reduceAdd,Nat.reduceEqDiff,reduceCtorEq]
   rw [wrap_len i _ hlt hx]
   exact ih (i + 1) _ _ (by omega) (by rw [hne]; exact hr)
theorem c217 (x:List UInt8) (hx:x.length≤maxLen):PureC Tryz.env 217 [.str x] (.int .i64 (numM x)):=by
 refine pure_closed rfl (f217_run _ _ ?_)
 unfold f217
 simp only [ln9t,wx,wy,Nat.reduceAdd,Nat.reduceEqDiff,reduceCtorEq]
 exact ⟨_,l217 x hx _ _ (fun _=>rfl) x.length 0 0 _ (by omega) rfl⟩
theorem c244 (x p:List UInt8):PureC Tryz.env 244 [.str x,.str p] (.tup [.str (cond (pre p x) (x.drop p.length) x),.bool (pre p x)]):=by
 refine pure_closed rfl (f244_run _ _ _ ?_)
 unfold f244
 refine callPu (c123 x p) (by simp [AV.closed]) ?_
 cases h:pre p x with
 | false=>simp only [wx,wy,Nat.reduceAdd,Nat.reduceEqDiff,reduceCtorEq]
 | true =>
  have hl:p.length≤x.length:=by simp only [pre,Bool.and_eq_true,decide_eq_true_eq] at h; exact h.1
  simp only [ln9t,slc_lo _ hl,wx,wy,Nat.reduceAdd,Nat.reduceEqDiff,reduceCtorEq]
theorem c215 (x p:List UInt8):PureC Tryz.env 215 [.str x,.str p] (.tup [.str (cond (pre p x) (x.drop p.length) x),.bool (pre p x)]):=by
 refine pure_closed rfl (f215_run _ _ _ ?_)
 unfold f215
 refine callPu (c244 x p) (by simp [AV.closed]) ?_
 simp only [wx,wy,Nat.reduceAdd,Nat.reduceEqDiff,reduceCtorEq]
theorem c285 (x:List UInt8) (c:Int):PureC Tryz.env 285 [.str x,.int .u8 c] (.int .i64 (idxB (c.toNat % 256) x 0)) :=
 pure_closed rfl ⟨_,_,prim_f (g:=indexByteA) (by kernel_rfl) rfl,rfl⟩
theorem idxB_is (c:Nat):∀ (x:List UInt8) (k:Nat),idxB c x k = -1∨∃ i:Nat,idxB c x k = ((k + i:Nat):Int)∧i < x.length:=by
 intro x
 induction x with
 | nil=>intro k; exact .inl rfl
 | cons b x ih =>
  intro k
  simp only [idxB]
  cases Nat.beq b.toNat c with
  | true=>exact .inr ⟨0,by simp,by simp⟩
  | false =>
   rcases ih (k + 1) with h | ⟨i,h,hi⟩
   ·exact .inl h
   ·exact .inr ⟨i + 1,by simp only [cond_false,h]; congr 1; omega,by simp; omega⟩
theorem c269 (x:List UInt8) (c:Int):PureC Tryz.env 269 [.str x,.int .u8 c] (.int .i64 (idxB (c.toNat % 256) x 0)):=by
 refine pure_closed rfl (f269_run _ _ _ ?_)
 unfold f269
 refine callPu (c285 x c) (by simp [AV.closed]) ?_
 rfl
theorem c268 (x:List UInt8) (d:UInt8):PureC Tryz.env 268 [.str x,.str [d]] (.int .i64 (idxB d.toNat x 0)):=by
 refine pure_closed rfl (f268_run _ _ _ ?_)
 unfold f268
 have h:d.toNat % 256 = d.toNat:=Nat.mod_eq_of_lt d.toNat_lt
 simp only [ln9t,List.length_cons,List.length_nil,wx,wy,Nat.reduceAdd,Nat.reduceEqDiff,reduceCtorEq,show ((((0:Nat) + 1:Nat):Int) == 0) = false from rfl,show ((((0:Nat) + 1:Nat):Int) == 1) = true from rfl]
 have hix:ixa 9 (.str [d]) (.int .i64 0) = some (.int .u8 d.toNat):=ixa_str (x:=[d]) (i:=0) .i64 rfl
 simp only [hix,wx,wy,Nat.reduceAdd,Nat.reduceEqDiff,reduceCtorEq]
 cases hh:([d] == x) with
 | true =>
  have:[d] = x:=by simpa using hh
  subst this
  simp only [hh,wx,wy,Nat.reduceAdd,Nat.reduceEqDiff,reduceCtorEq]
  simp [idxB]
 | false =>
  simp only [hh,wx,wy,Nat.reduceAdd,Nat.reduceEqDiff,reduceCtorEq]
  have hk:=c269 x d.toNat
  simp only [Int.toNat_natCast,h] at hk
  refine callPu hk (by simp [AV.closed]) ?_
  rfl
def cutM (d:UInt8) (x:List UInt8):AV:=cond (decide (idxB d.toNat x 0 ≥ 0)) (.tup [.str (x.take (idxB d.toNat x 0).toNat),.str (x.drop ((idxB d.toNat x 0).toNat + 1)),.bool true]) (.tup [.str x,.str [],.bool false])
theorem cut_closed (d:UInt8) (x:List UInt8):(cutM d x).closed = true:=by
 unfold cutM
 cases decide (idxB d.toNat x 0 ≥ 0) <;> rfl
theorem c245 (x:List UInt8) (d:UInt8) (hx:x.length < 2 ^ 60):PureC Tryz.env 245 [.str x,.str [d]] (cutM d x):=by
 refine pure_closed (cut_closed d x) (f245_run _ _ _ ?_)
 unfold f245
 refine callPu (c268 x d) (by simp [AV.closed]) ?_
 unfold cutM
 rcases idxB_is d.toNat x 0 with h | ⟨i,h,hi⟩
 ·simp only [h,show decide ((-1:Int) ≥ 0) = false from rfl,wx,wy,Nat.reduceAdd,Nat.reduceEqDiff,reduceCtorEq]
 ·have hw:IntKind.i64.wrap ((i:Int) + 1) = ((i + 1:Nat):Int):=by rw [IntWalk.i64_in _ (by omega)]; rfl
  have hge:decide (((0 + i:Nat):Int) ≥ 0) = true:=by simp
  simp only [h,hge,ln9t,List.length_cons,List.length_nil,wx,wy,Nat.reduceAdd,Nat.reduceEqDiff,reduceCtorEq]
  rw [show ((0 + i:Nat):Int) = (i:Int) by simp,slc_hi _ (by omega),show (((0 + 1:Nat):Nat):Int) = 1 from rfl]
  simp only [hw,slc_lo _ (show i + 1≤x.length by omega),wx,wy,Nat.reduceAdd,Nat.reduceEqDiff,reduceCtorEq,Int.toNat_natCast]
theorem c216 (x:List UInt8) (d:UInt8) (hx:x.length < 2 ^ 60):PureC Tryz.env 216 [.str x,.str [d]] (cutM d x):=by
 refine pure_closed (cut_closed d x) (f216_run _ _ _ ?_)
 unfold f216
 refine callPu (c245 x d hx) (by simp [AV.closed]) ?_
 unfold cutM
 cases decide (idxB d.toNat x 0 ≥ 0) <;> simp only [wx,wy,Nat.reduceAdd,Nat.reduceEqDiff,reduceCtorEq]
def escM (x:List UInt8):Int × Int :=
 cond (pre [92,117] x)
  (cond (pre [123] (x.drop 2))
   (cond (decide (idxB 125 (x.drop 3) 0 ≥ 0) && !decide (idxB 125 (x.drop 3) 0 > 5)) (numM ((x.drop 3).take (idxB 125 (x.drop 3) 0).toNat),idxB 125 (x.drop 3) 0 + 4) (-1,0))
   (cond (decide ((x.drop 2).length < 4)) (-1,0) (numM ((x.drop 2).take 4),6)))
  (-1,0)
theorem c182 (x:List UInt8) (hx:x.length < 2 ^ 60):PureC Tryz.env 182 [.str x] (.tup [.int .i64 (escM x).1,.int .i64 (escM x).2]):=by
 refine pure_closed rfl (f182_run _ _ ?_)
 unfold f182
 refine callPu (c215 x [92,117]) (by simp [AV.closed]) ?_
 cases h:pre [92,117] x with
 | false=>simp only [escM,h,wx,wy,Nat.reduceAdd,Nat.reduceEqDiff,reduceCtorEq]
 | true =>
  simp only [h,wx,wy,Nat.reduceAdd,Nat.reduceEqDiff,reduceCtorEq,List.length_cons,List.length_nil,Nat.reduceAdd]
  refine callPu (c215 _ [123]) (by simp [AV.closed]) ?_
  cases h2:pre [123] (x.drop 2) with
  | true =>
   simp only [h2,wx,wy,Nat.reduceAdd,Nat.reduceEqDiff,reduceCtorEq,List.length_cons,List.length_nil,Nat.reduceAdd,List.drop_drop]
   have hm:maxLen = 9223372036854775807:=rfl
   refine callPu (c216 (x.drop 3) 125 (by simp only [List.length_drop]; omega)) (by simp [AV.closed]) ?_
   have e:escM x = cond (decide (idxB 125 (x.drop 3) 0 ≥ 0) && !decide (idxB 125 (x.drop 3) 0 > 5)) (numM ((x.drop 3).take (idxB 125 (x.drop 3) 0).toNat),idxB 125 (x.drop 3) 0 + 4) (-1,0):=by simp only [escM,h,h2,cond_true]
   rw [e]
   unfold cutM
   show _
   rw [show (125:UInt8).toNat = 125 from rfl]
   rcases idxB_is 125 (x.drop 3) 0 with hi | ⟨i,hi,hlt⟩
   ·simp only [hi,show decide ((-1:Int) ≥ 0) = false from rfl,wx,wy,Nat.reduceAdd,Nat.reduceEqDiff,reduceCtorEq]
   ·rw [Nat.zero_add] at hi
    have hge:decide ((i:Int) ≥ 0) = true:=by simp
    have hll:((x.drop 3).take i).length = i:=by rw [List.length_take]; omega
    cases h3:decide (((i:Nat):Int) > 5) with
    | true =>
     simp only [hi,hge,ln9t,Int.toNat_natCast,hll,h3,wx,wy,Nat.reduceAdd,Nat.reduceEqDiff,reduceCtorEq]
    | false =>
     simp only [hi,hge,ln9t,Int.toNat_natCast,hll,h3,wx,wy,Nat.reduceAdd,Nat.reduceEqDiff,reduceCtorEq]
     refine callPu (c217 _ (by rw [List.length_take,List.length_drop]; omega)) (by simp [AV.closed]) ?_
     show AV.tup [_,.int .i64 (IntKind.i64.wrap ((i:Int) + 4))] = _
     rw [IntWalk.i64_in _ (by have:=of_decide_eq_false h3; omega)]
  | false =>
   have e:escM x = cond (decide ((x.drop 2).length < 4)) (-1,0) (numM ((x.drop 2).take 4),6):=by simp only [escM,h,h2,cond_true,cond_false]
   rw [e]
   simp only [h2,ln9t,wx,wy,Nat.reduceAdd,Nat.reduceEqDiff,reduceCtorEq]
   have hc:decide (((x.drop 2).length:Int) < 4) = decide ((x.drop 2).length < 4):=by congr 1; simp; omega
   rw [hc]
   cases h3:decide ((x.drop 2).length < 4) with
   | true=>simp only [wx,wy,Nat.reduceAdd,Nat.reduceEqDiff,reduceCtorEq]
   | false =>
    have h4:4≤(x.drop 2).length:=by have:=of_decide_eq_false h3; omega
    have hs:∀ s,slc 9 (.str (x.drop 2)) none (some (.int .i64 4)) none s = some (.str ((x.drop 2).take 4)):=fun s=>slc_hi (s:=s) (x:=x.drop 2) (n:=4) .i64 h4
    simp only [hs,wx,wy,Nat.reduceAdd,Nat.reduceEqDiff,reduceCtorEq]
    refine callPu (c217 _ (by have hm:maxLen = 9223372036854775807:=rfl; rw [List.length_take]; omega)) (by simp [AV.closed]) ?_
    rfl
theorem esc_len {x:List UInt8} (h:0≤(escM x).1):1≤(escM x).2∧(escM x).2≤x.length:=by
 unfold escM at h ⊢
 cases h1:pre [92,117] x with
 | false=>rw [h1] at h; simp only [cond_false] at h; omega
 | true =>
  rw [h1] at h
  simp only [cond_true] at h ⊢
  have hl:2≤x.length:=by simp only [pre,Bool.and_eq_true,decide_eq_true_eq] at h1; exact h1.1
  cases h2:pre [123] (x.drop 2) with
  | true =>
   rw [h2] at h
   simp only [cond_true] at h ⊢
   have hl2:1≤(x.drop 2).length:=by simp only [pre,Bool.and_eq_true,decide_eq_true_eq] at h2; exact h2.1
   rcases idxB_is 125 (x.drop 3) 0 with hi | ⟨i,hi,hlt⟩
   ·rw [hi] at h; simp only [show decide ((-1:Int) ≥ 0) = false from rfl,Bool.false_and,cond_false] at h; omega
   ·rw [Nat.zero_add] at hi
    rw [List.length_drop] at hlt hl2
    rw [hi] at h ⊢
    cases h3:(decide ((i:Int) ≥ 0) && !decide ((i:Int) > 5)) with
    | false=>rw [h3] at h; simp only [cond_false] at h; omega
    | true=>simp only [cond_true]; omega
  | false =>
   rw [h2] at h
   simp only [cond_false] at h ⊢
   cases h3:decide ((x.drop 2).length < 4) with
   | true=>rw [h3] at h; simp only [cond_true] at h; omega
   | false =>
    have:=of_decide_eq_false h3
    rw [List.length_drop] at this
    simp only [cond_false]; omega
def ptsGo:Nat→List UInt8→List Int
 | 0,_=>[]
 | n + 1,x=>match x with
  | []=>[]
  | c :: r=>cond (decide ((escM (c :: r)).1 < 0)) ((c.toNat:Int) :: ptsGo n r) ((escM (c :: r)).1 :: ptsGo n ((c :: r).drop (escM (c :: r)).2.toNat))
def ptsM (x:List UInt8):List Int:=ptsGo x.length x
theorem encIn:Enc inA 1:=⟨fun _=>rfl,fun _=>rfl⟩
theorem encRn:Enc rnA 2:=⟨fun _=>rfl,fun _=>rfl⟩
theorem l129 (x:List UInt8) (hx:x.length≤2 ^ 30) (Q:AV→St→Prop) (l:List Int) (hQ:∀ y s,Fresh s→Gw 3 1 0 s y (l.map inA)→Q y s):∀ (m i:Nat) (y:AV) (p:List Int) (s:St),x.length≤i + m→i≤x.length→p.length≤i→Fresh s→Gw 3 1 0 s y (p.map inA)→l = p ++ ptsGo m (x.drop i)→f129l1 Q (m + 1) (.str x) y (.int .i64 i) s:=by
 intro m
 have hx2:(2:Nat) ^ 30 = 1073741824:=rfl
 have fin:∀ i (y:AV) (p:List Int) (s:St) (ih1),i = x.length→Fresh s→Gw 3 1 0 s y (p.map inA)→l = p→f129l1s Q ih1 (.str x) y (.int .i64 i) s:=by
  intro i y p s ih1 hi fr g hl
  subst hi; subst hl
  simp only [f129l1s,f129j1,ln9t,ge_iff_le,Int.le_refl,decide_true,wx,wy,Nat.reduceAdd,Nat.reduceEqDiff,reduceCtorEq]
  exact hQ _ _ fr.adv g.adv
 induction m with
 | zero =>
  intro i y p s hm hi hp fr g hl
  exact fin i y p s _ (by omega) fr g (by rw [hl,ptsGo,List.append_nil])
 | succ m ih =>
  intro i y p s hm hi hp fr g hl
  show f129l1s Q (f129l1 Q (m + 1)) _ _ _ s
  by_cases hge:x.length≤i
  ·refine fin i y p s _ (by omega) fr g ?_
   rw [show i = x.length by omega,List.drop_length] at hl
   simpa [ptsGo] using hl
  ·have hge2:decide ((i:Int) ≥ (x.length:Int)) = false:=by simp; omega
   obtain ⟨c,hc⟩:∃ c,x[i]? = some c:=⟨_,List.getElem?_eq_getElem (by omega)⟩
   have hd:=get_drop x i c hc
   rw [hd,ptsGo] at hl
   simp only [f129l1s,ln9t,hge2,slc_lo _ (show i≤x.length by omega),wx,wy,Nat.reduceAdd,Nat.reduceEqDiff,reduceCtorEq]
   refine callPu (c182 (x.drop i) (by rw [List.length_drop]; omega)) (by simp [AV.closed]) ?_
   rw [← hd] at hl
   have bs:∀ v:Int,bsl 72 1 [(0,.int .i64 v)] = some (.sl true [inA v]):=fun v=>bsl_one tf72 (by decide) rfl rfl
   cases h:decide ((escM (x.drop i)).1 < 0) with
   | true =>
    rw [h] at hl
    simp only [h,wx,wy,Nat.reduceAdd,Nat.reduceEqDiff,reduceCtorEq,ixa_str _ hc,cf5_3,f129j2]
    rw [show IntKind.i64.wrap ((c.toNat:Nat):Int) = (c.toNat:Int) from IntWalk.i64_in _ (by have:=c.toNat_lt; omega),bs]
    simp only [wx,wy,Nat.reduceAdd,Nat.reduceEqDiff,reduceCtorEq]
    rw [app_map tf72 encIn g.adv (by omega) (by omega)]
    simp only [wx,wy,Nat.reduceAdd,Nat.reduceEqDiff,reduceCtorEq]
    rw [wrap_len i _ (show i < x.length by omega) (by have hm:maxLen = 9223372036854775807:=rfl; omega)]
    refine ih (i + 1) _ (p ++ [(c.toNat:Int)]) _ (by omega) (by omega) (by simp; omega) (fresh_app fr _ _ (by omega)) (gw_map1 encIn) ?_
    rw [hl]; simp only [cond_true,List.append_assoc,List.singleton_append]
   | false =>
    rw [h] at hl
    obtain ⟨h1,h2⟩:=esc_len (show 0≤(escM (x.drop i)).1 by have:=of_decide_eq_false h; omega)
    rw [List.length_drop] at h2
    simp only [h,wx,wy,Nat.reduceAdd,Nat.reduceEqDiff,reduceCtorEq,f129j2,bs]
    rw [app_map tf72 encIn g.adv (by omega) (by omega)]
    simp only [wx,wy,Nat.reduceAdd,Nat.reduceEqDiff,reduceCtorEq]
    obtain ⟨k,hk⟩:∃ k:Nat,(escM (x.drop i)).2 = (k:Int):=⟨(escM (x.drop i)).2.toNat,by omega⟩
    rw [hk] at h1 h2 hl ⊢
    rw [show IntKind.i64.wrap ((i:Int) + (k:Int)) = ((i + k:Nat):Int) by rw [IntWalk.i64_in _ (by omega)]; rfl]
    refine ih (i + k) _ (p ++ [(escM (x.drop i)).1]) _ (by omega) (by omega) (by simp; omega) (fresh_app fr _ _ (by omega)) (gw_map1 encIn) ?_
    rw [hl]; simp only [cond_false,List.append_assoc,List.singleton_append,Int.toNat_natCast,List.drop_drop]
theorem c129 (x:List UInt8) (hx:x.length≤2 ^ 30):PureC Tryz.env 129 [.str x] (.sl false ((ptsM x).map inA)):=by
 refine pure_q (f129_run _ _ ?_)
 unfold f129
 exact ⟨x.length + 1,l129 x hx _ (ptsM x) (fun y s fr g=>pureQ_of (pur_map1 tf72 g (fun _ _=>rfl) (fun _ _=>rfl) 11)) x.length 0 .nils [] _ (by omega) (by omega) (by simp) fresh_empty.adv gw_nil rfl⟩
def stepRun (out:List (Int × Int)) (c:Int):List (Int × Int):=match out.getLast? with
 | none=>out ++ [(c,1)]
 | some r=>cond (r.1 == c) (out.dropLast ++ [(r.1,IntKind.i64.wrap (r.2 + 1))]) (out ++ [(c,1)])
def runGo:List Int→List (Int × Int)→List (Int × Int) × Int
 | [],out=>cond (decide ((out.length:Int) > 65536)) ([],2) (out,0)
 | c :: l,out=>cond (point c) (runGo l (stepRun out c)) ([],1)
def rtA (r:List (Int × Int) × Int):AV:=.tup [.sl false (r.1.map rnA),.int .i64 r.2]
theorem stepRun_len (out:List (Int × Int)) (c:Int):(stepRun out c).length≤out.length + 1:=by
 unfold stepRun
 cases h:out.getLast? with
 | none=>simp
 | some r =>
  simp only
  cases (r.1 == c) <;> simp
theorem flat_snoc (o:List (Int × Int)) (r:Int × Int) (v:AV):(((o ++ [r]).map rnA).flatMap AV.cells).set (o.length * 2 + 1) v = ((o.map rnA).flatMap AV.cells) ++ [.int .i64 r.1,v]:=by
 have hl:((o.map rnA).flatMap AV.cells).length = o.length * 2:=by
  rw [flat_len (z:=2) (cells_map encRn.len encRn.ones o),List.length_map]
 rw [List.map_append,List.flatMap_append,List.set_append_right _ _ (by omega),hl]
 simp [rnA,AV.cells]
theorem l128 (l:List Int) (hl:l.length≤2 ^ 30) (Q:AV→St→Prop) (r:List (Int × Int) × Int) (hQ1:∀ s e,r = ([],e)→Q (.tup [.nils,.int .i64 e]) s) (hQ2:∀ y s out,Fresh s→Gw 109 2 0 s y (out.map rnA)→r = (out,0)→Q (.tup [y,.int .i64 0]) s) :
  ∀ (m i:Nat) (y:AV) (out:List (Int × Int)) (s:St),i + m = l.length→out.length≤i→Fresh s→Gw 109 2 0 s y (out.map rnA)→r = runGo (l.drop i) out→f128l1 Q (m + 1) y (.sl false (l.map inA)) (.int .i64 l.length) (.int .i64 i) s:=by
 intro m
 have hx2:(2:Nat) ^ 30 = 1073741824:=rfl
 induction m with
 | zero =>
  intro i y out s hi hp fr g hr
  show f128l1s Q (f128l1 Q 0) _ _ _ _ s
  rw [List.drop_eq_nil_of_le (by omega),runGo] at hr
  have hl25:=fun k=>ln25g (g.adv (n:=4)) k
  simp only [List.length_map] at hl25
  simp only [f128l1s,f128j1,Int.ofNat_lt,show ¬ (i < l.length) by omega,decide_false,hl25,wx,wy,Nat.reduceAdd,Nat.reduceEqDiff,reduceCtorEq]
  cases h:decide ((out.length:Int) > 65536) with
  | true=>rw [h] at hr; simp only [wx,wy,Nat.reduceAdd,Nat.reduceEqDiff,reduceCtorEq]; exact hQ1 _ 2 hr
  | false=>rw [h] at hr; simp only [wx,wy,Nat.reduceAdd,Nat.reduceEqDiff,reduceCtorEq]; exact hQ2 _ _ out fr.adv g.adv hr
 | succ m ih =>
  intro i y out s hi hp fr g hr
  show f128l1s Q (f128l1 Q (m + 1)) _ _ _ _ s
  obtain ⟨c,hc⟩:∃ c,l[i]? = some c:=⟨_,List.getElem?_eq_getElem (by omega)⟩
  have hlt:i < l.length:=by omega
  rw [get_drop l i c hc,runGo] at hr
  simp only [f128l1s,Int.ofNat_lt,hlt,decide_true,ix_map encIn false hc,wx,wy,Nat.reduceAdd,Nat.reduceEqDiff,reduceCtorEq]
  have hin:(inA c).cells[0]? = some (.int .i64 c):=rfl
  simp only [hin,wx,wy,Nat.reduceAdd,Nat.reduceEqDiff,reduceCtorEq]
  refine callPu (c181 c) (by simp [AV.closed]) ?_
  cases hp2:point c with
  | false=>rw [hp2] at hr; simp only [wx,wy,Nat.reduceAdd,Nat.reduceEqDiff,reduceCtorEq]; exact hQ1 _ 1 hr
  | true =>
   rw [hp2] at hr
   have hl25:=fun n k=>ln25g (g.adv (n:=n)) k
   simp only [List.length_map] at hl25
   have hw:IntKind.i64.wrap ((out.length:Int) - 1) = (out.length:Int) - 1:=IntWalk.i64_in _ (by omega)
   have hm:maxLen = 9223372036854775807:=rfl
   have bs:bsl 25 1 [(0,rnA (c,1))] = some (.sl true [rnA (c,1)]):=bsl_one tf25 (by decide) rfl rfl
   have bl:bld 109 [(0,.int .i64 c),(1,.int .i64 1)] = some (rnA (c,1)):=by rw [bf109]; rfl
   have hnew:∀ q,Fresh q→Gw 109 2 0 q y (out.map rnA)→q.nx = s.nx→stepRun out c = out ++ [(c,1)]→∀ k,f128j2 Q (f128l1 Q (m + 1)) (.int .i64 i) (.ref (s.nx + k) 0 (out.length + 1) none 109) (.sl false (l.map inA)) (.int .i64 l.length) (Ai.adv ((q.drop (idOf y)).set (s.nx + k) (some (.cells (((out ++ [(c,1)]).map rnA).flatMap AV.cells) 109 false true))) (k + 2)):=by
    intro q fq gq hq hst k
    simp only [f128j2,wx,wy,Nat.reduceAdd,Nat.reduceEqDiff,reduceCtorEq]
    rw [wrap_len i _ hlt (by omega)]
    exact ih (i + 1) _ (out ++ [(c,1)]) _ (by omega) (by simp; omega) (fresh_app fq _ _ (by omega)) (gw_map1 encRn) (by rw [hr,hst]; rfl)
   cases ho:out.getLast? with
   | none =>
    have ho2:out = []:=by simpa using ho
    subst ho2
    simp only [hl25,wx,wy,Nat.reduceAdd,Nat.reduceEqDiff,reduceCtorEq,List.length_nil,show IntKind.i64.wrap (((0:Nat):Int) - 1) = -1 from rfl,show decide ((-1:Int) ≥ 0) = false from rfl,bl,bs]
    rw [app_map tf25 encRn g.adv (by simp) (by simp)]
    simp only [wx,wy,Nat.reduceAdd,Nat.reduceEqDiff,reduceCtorEq]
    exact hnew s fr g rfl rfl _
   | some q =>
    obtain ⟨o,hoo⟩:∃ o,out = o ++ [q]:=⟨out.dropLast,by
     have:=List.getLast?_eq_some_iff.1 ho
     obtain ⟨ys,rfl⟩:=this
     simp⟩
    subst hoo
    have hk:((o ++ [q]).length:Int) - 1 = (o.length:Int):=by simp
    obtain ⟨_,⟨_,hbad⟩ | ⟨b,_,rfl,hb⟩⟩:=id g
    ·simp at hbad
    have hixr:∀ e,ixS 2 (.ref b 0 ((o ++ [q]).map rnA).length none e) (.int .i64 (o.length:Int)) = some (.ptr b (o.length * 2)):=fun e=>by
     have:=ix_ref (e:=e) (z:=2) (id:=b) (off:=0) (c:=none) (show o.length < ((o ++ [q]).map rnA).length by simp) .i64
     rw [this]; simp
    have hc0:(((o ++ [q]).map rnA).flatMap AV.cells)[o.length * 2]? = some (.int .i64 q.1):=by
     have:=getElem_flat (vs:=(o ++ [q]).map rnA) (z:=2) (fun v hv=>(g.1 v hv).1) (i:=o.length) (v:=rnA q) (by simp) (k:=0) (by omega)
     rw [← Nat.add_zero (o.length * 2),this]; rfl
    have hc1:(((o ++ [q]).map rnA).flatMap AV.cells)[o.length * 2 + 1]? = some (.int .i64 q.2):=by
     have:=getElem_flat (vs:=(o ++ [q]).map rnA) (z:=2) (fun v hv=>(g.1 v hv).1) (i:=o.length) (v:=rnA q) (by simp) (k:=1) (by omega)
     rw [this]; rfl
    have hw2:IntKind.i64.wrap (o.length:Int) = (o.length:Int):=wrapN (by simp at hp; omega)
    simp only [hl25,hk,hw2,hixr,hb,hc0,wx,wy,Nat.reduceAdd,Nat.reduceEqDiff,reduceCtorEq,show decide ((o.length:Int) ≥ 0) = true by simp]
    cases hq:(q.1 == c) with
    | true =>
     simp only [hixr,hb,hc1,wx,wy,Nat.reduceAdd,Nat.reduceEqDiff,reduceCtorEq]
     have hsto:∀ v n,sto 1 (.ptr b (o.length * 2 + 1)) (.int .i64 v) (adv s n) = some (adv (s.set b (some (.cells (((o.map rnA).flatMap AV.cells) ++ [.int .i64 q.1,.int .i64 v]) 109 false true))) n):=fun v n=>by
      have:=sto_c (id:=b) (off:=o.length * 2 + 1) (v:=.int .i64 v) (s:=adv s n) hb (by rw [flat_len (fun v hv=>g.1 v hv)]; simp; omega) rfl rfl
      rw [this,flat_snoc]; rfl
     simp only [hsto,f128j2,wx,wy,Nat.reduceAdd,Nat.reduceEqDiff,reduceCtorEq]
     rw [wrap_len i _ hlt (by omega)]
     have e:stepRun (o ++ [q]) c = o ++ [(q.1,IntKind.i64.wrap (q.2 + 1))]:=by
      simp only [stepRun,ho,hq,cond_true,List.dropLast_concat]
     refine ih (i + 1) _ (o ++ [(q.1,IntKind.i64.wrap (q.2 + 1))]) _ (by omega) (by simp at hp ⊢; omega) (fresh_set fr _ ?_) ?_ (by rw [hr,e]; rfl)
     ·have:=g.id_lt fr b (by simp [idOf]); omega
     ·refine ⟨cells_map encRn.len encRn.ones _,.inr ⟨b,Nat.zero_le _,by simp,?_⟩⟩
      rw [adv_h,st_same,List.map_append,List.flatMap_append]
      rfl
    | false =>
     simp only [wx,wy,Nat.reduceAdd,Nat.reduceEqDiff,reduceCtorEq,bl,bs]
     rw [app_map tf25 encRn g.adv (by simp at hp ⊢; omega) (by simp at hp ⊢; omega)]
     simp only [wx,wy,Nat.reduceAdd,Nat.reduceEqDiff,reduceCtorEq]
     have e:stepRun (o ++ [q]) c = (o ++ [q]) ++ [(c,1)]:=by simp only [stepRun,ho,hq,cond_false]
     exact hnew s fr g rfl e _
theorem c128 (l:List Int) (hl:l.length≤2 ^ 30):PureC Tryz.env 128 [.sl false (l.map inA)] (rtA (runGo l [])):=by
 refine pure_q (f128_run _ _ ?_)
 unfold f128
 simp only [ln72s,List.length_map,wx,wy,Nat.reduceAdd,Nat.reduceEqDiff,reduceCtorEq]
 refine ⟨l.length + 1,l128 l hl _ (runGo l []) (fun s e h=>?_) (fun y s out fr g h=>?_) l.length 0 .nils [] _ (by omega) (by simp) fresh_empty.adv gw_nil rfl⟩
 ·rw [h]; exact ⟨[],rfl⟩
 ·rw [h]
  obtain ⟨ids,hp,_⟩:=pur_map tf25 g (fun _ _=>rfl) (fun _ _=>rfl) 10
  exact ⟨ids,pur_tup2 g.not_closed hp rfl⟩
end
noncomputable section
theorem digA_len:∀ f u,(digA f u).length≤f:=by
 intro f
 induction f with
 | zero=>intro u; exact Nat.le_refl _
 | succ f ih =>
  intro u
  simp only [digA]
  cases Nat.blt u 10 with
  | true=>simp
  | false=>simp only [cond_false,List.length_append,List.length_cons,List.length_nil]; have:=ih (u / 10); omega
theorem itoaL_len (n:Int):(itoaL n).length≤21:=by
 unfold itoaL
 split
 ·have:=digA_len 20 n.natAbs; simp; omega
 ·have:=digA_len 20 n.toNat; omega
theorem c206 (n:Int) (h0:-9223372036854775808≤n) (h1:n≤9223372036854775807):PureC Tryz.env 206 [.int .i64 n] (.str (itoaL n)) :=
 pure_q ⟨_,_,prim_f (g:=itoaA) (by kernel_rfl) (by simp only [itoaA,h0,h1,and_self,if_true]; rfl),pureQ_closed rfl⟩
def wzA (neg:Bool) (n:List Nat):AV:=.agg [.bool neg,nsA n]
theorem wz_closed (neg:Bool) (n:List Nat):(wzA neg n).closed = true:=by
 simp only [wzA,AV.closed,closedL,ns_closed,Bool.and_self]
def madeM (neg:Bool) (n:List Nat):Bool × List Nat:=(neg && !(normM n == []),normM n)
theorem c105 (neg:Bool) (n:List Nat) (hn:n.length≤2 ^ 30):PureC Tryz.env 105 [.bool neg,nsA n] (wzA (madeM neg n).1 (madeM neg n).2):=by
 refine pure_q (f105_run _ _ _ ?_)
 unfold f105
 simp only [zf24,wx,wy,Nat.reduceAdd,Nat.reduceEqDiff,reduceCtorEq]
 refine callPu (c110 n hn) (by simp [ns_closed]) ?_
 have hb:∀ b:Bool,bld 24 [(0,.bool b),(1,nsA (normM n))] = some (wzA b (normM n)):=fun b=>by rw [bf24]; rfl
 have hl:decide (((normM n).length:Int) > 0) = !(normM n == []):=by
  cases h:normM n with
  | nil=>rfl
  | cons x t=>simp
 have hln:∀ id s,bt .len #[22] [nsA (normM n)] id s = some (.int .i64 (normM n).length,s):=fun id s=>by
  show bt .len #[22] [.sl false ((normM n).map u3A)] id s = _
  rw [ln22s,List.length_map]
 have hfin:∀ (b:Bool) (s:St) (n1:Nat),sto 2 (.ptr s.nx 0) (wzA b (normM n)) (Ai.adv (s.set s.nx (some (.cells (AV.agg [.bool false,.nils]).cells 24 true true))) n1) = some (Ai.adv (s.set s.nx (some (.cells (wzA b (normM n)).cells 24 true true))) n1):=fun b s n1=>by
  rw [sto_all (z:=2) (by rw [adv_h,st_same]) rfl rfl rfl,adv_set,set_set]
 have hp:∀ b:Bool,Ai.part 2 true 0 (wzA b (normM n)).cells = some (wzA b (normM n)):=fun b=>rfl
 cases neg with
 | false =>
  simp only [hb,wx,wy,Nat.reduceAdd,Nat.reduceEqDiff,reduceCtorEq]
  rw [hfin]
  simp only [wx,wy,Nat.reduceAdd,Nat.reduceEqDiff,reduceCtorEq,hp]
  exact pureQ_closed (wz_closed _ _)
 | true =>
  simp only [hln,hl,hb,wx,wy,Nat.reduceAdd,Nat.reduceEqDiff,reduceCtorEq]
  rw [hfin]
  simp only [wx,wy,Nat.reduceAdd,Nat.reduceEqDiff,reduceCtorEq,hp]
  exact pureQ_closed (wz_closed _ _)
theorem wz_part (b:Bool) (n:List Nat):Ai.part 2 true 0 (wzA b n).cells = some (wzA b n):=rfl
theorem wz0 (b:Bool) (n:List Nat):(wzA b n).cells[0]? = some (.bool b):=rfl
theorem wz1 (b:Bool) (n:List Nat):(wzA b n).cells[1]? = some (nsA n):=rfl
theorem ln22ns (n:List Nat) (id:Nat) (s:St):bt .len #[22] [nsA n] id s = some (.int .i64 n.length,s):=by
 show bt .len #[22] [.sl false (n.map u3A)] id s = _
 rw [ln22s,List.length_map]
theorem sto_wz (b b':Bool) (n n':List Nat) (q:St) (i c:Nat):sto 2 (.ptr i 0) (wzA b n) (Ai.adv (q.set i (some (.cells (wzA b' n').cells 24 true true))) c) = some (Ai.adv (q.set i (some (.cells (wzA b n).cells 24 true true))) c):=by
 rw [sto_all (z:=2) (by rw [adv_h,st_same]) rfl rfl rfl,adv_set,set_set]
theorem c69 (neg:Bool) (n:List Nat) (hn:n.length≤2 ^ 30):PureC Tryz.env 69 [wzA neg n] (wzA (madeM neg n).1 (madeM neg n).2):=by
 refine pure_q (f69_run _ _ ?_)
 unfold f69
 refine ⟨rfl,?_⟩
 simp only [zf24,wz0,wz1,wx,wy,Nat.reduceAdd,Nat.reduceEqDiff,reduceCtorEq]
 refine callPu (c105 neg n hn) (by simp [ns_closed,AV.closed]) ?_
 rw [sto_all (z:=2) (by rw [adv_h,st_same]) rfl rfl rfl]
 simp only [wx,wy,Nat.reduceAdd,Nat.reduceEqDiff,reduceCtorEq,wz_part]
 exact pureQ_closed (wz_closed _ _)
def signM (neg:Bool) (n:List Nat):Int:=bif normM n == [] then 0 else bif neg then -1 else 1
theorem c20 (neg:Bool) (n:List Nat) (hn:n.length≤2 ^ 30):PureC Tryz.env 20 [wzA neg n] (.int .i64 (signM neg n)):=by
 refine pure_q (f20_run _ _ ?_)
 unfold f20
 refine ⟨rfl,?_⟩
 simp only [wz_part,wx,wy,Nat.reduceAdd,Nat.reduceEqDiff,reduceCtorEq]
 refine callPu (c69 neg n hn) (by simp [wz_closed]) ?_
 rw [sto_wz]
 simp only [wz0,wz1,ln22ns,wx,wy,Nat.reduceAdd,Nat.reduceEqDiff,reduceCtorEq]
 have hl:decide (((normM n).length:Int) > 0) = !(normM n == []):=by
  cases h:normM n with
  | nil=>rfl
  | cons x t=>simp
 unfold signM madeM
 simp only [hl]
 cases h:(normM n == []) <;> cases neg <;> simp only [Bool.not_true,Bool.not_false,cond_true,cond_false,wx,wy,Nat.reduceAdd,Nat.reduceEqDiff,reduceCtorEq,f20j1] <;> exact pureQ_closed rfl
def mayGo (left:Int) (p:Option Int):List (Int × Int)→Bool
 | []=>true
 | r :: l=>bif decide (r.1 < 0) || (decide (r.1 > 196607) || (decide (r.2 < 1) || (decide (r.2 > left) || p == some r.1))) then false else mayGo (left - r.2) (some r.1) l
def mayM (l:List (Int × Int)):Bool:=decide (l.length≤65536) && mayGo 1099511627776 none l
theorem l60 (l:List (Int × Int)) (hl:l.length≤65536) (ex:Bool) (Q:AV→St→Prop) (b:Bool) (hQ:∀ s,Q (.bool b) s):∀ (m i:Nat) (left:Int) (p:Option Int) (s:St),i + m = l.length→0≤left→left≤2 ^ 40→(p = if i = 0 then none else (l[i - 1]?).map Prod.fst)→mayGo left p (l.drop i) = b →
  f60l1 Q (m + 1) (.sl ex (l.map rnA)) (.int .i64 left) (.sl ex (l.map rnA)) (.int .i64 l.length) (.int .i64 i) s:=by
 intro m
 induction m with
 | zero =>
  intro i left p s hi h0 h1 hp hb
  show f60l1s Q (f60l1 Q 0) _ _ _ _ _ s
  have c1:decide ((i:Int) < (l.length:Int)) = false:=by simp; omega
  rw [List.drop_of_length_le (by omega)] at hb
  simp only [f60l1s,c1,f60j1,wx,wy,Nat.reduceAdd,Nat.reduceEqDiff,reduceCtorEq]
  have:b = true:=hb.symm
  subst this
  exact hQ _
 | succ m ih =>
  intro i left p s hi h0 h1 hp hb
  show f60l1s Q (f60l1 Q (m + 1)) _ _ _ _ _ s
  have c1:decide ((i:Int) < (l.length:Int)) = true:=by simp; omega
  obtain ⟨r,hr⟩:∃ r,l[i]? = some r:=⟨_,List.getElem?_eq_getElem (by omega)⟩
  rw [get_drop l i r hr] at hb
  simp only [mayGo] at hb
  have hst:∀ (v:AV) (q:St) (i n:Nat),v.cells.length = 2→v.cells.all AV.one = true→sto 2 (.ptr i 0) v (Ai.adv (q.set i (some (.cells (AV.agg [.int .i64 0,.int .i64 0]).cells 109 true true))) n) = some (Ai.adv (q.set i (some (.cells v.cells 109 true true))) n):=fun v q i n e1 e2=>by
   rw [sto_all (z:=2) (by rw [adv_h,st_same]) rfl e1 e2,adv_set,set_set]
  have hix:=ix_map encRn ex hr .i64
  have w1:IntKind.i64.wrap ((i:Int) + 1) = ((i + 1:Nat):Int):=by rw [IntWalk.i64_in _ (by omega)]; rfl
  simp only [f60l1s,c1,hix,rn_part,zf109,wx,wy,Nat.reduceAdd,Nat.reduceEqDiff,reduceCtorEq]
  rw [hst _ _ _ _ rfl rfl]
  cases e1:decide (r.1 < 0) with
  | true =>
   rw [e1,Bool.true_or,cond_true] at hb
   subst hb
   simp only [rn0,rn1,e1,wx,wy,Nat.reduceAdd,Nat.reduceEqDiff,reduceCtorEq]
   exact hQ _
  | false =>
  cases e2:decide (r.1 > 196607) with
  | true =>
   rw [e1,e2,Bool.false_or,Bool.true_or,cond_true] at hb
   subst hb
   simp only [rn0,rn1,e1,e2,wx,wy,Nat.reduceAdd,Nat.reduceEqDiff,reduceCtorEq]
   exact hQ _
  | false =>
  cases e3:decide (r.2 < 1) with
  | true =>
   rw [e1,e2,e3,Bool.false_or,Bool.false_or,Bool.true_or,cond_true] at hb
   subst hb
   simp only [rn0,rn1,e1,e2,e3,wx,wy,Nat.reduceAdd,Nat.reduceEqDiff,reduceCtorEq]
   exact hQ _
  | false =>
  cases e4:decide (r.2 > left) with
  | true =>
   rw [e1,e2,e3,e4,Bool.false_or,Bool.false_or,Bool.false_or,Bool.true_or,cond_true] at hb
   subst hb
   simp only [rn0,rn1,e1,e2,e3,e4,wx,wy,Nat.reduceAdd,Nat.reduceEqDiff,reduceCtorEq]
   exact hQ _
  | false =>
  rw [e1,e2,e3,e4,Bool.false_or,Bool.false_or,Bool.false_or,Bool.false_or] at hb
  have o3:=of_decide_eq_false e3
  have o4:=of_decide_eq_false e4
  have w2:IntKind.i64.wrap (left - r.2) = left - r.2:=IntWalk.i64_in _ (by omega)
  cases i with
  | zero =>
   simp only [if_true] at hp
   subst hp
   have hb:mayGo (left - r.2) (some r.1) (l.drop 1) = b:=hb
   simp only [rn0,rn1,e1,e2,e3,e4,show decide (((0:Nat):Int) > 0) = false from rfl,f60j2,w1,w2,wx,wy,Nat.reduceAdd,Nat.reduceEqDiff,reduceCtorEq]
   exact ih 1 _ (some r.1) _ (by omega) (by omega) (by omega) (by simp only [Nat.one_ne_zero,if_false,Nat.sub_self]; rw [hr]; rfl) hb
  | succ k =>
   have c2:decide (((k + 1:Nat):Int) > 0) = true:=by simp
   obtain ⟨q,hq⟩:∃ q,l[k]? = some q:=⟨_,List.getElem?_eq_getElem (by omega)⟩
   have hix2:=ix_map encRn ex hq .i64
   have w3:IntKind.i64.wrap (((k + 1:Nat):Int) - 1) = (k:Int):=by rw [IntWalk.i64_in _ (by omega)]; omega
   have hp:p = some q.1:=by rw [hp,if_neg (by omega),Nat.add_sub_cancel,hq]; rfl
   subst hp
   have e5:(some q.1 == some r.1) = (q.1 == r.1):=rfl
   rw [e5] at hb
   cases e6:(q.1 == r.1) with
   | true =>
    rw [e6,cond_true] at hb
    subst hb
    simp only [rn0,rn1,e1,e2,e3,e4,c2,w3,hix2,e6,wx,wy,Nat.reduceAdd,Nat.reduceEqDiff,reduceCtorEq]
    exact hQ _
   | false =>
    rw [e6,cond_false] at hb
    simp only [rn0,rn1,e1,e2,e3,e4,c2,w3,hix2,e6,f60j2,w1,w2,wx,wy,Nat.reduceAdd,Nat.reduceEqDiff,reduceCtorEq]
    exact ih (k + 1 + 1) _ (some r.1) _ (by omega) (by omega) (by omega) (by rw [if_neg (by omega),Nat.add_sub_cancel,hr]; rfl) hb
theorem c60 (ex:Bool) (l:List (Int × Int)) (hl:l.length≤2 ^ 40):PureC Tryz.env 60 [.sl ex (l.map rnA)] (.bool (mayM l)):=by
 refine pure_q (f60_run _ _ ?_)
 unfold f60 mayM
 simp only [ln25s,List.length_map,wx,wy,Nat.reduceAdd,Nat.reduceEqDiff,reduceCtorEq]
 cases h:decide (l.length≤65536) with
 | false =>
  have h1:decide ((l.length:Int) > 65536) = true:=by simp at h ⊢; omega
  simp only [h1,wx,wy,Nat.reduceAdd,Nat.reduceEqDiff,reduceCtorEq]
  exact pureQ_closed rfl
 | true =>
  have h2:=of_decide_eq_true h
  have h1:decide ((l.length:Int) > 65536) = false:=by simp; omega
  simp only [h1,wx,wy,Nat.reduceAdd,Nat.reduceEqDiff,reduceCtorEq]
  exact ⟨l.length + 1,l60 l h2 ex _ _ (fun s=>pureQ_closed rfl) l.length 0 1099511627776 none _ (by omega) (by decide) (by decide) rfl rfl⟩
end
noncomputable section
structure Nd:Type where
 op:Int
 so:Int
 a:List Int
 nm:List UInt8
 neg:Bool
 num:List Nat
 str:List (Int × Int)
abbrev Bk:=List Nd
abbrev Mm:=List (List UInt8 × Int)
abbrev Sg:=Bk × Mm
abbrev Ev:=List (List UInt8 × Int)
abbrev Rt:=Option ((Int × Int) × Sg)
def keyM (n:Nd):List UInt8 :=
 itoaL n.op ++ [58] ++ itoaL n.so ++ n.a.flatMap (fun i=>32 :: itoaL i) ++ 35 :: textM n.num ++ n.str.flatMap (fun r=>32 :: itoaL r.1 ++ 42 :: itoaL r.2) ++ 61 :: n.nm
def findK (k:List UInt8):Bk→Option Nat
 | []=>none
 | m :: B=>bif k == keyM m then some 0 else (findK k B).map (· + 1)
def addM (B:Bk) (n:Nd):(Int × Int) × Bk :=
 match findK (keyM n) B with
 | some i=>(((i:Int),0),B)
 | none=>bif (B.length:Int) == 20000 then ((0,2),B) else (((B.length:Int),0),B ++ [n])
def constM (B:Bk) (nm:List UInt8) (so:Int):(Int × Int) × Bk :=
 bif decide (so < 1) || (decide (so > 3) || decide ((nm.length:Int) > 16384)) then ((0,1),B) else addM B ⟨1,so,[],nm,false,[],[]⟩
def truthM (B:Bk) (v:Bool):(Int × Int) × Bk:=addM B ⟨bif v then 2 else 3,1,[],[],false,[],[]⟩
def wnumM (B:Bk) (neg:Bool) (n:List Nat):(Int × Int) × Bk :=
 bif decide (signM neg n < 0) then ((0,1),B) else addM B ⟨4,2,[],[],(madeM neg n).1,(madeM neg n).2,[]⟩
def strM (B:Bk) (s:List (Int × Int)):(Int × Int) × Bk :=
 bif mayM s then addM B ⟨5,3,[],[],false,[],s⟩ else ((0,1),B)
structure Ask:Type where
 parts:Int
 more:Bool
 s0:Int
 s1:Int
 s2:Int
 own:Int
def asksL:List Ask :=
 let z:Ask:=⟨0,false,0,0,0,0⟩
 let b2:Ask:=⟨2,true,1,1,1,1⟩
 let e2:Ask:=⟨2,true,-2,-1,-1,1⟩
 let i2:Ask:=⟨2,true,2,2,2,2⟩
 let l2:Ask:=⟨2,true,2,2,2,1⟩
 let t2:Ask:=⟨2,false,3,3,3,1⟩
 [z,z,z,z,z,z,⟨1,false,1,1,1,1⟩,b2,b2,b2,b2,e2,e2,⟨3,false,1,-2,-1,-1⟩,⟨1,false,2,2,2,2⟩,i2,i2,i2,l2,l2,l2,l2,
  ⟨2,true,3,3,3,3⟩,⟨1,false,3,3,3,2⟩,⟨2,false,3,2,2,3⟩,⟨3,false,3,2,2,3⟩,t2,t2,t2,⟨3,false,3,3,2,2⟩,⟨3,false,3,3,3,3⟩]
def Ask.sort (x:Ask):Nat→Int
 | 0=>x.s0
 | 1=>x.s1
 | _=>x.s2
def getN (B:Bk) (i:Int):Option Nd:=bif decide (i < 0) then none else B[i.toNat]?
def soOf (B:Bk) (i:Int):Int:=match getN B i with
 | some n=>n.so
 | none=>0
def opOf (B:Bk) (i:Int):Int:=match getN B i with
 | some n=>n.op
 | none=>0
def sortGo (B:Bk) (x:Ask):Nat→Int→List Int→Int
 | _,last,[]=>bif x.own == -1 then last else x.own
 | i,last,id :: a =>
  let want:=bif x.sort i == -1 then last else x.sort i
  bif want != -2 && want != soOf B id then 0 else sortGo B x (i + 1) (soOf B id) a
def numeralM (B:Bk) (id:Int):Bool:=match getN B id with
 | none=>false
 | some n=>n.op == 4 || (n.op == 14 && match n.a with
  | i :: _=>opOf B i == 4
  | []=>false)
def freeM (B:Bk):List Int→Nat
 | []=>0
 | id :: a=>(bif numeralM B id then 0 else 1) + freeM B a
def badM (B:Bk) (id:Int):Bool:=decide (id < 0) || decide (id ≥ (B.length:Int))
def appM (B:Bk) (op:Int) (a:List Int):(Int × Int) × Bk :=
 bif decide (op < 0) then ((0,101),B) else
 match asksL[op.toNat]? with
 | none=>((0,101),B)
 | some x=>bif x.parts == 0 then ((0,101),B) else
  bif decide ((a.length:Int) < x.parts) || ((decide ((a.length:Int) > x.parts) && !x.more) || (decide ((a.length:Int) > 200) || a.any (badM B))) then ((0,1),B) else
  bif sortGo B x 0 0 a == 0 then ((0,90),B) else
  bif op == 17 && !decide (freeM B a≤1) then ((0,101),B) else addM B ⟨op,sortGo B x 0 0 a,a,[],false,[],[]⟩
def operM (nm:List UInt8) (parts:Int):Int:=bif nm == [45] && parts == 1 then 14 else opN nm
def reservedM (x:List UInt8):Bool:=(hit resN x).isSome || (opN x != 0) || pre [115,116,114,46] x || pre [114,101,46] x
def boundM:Ev→List UInt8→Option Int
 | [],_=>none
 | p :: l,nm=>match boundM l nm with
  | some i=>some i
  | none=>bif p.1 == nm then some p.2 else none
def declM:List Dc→List UInt8→Option Nat
 | [],_=>none
 | d :: l,nm=>match declM l nm with
  | some i=>some (i + 1)
  | none=>bif d.nm == nm then some 0 else none
def mget (k:List UInt8):Mm→Option Int
 | []=>none
 | (a,v) :: l=>bif k == a then some v else mget k l
def mset (k:List UInt8) (v:Int):Mm→Mm
 | []=>[(k,v)]
 | (a,u) :: l=>bif k == a then (k,v) :: l else (a,u) :: mset k v l
def sortsOk (B:Bk):List (List UInt8 × Int)→List Int→Bool
 | p :: ps,i :: a=>soOf B i == p.2 && sortsOk B ps a
 | _,_=>true
def ckey (k:Nat) (a:List Int):List UInt8:=a.flatMap (fun i=>itoaL i ++ [32]) ++ 102 :: itoaL k
def bkS (r:(Int × Int) × Bk) (M:Mm):Rt:=some (r.1,(r.2,M))
def Sx.lst:Sx→Bool
 | .mk l _ _ _ _ _=>l
def Sx.kind:Sx→Int
 | .mk _ k _ _ _ _=>k
def Sx.txt:Sx→List UInt8
 | .mk _ _ x _ _ _=>x
def Sx.its:Sx→List Sx
 | .mk _ _ _ _ _ l=>l
def Sx.isN (x:Sx):Bool:=!x.lst && x.kind == 3
def dbl:List (List UInt8)→Bool
 | l=>(List.range l.length).any fun i=>(l.take i).any fun y=>some y == l[i]?
def trueW:List UInt8:=[116,114,117,101]
def falseW:List UInt8:=[102,97,108,115,101]
def letW:List UInt8:=[108,101,116]
def pairsM:List Sx→Option (List (List UInt8) × List Sx)
 | []=>some ([],[])
 | p :: l=>match p.lst,p.its with
  | true,[x,y]=>bif x.isN then (pairsM l).map fun q=>(x.txt :: q.1,y :: q.2) else none
  | _,_=>none
section
variable (ps:List UInt8→List Nat × Int) (mm:Bool) (f:List Dc→Ev→Sx→Sg→Rt)
def eachM (L:List Dc) (env:Ev):List Sx→Sg→Option ((List Int × Int) × Sg)
 | [],σ=>some (([],0),σ)
 | x :: l,σ=>(f L env x σ).bind fun r=>bif r.1.2 == 0 then (eachM L env l r.2).map fun q=>((bif q.1.2 == 0 then r.1.1 :: q.1.1 else [],q.1.2),q.2) else some (([],r.1.2),r.2)
def callM (L:List Dc) (k:Nat) (a:List Int) (σ:Sg):Rt :=
 match L[k]? with
 | none=>none
 | some d=>bif a.length == d.ps.length then
   (bif sortsOk σ.1 d.ps a then
    match (bif mm then mget (ckey k a) σ.2 else none) with
    | some id=>some ((id,0),σ)
    | none=>(f (L.take k) (List.zip (d.ps.map (·.1)) a) d.body σ).map fun r=>(r.1,(r.2.1,bif mm && r.1.2 == 0 then mset (ckey k a) r.1.1 r.2.2 else r.2.2))
   else some ((0,90),σ)) else some ((0,1),σ)
def nameM (L:List Dc) (env:Ev) (nm:List UInt8) (σ:Sg):Rt :=
 bif nm == trueW || nm == falseW then bkS (truthM σ.1 (nm == trueW)) σ.2 else
 bif reservedM nm then some ((0,101),σ) else
 match boundM env nm with
 | some id=>some ((id,0),σ)
 | none=>match declM L nm with
  | none=>some ((0,100),σ)
  | some k=>match L[k]? with
   | none=>none
   | some d=>bif d.mac then (bif d.ps.length == 0 then callM mm f L k [] σ else some ((0,1),σ)) else bkS (constM σ.1 nm d.so) σ.2
def letM (L:List Dc) (env:Ev) (rest:List Sx) (σ:Sg):Rt :=
 match rest with
 | [h,y]=>bif h.lst then
   match pairsM h.its with
   | none=>some ((0,1),σ)
   | some (ns,ts)=>bif ns.any reservedM then some ((0,101),σ) else bif dbl ns then some ((0,4),σ) else
    (eachM f L env ts σ).bind fun r=>bif r.1.2 == 0 then f L (env ++ List.zip ns r.1.1) y r.2 else some ((0,r.1.2),r.2)
  else some ((0,1),σ)
 | _=>some ((0,1),σ)
def lisM (L:List Dc) (env:Ev) (l:List Sx) (σ:Sg):Rt :=
 match l with
 | []=>some ((0,1),σ)
 | h :: rest=>bif !h.isN then some ((0,101),σ) else
  bif h.txt == letW then letM f L env rest σ else
  bif operM h.txt rest.length == 0 && reservedM h.txt then some ((0,101),σ) else
  bif operM h.txt rest.length == 0 then
   match boundM env h.txt,declM L h.txt with
   | none,some k=>match L[k]? with
    | none=>none
    | some d=>bif d.mac then (eachM f L env rest σ).bind fun r=>bif r.1.2 == 0 then callM mm f L k r.1.1 r.2 else some ((0,r.1.2),r.2)
     else some ((0,100),σ)
   | _,_=>some ((0,100),σ)
  else (eachM f L env rest σ).bind fun r=>bif r.1.2 == 0 then bkS (appM r.2.1 (operM h.txt rest.length) r.1.1) r.2.2 else some ((0,r.1.2),r.2)
def termM (L:List Dc) (env:Ev) (x:Sx) (σ:Sg):Rt :=
 bif x.lst then lisM mm f L env x.its σ else
 bif x.kind == 4 then (bif (ps x.txt).2 != 0 then some ((0,101),σ) else bkS (wnumM σ.1 false (ps x.txt).1) σ.2) else
 bif x.kind == 6 then bkS (strM σ.1 (runGo (ptsM x.txt) []).1) σ.2 else
 bif x.kind == 3 then nameM mm f L env x.txt σ else some ((0,101),σ)
end
def T (ps:List UInt8→List Nat × Int) (mm:Bool):Nat→List Dc→Ev→Sx→Sg→Rt
 | 0=>fun _ _ _ _=>none
 | n + 1=>termM ps mm (T ps mm n)
end
end Go.Proofs.YtdehdahimkcakaaGreatDoor
