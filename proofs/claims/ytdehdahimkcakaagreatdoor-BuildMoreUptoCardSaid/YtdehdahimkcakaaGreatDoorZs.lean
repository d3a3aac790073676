/- Texts joined by wip/tools/pack.py: Mt,Mu,Ar,Ap,Lm,Cl,Rd,Bk. -/
import Derived.Test.YtdehdahimkcakaaGreatDoorZr
set_option linter.unusedSimpArgs false
set_option linter.unusedVariables false
set_option maxHeartbeats 4000000
set_option maxRecDepth 100000
namespace Go.Proofs.YtdehdahimkcakaaGreatDoor
open Go Ai
noncomputable section
theorem pairs_len:∀ {l:List Sx} {ns:List (List UInt8)} {ts:List Sx},pairsM l = some (ns,ts)→ns.length = l.length∧ts.length = l.length:=by
 intro l
 induction l with
 | nil=>intro ns ts h; simp only [pairsM,Option.some.injEq,Prod.mk.injEq] at h; obtain ⟨rfl,rfl⟩:=h; exact ⟨rfl,rfl⟩
 | cons p l ih =>
  intro ns ts h
  unfold pairsM at h
  split at h
  ·rename_i x y h1 h2
   cases hx:x.isN with
   | false=>rw [hx] at h; cases h
   | true =>
    rw [hx] at h
    simp only [cond_true,Option.map_eq_some_iff] at h
    obtain ⟨⟨ns',ts'⟩,h3,h4⟩:=h
    simp only [Prod.mk.injEq] at h4
    obtain ⟨rfl,rfl⟩:=h4
    obtain ⟨a,b⟩:=ih h3
    exact ⟨by simp only [List.length_cons,a],by simp only [List.length_cons,b]⟩
  ·cases h
section
variable {s s':St} {p ib:Nat} {L:List Dc} {scs:List Ev} {σ:Sg} {F:List Nat} {K:AV→St→Prop} {ps:List UInt8→List Nat × Int} {L0:List Dc} {n j:Nat} {σ':Sg}
theorem let_c (hT:TermC ps n) (hL:DcOk L0) (fr:Fresh s) (hR:MkR s p ib (L0.take j) scs σ F) (hok:StOk ps L0 scs.flatten σ) (rest:List Sx) (hrl:rest.length≤2 ^ 20) (hfit:∀ y∈rest,y.fit) (hw:scs.length + 1 + Sx.wts rest≤2 ^ 30) {r:Int × Int} (hc:letM (T ps true n) (L0.take j) scs.flatten rest σ = some (r,σ')) :
  ∃ v s',WideC Tryz.env 176 [.ptr p 0,.sl false (rest.map Sx.av)] s v s'∧v = res r∧∃ F',MkQ s p ib (L0.take j) scs F σ' s' F':=by
 have hF:=hR.lt fr
 refine f176_run _ _ _ ?_
 unfold f176
 have hne3:∀ u v:Int,bn .neq 3 (.int .i64 u) (.int .i64 v) = some (.bool (u != v)):=fun _ _=>bin_neq
 have same:∀ (S:St) (r0:Int × Int),EF [] s S→(some (r0,σ):Rt) = some (r,σ')→(res r0 = res r∧∃ F',MkQ s p ib (L0.take j) scs F σ' S F'):=fun S r0 e h=>by
  simp only [Option.some.injEq,Prod.mk.injEq] at h
  obtain ⟨rfl,rfl⟩:=h
  exact ⟨rfl,_,MkQ.same hR fr e⟩
 by_cases h2:rest.length = 2
 ·obtain ⟨h,z,rfl⟩:∃ h z,rest = [h,z]:=by
   match rest,h2 with
   | [h,z],_=>exact ⟨h,z,rfl⟩
  have ix0:ixS 6 (.sl false ([h,z].map Sx.av)) (.int .i64 0) = some (.pel h.av.cells 0):=ix_map encSx false (l:=[h,z]) (i:=0) (a:=h) rfl .i64
  have hl2:∀ id S,bt .len #[31] [.sl false ([h,z].map Sx.av)] id S = some (.int .i64 2,S):=fun id S=>ln31m [h,z] id S
  simp only [hl2,hne3,ix0,sxc0,show ((2:Int) != 2) = false from rfl,wx,wy,Nat.reduceAdd,Nat.reduceEqDiff,reduceCtorEq]
  cases hh:h.lst with
  | false =>
   have:letM (T ps true n) (L0.take j) scs.flatten [h,z] σ = some ((0,1),σ):=by unfold letM; simp only [hh,cond_false]
   rw [this] at hc
   simp only [Bool.not_false,wx,wy,Nat.reduceAdd,Nat.reduceEqDiff,reduceCtorEq]
   exact same _ (0,1) (ef0 fr _) hc
  | true =>
   have hhf:=hfit h (by simp)
   have hzf:=hfit z (by simp)
   obtain ⟨hil,_⟩:=fit_its hhf
   simp only [Bool.not_true,ix0,sxc5,zf254,ln31m,wx,wy,Nat.reduceAdd,Nat.reduceEqDiff,reduceCtorEq]
   have hz254:(AV.agg [.nils,.nils]).cells = [.nils,.nils]:=rfl
   simp only [hz254]
   have e0:∀ (v k:Nat),s.nx≤v→v < s.nx + k→EF [] s (Ai.adv (s.set v (some (.cells [.nils,.nils] 254 true true))) k):=fun v k hv hk=>⟨by simp only [adv_nx,set_nx]; omega,fun b hb _=>by rw [adv_h,st_other (by omega)],fun b hb=>by
    have hb:s.nx + k≤b:=hb
    rw [adv_h,st_other (by omega)]; exact fr b (by omega)⟩
   simp only [Sx.wts] at hw
   refine ⟨_,l176 s h.its hil hF _ (.sl false ([h,z].map Sx.av)) _ (fun s' hp e hm=>?_) (fun s' y ty ns ts hp hl=>?_) h.its.length 0 _ .nils .nils [] [] (by omega) (by simp) (by simp) (by simp only [List.drop_zero,List.nil_append]; cases pairsM h.its <;> rfl)
    ⟨hR.ext fr (e0 _ _ (by omega) (by omega)),e0 _ _ (by omega) (by omega),by rw [adv_h,st_same],gw_nil,gw_nil,⟨by omega,(fun h=>by cases h),(fun h=>by cases h)⟩,(fun x hx=>by cases hx),(fun x hx=>by cases hx)⟩⟩
   ·have:letM (T ps true n) (L0.take j) scs.flatten [h,z] σ = some ((0,1),σ):=by unfold letM; simp only [hh,cond_true,hp]
    rw [this] at hc
    exact same s' (0,1) e hc
   ·obtain ⟨q1,q2⟩:=pairs_len hp
    exact j176 hT hL s fr hR hok h z hh hzf (by omega) hhf _ y ty ns ts hp (by omega) (by omega) s' hl hc _ fun s'' F' hq=>⟨rfl,F',hq⟩
 ·have:letM (T ps true n) (L0.take j) scs.flatten rest σ = some ((0,1),σ):=by
   match rest,h2 with
   | [],_=>rfl
   | [_],_=>rfl
   | _ :: _ :: _ :: _,_=>rfl
  rw [this] at hc
  have hb:(((rest.length:Nat):Int) != 2) = true:=by simp; omega
  simp only [ln31m,hne3,hb,wx,wy,Nat.reduceAdd,Nat.reduceEqDiff,reduceCtorEq]
  exact same _ (0,1) (ef0 fr _) hc
def opL2:List (List UInt8 × Int):=opL.filter fun q=>!(q.1 == [45])
theorem hit_filter (x:List UInt8) (hx:(x == [45]) = false):∀ l:List (List UInt8 × Int),hit (l.filter fun q=>!(q.1 == [45])) x = hit l x:=by
 intro l
 induction l with
 | nil=>rfl
 | cons q l ih =>
  obtain ⟨a,v⟩:=q
  cases ha:(a == [45]) with
  | false =>
   rw [List.filter_cons_of_pos (by simp only [ha,Bool.not_false])]
   simp only [hit,ih]
  | true =>
   rw [List.filter_cons_of_neg (by simp only [ha,Bool.not_true]; decide)]
   have:a = [45]:=by simpa using ha
   subst this
   simp only [hit,hx,ih,Bool.false_eq_true,if_false]
theorem c71g (x:List UInt8) (k:Int):PureC Tryz.env 71 [.str x,.int .i64 k] (.int .i64 (operM x k)):=by
 refine pure_closed rfl (f71_run _ _ _ ?_)
 unfold f71
 cases hk:(k == 1) with
 | false =>
  have ho:operM x k = opN x:=by simp only [operM,hk,Bool.and_false,cond_false]
  simp only [Bnd_some,bin_seql,bin_eql,hk,IfP_bool]
  refine hitP (l:=opL) (c:=fun v=>AV.int .i64 v = .int .i64 (operM x k)) (d:=f71j1 (fun r s'=>r = .int .i64 (operM x k)) (.str x) _) (fun v h=>by rw [ho]; simp only [opN,h]; rfl) (fun h=>?_)
  exact callPu (c122 x) (by simp [AV.closed]) (by rw [ho]; simp only [opN,h]; rfl)
 | true =>
  cases hx:(x == [45]) with
  | true =>
   have:x = [45]:=by simpa using hx
   subst this
   have ho:operM [45] k = 14:=by simp only [operM,hk,beq_self_eq_true,Bool.and_self,cond_true]
   have e:∀ y:List UInt8,([45] == y) = decide (([45]:List UInt8) = y):=fun y=>by cases h:([45] == y) <;> simp_all
   simp only [Bnd_some,bin_seql,bin_eql,hk,IfP_bool,ho,show (([45]:List UInt8) == [110,111,116]) = false from rfl,show (([45]:List UInt8) == [97,110,100]) = false from rfl,show (([45]:List UInt8) == [111,114]) = false from rfl,show (([45]:List UInt8) == [61,62]) = false from rfl,show (([45]:List UInt8) == [120,111,114]) = false from rfl,show (([45]:List UInt8) == [61]) = false from rfl,show (([45]:List UInt8) == [100,105,115,116,105,110,99,116]) = false from rfl,show (([45]:List UInt8) == [105,116,101]) = false from rfl,show (([45]:List UInt8) == [43]) = false from rfl,beq_self_eq_true,if_true,Bool.false_eq_true,if_false]
  | false =>
   have ho:operM x k = opN x:=by simp only [operM,hx,Bool.false_and,cond_false]
   have hh:=hit_filter x hx opL
   simp only [Bnd_some,bin_seql,bin_eql,hk,hx,IfP_bool,Bool.false_eq_true,if_false]
   refine hitP (l:=opL2) (c:=fun v=>AV.int .i64 v = .int .i64 (operM x k)) (d:=f71j1 (fun r s'=>r = .int .i64 (operM x k)) (.str x) _) (fun v h=>by rw [ho]; simp only [opN,show hit opL x = some v from hh ▸ h]; rfl) (fun h=>?_)
   have h:hit opL x = none:=by rw [← hh]; exact h
   exact callPu (c122 x) (by simp [AV.closed]) (by rw [ho]; simp only [opN,h]; rfl)
theorem hit_bd {l:List (List UInt8 × Int)} (hl:(l.all fun q=>decide (0≤q.2) && decide (q.2≤1000)) = true) {x:List UInt8} {v:Int} (h:hit l x = some v):0≤v∧v≤1000:=by
 induction l with
 | nil=>cases h
 | cons q l ih =>
  obtain ⟨a,w⟩:=q
  simp only [List.all_cons,Bool.and_eq_true,decide_eq_true_eq] at hl
  simp only [hit] at h
  split at h
  ·cases h; exact hl.1
  ·exact ih (by simpa only [Bool.and_eq_true,decide_eq_true_eq] using hl.2) h
theorem oper_i64 (x:List UInt8) (k:Int):i64 (operM x k):=by
 have h0:i64 0:=⟨by decide,by decide⟩
 have ht:i64 ((hit txL x).getD 0):=by
  cases h:hit txL x with
  | none=>exact h0
  | some v=>obtain ⟨a,b⟩:=hit_bd (by decide) h; exact i64_small a b
 unfold operM
 cases (x == [45] && k == 1) with
 | true=>exact (⟨by decide,by decide⟩:i64 14)
 | false =>
  show i64 (opN x)
  unfold opN
  cases h:hit opL x with
  | none=>exact ht
  | some v=>obtain ⟨a,b⟩:=hit_bd (by decide) h; exact i64_small a b
theorem list_c (hT:TermC ps n) (hL:DcOk L0) (fr:Fresh s) (hR:MkR s p ib (L0.take j) scs σ F) (hok:StOk ps L0 scs.flatten σ) (x:Sx) (hfit:x.fit) (hw:scs.length + x.wt≤2 ^ 30) {r:Int × Int} (hc:lisM true (T ps true n) (L0.take j) scs.flatten x.its σ = some (r,σ')) :
  ∃ v s',WideC Tryz.env 126 [.ptr p 0,x.av] s v s'∧v = res r∧∃ F',MkQ s p ib (L0.take j) scs F σ' s' F':=by
 have hF:=hR.lt fr
 have hp:=hF p hR.pin
 obtain ⟨hil,hif⟩:=fit_its hfit
 have hLl:(L0.take j).length≤2 ^ 30:=by have:=hL.len; simp only [List.length_take]; omega
 refine f126_run _ _ _ ?_
 unfold f126
 refine ⟨sx_ones x,?_⟩
 have heq3:∀ u v:Int,bn .eql 3 (.int .i64 u) (.int .i64 v) = some (.bool (u == v)):=fun _ _=>bin_eql
 have hne3:∀ u v:Int,bn .neq 3 (.int .i64 u) (.int .i64 v) = some (.bool (u != v)):=fun _ _=>bin_neq
 have hls:∀ u v:Int,bn .lss 3 (.int .i64 u) (.int .i64 v) = some (.bool (decide (u < v))):=fun _ _=>bin_lss
 have same:∀ (S:St) (r0:Int × Int),EF [] s S→(some (r0,σ):Rt) = some (r,σ')→(res r0 = res r∧∃ F',MkQ s p ib (L0.take j) scs F σ' S F'):=fun S r0 e h=>by
  simp only [Option.some.injEq,Prod.mk.injEq] at h
  obtain ⟨rfl,rfl⟩:=h
  exact ⟨rfl,_,MkQ.same hR fr e⟩
 have e0:∀ (k:Nat),0 < k→EF [] s (Ai.adv (s.set s.nx (some (.cells x.av.cells 33 true true))) k):=fun k hk=>⟨by simp only [adv_nx,set_nx]; omega,fun b hb _=>by rw [adv_h,st_other (by omega)],fresh_set fr k (by omega)⟩
 simp only [sxc5,ln31m,heq3,wx,wy,Nat.reduceAdd,Nat.reduceEqDiff,reduceCtorEq]
 cases hits:x.its with
 | nil =>
  rw [hits] at hc
  simp only [List.length_nil,show (((0:Nat):Int) == 0) = true from rfl,wx,wy,Nat.reduceAdd,Nat.reduceEqDiff,reduceCtorEq]
  exact same _ (0,1) (e0 _ (by omega)) hc
 | cons h rest =>
 rw [hits] at hc hif hil
 have hlen0:((((h :: rest).length:Nat):Int) == 0) = false:=by simp; omega
 have ix0:ixS 6 (.sl false ((h :: rest).map Sx.av)) (.int .i64 0) = some (.pel h.av.cells 0):=ix_map encSx false (l:=h :: rest) (i:=0) (a:=h) rfl .i64
 have c5:x.av.cells[5]? = some (.sl false ((h :: rest).map Sx.av)):=by rw [sxc5,hits]
 unfold lisM at hc
 dsimp only at hc
 have hx1:h.wt + Sx.wts rest + 1≤x.wt:=by
  cases x with
  | mk l k t p a items =>
   have:items = h :: rest:=hits
   subst this
   simp only [Sx.wt,Sx.wts]; omega
 simp only [hlen0,c5,ix0,sxc0,wx,wy,Nat.reduceAdd,Nat.reduceEqDiff,reduceCtorEq]
 cases hl:h.lst with
 | true =>
  have hn:h.isN = false:=by simp only [Sx.isN,hl,Bool.not_true,Bool.false_and]
  rw [hn] at hc
  simp only [Bool.not_false,cond_true] at hc
  simp only [wx,wy,Nat.reduceAdd,Nat.reduceEqDiff,reduceCtorEq]
  exact same _ (0,101) (e0 _ (by omega)) hc
 | false =>
 simp only [c5,ix0,sxc1,hne3,wx,wy,Nat.reduceAdd,Nat.reduceEqDiff,reduceCtorEq]
 cases hk:(h.kind == 3) with
 | false =>
  have hn:h.isN = false:=by simp only [Sx.isN,hl,hk,Bool.and_false]
  rw [hn] at hc
  simp only [Bool.not_false,cond_true] at hc
  have:(h.kind != 3) = true:=by simp only [bne,hk]; rfl
  simp only [this,wx,wy,Nat.reduceAdd,Nat.reduceEqDiff,reduceCtorEq]
  exact same _ (0,101) (e0 _ (by omega)) hc
 | true =>
 have hn:h.isN = true:=by simp only [Sx.isN,hl,hk,Bool.not_false,Bool.and_self]
 have hk2:(h.kind != 3) = false:=by simp only [bne,hk]; rfl
 rw [hn] at hc
 simp only [Bool.not_true,cond_false] at hc
 have hsl:∀ S,slc 31 (.sl false ((h :: rest).map Sx.av)) (some (.int .i64 1)) none none S = some (.sl false (rest.map Sx.av)):=fun S=>slc_drop tf31 encSx.len false (h :: rest) (k:=1) (by simp) .i64
 simp only [hk2,c5,ix0,sxc2,hsl,ln31m,wx,wy,Nat.reduceAdd,Nat.reduceEqDiff,reduceCtorEq]
 refine callPu (c71g h.txt rest.length) (by simp [AV.closed]) ?_
 obtain ⟨xin,vs,jm,FB,c,rfl⟩:=hR
 have hR:MkR s p ib (L0.take j) scs σ (p :: jm :: (FB ++ inIds xin vs)):=⟨xin,vs,jm,FB,c,rfl⟩
 refine (decl_c (e0 37 (by omega)).adv.fr h.txt (L0.take j) (by omega) ⟨_,_,_,_,_,_,(c.ext fr ((e0 37 (by omega)).adv (n:=4))).cell⟩).call fz174 fun s1 e1=>?_
 have f1:=((e0 37 (by omega)).adv (n:=4)).nil_trans e1
 have c1:=c.ext fr f1.adv (s':=Ai.adv s1 8)
 refine (bound_c f1.adv.fr h.txt (vs_le c (by omega)) ⟨_,_,_,_,_,_,c1.cell⟩ c1.inx c1.sco).call fz175 fun s2 e2=>?_
 have f2:=f1.adv.nil_trans e2
 have key:∀ (kk:Int) (S:St),EF [] s S→(kk = match boundM scs.flatten h.txt with
   | some _=>-1
   | none=>dNum (declM (L0.take j) h.txt)) →
   f126j1 (fun v s'=>v = res r∧∃ F',MkQ s p ib (L0.take j) scs (p :: jm :: (FB ++ inIds xin vs)) σ' s' F') (.str h.txt) (.ptr p 0) (.sl false (rest.map Sx.av)) (.int .i64 (operM h.txt rest.length)) (.int .i64 kk) S:=by
  intro kk S f hkk
  have hrl:rest.length≤2 ^ 20:=by simp only [List.length_cons] at hil; omega
  have hrf:∀ y∈rest,y.fit:=fun y hy=>hif y (by simp [hy])
  have fin2:∀ (kk:Int) (S:St),EF [] s S→(∀ q σ1,eachM (T ps true n) (L0.take j) scs.flatten rest σ = some (q,σ1)→q.2 = 0→(if operM h.txt rest.length = 0 then (∃ k:Nat,kk = (k:Int)∧callM true (T ps true n) (L0.take j) k q.1 σ1 = some (r,σ')) else bkS (appM σ1.1 (operM h.txt rest.length) q.1) σ1.2 = some (r,σ'))) →
    (∀ q σ1,eachM (T ps true n) (L0.take j) scs.flatten rest σ = some (q,σ1)→q.2≠0→r = (0,q.2)∧σ' = σ1)→(∃ q σ1,eachM (T ps true n) (L0.take j) scs.flatten rest σ = some (q,σ1)) →
    f126j2 (fun v s'=>v = res r∧∃ F',MkQ s p ib (L0.take j) scs (p :: jm :: (FB ++ inIds xin vs)) σ' s' F') (.sl false (rest.map Sx.av)) (.ptr p 0) (.int .i64 (operM h.txt rest.length)) (.int .i64 kk) S:=by
   intro kk S f g1 g2 g3
   obtain ⟨q,σ1,hev⟩:=g3
   unfold f126j2
   obtain ⟨hok1,hext,hin,hne⟩:=each_inv (by have:=hL.len; omega) hok hev
   refine each_c hT hL hrl hrf (fun y hy=>by have:=wts_mem hy; omega) f.adv.fr (hR.ext fr f.adv) hok (.inl rfl) (fun a ha=>by cases ha) hev fun s3 F3 k3=>?_
   have k3':=k3.from f.adv hp
   have x0:extr (.tup [.sl false (q.1.map inA),.int .i64 q.2]) 0 = some (.sl false (q.1.map inA)):=rfl
   have x1:extr (.tup [.sl false (q.1.map inA),.int .i64 q.2]) 1 = some (.int .i64 q.2):=rfl
   have hne34:∀ u v:Int,bn .neq 34 (.int .i64 u) (.int .i64 v) = some (.bool (u != v)):=fun _ _=>bin_neq
   by_cases hq:q.2 = 0
   ·have b1:(q.2 != 0) = false:=by simp [hq]
    obtain ⟨hql,hqin⟩:=hin hq
    have:=g1 q σ1 hev hq
    have hp3:p < s3.nx:=k3'.1.lt k3'.2.1.fr p k3'.1.pin
    by_cases hop:operM h.txt rest.length = 0
    ·rw [if_pos hop] at this
     obtain ⟨k,rfl,hcall⟩:=this
     have b2:(operM h.txt rest.length != 0) = false:=by simp [hop]
     simp only [x0,x1,hne34,hne3,b1,b2,wx,wy,Nat.reduceAdd,Nat.reduceEqDiff,reduceCtorEq]
     obtain ⟨v,s4,t1,rfl,F4,t2⟩:=call_c hT hL k3'.adv.2.1.fr k3'.adv.1 hok1 q.1 (.sl false (q.1.map inA)) (.inl rfl) hqin k hcall
     refine callWiF fz178 ⟨_,s4,t1,?_⟩
     simp only [ex0,ex1,wx,wy,Nat.reduceAdd,Nat.reduceEqDiff,reduceCtorEq]
     exact ⟨rfl,F4,k3'.adv.trans t2⟩
    ·rw [if_neg hop] at this
     have b2:(operM h.txt rest.length != 0) = true:=by simp [hop]
     obtain ⟨⟨xin3,vs3,jm3,FB3,c3,hF3⟩,e3,m3,ns3⟩:=k3'
     simp only [x0,x1,hne34,hne3,b1,b2,wx,wy,Nat.reduceAdd,Nat.reduceEqDiff,reduceCtorEq]
     refine ⟨rfl,?_⟩
     simp only [c3.cell,wx,wy,Nat.reduceAdd,Nat.reduceEqDiff,reduceCtorEq]
     have hi64:∀ a∈q.1,i64 a:=fun a ha=>by
      obtain ⟨u1,u2⟩:=hqin a ha
      have:=hok1.wf.1
      exact ⟨by omega,by omega⟩
     refine (app_w (ef0 e3.fr 15).fr (c3.bank.adv) hok1.wf (operM h.txt rest.length) q.1 (oper_i64 _ _) (by omega) hi64).call fz81 fun s4 hs=>?_
     simp only [bkS,Option.some.injEq,Prod.mk.injEq] at this
     obtain ⟨hr,hσ⟩:=this
     obtain ⟨F4,t2⟩:=bank_in c3 e3.fr (ef0 e3.fr 15) hs
     simp only [ex0,ex1,wx,wy,Nat.reduceAdd,Nat.reduceEqDiff,reduceCtorEq]
     rw [hr] at *
     rw [hσ] at t2
     rw [← hF3] at t2
     exact ⟨rfl,F4,MkQ.trans (σ1:=σ1) ⟨⟨xin3,vs3,jm3,FB3,c3,hF3⟩,e3,m3,ns3⟩ t2⟩
   ·have b1:(q.2 != 0) = true:=by simp [hq]
    obtain ⟨rfl,rfl⟩:=g2 q σ1 hev hq
    simp only [x0,x1,hne34,b1,wx,wy,Nat.reduceAdd,Nat.reduceEqDiff,reduceCtorEq]
    exact ⟨rfl,F3,k3'.adv⟩
  unfold f126j1
  cases hlet:(h.txt == letW) with
  | true =>
   rw [hlet,cond_true] at hc
   have hl2:(h.txt == [108,101,116]) = true:=hlet
   simp only [eq9,hl2,wx,wy,Nat.reduceAdd,Nat.reduceEqDiff,reduceCtorEq]
   obtain ⟨v,s3,t1,rfl,F3,t2⟩:=let_c hT hL f.adv.fr (hR.ext fr f.adv) hok rest hrl hrf (by omega) hc
   refine callWiF fz176 ⟨_,s3,t1,?_⟩
   simp only [ex0,ex1,wx,wy,Nat.reduceAdd,Nat.reduceEqDiff,reduceCtorEq]
   exact ⟨rfl,F3,t2.from f.adv hp⟩
  | false =>
  rw [hlet,cond_false] at hc
  have hl2:(h.txt == [108,101,116]) = false:=hlet
  have tail:∀ (kk:Int) (S:St),EF [] s S→((eachM (T ps true n) (L0.take j) scs.flatten rest σ).bind fun q=>bif q.1.2 == 0 then (if operM h.txt rest.length = 0 then (if 0≤kk then callM true (T ps true n) (L0.take j) kk.toNat q.1.1 q.2 else none) else bkS (appM q.2.1 (operM h.txt rest.length) q.1.1) q.2.2) else some ((0,q.1.2),q.2)) = some (r,σ') →
    f126j2 (fun v s'=>v = res r∧∃ F',MkQ s p ib (L0.take j) scs (p :: jm :: (FB ++ inIds xin vs)) σ' s' F') (.sl false (rest.map Sx.av)) (.ptr p 0) (.int .i64 (operM h.txt rest.length)) (.int .i64 kk) S:=by
   intro kk S f hb
   simp only [Option.bind_eq_some_iff] at hb
   obtain ⟨⟨q,σ1⟩,hev,hb⟩:=hb
   refine fin2 kk S f (fun q2 σ2 h1 h2=>?_) (fun q2 σ2 h1 h2=>?_) ⟨q,σ1,hev⟩
   ·rw [hev] at h1
    simp only [Option.some.injEq,Prod.mk.injEq] at h1
    obtain ⟨rfl,rfl⟩:=h1
    simp only [h2,beq_self_eq_true,cond_true] at hb
    by_cases hop:operM h.txt rest.length = 0
    ·rw [if_pos hop] at hb ⊢
     by_cases h0:0≤kk
     ·rw [if_pos h0] at hb
      exact ⟨kk.toNat,by omega,hb⟩
     ·rw [if_neg h0] at hb; cases hb
    ·rw [if_neg hop] at hb ⊢; exact hb
   ·rw [hev] at h1
    simp only [Option.some.injEq,Prod.mk.injEq] at h1
    obtain ⟨rfl,rfl⟩:=h1
    have:(q.2 == 0) = false:=by simp [h2]
    simp only [this,cond_false,Option.some.injEq,Prod.mk.injEq] at hb
    exact ⟨hb.1.symm,hb.2.symm⟩
  cases hop:(operM h.txt rest.length == 0) with
  | false =>
   have hop2:¬ (operM h.txt rest.length = 0):=by simpa using hop
   rw [hop] at hc
   simp only [Bool.false_and,cond_false] at hc
   simp only [eq9,hl2,heq3,hop,wx,wy,Nat.reduceAdd,Nat.reduceEqDiff,reduceCtorEq]
   exact tail _ _ f.adv (by simpa only [if_neg hop2] using hc)
  | true =>
   have hop2:operM h.txt rest.length = 0:=by simpa using hop
   rw [hop] at hc
   simp only [Bool.true_and,cond_true] at hc
   simp only [eq9,hl2,heq3,hop,wx,wy,Nat.reduceAdd,Nat.reduceEqDiff,reduceCtorEq]
   refine callPu (c24 h.txt) (by simp [AV.closed]) ?_
   have hrs:reservedM h.txt = ((hit resN h.txt).isSome || (opN h.txt != 0) || pre [115,116,114,46] h.txt || pre [114,101,46] h.txt):=rfl
   rw [← hrs]
   cases hres:reservedM h.txt with
   | true =>
    rw [hres,cond_true] at hc
    simp only [hop,wx,wy,Nat.reduceAdd,Nat.reduceEqDiff,reduceCtorEq]
    exact same _ (0,101) f.adv hc
   | false =>
    rw [hres,cond_false] at hc
    cases hb:boundM scs.flatten h.txt with
    | some i =>
     rw [hb] at hc hkk
     subst hkk
     simp only [hop,hls,show decide ((-1:Int) < 0) = true from rfl,wx,wy,Nat.reduceAdd,Nat.reduceEqDiff,reduceCtorEq]
     cases hd:declM (L0.take j) h.txt <;> (rw [hd] at hc; exact same _ (0,100) f.adv hc)
    | none =>
     rw [hb] at hc hkk
     cases hd:declM (L0.take j) h.txt with
     | none =>
      rw [hd] at hc hkk
      have hkk:kk = -1:=hkk
      subst hkk
      simp only [hop,hls,show decide ((-1:Int) < 0) = true from rfl,wx,wy,Nat.reduceAdd,Nat.reduceEqDiff,reduceCtorEq]
      exact same _ (0,100) f.adv hc
     | some k =>
      rw [hd] at hc hkk
      have hkk:kk = (k:Int):=hkk
      subst hkk
      have hk0:decide (((k:Nat):Int) < 0) = false:=by simp
      simp only at hc
      cases hdk:(L0.take j)[k]? with
      | none=>simp only [hdk] at hc; cases hc
      | some d =>
       simp only [hdk] at hc
       have hix:=ix_map encDc false hdk .i64
       have c3:=c.ext fr (f.adv (n:=10))
       have c3h:S.h p = _:=c3.cell
       simp only [hop,hls,hk0,wx,wy,Nat.reduceAdd,Nat.reduceEqDiff,reduceCtorEq]
       refine ⟨rfl,?_⟩
       simp only [c3h,hix,dc2,wx,wy,Nat.reduceAdd,Nat.reduceEqDiff,reduceCtorEq]
       cases hm:d.mac with
       | false =>
        rw [hm,cond_false] at hc
        simp only [hop,Bool.not_false,wx,wy,Nat.reduceAdd,Nat.reduceEqDiff,reduceCtorEq]
        exact same _ (0,100) f.adv hc
       | true =>
        rw [hm,cond_true] at hc
        simp only [hop,Bool.not_true,wx,wy,Nat.reduceAdd,Nat.reduceEqDiff,reduceCtorEq]
        refine tail _ _ f.adv ?_
        simp only [if_pos hop2,show (0:Int)≤(k:Int) by omega,if_true,Int.toNat_natCast]
        exact hc
 have f2':=f2
 cases hb:boundM scs.flatten h.txt with
 | some i =>
  simp only [bE0,bE1,Option.isSome_some,wx,wy,Nat.reduceAdd,Nat.reduceEqDiff,reduceCtorEq]
  exact key (-1) _ f2.adv (by rw [hb])
 | none =>
  simp only [bE0,bE1,Option.isSome_none,wx,wy,Nat.reduceAdd,Nat.reduceEqDiff,reduceCtorEq]
  exact key _ _ f2.adv (by rw [hb])
end
end
noncomputable section
def ParseC (ps:List UInt8→List Nat × Int):Prop:=∀ x:List UInt8,x.length≤2 ^ 30→PureC Tryz.env 127 [.str x] (.tup [nsA (ps x).1,.int .i64 (ps x).2])∧limbs (ps x).1∧(ps x).1.length≤2 ^ 20
theorem ptsGo_len:∀ (n:Nat) (x:List UInt8),(ptsGo n x).length≤n:=by
 intro n
 induction n with
 | zero=>intro x; exact Nat.le_refl _
 | succ n ih =>
  intro x
  unfold ptsGo
  cases x with
  | nil=>simp
  | cons c r =>
   simp only
   cases decide ((escM (c :: r)).1 < 0)
   ·simp only [cond_false,List.length_cons]; have:=ih ((c :: r).drop (escM (c :: r)).2.toNat); omega
   ·simp only [cond_true,List.length_cons]; have:=ih r; omega
theorem runGo_len:∀ (l:List Int) (out:List (Int × Int)),(runGo l out).1.length≤out.length + l.length:=by
 intro l
 induction l with
 | nil =>
  intro out
  unfold runGo
  cases decide ((out.length:Int) > 65536)
  ·exact Nat.le_refl _
  ·exact Nat.zero_le _
 | cons c l ih =>
  intro out
  unfold runGo
  cases point c
  ·exact Nat.zero_le _
  ·simp only [cond_true]
   have h1:=ih (stepRun out c)
   have h2:=stepRun_len out c
   simp only [List.length_cons]; omega
section
variable {s s':St} {p ib:Nat} {L:List Dc} {scs:List Ev} {σ:Sg} {F:List Nat} {K:AV→St→Prop} {ps:List UInt8→List Nat × Int} {L0:List Dc} {n j:Nat} {σ':Sg}
theorem rt_ex (r:List (Int × Int) × Int):extr (rtA r) 0 = some (.sl false (r.1.map rnA))∧extr (rtA r) 1 = some (.int .i64 r.2):=⟨rfl,rfl⟩
theorem term_c (hps:ParseC ps) (hT:TermC ps n):TermC ps (n + 1):=by
 intro s p ib L0 j scs σ F x r σ' fr hR hok hL hfit hw hc
 have hc:termM ps true (T ps true n) (L0.take j) scs.flatten x σ = some (r,σ'):=hc
 have hF:=hR.lt fr
 have hp:=hF p hR.pin
 obtain ⟨xin,vs,jm,FB,c,rfl⟩:=hR
 have hR:MkR s p ib (L0.take j) scs σ (p :: jm :: (FB ++ inIds xin vs)):=⟨xin,vs,jm,FB,c,rfl⟩
 refine f75_run _ _ _ ?_
 unfold f75
 refine ⟨sx_ones x,?_⟩
 have heq3:∀ u v:Int,bn .eql 3 (.int .i64 u) (.int .i64 v) = some (.bool (u == v)):=fun _ _=>bin_eql
 have hne34:∀ u v:Int,bn .neq 34 (.int .i64 u) (.int .i64 v) = some (.bool (u != v)):=fun _ _=>bin_neq
 have same:∀ (S:St) (r0:Int × Int),EF [] s S→(some (r0,σ):Rt) = some (r,σ')→(res r0 = res r∧∃ F',MkQ s p ib (L0.take j) scs (p :: jm :: (FB ++ inIds xin vs)) σ' S F'):=fun S r0 e h=>by
  simp only [Option.some.injEq,Prod.mk.injEq] at h
  obtain ⟨rfl,rfl⟩:=h
  exact ⟨rfl,_,MkQ.same hR fr e⟩
 have bank:∀ (S s':St) (q:(Int × Int) × Bk),EF [] s S→bkS q σ.2 = some (r,σ')→BkQ S ib FB q.2 s'→(res q.1 = res r∧∃ F',MkQ s p ib (L0.take j) scs (p :: jm :: (FB ++ inIds xin vs)) σ' s' F'):=fun S s' q e h hb=>by
  simp only [bkS,Option.some.injEq,Prod.mk.injEq] at h
  obtain ⟨rfl,rfl⟩:=h
  exact ⟨rfl,bank_in c fr e hb⟩
 have e0:∀ (k:Nat),0 < k→EF [] s (Ai.adv (s.set s.nx (some (.cells x.av.cells 33 true true))) k):=fun k hk=>⟨by simp only [adv_nx,set_nx]; omega,fun b hb _=>by rw [adv_h,st_other (by omega)],fresh_set fr k (by omega)⟩
 have hpn:¬ (p = s.nx):=by omega
 have hx30:=fit_txt hfit
 unfold termM at hc
 simp only [sxc0,wx,wy,Nat.reduceAdd,Nat.reduceEqDiff,reduceCtorEq]
 cases hl:x.lst with
 | true =>
  rw [hl,cond_true] at hc
  simp only [sx_part,wx,wy,Nat.reduceAdd,Nat.reduceEqDiff,reduceCtorEq]
  obtain ⟨v,s1,t1,rfl,F1,t2⟩:=list_c hT hL (e0 12 (by omega)).fr (hR.ext fr (e0 12 (by omega))) hok x hfit hw hc
  refine callWiF fz126 ⟨_,s1,t1,?_⟩
  simp only [ex0,ex1,wx,wy,Nat.reduceAdd,Nat.reduceEqDiff,reduceCtorEq]
  exact ⟨rfl,F1,t2.from (e0 12 (by omega)) hp⟩
 | false =>
 rw [hl,cond_false] at hc
 simp only [sxc1,heq3,wx,wy,Nat.reduceAdd,Nat.reduceEqDiff,reduceCtorEq]
 cases h4:(x.kind == 4) with
 | true =>
  rw [h4,cond_true] at hc
  obtain ⟨p1,p2,p3⟩:=hps x.txt hx30
  simp only [sxc2,wx,wy,Nat.reduceAdd,Nat.reduceEqDiff,reduceCtorEq]
  refine callPu p1 (by simp [AV.closed]) ?_
  have x0:extr (.tup [nsA (ps x.txt).1,.int .i64 (ps x.txt).2]) 0 = some (nsA (ps x.txt).1):=rfl
  have x1:extr (.tup [nsA (ps x.txt).1,.int .i64 (ps x.txt).2]) 1 = some (.int .i64 (ps x.txt).2):=rfl
  cases he:((ps x.txt).2 != 0) with
  | true =>
   rw [he,cond_true] at hc
   simp only [x0,x1,hne34,he,wx,wy,Nat.reduceAdd,Nat.reduceEqDiff,reduceCtorEq]
   exact same _ (0,101) (e0 _ (by omega)) hc
  | false =>
   rw [he,cond_false] at hc
   have hb24:bld 24 [(1,nsA (ps x.txt).1)] = some (wzA false (ps x.txt).1):=by rw [bf24]; rfl
   simp only [x0,x1,hne34,he,wx,wy,Nat.reduceAdd,Nat.reduceEqDiff,reduceCtorEq]
   refine ⟨rfl,?_⟩
   simp only [hpn,c.cell,hb24,if_false,wx,wy,Nat.reduceAdd,Nat.reduceEqDiff,reduceCtorEq]
   refine (num_w (e0 _ (by omega)).fr (c.ext fr (e0 _ (by omega))).bank false _ p2 p3).call fz79 fun s1 hs=>?_
   simp only [ex0,ex1,wx,wy,Nat.reduceAdd,Nat.reduceEqDiff,reduceCtorEq]
   exact bank _ _ _ (e0 _ (by omega)) hc hs
 | false =>
 rw [h4,cond_false] at hc
 cases h6:(x.kind == 6) with
 | true =>
  rw [h6,cond_true] at hc
  have hpl:=ptsGo_len x.txt.length x.txt
  have hpl:(ptsM x.txt).length≤2 ^ 30:=Nat.le_trans hpl hx30
  have hrl:=runGo_len (ptsM x.txt) []
  simp only [List.length_nil] at hrl
  simp only [heq3,h6,sxc2,wx,wy,Nat.reduceAdd,Nat.reduceEqDiff,reduceCtorEq]
  refine callPu (c129 x.txt hx30) (by simp [AV.closed]) ?_
  refine callPu (c128 (ptsM x.txt) hpl) (by simp [sla_closed]) ?_
  simp only [(rt_ex (runGo (ptsM x.txt) [])).1,(rt_ex (runGo (ptsM x.txt) [])).2,wx,wy,Nat.reduceAdd,Nat.reduceEqDiff,reduceCtorEq]
  refine ⟨rfl,?_⟩
  simp only [hpn,c.cell,if_false,wx,wy,Nat.reduceAdd,Nat.reduceEqDiff,reduceCtorEq]
  refine (str_w (e0 _ (by omega)).fr (c.ext fr (e0 _ (by omega))).bank _ (by omega)).call fz80 fun s1 hs=>?_
  simp only [ex0,ex1,wx,wy,Nat.reduceAdd,Nat.reduceEqDiff,reduceCtorEq]
  exact bank _ _ _ (e0 _ (by omega)) hc hs
 | false =>
 rw [h6,cond_false] at hc
 cases h3:(x.kind == 3) with
 | true =>
  rw [h3,cond_true] at hc
  simp only [heq3,h6,h3,sxc2,wx,wy,Nat.reduceAdd,Nat.reduceEqDiff,reduceCtorEq]
  obtain ⟨v,s1,t1,rfl,F1,t2⟩:=name_c hT hL (e0 23 (by omega)).fr (hR.ext fr (e0 23 (by omega))) hok (by omega) x.txt hc
  refine callWiF fz130 ⟨_,s1,t1,?_⟩
  simp only [ex0,ex1,wx,wy,Nat.reduceAdd,Nat.reduceEqDiff,reduceCtorEq]
  exact ⟨rfl,F1,t2.from (e0 23 (by omega)) hp⟩
 | false =>
  rw [h3,cond_false] at hc
  simp only [heq3,h6,h3,f75j1,wx,wy,Nat.reduceAdd,Nat.reduceEqDiff,reduceCtorEq]
  exact same _ (0,101) (e0 _ (by omega)) hc
theorem term_ok (hps:ParseC ps):∀ n,TermC ps n:=by
 intro n
 induction n with
 | zero=>intro s p ib L0 j scs σ F x r σ' _ _ _ _ _ _ hc; cases hc
 | succ n ih=>exact term_c hps ih
theorem fz30:Tryz.env.fz 30 = true:=by kernel_rfl
theorem se30:Tryz.env.se 30 = [false,true,true]:=by kernel_rfl
theorem pur_cl {v:AV} (h:v.closed = true) (s:St):pur Tryz.env.P s 12 v = some (v,[]):=pur_closed 12 h
theorem seal30p {s:St} {ib:Nat} {x y x' y':AV} {i j:List Nat} (hx:pur Tryz.env.P s 12 x = some (x',i)) (hy:pur Tryz.env.P s 12 y = some (y',j)):sealA Tryz.env.P s (Tryz.env.se 30) [.ptr ib 0,x,y] = some ([.ptr ib 0,x',y'],i ++ (j ++ [])):=by
 rw [se30]
 simp only [sealA,hx,hy,Option.bind_some,Option.map_some,cond_true,cond_false]
theorem dcs_closed (L:List Dc):(AV.sl false (L.map Dc.av)).closed = true:=by
 simp only [AV.closed,Bool.not_false,Bool.true_and]; exact closedL_map _ _ dc_closed
theorem seal30 (s:St) (ib:Nat) (L:List Dc) (x:Sx):sealA Tryz.env.P s (Tryz.env.se 30) [.ptr ib 0,.sl false (L.map Dc.av),x.av] = some ([.ptr ib 0,.sl false (L.map Dc.av),x.av],[]):=seal30p (pur_cl (dcs_closed L) s) (pur_cl (sx_closed x) s)
theorem Term_c (hps:ParseC ps) {B B':Bk} {M':Mm} (fr:Fresh s) (hB:BkR s ib B F) (hw:Wf B) (hL:DcOk L0) (x:Sx) (hfit:x.fit) (hwt:x.wt≤2 ^ 29) {r:Int × Int} {n:Nat} (hc:T ps true n L0 [] x (B,[]) = some (r,(B',M'))):BkW 30 [.ptr ib 0,.sl false (L0.map Dc.av),x.av] s ib F (r,B'):=by
 have hF:=hB.lt fr
 have hib:=hF ib hB.mem
 refine f30_run _ _ _ _ ?_
 unfold f30
 refine ⟨sx_ones x,?_⟩
 have hb:∀ k,bld 124 [(0,.ptr ib 0),(1,.sl false (L0.map Dc.av)),(3,.map k)] = some (.agg [.ptr ib 0,.sl false (L0.map Dc.av),.nils,.map k]):=fun k=>by rw [bf124]; rfl
 have hcl:∀ k,(AV.agg [.ptr ib 0,.sl false (L0.map Dc.av),.nils,.map k]).cells = [.ptr ib 0,.sl false (L0.map Dc.av),.nils,.map k]:=fun k=>rfl
 have hone:∀ k,([.ptr ib 0,.sl false (L0.map Dc.av),.nils,.map k]:List AV).all AV.one = true:=fun k=>rfl
 simp only [hb,hcl,hone,sx_part,wx,wy,Nat.reduceAdd,Nat.reduceEqDiff,reduceCtorEq]
 obtain ⟨S,hS⟩:∃ S,S = Ai.adv (((s.set s.nx (some (.cells x.av.cells 33 true true))).set (s.nx + 5) (some (.map []))).set (s.nx + 7) (some (.cells [.ptr ib 0,.sl false (L0.map Dc.av),.nils,.map (s.nx + 5)] 124 true true))) 16:=⟨_,rfl⟩
 rw [← hS]
 have nS:S.nx = s.nx + 16:=by rw [hS]; rfl
 have gS:∀ x,x < s.nx→S.h x = s.h x:=fun a ha=>by rw [hS,adv_h,st_other (by omega),st_other (by omega),st_other (by omega)]
 have eS:EF [] s S:=by
  refine ⟨by omega,fun a ha _=>gS a ha,fun a ha=>?_⟩
  rw [nS] at ha
  rw [hS,adv_h,st_other (by omega),st_other (by omega),st_other (by omega)]
  exact fr a (by omega)
 have hmk:MkR S (s.nx + 7) ib (L0.take L0.length) [] (B,[]) ((s.nx + 7) :: (s.nx + 5) :: (F ++ inIds .nils [])):=by
  refine ⟨.nils,[],s.nx + 5,F,⟨by rw [List.take_length,hS,adv_h,st_same],hB.keep fun a ha=>gS a (hF a ha),by rw [hS,adv_h,st_other (by omega),st_same]; rfl,.inl ⟨rfl,rfl⟩,trivial,by omega,fun h=>by have:=hF _ h; omega,fun h=>by have:=hF _ h; omega,fun a ha=>by cases ha⟩,rfl⟩
 have hok:StOk ps L0 ([]:List Ev).flatten (B,[]):=⟨hw,(fun q hq=>by cases hq),mval_nil ps L0 B⟩
 obtain ⟨v,s1,t1,rfl,F1,t2⟩:=term_ok hps n S (s.nx + 7) ib L0 L0.length [] (B,[]) _ x r (B',M') eS.fr hmk hok hL hfit (by simp only [List.length_nil]; omega) (by rw [List.take_length]; exact hc)
 refine callWiF fz75 ⟨_,s1,t1,?_⟩
 simp only [ex0,ex1,wx,wy,Nat.reduceAdd,Nat.reduceEqDiff,reduceCtorEq]
 refine ⟨rfl,?_⟩
 obtain ⟨⟨xin,vs,jm,FB,c,hF1⟩,e1,m1,_⟩:=t2
 have hsub:∀ a∈(s.nx + 7) :: (s.nx + 5) :: (F ++ inIds .nils []),a∈F∨s.nx≤a:=fun a ha=>by
  simp only [List.mem_cons,List.mem_append,inIds,idOf,List.flatMap_nil,List.append_nil,List.not_mem_nil,or_false] at ha
  rcases ha with rfl | rfl | ha
  ·exact .inr (by omega)
  ·exact .inr (by omega)
  ·exact .inl ha
 refine ⟨FB,c.bank,(eS.sub (M':=F) fun a ha=>by cases ha).trans e1 fun a ha=>(hsub a ha).symm,fun a ha=>?_⟩
 rcases m1 a (by rw [hF1]; simp [ha]) with h | h
 ·exact hsub a h
 ·exact .inr (by omega)
end
end
noncomputable section
def limV (v:Nat):List Nat:=if h:v = 0 then [] else v % 4294967296 :: limV (v / 4294967296)
termination_by v
decreasing_by omega
theorem limV_zero:limV 0 = []:=by unfold limV; rfl
theorem limV_pos {v:Nat} (h:v≠0):limV v = v % 4294967296 :: limV (v / 4294967296):=by rw [limV]; simp [h]
theorem val_limV:∀ v,val (limV v) = v:=by
 intro v
 induction v using Nat.strongRecOn with
 | ind v ih =>
  by_cases h:v = 0
  ·subst h; rw [limV_zero]; rfl
  ·rw [limV_pos h]
   simp only [val,ih _ (show v / 4294967296 < v by omega)]
   omega
theorem limV_limbs:∀ v,limbs (limV v):=by
 intro v
 induction v using Nat.strongRecOn with
 | ind v ih =>
  by_cases h:v = 0
  ·subst h; rw [limV_zero]; intro x hx; cases hx
  ·rw [limV_pos h]
   intro x hx
   rcases List.mem_cons.1 hx with rfl | hx
   ·rw [p32]; omega
   ·exact ih _ (show v / 4294967296 < v by omega) x hx
theorem limV_len:∀ (k v:Nat),v < pw k→(limV v).length≤k:=by
 intro k
 induction k with
 | zero =>
  intro v h
  rw [pw_zero] at h
  have:v = 0:=by omega
  subst this; rw [limV_zero]; simp
 | succ k ih =>
  intro v h
  by_cases h0:v = 0
  ·subst h0; rw [limV_zero]; simp
  ·rw [limV_pos h0]
   rw [pw_succ] at h
   have:=ih (v / 4294967296) (by omega)
   simp only [List.length_cons]; omega
def noT (l:List Nat):Prop:=l = []∨∃ x,l[l.length - 1]? = some x∧x≠0
theorem canon:∀ (l:List Nat),limbs l→noT l→l = limV (val l):=by
 intro l
 induction l with
 | nil=>intro _ _; simp only [val]; rw [limV_zero]
 | cons x l ih =>
  intro hl hn
  have hx:=hl x (List.mem_cons_self ..)
  rw [p32] at hx
  have hl':limbs l:=fun y hy=>hl y (List.mem_cons_of_mem _ hy)
  rcases hn with hn | ⟨y,hy,hy0⟩
  ·cases hn
  ·have hv:val (x :: l)≠0:=by
    simp only [val]
    cases l with
    | nil=>simp at hy; omega
    | cons z l =>
     have hn2:noT (z :: l):=.inr ⟨y,by simpa using hy,hy0⟩
     have:=ih hl' hn2
     intro h
     have h0:val (z :: l) = 0:=by omega
     rw [h0,limV_zero] at this
     cases this
   rw [limV_pos hv]
   simp only [val]
   have h1:(x + 4294967296 * val l) % 4294967296 = x:=by omega
   have h2:(x + 4294967296 * val l) / 4294967296 = val l:=by omega
   rw [h1,h2]
   congr 1
   refine ih hl' ?_
   cases l with
   | nil=>exact .inl rfl
   | cons z l=>exact .inr ⟨y,by simpa using hy,hy0⟩
theorem norm_lim {l:List Nat} (h:limbs l):normM l = limV (val l):=by
 have h1:=canon (normM l) (norm_limbs h) (by
  obtain ⟨_,h2⟩:=trim_spec l l.length (Nat.le_refl _)
  have hle:=trimN_le l l.length
  unfold normM
  rcases h2 with h2 | ⟨x,h2,h3⟩
  ·rw [h2]; exact .inl rfl
  ·by_cases h0:trimN l l.length = 0
   ·rw [h0]; exact .inl rfl
   ·right
    refine ⟨x,?_,h3⟩
    rw [List.length_take,Nat.min_eq_left hle,List.getElem?_take_of_lt (by omega)]
    exact h2)
 rw [val_norm] at h1
 exact h1
theorem val_set {l:List Nat} {k u:Nat} (v:Nat) (h:l[k]? = some u):val (l.set k v) + pw k * u = val l + pw k * v:=by
 induction l generalizing k with
 | nil=>simp at h
 | cons x l ih =>
  cases k with
  | zero=>simp at h; subst h; simp only [List.set_cons_zero,val,pw_zero]; omega
  | succ k =>
   simp only [List.getElem?_cons_succ] at h
   have:=ih h
   simp only [List.set_cons_succ,val,pw_succ]
   have e1:4294967296 * pw k * u = 4294967296 * (pw k * u):=Nat.mul_assoc ..
   have e2:4294967296 * pw k * v = 4294967296 * (pw k * v):=Nat.mul_assoc ..
   omega
theorem val_rep (n:Nat):val (List.replicate n 0) = 0:=by
 induction n with
 | zero=>rfl
 | succ n ih=>simp only [List.replicate_succ,val,ih]
def lb (a:List Nat) (i:Nat):Nat:=(a[i]?).getD 0
theorem lb_lt {a:List Nat} (h:limbs a) (i:Nat):lb a i < 2 ^ 32:=by
 unfold lb
 cases he:a[i]? with
 | none=>decide
 | some x=>exact h x (List.mem_of_getElem? he)
theorem val_take (a:List Nat) (i:Nat):val (a.take (i + 1)) = val (a.take i) + pw i * lb a i:=by
 unfold lb
 cases he:a[i]? with
 | none =>
  have:=List.getElem?_eq_none_iff.1 he
  rw [List.take_of_length_le (by omega),List.take_of_length_le this]; simp
 | some x =>
  have hlt:=(List.getElem?_eq_some_iff.1 he).1
  rw [List.take_add_one,he,val_append]
  simp only [List.length_take,Nat.min_eq_left (Nat.le_of_lt hlt),Option.toList,val,Option.getD_some,Nat.mul_zero,Nat.add_zero]
theorem pw_mono {i j:Nat} (h:i≤j):pw i≤pw j:=Nat.pow_le_pow_right (by decide) h
theorem c214 (a:List Nat) (i:Nat) (h:limbs a):PureC Tryz.env 214 [nsA a,.int .i64 i] (.int .u64 (lb a i)):=by
 refine pure_q (f214_run _ _ _ ?_)
 unfold f214
 have hg:∀ u v:Int,bn .geq 3 (.int .i64 u) (.int .i64 v) = some (.bool (decide (u ≥ v))):=fun _ _=>bin_geq
 simp only [nsA,ln22s,List.length_map,hg,wx,wy,Nat.reduceAdd,Nat.reduceEqDiff,reduceCtorEq]
 cases he:a[i]? with
 | none =>
  have:=List.getElem?_eq_none_iff.1 he
  have hd:decide ((i:Int) ≥ (a.length:Int)) = true:=decide_eq_true (by omega)
  simp only [hd,lb,he,Option.getD_none,wx,wy,Nat.reduceAdd,Nat.reduceEqDiff,reduceCtorEq]
  exact pureQ_closed rfl
 | some x =>
  have hlt:=(List.getElem?_eq_some_iff.1 he).1
  have hd:decide ((i:Int) ≥ (a.length:Int)) = false:=decide_eq_false (by omega)
  have hx:=h x (List.mem_of_getElem? he)
  rw [p32] at hx
  simp only [hd,ix_map encU false he,u3_0,cf211_159,lb,he,Option.getD_some,wx,wy,Nat.reduceAdd,Nat.reduceEqDiff,reduceCtorEq]
  rw [show IntKind.u64.wrap (x:Int) = (x:Int) from IntWalk.u64_in _ (by omega)]
  exact pureQ_closed rfl
theorem bn_shr64 (a:Nat):bn .shr 159 (.int .u64 (a:Int)) (.int .u64 32) = some (.int .u64 ((a / 4294967296:Nat):Int)):=by
 have h:bn .shr 159 (.int .u64 (a:Int)) (.int .u64 32) = some (.int .u64 ((a:Int).fdiv (2 ^ 32))):=bin_shr (n:=32) (by decide)
 rw [h]
 congr 2
 rw [Int.fdiv_eq_ediv_of_nonneg _ (by decide)]
 rfl
theorem wrap32 (a:Nat):IntKind.u32.wrap (a:Int) = ((a % 4294967296:Nat):Int):=by
 simp [IntKind.wrap,IntKind.bits,IntKind.signed]
 try omega
theorem l179 (a b:List Nat) (ha:limbs a) (hb:limbs b) (n:Nat) (hn:n≤2 ^ 31) (hla:a.length < n) (hlb:b.length < n) (Q:AV→St→Prop) (N c:Nat) (e':TypeId)
  (hQ:∀ (out:List Nat) s,limbs out→out.length = n→val out = val a + val b→s.h N = some (.cells (out.map u3A) e' true true)→f179j1 Q (.ref N 0 n (some c) 211) s) :
  ∀ (m i:Nat) (done:List Nat) (cy:Nat) (s:St),i + m = n→done.length = i→limbs done→cy≤1→val done + pw i * cy = val (a.take i) + val (b.take i)→s.h N = some (.cells ((done ++ List.replicate m 0).map u3A) e' true true) →
   f179l1 Q (m + 1) (nsA a) (nsA b) (.ref N 0 n (some c) 211) (.int .u64 cy) (.int .i64 n) (.int .i64 i) s:=by
 intro m
 induction m with
 | zero =>
  intro i done cy s hi hd hld hcy hv hs
  show f179l1s Q (f179l1 Q 0) _ _ _ _ _ _ s
  have c1:decide ((i:Int) < (n:Int)) = false:=by simp; omega
  rw [List.take_of_length_le (by omega),List.take_of_length_le (by omega)] at hv
  simp only [List.replicate_zero,List.append_nil] at hs
  have hcy0:cy = 0:=by
   have h1:=val_lt a ha
   have h2:=val_lt b hb
   have h3:pw a.length≤pw (n - 1):=pw_mono (by omega)
   have h4:pw b.length≤pw (n - 1):=pw_mono (by omega)
   have h5:pw n = 4294967296 * pw (n - 1):=by rw [← pw_succ]; congr 1; omega
   have hin:i = n:=by omega
   subst hin
   rcases Nat.eq_zero_or_pos cy with h | h
   ·exact h
   ·exfalso
    have:cy = 1:=by omega
    subst this
    have:=pw_pos (i - 1)
    omega
  simp only [f179l1s,c1,wx,wy,Nat.reduceAdd,Nat.reduceEqDiff,reduceCtorEq]
  refine hQ done _ hld (by omega) (by rw [← hv,hcy0]; simp) (by rw [adv_h]; exact hs)
 | succ m ih =>
  intro i done cy s hi hd hld hcy hv hs
  show f179l1s Q (f179l1 Q (m + 1)) _ _ _ _ _ _ s
  have c1:decide ((i:Int) < (n:Int)) = true:=by simp; omega
  have w1:IntKind.i64.wrap ((i:Int) + 1) = ((i + 1:Nat):Int):=wrap_i (n:=n) (by omega) (by omega)
  have la:=lb_lt ha i
  have lb':=lb_lt hb i
  rw [p32] at la lb'
  have hadd:∀ x y:Nat,x + y < 2 ^ 64→bn .add 159 (.int .u64 (x:Int)) (.int .u64 (y:Int)) = some (.int .u64 ((x + y:Nat):Int)):=fun x y h=>by
   have h1:bn .add 159 (.int .u64 (x:Int)) (.int .u64 (y:Int)) = some (.int .u64 (IntKind.u64.wrap ((x:Int) + (y:Int)))):=bin_add
   rw [h1,show IntKind.u64.wrap ((x:Int) + (y:Int)) = ((x + y:Nat):Int) by rw [IntWalk.u64_in _ (by omega)]; rfl]
  have hix:ixS 1 (.ref N 0 n (some c) 211) (.int .i64 (i:Int)) = some (.ptr N i):=ix_ref0 (by omega) .i64
  simp only [f179l1s,c1,wx,wy,Nat.reduceAdd,Nat.reduceEqDiff,reduceCtorEq]
  refine callPu (c214 a i ha) (by simp [ns_closed,AV.closed]) ?_
  refine callPu (c214 b i hb) (by simp [ns_closed,AV.closed]) ?_
  rw [hadd _ _ (by omega)]
  simp only [Bnd_some]
  rw [hadd _ _ (by omega)]
  simp only [cf159_211,wrap32,hix,bn_shr64,wx,wy,Nat.reduceAdd,Nat.reduceEqDiff,reduceCtorEq]
  obtain ⟨t,ht⟩:∃ t,t = cy + (lb a i + lb b i):=⟨_,rfl⟩
  rw [← ht]
  rw [sto_c (v:=.int .u32 ((t % 4294967296:Nat):Int)) (c:=(done ++ List.replicate (m + 1) 0).map u3A) (by rw [adv_h]; exact hs) (by simp; omega) rfl rfl]
  simp only [f179j2,w1,wx,wy,Nat.reduceAdd,Nat.reduceEqDiff,reduceCtorEq]
  have hset:((done ++ List.replicate (m + 1) 0).map u3A).set i (.int .u32 ((t % 4294967296:Nat):Int)) = ((done ++ [t % 4294967296]) ++ List.replicate m 0).map u3A:=by
   subst hd
   simp [List.replicate_succ,u3A]
  rw [hset]
  refine ih (i + 1) (done ++ [t % 4294967296]) (t / 4294967296) _ (by omega) (by simp [hd]) (fun x hx=>?_) (by omega) ?_ (by rw [adv_h,st_same])
  ·rcases List.mem_append.1 hx with hx | hx
   ·exact hld x hx
   ·rw [List.mem_singleton.1 hx,p32]; omega
  ·rw [val_append,val_take,val_take,hd,pw_succ]
   simp only [val,Nat.mul_zero,Nat.add_zero]
   have hm:t = 4294967296 * (t / 4294967296) + t % 4294967296:=(Nat.div_add_mod t 4294967296).symm
   have e1:pw i * (t % 4294967296) + 4294967296 * pw i * (t / 4294967296) = pw i * t:=by
    have e:pw i * t = pw i * (4294967296 * (t / 4294967296) + t % 4294967296):=by rw [← hm]
    rw [e,Nat.mul_add,← Nat.mul_assoc,Nat.mul_comm (pw i) 4294967296]; omega
   have e2:pw i * t = pw i * cy + (pw i * lb a i + pw i * lb b i):=by rw [ht,Nat.mul_add,Nat.mul_add]
   omega
theorem mx_eq' (a b:Nat) (id:Nat) (s:St):bt .max #[3,3] [.int .i64 (a:Int),.int .i64 (b:Int)] id s = some (.int .i64 ((Nat.max a b:Nat):Int),s):=by
 have h:bt .max #[3,3] [.int .i64 (a:Int),.int .i64 (b:Int)] id s = (minI (fun y x=>decide (x < y)) [.int .i64 (a:Int),.int .i64 (b:Int)]).map (·,s):=by kernel_rfl
 rw [h]
 simp only [minI,if_true,Option.map_some,decide_eq_true_eq]
 congr 3
 by_cases hc:(a:Int) < (b:Int)
 ·rw [if_pos hc]; congr 1; exact (Nat.max_eq_right (by omega)).symm
 ·rw [if_neg hc]; congr 1; exact (Nat.max_eq_left (by omega)).symm
theorem c179 (a b:List Nat) (ha:limbs a) (hb:limbs b) (hla:a.length≤2 ^ 29) (hlb:b.length≤2 ^ 29):PureC Tryz.env 179 [nsA a,nsA b] (nsA (limV (val a + val b))):=by
 refine pure_q (f179_run _ _ _ ?_)
 have hz:zero Tryz.ty 211 = some (.int .u32 0):=zf211
 have hc0:(AV.int .u32 0).cells = [.int .u32 0]:=rfl
 have h1:a.length≤Nat.max a.length b.length:=Nat.le_max_left ..
 have h2:b.length≤Nat.max a.length b.length:=Nat.le_max_right ..
 have h3:Nat.max a.length b.length≤2 ^ 29:=Nat.max_le.2 ⟨hla,hlb⟩
 have hw:IntKind.i64.wrap (((Nat.max a.length b.length:Nat):Int) + 1) = ((Nat.max a.length b.length + 1:Nat):Int):=by rw [IntWalk.i64_in _ (by omega)]; rfl
 unfold f179
 simp only [ln22ns,mx_eq',hw,mkS_eq tf22 hz (Nat.max a.length b.length + 1) (by omega) (by omega),hc0,flat_rep,wx,wy,Nat.reduceAdd,Nat.reduceEqDiff,reduceCtorEq]
 refine ⟨_,l179 a b ha hb (Nat.max a.length b.length + 1) (by omega) (by omega) (by omega) _ _ _ 211 (fun out s g1 g2 g3 g4=>?_) (Nat.max a.length b.length + 1) 0 [] 0 _ (by omega) rfl (fun x hx=>by cases hx) (by omega) (by simp [val]) (by rw [adv_h,st_same]; simp [u3A])⟩
 unfold f179j1
 have hp:=pur_ref (s:=Ai.adv s 3) (c:=some (Nat.max a.length b.length + 1)) (k:=11) (l:=out) (f:=u3A) tf22 (by rw [adv_h]; exact g4) (fun _ _=>rfl) (fun _ _=>rfl)
 rw [g2] at hp
 refine callPur (args2:=[nsA out]) (ids:=[St.empty.nx + 9]) (by simp only [purL,hp,nsA,List.append_nil]) (c110 _ (by rw [g2]; omega)) ?_
 rw [norm_lim g1,g3]
 exact pureQ_closed (ns_closed _)
theorem len_set_val {l:List Nat} (h:limbs l) {k v:Nat} (hv:v < 2 ^ 32):limbs (l.set k v):=fun x hx=>by
 rcases List.mem_or_eq_of_mem_set hx with h1 | rfl
 ·exact h x h1
 ·exact hv
theorem mul_small {x y u c:Nat} (hx:x < 4294967296) (hy:y < 4294967296) (hu:u < 4294967296) (hc:c < 4294967296):c + (x * y + u) < 18446744073709551616:=by
 have h1:x * y≤4294967295 * 4294967295:=Nat.mul_le_mul (by omega) (by omega)
 omega
theorem u32_64 {x:Nat} (h:x < 4294967296):IntKind.u64.wrap (x:Int) = (x:Int):=IntWalk.u64_in _ (by omega)
theorem l180b (a b:List Nat) (hb:limbs b) (hla:a.length≤2 ^ 28) (hlb:b.length≤2 ^ 28) (Q:AV→St→Prop) (ih1:AV→AV→AV→AV→AV→St→Prop) (N c n:Nat) (e':TypeId) (i x:Nat) (hi:i < a.length) (hn:n = a.length + b.length) (hx:x < 2 ^ 32) (v0:Nat)
  (hQ:∀ (out:List Nat) s,limbs out→out.length = n→val out = v0 + pw i * (x * val b)→(∀ k,i + b.length < k→k < n→out[k]? = some 0)→s.h N = some (.cells (out.map u3A) e' true true)→f180j2 Q ih1 (.int .i64 i) (nsA b) (.ref N 0 n (some c) 211) (nsA a) (.int .i64 a.length) s) :
  ∀ (m j:Nat) (out:List Nat) (cy:Nat) (s:St),j + m = b.length→limbs out→out.length = n→cy < 2 ^ 32→val out + pw (i + j) * cy = v0 + pw i * (x * val (b.take j))→(∀ k,i + b.length≤k→k < n→out[k]? = some 0)→s.h N = some (.cells (out.map u3A) e' true true) →
   f180l2 Q ih1 (m + 1) (nsA b) (.ref N 0 n (some c) 211) (.int .i64 i) (.int .u32 x) (.int .u64 cy) (nsA a) (.int .i64 a.length) (.int .i64 i) (.int .i64 b.length) (.int .i64 j) s:=by
 rw [p32] at hx
 intro m
 induction m with
 | zero =>
  intro j out cy s hj hlo hlen hcy hv hz hs
  rw [p32] at hcy
  show f180l2s Q ih1 (f180l2 Q ih1 0) _ _ _ _ _ _ _ _ _ _ s
  have c1:decide ((j:Int) < (b.length:Int)) = false:=by simp; omega
  rw [List.take_of_length_le (by omega)] at hv
  have hjb:j = b.length:=by omega
  subst hjb
  have hz0:=hz (i + b.length) (Nat.le_refl _) (by omega)
  have hix:ixS 1 (.ref N 0 n (some c) 211) (.int .i64 ((i + b.length:Nat):Int)) = some (.ptr N (i + b.length)):=ix_ref0 (by omega) .i64
  have wij:IntKind.i64.wrap ((i:Int) + (b.length:Int)) = ((i + b.length:Nat):Int):=by rw [IntWalk.i64_in _ (by omega)]; rfl
  simp only [f180l2s,c1,f180j3,ln22ns,wij,cf159_211,wrap32,hix,wx,wy,Nat.reduceAdd,Nat.reduceEqDiff,reduceCtorEq]
  rw [sto_c (v:=.int .u32 ((cy % 4294967296:Nat):Int)) (c:=out.map u3A) (by simp only [adv_h]; exact hs) (by simp; omega) rfl rfl]
  simp only [Bnd_some]
  have hset:(out.map u3A).set (i + b.length) (.int .u32 ((cy % 4294967296:Nat):Int)) = (out.set (i + b.length) cy).map u3A:=by
   rw [Nat.mod_eq_of_lt hcy,List.map_set]; rfl
  rw [hset]
  have hvs:=val_set cy hz0
  refine hQ (out.set (i + b.length) cy) _ (len_set_val hlo (by rw [p32]; exact hcy)) (by rw [List.length_set]; exact hlen) (by simp only [Nat.mul_zero,Nat.add_zero] at hvs; omega) (fun k hk hk2=>?_) (by rw [st_same])
  rw [List.getElem?_set_ne (by omega)]
  exact hz k (by omega) hk2
 | succ m ih =>
  intro j out cy s hj hlo hlen hcy hv hz hs
  rw [p32] at hcy
  show f180l2s Q ih1 (f180l2 Q ih1 (m + 1)) _ _ _ _ _ _ _ _ _ _ s
  have c1:decide ((j:Int) < (b.length:Int)) = true:=by simp; omega
  have w1:IntKind.i64.wrap ((j:Int) + 1) = ((j + 1:Nat):Int):=wrap_i (n:=b.length) (by omega) (by omega)
  obtain ⟨y,hy⟩:∃ y,b[j]? = some y:=⟨_,List.getElem?_eq_getElem (by omega)⟩
  have hyl:=hb y (List.mem_of_getElem? hy)
  rw [p32] at hyl
  obtain ⟨u,hu⟩:∃ u,out[i + j]? = some u:=⟨_,List.getElem?_eq_getElem (by omega)⟩
  have hul:=hlo u (List.mem_of_getElem? hu)
  rw [p32] at hul
  have hix:ixS 1 (.ref N 0 n (some c) 211) (.int .i64 ((i + j:Nat):Int)) = some (.ptr N (i + j)):=ix_ref0 (by omega) .i64
  have hub:(out.map u3A)[i + j]? = some (.int .u32 (u:Int)):=by rw [List.getElem?_map,hu]; rfl
  have hsm:=mul_small hx hyl hul hcy
  have h1:x * y < 2 ^ 64:=by rw [p64]; omega
  have hiy:ixS 1 (nsA b) (.int .i64 (j:Int)) = some (.pel (u3A y).cells 0):=ix_map encU false hy .i64
  have c8:∀ (z:Nat) (s:St),z < 4294967296→cv 211 159 (.int .u32 (z:Int)) s = some (.int .u64 (z:Int)):=fun z s hz=>by rw [cf211_159,u32_64 hz]
  have wij:IntKind.i64.wrap ((i:Int) + (j:Int)) = ((i + j:Nat):Int):=by rw [IntWalk.i64_in _ (by omega)]; rfl
  have wxy:IntKind.u64.wrap ((x:Int) * (y:Int)) = ((x * y:Nat):Int):=by rw [IntWalk.u64_in _ (by rw [← Int.natCast_mul]; omega)]; exact (Int.natCast_mul ..).symm
  have wu:IntKind.u64.wrap (((x * y:Nat):Int) + (u:Int)) = ((x * y + u:Nat):Int):=by rw [IntWalk.u64_in _ (by omega)]; rfl
  have wc:IntKind.u64.wrap (((cy:Nat):Int) + ((x * y + u:Nat):Int)) = ((cy + (x * y + u):Nat):Int):=by rw [IntWalk.u64_in _ (by omega)]; rfl
  simp only [f180l2s,c1,hiy,u3_0,c8 x _ hx,c8 y _ hyl,wij,wxy,hix,ld_ptr,adv_h,hs,part_one,hub,c8 u _ hul,wu,wc,wx,wy,Nat.reduceAdd,Nat.reduceEqDiff,reduceCtorEq]
  obtain ⟨t,ht⟩:∃ t,t = cy + (x * y + u):=⟨_,rfl⟩
  rw [← ht]
  simp only [cf159_211,wrap32,bn_shr64,Bnd_some,hix]
  rw [sto_c (v:=.int .u32 ((t % 4294967296:Nat):Int)) (c:=out.map u3A) (by simp only [adv_h]; exact hs) (by simp; omega) rfl rfl]
  simp only [f180j4,w1,wx,wy,Nat.reduceAdd,Nat.reduceEqDiff,reduceCtorEq]
  have hset:(out.map u3A).set (i + j) (.int .u32 ((t % 4294967296:Nat):Int)) = (out.set (i + j) (t % 4294967296)).map u3A:=by rw [List.map_set]; rfl
  rw [hset]
  have htl:t < 18446744073709551616:=by rw [ht]; exact hsm
  refine ih (j + 1) (out.set (i + j) (t % 4294967296)) (t / 4294967296) _ (by omega) (len_set_val hlo (by rw [p32]; omega)) (by rw [List.length_set]; exact hlen) (by rw [p32]; omega) ?_ (fun k hk hk2=>by rw [List.getElem?_set_ne (by omega)]; exact hz k hk hk2) (by rw [adv_h,st_same])
  have hvs:=val_set (t % 4294967296) hu
  have hvt:=val_take b j
  have hlbj:lb b j = y:=by unfold lb; rw [hy]; rfl
  rw [hlbj] at hvt
  have hm:t = 4294967296 * (t / 4294967296) + t % 4294967296:=(Nat.div_add_mod t 4294967296).symm
  have hpij:pw (i + j) = pw i * pw j:=by unfold pw; rw [Nat.pow_add]
  rw [← Nat.add_assoc,pw_succ,hvt]
  have e1:pw (i + j) * (t % 4294967296) + 4294967296 * pw (i + j) * (t / 4294967296) = pw (i + j) * t:=by
   have e:pw (i + j) * t = pw (i + j) * (4294967296 * (t / 4294967296) + t % 4294967296):=by rw [← hm]
   rw [e,Nat.mul_add,← Nat.mul_assoc,Nat.mul_comm (pw (i + j)) 4294967296]; omega
  have e2:pw (i + j) * t = pw (i + j) * cy + (pw (i + j) * (x * y) + pw (i + j) * u):=by rw [ht,Nat.mul_add,Nat.mul_add]
  have e3:pw i * (x * (val (b.take j) + pw j * y)) = pw i * (x * val (b.take j)) + pw (i + j) * (x * y):=by
   rw [hpij,Nat.mul_add,Nat.mul_add,Nat.mul_left_comm x (pw j) y,Nat.mul_assoc]
  rw [e3]
  omega
theorem l180a (a b:List Nat) (ha:limbs a) (hb:limbs b) (hla:a.length≤2 ^ 28) (hlb:b.length≤2 ^ 28) (Q:AV→St→Prop) (N c n:Nat) (e':TypeId) (hn:n = a.length + b.length)
  (hQ:∀ (out:List Nat) s,limbs out→out.length = n→val out = val a * val b→s.h N = some (.cells (out.map u3A) e' true true)→f180j1 Q (.ref N 0 n (some c) 211) s) :
  ∀ (m i:Nat) (out:List Nat) (s:St),i + m = a.length→limbs out→out.length = n→val out = val (a.take i) * val b→(∀ k,i + b.length≤k→k < n→out[k]? = some 0)→s.h N = some (.cells (out.map u3A) e' true true) →
   f180l1 Q (m + 1) (nsA b) (.ref N 0 n (some c) 211) (nsA a) (.int .i64 a.length) (.int .i64 i) s:=by
 intro m
 induction m with
 | zero =>
  intro i out s hi hlo hlen hv hz hs
  show f180l1s Q (f180l1 Q 0) _ _ _ _ _ s
  have c1:decide ((i:Int) < (a.length:Int)) = false:=by simp; omega
  rw [List.take_of_length_le (by omega)] at hv
  simp only [f180l1s,c1,wx,wy,Nat.reduceAdd,Nat.reduceEqDiff,reduceCtorEq]
  exact hQ out _ hlo hlen hv hs
 | succ m ih =>
  intro i out s hi hlo hlen hv hz hs
  show f180l1s Q (f180l1 Q (m + 1)) _ _ _ _ _ s
  have c1:decide ((i:Int) < (a.length:Int)) = true:=by simp; omega
  have w1:IntKind.i64.wrap ((i:Int) + 1) = ((i + 1:Nat):Int):=wrap_i (n:=a.length) (by omega) (by omega)
  obtain ⟨x,hx⟩:∃ x,a[i]? = some x:=⟨_,List.getElem?_eq_getElem (by omega)⟩
  have hxl:=ha x (List.mem_of_getElem? hx)
  have hix:ixS 1 (nsA a) (.int .i64 (i:Int)) = some (.pel (u3A x).cells 0):=ix_map encU false hx .i64
  simp only [f180l1s,c1,hix,u3_0,ln22ns,wx,wy,Nat.reduceAdd,Nat.reduceEqDiff,reduceCtorEq]
  refine ⟨_,l180b a b hb hla hlb Q (f180l1 Q (m + 1)) N c n e' i x (by omega) hn hxl (val out) (fun out2 s2 g1 g2 g3 g4 g5=>?_) b.length 0 out 0 _ (by omega) hlo hlen (by decide) (by simp [val]) (fun k hk hk2=>hz k hk hk2) (by rw [adv_h]; exact hs)⟩
  simp only [f180j2,w1,wx,wy,Nat.reduceAdd,Nat.reduceEqDiff,reduceCtorEq]
  refine ih (i + 1) out2 _ (by omega) g1 g2 ?_ (fun k hk hk2=>g4 k (by omega) hk2) (by rw [adv_h]; exact g5)
  have hvt:=val_take a i
  have:lb a i = x:=by unfold lb; rw [hx]; rfl
  rw [this] at hvt
  rw [g3,hv,hvt,Nat.add_mul,Nat.mul_assoc]
theorem c180 (a b:List Nat) (ha:limbs a) (hb:limbs b) (hla:a.length≤2 ^ 28) (hlb:b.length≤2 ^ 28):PureC Tryz.env 180 [nsA a,nsA b] (nsA (limV (val a * val b))):=by
 refine pure_q (f180_run _ _ _ ?_)
 have hz:zero Tryz.ty 211 = some (.int .u32 0):=zf211
 have hc0:(AV.int .u32 0).cells = [.int .u32 0]:=rfl
 unfold f180
 simp only [ln22ns,wx,wy,Nat.reduceAdd,Nat.reduceEqDiff,reduceCtorEq]
 have hw:IntKind.i64.wrap ((a.length:Int) + (b.length:Int)) = ((a.length + b.length:Nat):Int):=by rw [IntWalk.i64_in _ (by omega)]; rfl
 simp only [hw,mkS_eq tf22 hz (a.length + b.length) (by omega) (by omega),hc0,flat_rep,ln22ns,wx,wy,Nat.reduceAdd,Nat.reduceEqDiff,reduceCtorEq]
 refine ⟨_,l180a a b ha hb hla hlb _ _ _ (a.length + b.length) 211 rfl (fun out s g1 g2 g3 g4=>?_) a.length 0 (List.replicate (a.length + b.length) 0) _ (by omega) (fun x hx=>by rw [List.eq_of_mem_replicate hx]; decide) (by simp) (by rw [val_rep]; simp [val]) (fun k _ hk=>by simp [hk]) (by rw [adv_h,st_same]; simp [u3A])⟩
 unfold f180j1
 have hp:=pur_ref (s:=Ai.adv s 3) (c:=some (a.length + b.length)) (k:=11) (l:=out) (f:=u3A) tf22 (by rw [adv_h]; exact g4) (fun _ _=>rfl) (fun _ _=>rfl)
 rw [g2] at hp
 refine callPur (args2:=[nsA out]) (ids:=[St.empty.nx + 6]) (by simp only [purL,hp,nsA,List.append_nil]) (c110 _ (by rw [g2]; omega)) ?_
 rw [norm_lim g1,g3]
 exact pureQ_closed (ns_closed _)
end
noncomputable section
def psM (x:List UInt8):List Nat × Int:=cond (x == [] || (decide (x.length > 2000) || (x.head? == some 48 && x != [48]))) ([],8) (cond (x.all isDig) (limV (decV x),0) ([],8))
theorem decV_snoc (l:List UInt8) (c:UInt8):decV (l ++ [c]) = 10 * decV l + (c.toNat - 48):=by
 unfold decV; rw [List.foldl_append]; rfl
theorem decV_ltN:∀ (n:Nat) (l:List UInt8),l.length = n→(∀ c∈l,isDig c = true)→decV l < pw n:=by
 intro n
 induction n with
 | zero=>intro l hl _; cases l with
  | nil=>decide
  | cons c l=>cases hl
 | succ n ih =>
  intro l hl h
  rcases List.eq_nil_or_concat l with rfl | ⟨l',c,rfl⟩
  ·cases hl
  simp only [List.concat_eq_append] at hl h ⊢
  have h1:=ih l' (by simp at hl; exact hl) fun d hd=>h d (List.mem_append_left _ hd)
  have h2:=h c (List.mem_append_right _ (List.mem_singleton.2 rfl))
  simp only [isDig,Bool.and_eq_true,decide_eq_true_eq] at h2
  rw [decV_snoc,pw_succ]
  omega
theorem decV_lt (l:List UInt8) (h:∀ c∈l,isDig c = true):decV l < pw l.length:=decV_ltN _ l rfl h
theorem l127 (x:List UInt8) (hx:x.length≤2000) (Q:AV→St→Prop)
  (hbad:x.all isDig = false→∀ s,Q (.tup [.nils,.int .i64 8]) s)
  (hgood:x.all isDig = true→∀ s,Q (.tup [nsA (limV (decV x)),.int .i64 0]) s) :
  ∀ (m i:Nat) (a:AV) (s:St),i + m = x.length→(∀ c∈x.take i,isDig c = true)→(∀ s:St,pur Tryz.env.P s 12 a = some (nsA (limV (decV (x.take i))),[])) →
   f127l1 Q (m + 1) a (.sl false (x.map byt)) (.int .i64 x.length) (.int .i64 i) s:=by
 intro m
 induction m with
 | zero =>
  intro i a s hi hd ha
  show f127l1s Q (f127l1 Q 0) _ _ _ _ s
  have c1:decide ((i:Int) < (x.length:Int)) = false:=by simp; omega
  rw [List.take_of_length_le (by omega)] at hd ha
  simp only [f127l1s,c1,f127j1,wx,wy,Nat.reduceAdd,Nat.reduceEqDiff,reduceCtorEq]
  have hall:x.all isDig = true:=List.all_eq_true.2 hd
  have hlt:=decV_lt x hd
  refine callPur (args2:=[nsA (limV (decV x))]) (ids:=[]) (by simp only [purL,ha,List.append_nil]) (c110 _ (Nat.le_trans (limV_len _ _ hlt) (by omega))) ?_
  rw [norm_lim (limV_limbs _),val_limV]
  exact hgood hall _
 | succ m ih =>
  intro i a s hi hd ha
  show f127l1s Q (f127l1 Q (m + 1)) _ _ _ _ s
  have c1:decide ((i:Int) < (x.length:Int)) = true:=by simp; omega
  have w1:IntKind.i64.wrap ((i:Int) + 1) = ((i + 1:Nat):Int):=wrap_i (n:=x.length) (by omega) (by omega)
  obtain ⟨c,hc⟩:∃ c,x[i]? = some c:=⟨_,List.getElem?_eq_getElem (by omega)⟩
  have hix:ixS 1 (.sl false (x.map byt)) (.int .i64 (i:Int)) = some (.pel (byt c).cells 0):=ix_map encBy false hc .i64
  have hb0:(byt c).cells[0]? = some (.int .u8 c.toNat):=rfl
  have hmem:c∈x:=List.mem_of_getElem? hc
  have hno:isDig c = false→x.all isDig = false:=fun h=>by
   cases h2:x.all isDig with
   | false=>rfl
   | true=>rw [List.all_eq_true.1 h2 c hmem] at h; cases h
  by_cases h48:c.toNat < 48
  ·have k1:decide ((c.toNat:Int) < 48) = true:=by simp; omega
   simp only [f127l1s,c1,hix,hb0,k1,wx,wy,Nat.reduceAdd,Nat.reduceEqDiff,reduceCtorEq]
   exact hbad (hno (by simp [isDig]; omega)) _
  by_cases h57:57 < c.toNat
  ·have k1:decide ((c.toNat:Int) < 48) = false:=by simp; omega
   have k2:decide ((c.toNat:Int) > 57) = true:=by simp; omega
   simp only [f127l1s,c1,hix,hb0,k1,k2,wx,wy,Nat.reduceAdd,Nat.reduceEqDiff,reduceCtorEq]
   exact hbad (hno (by simp [isDig]; omega)) _
  have k1:decide ((c.toNat:Int) < 48) = false:=by simp; omega
  have k2:decide ((c.toNat:Int) > 57) = false:=by simp; omega
  have hdc:isDig c = true:=by simp [isDig]; omega
  have w2:IntKind.u8.wrap ((c.toNat:Int) - 48) = ((c.toNat - 48:Nat):Int):=by rw [IntWalk.u8_in _ (by omega)]; omega
  have w3:IntKind.u32.wrap ((c.toNat - 48:Nat):Int) = ((c.toNat - 48:Nat):Int):=by rw [IntWalk.u32_in _ (by omega)]
  have b1:∀ n:Nat,bsl 22 1 [(0,.int .u32 (n:Int))] = some (.sl true [u3A n]):=fun n=>bsl_one tf22 (by decide) rfl rfl
  have hp10:∀ (n:Nat) (s:St),pur Tryz.env.P s 12 (.sl true [u3A n]) = some (nsA [n],[]):=fun n s=>rfl
  have e10:bsl 22 1 [(0,.int .u32 10)] = some (.sl true [u3A 10]):=b1 10
  have hlt:=decV_lt _ hd
  have hle:(x.take i).length = i:=by rw [List.length_take]; omega
  rw [hle] at hlt
  have hlen:=limV_len _ _ hlt
  have htk:x.take (i + 1) = x.take i ++ [c]:=by rw [List.take_add_one,hc]; rfl
  have hl1:limbs [10]:=by intro y hy; rw [List.mem_singleton.1 hy,p32]; decide
  have hl2:limbs [c.toNat - 48]:=by intro y hy; rw [List.mem_singleton.1 hy,p32]; omega
  simp only [f127l1s,c1,hix,hb0,k1,k2,w2,cf5_211,w3,b1,e10,wx,wy,Nat.reduceAdd,Nat.reduceEqDiff,reduceCtorEq]
  refine callPur (args2:=[nsA (limV (decV (x.take i))),nsA [10]]) (ids:=[]) (by simp only [purL,ha,hp10,List.append_nil]) (c180 _ _ (limV_limbs _) hl1 (by omega) (by simp)) ?_
  rw [val_limV]
  have hv10:val [10] = 10:=rfl
  have hvc:val [c.toNat - 48] = c.toNat - 48:=by simp [val]
  rw [hv10]
  have hdd:decV (x.take i) * 10 < pw (i + 1):=by rw [pw_succ]; omega
  have hlen2:=limV_len _ _ hdd
  refine callPur (args2:=[nsA (limV (decV (x.take i) * 10)),nsA [c.toNat - 48]]) (ids:=[]) (by simp only [purL,pur_closed 12 (ns_closed _),hp10,List.append_nil]) (c179 _ _ (limV_limbs _) hl2 (by omega) (by simp)) ?_
  rw [val_limV,hvc]
  have hfin:decV (x.take i) * 10 + (c.toNat - 48) = decV (x.take (i + 1)):=by rw [htk,decV_snoc,Nat.mul_comm]
  rw [hfin]
  simp only [f127j2,w1,wx,wy,Nat.reduceAdd,Nat.reduceEqDiff,reduceCtorEq]
  exact ih (i + 1) _ _ (by omega) (fun d hd'=>by
   rw [htk] at hd'
   rcases List.mem_append.1 hd' with h | h
   ·exact hd d h
   ·rw [List.mem_singleton.1 h]; exact hdc) (fun s=>pur_closed 12 (ns_closed _))
theorem c127 (x:List UInt8) (hxl:x.length≤2 ^ 30):PureC Tryz.env 127 [.str x] (.tup [nsA (psM x).1,.int .i64 (psM x).2]):=by
 have hbad:∀ s:St,PureQ (.tup [nsA [],.int .i64 8]) (.tup [.nils,.int .i64 8]) s:=fun s=>⟨[],rfl⟩
 by_cases h0:x = []
 ·subst h0
  refine pure_q (f127_run _ _ ?_)
  unfold f127
  simp only [wx,wy,Nat.reduceAdd,Nat.reduceEqDiff,reduceCtorEq]
  exact hbad _
 have h0':(x == []) = false:=by cases x with
  | nil=>exact absurd rfl h0
  | cons=>rfl
 refine pure_q (f127_run _ _ ?_)
 unfold f127
 by_cases h2:2000 < x.length
 ·have k1:decide ((x.length:Int) > 2000) = true:=by simp; omega
  have k2:decide (x.length > 2000) = true:=by simp; omega
  simp only [h0',cf9_161,ln9t,k1,wx,wy,Nat.reduceAdd,Nat.reduceEqDiff,reduceCtorEq]
  have hp:psM x = ([],8):=by unfold psM; rw [k2,Bool.true_or,Bool.or_true]; rfl
  rw [hp]; exact hbad _
 have k1:decide ((x.length:Int) > 2000) = false:=by simp; omega
 have k2:decide (x.length > 2000) = false:=by simp; omega
 have hcv:(x.map fun c=>AV.int .u8 c.toNat) = x.map byt:=rfl
 have hrest:(x.head? == some 48 && x != [48]) = false→∀ (s:St),∃ n,f127l1 (PureQ (AV.tup [nsA (psM x).fst,AV.int IntKind.i64 (psM x).snd])) n AV.nils (.sl false (x.map byt)) (.int .i64 x.length) (.int .i64 0) s:=fun hh s=>by
  have hp:psM x = cond (x.all isDig) (limV (decV x),0) ([],8):=by unfold psM; rw [h0',k2,hh]; rfl
  rw [hp]
  refine ⟨_,l127 x (by omega) _ (fun hd s=>by rw [hd]; exact hbad s) (fun hd s=>by rw [hd]; exact pureQ_closed (by simp [AV.closed,ns_closed,closedL])) x.length 0 .nils s (by omega) (fun c hc=>by simp at hc) (fun s=>?_)⟩
  show _ = some (nsA (limV 0),[])
  rw [limV_zero]; rfl
 obtain ⟨c,l,rfl⟩:∃ c l,x = c :: l:=by cases x with
  | nil=>exact absurd rfl h0
  | cons c l=>exact ⟨c,l,rfl⟩
 have hix:ixa 9 (.str (c :: l)) (.int .i64 0) = some (.int .u8 c.toNat):=ixa_str (x:=c :: l) (i:=0) .i64 rfl
 by_cases h48:c = 48
 ·have k3:(((c.toNat:Nat):Int) == 48) = true:=by rw [h48]; rfl
  by_cases hone:c :: l = [48]
  ·have k4:(c :: l == [48]) = true:=by rw [hone]; rfl
   have k5:(c :: l != [48]) = false:=by rw [hone]; rfl
   simp only [h0',cf9_161,ln9t,k1,hix,k3,k4,hcv,ln161s,List.length_map,wx,wy,Nat.reduceAdd,Nat.reduceEqDiff,reduceCtorEq]
   exact hrest (by rw [k5,Bool.and_false]) _
  ·have k4:(c :: l == [48]) = false:=by rw [beq_eq_false_iff_ne]; exact hone
   have k5:(c :: l != [48]) = true:=by rw [bne_iff_ne]; exact hone
   simp only [h0',cf9_161,ln9t,k1,hix,k3,k4,wx,wy,Nat.reduceAdd,Nat.reduceEqDiff,reduceCtorEq]
   have hp:psM (c :: l) = ([],8):=by unfold psM; rw [k5,h48]; simp
   rw [hp]; exact hbad _
 ·have k3:(((c.toNat:Nat):Int) == 48) = false:=by
   rw [beq_eq_false_iff_ne]; intro h
   exact h48 (UInt8.toNat_inj.1 (by rw [show (48:UInt8).toNat = 48 from rfl]; omega))
  simp only [h0',cf9_161,ln9t,k1,hix,k3,hcv,ln161s,List.length_map,wx,wy,Nat.reduceAdd,Nat.reduceEqDiff,reduceCtorEq]
  exact hrest (by simp [h48]) _
theorem parse_ok:ParseC psM:=by
 intro x hx
 refine ⟨c127 x hx,?_,?_⟩
 ·unfold psM
  cases (x == [] || (decide (x.length > 2000) || (x.head? == some 48 && x != [48]))) with
  | true=>intro y hy; cases hy
  | false =>
   cases x.all isDig with
   | true=>exact limV_limbs _
   | false=>intro y hy; cases hy
 ·unfold psM
  by_cases h2:2000 < x.length
  ·have k:decide (x.length > 2000) = true:=by simp; omega
   rw [k,Bool.true_or,Bool.or_true]; exact Nat.zero_le _
  cases (x == [] || (decide (x.length > 2000) || (x.head? == some 48 && x != [48]))) with
  | true=>exact Nat.zero_le _
  | false =>
   cases hd:x.all isDig with
   | true=>exact Nat.le_trans (limV_len _ _ (decV_lt x (List.all_eq_true.1 hd))) (by omega)
   | false=>exact Nat.zero_le _
end
noncomputable section
theorem uses_drop {nm:List UInt8} (l:List Sx) (i:Nat) (y:Sx) (h:l[i]? = some y):usesL nm (l.drop i) = (usesM nm y || usesL nm (l.drop (i + 1))):=by
 rw [get_drop l i y h]; rfl
theorem l35 (nm:List UInt8) (s0:Sx) (items:List Sx) (hlen:items.length≤maxLen) (hc:∃ l k x p a,s0 = .mk l k x p a items) (ih:∀ s∈items,PureC Tryz.env 35 [s.av,.str nm] (.bool (usesM nm s))) (b:Nat) (e:TypeId) (Q:AV→St→Prop) (r:Bool) (hQ:∀ s,Q (.bool r) s) :
  ∀ (m i:Nat) (s:St),i + m = items.length→s.h b = some (.cells s0.av.cells e true true)→r = usesL nm (items.drop i)→∃ f,f35l1 Q f (.str nm) (.ptr b 0) (.int .i64 i) s:=by
 obtain ⟨l,k,x,p,a,rfl⟩:=hc
 intro m
 induction m with
 | zero =>
  intro i s hi hs hr
  refine ⟨1,?_⟩
  show f35l1s Q (f35l1 Q 0) _ _ _ s
  rw [List.drop_eq_nil_of_le (by omega)] at hr
  have hr:r = false:=hr
  subst hr
  simp only [f35l1s,f35j1,hs,mk_cells,len31,avs_length,Int.ofNat_lt,show ¬ (i < items.length) by omega,decide_false,wz,wy,Nat.reduceAdd]
  exact hQ _
 | succ m ihm =>
  intro i s hi hs hr
  obtain ⟨y,hy⟩:∃ y,items[i]? = some y:=⟨_,List.getElem?_eq_getElem (by omega)⟩
  rw [uses_drop items i y hy] at hr
  have hix:=fun ex=>ix_avs ex items i y hy
  have hlt:i < items.length:=by omega
  have hmem:y∈items:=List.mem_of_getElem? hy
  cases hn:usesM nm y with
  | true =>
   rw [hn] at hr
   have hr:r = true:=hr
   subst hr
   refine ⟨1,?_⟩
   show f35l1s Q (f35l1 Q 0) _ _ _ s
   simp only [f35l1s,hs,mk_cells,len31,avs_length,Int.ofNat_lt,hlt,decide_true,hix,sx_part,wz,wy,Nat.reduceAdd]
   refine callPu (ih y hmem) (by simp [sx_closed,AV.closed]) ?_
   simp only [hn,wz,wy,Nat.reduceAdd]
   exact hQ _
  | false =>
   rw [hn,Bool.false_or] at hr
   have hgo:=fun s' h=>ihm (i + 1) s' (by omega) h hr
   obtain ⟨f,hf⟩:=hgo (adv (adv (adv s 13) 1) 3) hs
   refine ⟨f + 1,?_⟩
   show f35l1s Q (f35l1 Q f) _ _ _ s
   simp only [f35l1s,f35j2,hs,mk_cells,len31,avs_length,Int.ofNat_lt,hlt,decide_true,hix,sx_part,wz,wy,Nat.reduceAdd]
   refine callPu (ih y hmem) (by simp [sx_closed,AV.closed]) ?_
   simp only [hn,wz,wy,Nat.reduceAdd]
   rw [wrap_len i _ hlt hlen]
   exact hf
theorem c35 (nm:List UInt8):∀ x:Sx,x.fit→PureC Tryz.env 35 [x.av,.str nm] (.bool (usesM nm x)):=by
 refine sx_all fun l k x p a items ih ho=>?_
 obtain ⟨hlen,hfi⟩:=fit_its ho
 refine pure_closed rfl (f35_run _ _ _ ?_)
 unfold f35
 refine ⟨sx_ones _,?_⟩
 have h0:(Sx.mk l k x p a items).av.cells[0]? = some (.bool l):=rfl
 have h1:(Sx.mk l k x p a items).av.cells[1]? = some (.int .i64 k):=rfl
 have h2:(Sx.mk l k x p a items).av.cells[2]? = some (.str x):=rfl
 cases l with
 | false =>
  simp only [h0,h1,h2,wx,wy,Nat.reduceAdd,Nat.reduceEqDiff,reduceCtorEq]
  cases hk:(k == 3) with
  | false=>simp only [usesM,hk,Bool.false_and,wx,wy,Nat.reduceAdd,Nat.reduceEqDiff,reduceCtorEq]
  | true=>simp only [usesM,hk,Bool.true_and,wx,wy,Nat.reduceAdd,Nat.reduceEqDiff,reduceCtorEq]
 | true =>
  simp only [h0,wx,wy,Nat.reduceAdd,Nat.reduceEqDiff,reduceCtorEq]
  exact l35 nm (.mk true k x p a items) items (by have:maxLen = 9223372036854775807:=rfl; have:items.length≤2 ^ 20:=hlen; omega) ⟨true,k,x,p,a,rfl⟩ (fun s hs=>ih s hs (hfi s hs)) _ 33 _ _ (fun _=>by simp only [usesM,cond_true,List.drop_zero]) items.length 0 _ (by omega) (by rw [adv_h]; exact st_same) rfl
theorem drop_hn {l:List Nat}:∀ {s:St} {j:Nat},j ∉ l→(s.drop l).h j = s.h j:=by
 induction l with
 | nil=>intro s j _; rfl
 | cons n l ih =>
  intro s j h
  simp only [List.mem_cons,not_or] at h
  show ((s.set n none).drop l).h j = _
  rw [ih h.2,st_other h.1]
theorem drop_none {l:List Nat}:∀ {s:St} {j:Nat},s.h j = none→(s.drop l).h j = none:=by
 induction l with
 | nil=>intro s j h; exact h
 | cons n l ih =>
  intro s j h
  refine ih ?_
  by_cases hj:j = n
  ·subst hj; exact st_same
  ·rw [st_other hj]; exact h
theorem drop_nxE (l:List Nat) (s:St):(s.drop l).nx = s.nx:=by
 induction l generalizing s with
 | nil=>rfl
 | cons n l ih=>show ((s.set n none).drop l).nx = _; rw [ih]; rfl
theorem app_all {t e:TypeId} {z b:Nat} {ag:Bool} {s:St} {x:AV} {vs:List AV} (h:SlTy t e z ag b) (g:Gw e z 0 s x vs) {ws:List AV} (hw:∀ v∈ws,v.cells.length = z∧v.cells.all AV.one = true) (hf:fitsA (vs.length + ws.length) b = true) (ex:Bool) (id:Nat) :
  ∃ x' s',bt .append #[t,t] [x,.sl ex ws] id s = some (x',s')∧Gw e z 0 s' x' (vs ++ ws)∧s'.nx = s.nx∧(∀ j,j≠id→j ∉ idOf x→s'.h j = s.h j)∧∀ j∈idOf x',j = id∨j∈idOf x:=by
 by_cases hne:ws = []
 ·subst hne
  exact ⟨x,s,app_nothing h g ex id,by rw [List.append_nil]; exact g,rfl,fun _ _ _=>rfl,fun j hj=>.inr hj⟩
 ·refine ⟨_,_,app_many h g hw hne hf ex id,⟨fun v hv=>(List.mem_append.1 hv).elim (g.1 v) (hw v),.inr ⟨id,Nat.zero_le _,by rw [List.length_append],st_same⟩⟩,drop_nxE _ _,fun j h1 h2=>?_,fun j hj=>?_⟩
  ·rw [st_other h1,drop_hn h2]
  ·simp only [idOf,List.mem_singleton] at hj; exact .inl hj
theorem dcs_cells (L:List Dc):∀ v∈L.map Dc.av,v.cells.length = 10∧v.cells.all AV.one = true:=fun v hv=>by
 obtain ⟨d,_,rfl⟩:=List.mem_map.1 hv
 exact ⟨dc_len d,dc_ones d⟩
def usedM (nm:List UInt8) (d:Dc):Bool:=usesM nm d.body || d.nm == nm
theorem l9b (l more:List Dc) (t5 t8:AV) (hL:DcOk l) (S:St) (Q:AV→St→Prop) (ih1:AV→AV→AV→AV→AV→St→Prop) (i:Nat) (d:Dc) (hd:more[i]? = some d) :
  ∀ (m k:Nat) (u:Bool) (s:St),k + m = l.length→s.h = S.h→S.nx≤s.nx→(∀ s',s'.h = S.h→S.nx≤s'.nx→f9j3 Q ih1 (.bool (u || (l.drop k).any (usedM d.nm))) (.int .i64 i) (.sl false (l.map Dc.av)) (.sl false (more.map Dc.av)) t5 t8 s') →
   ∃ n,f9l2 Q ih1 n (.sl false (l.map Dc.av)) (.sl false (more.map Dc.av)) t5 t8 (.int .i64 i) (.bool u) (.int .i64 k) s:=by
 intro m
 induction m with
 | zero =>
  intro k u s hk hs hn hQ
  refine ⟨1,?_⟩
  show f9l2s Q ih1 (f9l2 Q ih1 0) _ _ _ _ _ _ _ s
  rw [List.drop_eq_nil_of_le (by omega)] at hQ
  simp only [List.any_nil,Bool.or_false] at hQ
  simp only [f9l2s,len49,List.length_map,Int.ofNat_lt,show ¬ (k < l.length) by omega,decide_false,wx,wy,Nat.reduceAdd,Nat.reduceEqDiff,reduceCtorEq]
  exact hQ _ hs (by simp only [adv_nx]; omega)
 | succ m ihm =>
  intro k u s hk hs hn hQ
  obtain ⟨e,he⟩:∃ e,l[k]? = some e:=⟨_,List.getElem?_eq_getElem (by omega)⟩
  have hmem:e∈l:=List.mem_of_getElem? he
  have hlt:k < l.length:=by omega
  have hl30:=hL.len
  have hix:=ix_dc false l k e he
  have hix2:=ix_dc false more i d hd
  have hw:IntKind.i64.wrap ((k:Int) + 1) = ((k + 1:Nat):Int):=wrap_len k l.length hlt (by have:maxLen = 9223372036854775807:=rfl; omega)
  rw [get_drop l k e he,List.any_cons] at hQ
  have step:∀ s1,s1.h = S.h→S.nx≤s1.nx→∃ n,f9l2 Q ih1 n (.sl false (l.map Dc.av)) (.sl false (more.map Dc.av)) t5 t8 (.int .i64 i) (.bool (u || usedM d.nm e)) (.int .i64 ((k + 1:Nat):Int)) s1:=fun s1 a1 a2=>ihm (k + 1) _ s1 (by omega) a1 a2 fun s' b1 b2=>by
   have:=hQ s' b1 b2
   rw [← Bool.or_assoc] at this
   exact this
  have cb:=c35 d.nm e.body (hL.fit e hmem)
  have go:∃ n,f9l2s Q ih1 (f9l2 Q ih1 n) (.sl false (l.map Dc.av)) (.sl false (more.map Dc.av)) t5 t8 (.int .i64 i) (.bool u) (.int .i64 k) s:=by
   cases hu:u with
   | true =>
    rw [hu] at step
    obtain ⟨n,h⟩:=step (Ai.adv s 37) hs (by simp only [adv_nx]; omega)
    refine ⟨n,?_⟩
    simp only [f9l2s,len49,List.length_map,Int.ofNat_lt,hlt,decide_true,hix,hix2,dc_body,dc0,wx,wy,Nat.reduceAdd,Nat.reduceEqDiff,reduceCtorEq]
    refine callPuD cb (by simp [sx_closed,AV.closed]) ?_
    simp only [f9j4,hw,wx,wy,Nat.reduceAdd,Nat.reduceEqDiff,reduceCtorEq]
    simp only [Bool.true_or] at h
    exact h
   | false =>
    cases hb:usesM d.nm e.body with
    | true =>
     rw [hu] at step
     simp only [usedM,hb,Bool.true_or,Bool.or_true] at step
     obtain ⟨n,h⟩:=step (Ai.adv s 37) hs (by simp only [adv_nx]; omega)
     refine ⟨n,?_⟩
     simp only [f9l2s,len49,List.length_map,Int.ofNat_lt,hlt,decide_true,hix,hix2,dc_body,dc0,wx,wy,Nat.reduceAdd,Nat.reduceEqDiff,reduceCtorEq]
     refine callPuD cb (by simp [sx_closed,AV.closed]) ?_
     simp only [f9j4,hw,hb,wx,wy,Nat.reduceAdd,Nat.reduceEqDiff,reduceCtorEq]
     exact h
    | false =>
     rw [hu] at step
     simp only [usedM,hb,Bool.false_or] at step
     obtain ⟨n,h⟩:=step (Ai.adv s 37) hs (by simp only [adv_nx]; omega)
     refine ⟨n,?_⟩
     simp only [f9l2s,len49,List.length_map,Int.ofNat_lt,hlt,decide_true,hix,hix2,dc_body,dc0,wx,wy,Nat.reduceAdd,Nat.reduceEqDiff,reduceCtorEq]
     refine callPuD cb (by simp [sx_closed,AV.closed]) ?_
     simp only [f9j4,hw,hb,hix,hix2,dc0,wx,wy,Nat.reduceAdd,Nat.reduceEqDiff,reduceCtorEq]
     exact h
  obtain ⟨n,h⟩:=go
  exact ⟨n + 1,h⟩
theorem l9a (l more:List Dc) (x:Sx) (t8:AV) (hL:DcOk l) (hx:x.fit) (hM:more.length≤2 ^ 30) (S:St) (h0:S.h 0 = some (.cells x.av.cells 33 true true)) (Q:AV→St→Prop) (hQt:∀ s,Q (.bool true) s)
  (hend:(∀ d∈more,usesM d.nm x = false)→(∀ e∈l,∀ d∈more,usesM d.nm e.body = false)→∀ s',s'.h = S.h→S.nx≤s'.nx→f9j1 Q (.sl false (l.map Dc.av)) (.ptr 0 0) t8 s') :
  ∀ (m i:Nat) (s:St),i + m = more.length→s.h = S.h→S.nx≤s.nx→(∀ d∈more.take i,usesM d.nm x = false∧l.any (usedM d.nm) = false) →
   f9l1 Q (m + 1) (.sl false (l.map Dc.av)) (.sl false (more.map Dc.av)) (.ptr 0 0) t8 (.int .i64 i) s:=by
 intro m
 induction m with
 | zero =>
  intro i s hi hs hn hp
  show f9l1s Q (f9l1 Q 0) _ _ _ _ _ s
  rw [List.take_of_length_le (by omega)] at hp
  simp only [f9l1s,len49,List.length_map,Int.ofNat_lt,show ¬ (i < more.length) by omega,decide_false,wx,wy,Nat.reduceAdd,Nat.reduceEqDiff,reduceCtorEq]
  refine hend (fun d hd=>(hp d hd).1) (fun e he d hd=>?_) _ hs (by simp only [adv_nx]; omega)
  have:=List.any_eq_false.1 (hp d hd).2 e he
  simp only [usedM,Bool.or_eq_true,not_or] at this
  simpa using this.1
 | succ m ihm =>
  intro i s hi hs hn hp
  obtain ⟨d,hd⟩:∃ d,more[i]? = some d:=⟨_,List.getElem?_eq_getElem (by omega)⟩
  have hlt:i < more.length:=by omega
  have hix2:=ix_dc false more i d hd
  have hw:IntKind.i64.wrap ((i:Int) + 1) = ((i + 1:Nat):Int):=wrap_len i more.length hlt (by have:maxLen = 9223372036854775807:=rfl; omega)
  have hs0:s.h 0 = some (.cells x.av.cells 33 true true):=by rw [hs]; exact h0
  have cx:=c35 d.nm x hx
  show f9l1s Q (f9l1 Q (m + 1)) _ _ _ _ _ s
  simp only [f9l1s,len49,List.length_map,Int.ofNat_lt,hlt,decide_true,hix2,hs0,sx_part,dc0,wx,wy,Nat.reduceAdd,Nat.reduceEqDiff,reduceCtorEq]
  refine callPuD cx (by simp [sx_closed,AV.closed]) ?_
  refine l9b l more _ _ hL S Q _ i d hd l.length 0 _ _ (by omega) (by exact hs) (by simp only [adv_nx]; omega) fun s' b1 b2=>?_
  rw [List.drop_zero]
  cases hu:(usesM d.nm x || l.any (usedM d.nm)) with
  | true =>
   simp only [f9j3,wx,wy,Nat.reduceAdd,Nat.reduceEqDiff,reduceCtorEq]
   exact hQt _
  | false =>
   simp only [Bool.or_eq_false_iff] at hu
   simp only [f9j3,f9j2,hw,wx,wy,Nat.reduceAdd,Nat.reduceEqDiff,reduceCtorEq]
   refine ihm (i + 1) _ (by omega) b1 (by simp only [adv_nx]; omega) fun e he=>?_
   rw [List.take_add_one,hd] at he
   rcases List.mem_append.1 he with he | he
   ·exact hp e he
   ·simp only [Option.toList_some,List.mem_singleton] at he
    subst he
    exact hu
theorem c9 (l more:List Dc) (x:Sx) (hL:DcOk l) (hM:DcOk (more ++ l)) (hfit:x.fit) (hwt:x.wt≤2 ^ 20) (hlen:l.length≤maxLen) (hlen2:(more ++ l).length≤maxLen) (hok:∀ d∈l,d.ok = true) (hok2:∀ d∈more ++ l,d.ok = true) (hxok:x.ok = true):∃ s',WideC Tryz.env 9 [.sl false (l.map Dc.av),.sl false (more.map Dc.av),x.av] St.empty (.bool true) s':=by
 have h:=f9_run (.sl false (l.map Dc.av)) (.sl false (more.map Dc.av)) x.av St.empty (Q:=fun r _=>r = .bool true) (by
  have hl30:=hM.len
  rw [List.length_append] at hl30
  have mem2:∀ x:Sx,∀ y∈[AV.sl false (l.map Dc.av),x.av],y.closed = true:=fun x y hy=>by
   simp only [List.mem_cons,List.mem_nil_iff,or_false] at hy
   rcases hy with rfl | rfl
   ·exact dcs_closed l
   ·exact sx_closed x
  unfold f9
  refine ⟨sx_ones x,?_⟩
  refine callPu awake10 (by simp) ?_
  obtain ⟨S0,hS0⟩:∃ S0,S0 = Ai.adv ((Ai.adv St.empty 2).set St.empty.nx (some (Blk.cells x.av.cells 33 true true))) 2:=⟨_,rfl⟩
  rw [← hS0]
  have n0:S0.nx = 4:=by rw [hS0]; rfl
  have z0:St.empty.nx = 0:=rfl
  have h0:S0.h 0 = some (.cells x.av.cells 33 true true):=by rw [hS0,adv_h]; exact st_same (s:=Ai.adv St.empty 2) (id:=St.empty.nx)
  have hn:∀ j,j≠0→S0.h j = none:=fun j hj=>by rw [hS0,adv_h,st_other (by omega)]; rfl
  obtain ⟨a1,S1,e1,g1,m1,o1,i1⟩:=app_all tf49 (gw_nil (s:=Ai.adv S0 5)) (ws:=more.map Dc.av) (dcs_cells more) (fits_of (by simp only [List.length_nil,List.length_map]; omega) (by simp only [List.length_nil,List.length_map]; omega)) false (S0.nx + 1)
  rw [List.nil_append] at g1
  obtain ⟨a2,S2,e2,g2,m2,o2,i2⟩:=app_all tf49 g1 (ws:=l.map Dc.av) (dcs_cells l) (fits_of (by simp only [List.length_map]; omega) (by simp only [List.length_map]; omega)) false (S0.nx + 3)
  rw [← List.map_append] at g2
  have z1:∀ j∈idOf a1,j = S0.nx + 1:=fun j hj=>(i1 j hj).elim id fun h=>by cases h
  have z2:∀ j∈idOf a2,j = S0.nx + 3∨j = S0.nx + 1:=fun j hj=>(i2 j hj).imp_right (z1 j)
  have n2:S2.nx = 9:=by rw [m2,m1]; show S0.nx + 5 = 9; omega
  have p0:S2.h 0 = some (.cells x.av.cells 33 true true):=by
   rw [o2 0 (by omega) (fun h=>by have:=z1 0 h; omega),o1 0 (by omega) (by simp [idOf]),adv_h,h0]
  have pn:∀ j,9≤j→S2.h j = none:=fun j hj=>by
   rw [o2 j (by omega) (fun h=>by have:=z1 j h; omega),o1 j (by omega) (by simp [idOf]),adv_h,hn j (by omega)]
  simp only [e1,e2,z0,p0,sx_part,wx,wy,Nat.reduceAdd,Nat.reduceEqDiff,reduceCtorEq]
  refine callPu (few_c false l x hlen hok hxok) (mem2 x) ?_
  have hp:∀ n,pur Tryz.env.P (Ai.adv S2 n) 12 a2 = some (.sl false ((more ++ l).map Dc.av),idOf a2):=fun n=>gw_purk tf49 g2.adv (fun v hv=>by obtain ⟨d,_,rfl⟩:=List.mem_map.1 hv; exact dc_closed d) (fun v hv=>by obtain ⟨d,_,rfl⟩:=List.mem_map.1 hv; rfl) 11
  simp only [adv_h,p0,sx_part,wx,wy,Nat.reduceAdd,Nat.reduceEqDiff,reduceCtorEq]
  refine callPuF (args2:=[.sl false ((more ++ l).map Dc.av),x.av]) (ids:=idOf a2 ++ ([] ++ [])) (by simp only [purL,hp,pur_cl (sx_closed x),adv_adv]) (few_c false (more ++ l) x hlen2 hok2 hxok) rfl ?_
  cases few10 l x with
  | false=>simp only [wx,wy,Nat.reduceAdd,Nat.reduceEqDiff,reduceCtorEq]
  | true =>
  cases few10 (more ++ l) x with
  | false=>simp only [wx,wy,Nat.reduceAdd,Nat.reduceEqDiff,reduceCtorEq]
  | true =>
  simp only [wx,wy,Nat.reduceAdd,Nat.reduceEqDiff,reduceCtorEq]
  refine ⟨more.length + 1,?_⟩
  refine l9a l more x a2 hL hfit (by omega) S2 p0 _ (fun _=>rfl) (fun hu hb s' b1 b2=>?_) more.length 0 _ (by omega) rfl (by simp only [adv_nx]; omega) (fun d hd=>by cases hd)
  unfold f9j1
  have hb58:bld 58 [] = some (.agg [.nils,.nilm,.nils]):=by rw [bf58]; rfl
  have hc0:(AV.agg [AV.nils,AV.nilm,AV.nils]).cells = [.nils,.nilm,.nils]:=rfl
  have q0:s'.h 0 = some (.cells x.av.cells 33 true true):=by rw [b1]; exact p0
  have ne1:¬ (0 = s'.nx + 1):=by omega
  have ne2:¬ (0 = s'.nx + 4):=by omega
  simp only [hb58,hc0,q0,ne1,ne2,if_false,sx_part,wx,wy,Nat.reduceAdd,Nat.reduceEqDiff,reduceCtorEq]
  refine ⟨rfl,rfl,?_⟩
  obtain ⟨S3,hS3⟩:∃ S3,S3 = Ai.adv ((s'.set (s'.nx + 1) (some (Blk.cells [AV.nils,AV.nilm,AV.nils] 58 true true))).set (s'.nx + 4) (some (Blk.cells [AV.nils,AV.nilm,AV.nils] 58 true true))) 15:=⟨_,rfl⟩
  rw [← hS3]
  have n3:S3.nx = s'.nx + 15:=by rw [hS3]; rfl
  have hk1:S3.h (s'.nx + 1) = some (.cells [.nils,.nilm,.nils] 58 true true):=by rw [hS3,adv_h,st_other (by omega),st_same]
  have hk4:S3.h (s'.nx + 4) = some (.cells [.nils,.nilm,.nils] 58 true true):=by rw [hS3,adv_h,st_same]
  have kk:∀ j,j≠s'.nx + 1→j≠s'.nx + 4→S3.h j = S2.h j:=fun j a b=>by rw [hS3,adv_h,st_other b,st_other a,b1]
  have fr:Fresh S3:=fun j hj=>by rw [kk j (by omega) (by omega)]; exact pn j (by omega)
  have hB0:∀ i,S3.h i = some (.cells [.nils,.nilm,.nils] 58 true true)→BkR S3 i [] [i]:=fun i h=>⟨.nils,.nilm,.nils,⟨h,gw_nil,.inl ⟨rfl,rfl⟩,gw_nil,by simp [idOf],fun n h=>(by cases h),by decide⟩,rfl⟩
  have l60:l.length < 2 ^ 60:=by omega
  have a60:(more ++ l).length < 2 ^ 60:=by rw [List.length_append]; omega
  obtain ⟨n1,⟨u,B,M⟩,h1⟩:=T_tot psM true l [] x ([],[])
  obtain ⟨n2,⟨v,C,N'⟩,h2⟩:=T_tot psM true (more ++ l) [] x ([],[])
  obtain ⟨t1,t2⟩:=more_law psM ckey_ok a60 hu hb h1 h2
  subst t1 t2
  refine BkW.callS0 (Term_c parse_ok fr (hB0 _ hk1) wf_nil hL x hfit (by omega) h1) fz30 (seal30 _ _ l x) fun s1 hs1=>?_
  obtain ⟨F1,k1,k2,k3⟩:=hs1
  have o:∀ j,j < S3.nx→j≠s'.nx + 1→s1.h j = S3.h j:=fun j c d=>k2.h j c (by simpa using d)
  have r0:s1.h 0 = some (.cells x.av.cells 33 true true):=by rw [o 0 (by omega) (by omega),kk 0 (by omega) (by omega)]; exact p0
  have z2':∀ j∈idOf a2,j = 7∨j = 5:=fun j hj=>by rcases z2 j hj with h | h <;> omega
  have g3:Gw 67 10 0 s1 a2 ((more ++ l).map Dc.av):=g2.keep fun j hj=>by have:=z2' j hj; rw [o j (by omega) (by omega),kk j (by omega) (by omega)]
  have hp3:pur Tryz.env.P (Ai.adv s1 9) 12 a2 = some (.sl false ((more ++ l).map Dc.av),idOf a2):=gw_purk tf49 g3.adv (fun v hv=>by obtain ⟨d,_,rfl⟩:=List.mem_map.1 hv; exact dc_closed d) (fun v hv=>by obtain ⟨d,_,rfl⟩:=List.mem_map.1 hv; rfl) 11
  simp only [ex0,ex1,r0,sx_part,wx,wy,Nat.reduceAdd,Nat.reduceEqDiff,reduceCtorEq]
  have nn:=k2.nx
  have hnd:∀ j,9≤j→j ∉ idOf a2 ++ ([] ++ []):=fun j hj h=>by
   simp only [List.append_nil] at h
   have:=z2' j h; omega
  have fr4:Fresh ((Ai.adv s1 9).drop (idOf a2 ++ ([] ++ []))):=fun j hj=>by
   rw [drop_nxE] at hj
   exact drop_none (k2.fr.adv j hj)
  have hB4:BkR ((Ai.adv s1 9).drop (idOf a2 ++ ([] ++ []))) (s'.nx + 4) [] [s'.nx + 4]:=by
   refine ⟨.nils,.nilm,.nils,⟨?_,gw_nil,.inl ⟨rfl,rfl⟩,gw_nil,by simp [idOf],fun n h=>(by cases h),by decide⟩,rfl⟩
   rw [drop_hn (hnd _ (by omega)),adv_h,o _ (by omega) (by omega),hk4]
  refine BkW.callS (Term_c parse_ok fr4 hB4 wf_nil hM x hfit (by omega) h2) fz30 (seal30p hp3 (pur_cl (sx_closed x) _)) fun s2 hs2=>?_
  obtain ⟨F2,e1',e2',e3'⟩:=hs2
  have hF1:∀ j∈F1,j < s1.nx∧9≤j∧j≠s'.nx + 4:=fun j hj=>by
   have h1:=k1.lt k2.fr j hj
   rcases k3 j hj with h | h
   ·simp only [List.mem_singleton] at h; omega
   ·omega
  have kB:BkR s2 (s'.nx + 1) B F1:=k1.keep fun j hj=>by
   obtain ⟨c1,c2,c3⟩:=hF1 j hj
   rw [e2'.h j (by rw [drop_nxE]; simp only [adv_nx]; omega) (by simpa using c3),drop_hn (hnd j c2),adv_h]
  obtain ⟨uv,ue⟩:=u
  have kvv:(uv == uv) = true:=by simp
  have kee:(ue == ue) = true:=by simp
  have kll:(((B.length:Nat):Int) == (B.length:Int)) = true:=by simp
  simp only [ex0,ex1,kvv,kee,wx,wy,Nat.reduceAdd,Nat.reduceEqDiff,reduceCtorEq]
  refine len_c kB.adv ?_
  simp only [wx,wy,Nat.reduceAdd,Nat.reduceEqDiff,reduceCtorEq]
  refine len_c e1'.adv ?_
  simp only [kll,wx,wy,Nat.reduceAdd,Nat.reduceEqDiff,reduceCtorEq])
 obtain ⟨r,s',h1,h2⟩:=h
 subst h2
 exact ⟨s',h1⟩
end
noncomputable section
structure Cl:Type where
 kind:Int
 n:Int
 d:Dc
 x:Sx
def Cl.av (c:Cl):AV:=.agg (.int .i64 c.kind :: .int .i64 c.n :: (c.d.av.cells ++ c.x.av.cells))
def Cl.ok (c:Cl):Bool:=isInt c.kind && isInt c.n && c.d.ok && c.x.ok
end
noncomputable section
section
variable {H:Type}
theorem fields67:fieldTys Tryz.ty 67 = some [9,3,4,65,33]:=by kernel_rfl
theorem fields151:fieldTys Tryz.ty 151 = some [9,3]:=by kernel_rfl
theorem pm_of (n:Nat) (d:DataW H) (h:TyD Tryz.ty n 151 d):∃ p:List UInt8 × Int,dAV d = pmA p:=by
 obtain ⟨m,l,rfl,rfl,hl,hf⟩:=h.struct fields151
 match l,hl with
 | [d0,d1],_ =>
 obtain ⟨x,rfl,_⟩:=(hf 0 9 d0 rfl rfl).str (by kernel_rfl)
 obtain ⟨a,rfl,_⟩:=(hf 1 3 d1 rfl rfl).int (k:=.i64) (by kernel_rfl)
 exact ⟨(x,a),rfl⟩
theorem list_of {α:Type} {f:α→AV} {p:DataW H→Prop} (h:∀ d,p d→∃ a,dAV d = f a) (l:List (DataW H)) (hl:∀ d∈l,p d):∃ bs:List α,dAVs l = bs.map f∧bs.length = l.length:=by
 induction l with
 | nil=>exact ⟨[],rfl,rfl⟩
 | cons d l ih =>
  obtain ⟨a,ha⟩:=h d (hl d (List.mem_cons_self ..))
  obtain ⟨bs,h1,h2⟩:=ih fun x hx=>hl x (List.mem_cons_of_mem _ hx)
  exact ⟨a :: bs,by simp only [dAVs,ha,h1,List.map_cons],by simp [h2]⟩
end
end
noncomputable section
mutual
def Sx.bk:Sx→Nat
 | .mk _ _ t _ _ items=>1 + t.length + Sx.bks items
def Sx.bks:List Sx→Nat
 | []=>0
 | s :: l=>s.bk + Sx.bks l
end
section
variable {H:Type}
theorem list2 {T:Ty} {e t:TypeId} {n:Nat} {d:DataW H} (h:elemTy T t = some e) (hd:TyD T n t d):∃ (m:Nat) (l:List (DataW H)),n = m + 1∧dAV d = .sl false (dAVs l)∧l.length≤maxLen∧(∀ x∈l,TyD T m e x)∧Rows.uptoBulkAll l≤Rows.uptoBulk d:=by
 cases n with
 | zero=>exact hd.elim
 | succ m =>
  unfold elemTy at h
  unfold TyD at hd
  split at h
  ·rename_i hu
   rw [hu] at hd; cases h
   rcases hd with rfl | ⟨l,r,rfl,h1,h2⟩
   ·exact ⟨m,[],rfl,rfl,by simp,(fun _ h=>by cases h),by simp [Rows.uptoBulkAll]⟩
   ·exact ⟨m,l,rfl,rfl,h1,h2,by simp only [Rows.uptoBulk]; omega⟩
  ·cases h
theorem sx_bulk:∀ (n:Nat) (d:DataW H),TyD Tryz.ty n 33 d→∃ s:Sx,dAV d = s.av∧s.ok = true∧s.bk≤Rows.uptoBulk d:=by
 intro n
 induction n using Nat.strongRecOn with
 | ind n ih =>
 intro d hd
 obtain ⟨m,l,rfl,rfl,hl,hf⟩:=hd.struct fields33
 match l,hl with
 | [d0,d1,d2,d3],_ =>
 obtain ⟨b,rfl⟩:=(hf 0 4 d0 rfl rfl).bool (by kernel_rfl)
 obtain ⟨m1,l1,rfl,rfl,hl1,hf1⟩:=(hf 1 30 d1 rfl rfl).struct fields30
 obtain ⟨a,rfl,ha⟩:=(hf 2 3 d2 rfl rfl).int (k:=.i64) (by kernel_rfl)
 obtain ⟨m2,its,hm,hv,hlen,hel,hbk⟩:=list2 (e:=33) (by kernel_rfl) (hf 3 31 d3 rfl rfl)
 match l1,hl1 with
 | [e0,e1,e2],_ =>
 obtain ⟨k,rfl,hk⟩:=(hf1 0 3 e0 rfl rfl).int (k:=.i64) (by kernel_rfl)
 obtain ⟨x,rfl,hx⟩:=(hf1 1 9 e1 rfl rfl).str (by kernel_rfl)
 obtain ⟨p,rfl,hp⟩:=(hf1 2 3 e2 rfl rfl).int (k:=.i64) (by kernel_rfl)
 have:∀ l:List (DataW H),(∀ x∈l,TyD Tryz.ty m2 33 x)→∃ is:List Sx,dAVs l = Sx.avs is∧is.length = l.length∧Sx.oks is = true∧Sx.bks is≤Rows.uptoBulkAll l:=by
  intro l
  induction l with
  | nil=>intro _; exact ⟨[],rfl,rfl,rfl,Nat.le_refl _⟩
  | cons y l ihl =>
   intro hy
   obtain ⟨s,hs,ho,hb⟩:=ih m2 (by omega) y (hy y (List.mem_cons_self ..))
   obtain ⟨is,h1,h2,h3,h4⟩:=ihl fun x hx=>hy x (List.mem_cons_of_mem _ hx)
   exact ⟨s :: is,by simp only [dAVs,Sx.avs,hs,h1],by simp [h2],by simp only [Sx.oks,ho,h3,Bool.and_self],by simp only [Sx.bks,Rows.uptoBulkAll]; omega⟩
 obtain ⟨is,h1,h2,h3,h4⟩:=this its hel
 refine ⟨.mk b k x p a is,?_,?_,?_⟩
 ·simp only [dAV,dAVc,AV.cells,hv,List.cons_append,List.nil_append,List.append_nil,Sx.av,h1]
 ·simp only [Sx.ok,isInt,hk,hx,hp,ha,h2,hlen,h3,decide_true,Bool.and_self]
 ·simp only [Sx.bk,Rows.uptoBulk,Rows.uptoBulkAll]; omega
def Dc.bk (d:Dc):Nat:=d.ps.length + d.nm.length + d.body.bk + 1
theorem pm_bulk (n:Nat) (d:DataW H) (h:TyD Tryz.ty n 151 d):1≤Rows.uptoBulk d:=by
 obtain ⟨m,l,rfl,rfl,hl,hf⟩:=h.struct fields151
 simp only [Rows.uptoBulk]; omega
theorem dc_bulk (n:Nat) (d:DataW H) (h:TyD Tryz.ty n 67 d):∃ c:Dc,dAV d = c.av∧c.ok = true∧c.bk≤Rows.uptoBulk d:=by
 obtain ⟨m,l,rfl,rfl,hl,hf⟩:=h.struct fields67
 match l,hl with
 | [d0,d1,d2,d3,d4],_ =>
 obtain ⟨x,rfl,hx⟩:=(hf 0 9 d0 rfl rfl).str (by kernel_rfl)
 obtain ⟨a,rfl,ha⟩:=(hf 1 3 d1 rfl rfl).int (k:=.i64) (by kernel_rfl)
 obtain ⟨b,rfl⟩:=(hf 2 4 d2 rfl rfl).bool (by kernel_rfl)
 obtain ⟨m2,its,hm,hv,hlen,hel,hbk⟩:=list2 (e:=151) (by kernel_rfl) (hf 3 65 d3 rfl rfl)
 obtain ⟨s,hs,ho,hb⟩:=sx_bulk m d4 (hf 4 33 d4 rfl rfl)
 obtain ⟨ps,h1,h2⟩:=list_of (f:=pmA) (fun d h=>pm_of m2 d h) its hel
 have hlb:∀ l:List (DataW H),(∀ x∈l,TyD Tryz.ty m2 151 x)→l.length≤Rows.uptoBulkAll l:=by
  intro l
  induction l with
  | nil=>intro _; exact Nat.le_refl _
  | cons y l ihl =>
   intro hy
   have h1:=pm_bulk m2 y (hy y (List.mem_cons_self ..))
   have h2:=ihl fun x hx=>hy x (List.mem_cons_of_mem _ hx)
   simp only [List.length_cons,Rows.uptoBulkAll]; omega
 have hlb:=hlb its hel
 refine ⟨⟨x,a,b,ps,s⟩,?_,?_,?_⟩
 ·simp only [dAV,dAVc,AV.cells,hv,h1,hs,List.cons_append,List.nil_append,List.append_nil]
  rfl
 ·simp only [Dc.ok,isInt,hx,ha,h2,hlen,ho,decide_true,Bool.and_self]
 ·simp only [Dc.bk,Rows.uptoBulk,Rows.uptoBulkAll]; omega
theorem dcs_bulk (n:Nat) (d:DataW H) (h:TyD Tryz.ty n 49 d):∃ L:List Dc,dAV d = .sl false (L.map Dc.av)∧L.length≤maxLen∧(∀ c∈L,c.ok = true)∧(∀ c∈L,c.bk≤Rows.uptoBulk d)∧L.length≤Rows.uptoBulk d:=by
 obtain ⟨m,its,hm,hv,hlen,hel,hbk⟩:=list2 (e:=67) (by kernel_rfl) h
 have:∀ l:List (DataW H),(∀ x∈l,TyD Tryz.ty m 67 x)→∃ L:List Dc,dAVs l = L.map Dc.av∧L.length = l.length∧(∀ c∈L,c.ok = true)∧(∀ c∈L,c.bk≤Rows.uptoBulkAll l)∧L.length≤Rows.uptoBulkAll l:=by
  intro l
  induction l with
  | nil=>intro _; exact ⟨[],rfl,rfl,(fun _ h=>by cases h),(fun _ h=>by cases h),Nat.le_refl _⟩
  | cons y l ihl =>
   intro hy
   obtain ⟨c,hc,ho,hb⟩:=dc_bulk m y (hy y (List.mem_cons_self ..))
   obtain ⟨L,h1,h2,h3,h4,h5⟩:=ihl fun x hx=>hy x (List.mem_cons_of_mem _ hx)
   refine ⟨c :: L,by simp only [dAVs,hc,h1,List.map_cons],by simp [h2],?_,?_,?_⟩
   ·intro x hx; rcases List.mem_cons.1 hx with rfl | hx
    ·exact ho
    ·exact h3 x hx
   ·intro x hx; simp only [Rows.uptoBulkAll]; rcases List.mem_cons.1 hx with rfl | hx
    ·omega
    ·have:=h4 x hx; omega
   ·have:1≤c.bk:=by unfold Dc.bk; omega
    simp only [List.length_cons,Rows.uptoBulkAll]; omega
 obtain ⟨L,h1,h2,h3,h4,h5⟩:=this its hel
 exact ⟨L,by rw [hv,h1],by omega,h3,fun c hc=>Nat.le_trans (h4 c hc) hbk,by omega⟩
end
mutual
theorem bk_fit:∀ (s:Sx),s.ok = true→s.bk≤2 ^ 20→s.fit∧s.wt≤s.bk
 | .mk b k x p a items,ho,h=>by
  simp only [Sx.bk] at h
  simp only [Sx.ok,isInt,Bool.and_eq_true,decide_eq_true_eq] at ho
  obtain ⟨f1,f2,f3⟩:=bks_fit items ho.2 (by omega)
  refine ⟨⟨?_,by omega,by omega,f1⟩,?_⟩
  ·have h1:=ho.1.1.1.1.1
   simp only [Lit.wf,Bool.and_eq_true,decide_eq_true_eq] at h1
   exact h1
  ·simp only [Sx.wt,Sx.bk]; omega
theorem bks_fit:∀ (l:List Sx),Sx.oks l = true→Sx.bks l≤2 ^ 20→Sx.fits l∧Sx.wts l≤Sx.bks l∧l.length≤Sx.bks l
 | [],_,_=>⟨trivial,Nat.le_refl _,Nat.le_refl _⟩
 | s :: l,ho,h=>by
  simp only [Sx.bks] at h
  simp only [Sx.oks,Bool.and_eq_true] at ho
  obtain ⟨f1,f2⟩:=bk_fit s ho.1 (by omega)
  obtain ⟨g1,g2,g3⟩:=bks_fit l ho.2 (by omega)
  have hp:1≤s.bk:=by cases s; simp only [Sx.bk]; omega
  exact ⟨⟨f1,g1⟩,by simp only [Sx.wts,Sx.bks]; omega,by simp only [List.length_cons,Sx.bks]; omega⟩
end
theorem dcs_ok {L:List Dc} {b:Nat} (hb:b≤2 ^ 20) (ho:∀ c∈L,c.ok = true) (h:∀ c∈L,c.bk≤b) (hl:L.length≤b):DcOk L:=by
 have hf:∀ d∈L,d.body.fit∧d.body.wt≤d.body.bk:=fun d hd=>bk_fit d.body (by have:=ho d hd; simp only [Dc.ok,Bool.and_eq_true] at this; exact this.2) (by have:=h d hd; unfold Dc.bk at this; omega)
 exact ⟨by omega,fun d hd=>(hf d hd).1,fun d hd=>by have:=(hf d hd).2; have:=h d hd; unfold Dc.bk at this; omega,fun d hd=>by have:=h d hd; unfold Dc.bk at this; omega⟩
end
end Go.Proofs.YtdehdahimkcakaaGreatDoor
