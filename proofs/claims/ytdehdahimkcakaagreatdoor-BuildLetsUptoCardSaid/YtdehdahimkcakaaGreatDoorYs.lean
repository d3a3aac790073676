/- Texts joined by wip/tools/pack.py: Mt,Mu,Ar,Ap,Tw,Lw,Lp,Lx,Cl,Rd,Bk. -/
import Derived.Test.YtdehdahimkcakaaGreatDoorYr
set_option linter.unusedSimpArgs false
set_option linter.unusedVariables false
set_option maxHeartbeats 4000000
set_option maxRecDepth 100000
namespace Go.Proofs.YtdehdahimkcakaaGreatDoor
open Go Ai
noncomputable section
theorem pairs_len:∀ {l:List Sx} {ns:List (List UInt8)} {ts:List Sx},pairsM l = some (ns,ts)→ns.length = l.length∧ts.length = l.length:=by
 intro l
 induction l with
 | nil=>intro ns ts h; simp only [pairsM,Option.some.injEq,Prod.mk.injEq] at h; obtain ⟨rfl,rfl⟩:=h; exact ⟨rfl,rfl⟩
 | cons p l ih =>
  intro ns ts h
  unfold pairsM at h
  split at h
  ·rename_i x y h1 h2
   cases hx:x.isN with
   | false=>rw [hx] at h; cases h
   | true =>
    rw [hx] at h
    simp only [cond_true,Option.map_eq_some_iff] at h
    obtain ⟨⟨ns',ts'⟩,h3,h4⟩:=h
    simp only [Prod.mk.injEq] at h4
    obtain ⟨rfl,rfl⟩:=h4
    obtain ⟨a,b⟩:=ih h3
    exact ⟨by simp only [List.length_cons,a],by simp only [List.length_cons,b]⟩
  ·cases h
section
variable {s s':St} {p ib:Nat} {L:List Dc} {scs:List Ev} {σ:Sg} {F:List Nat} {K:AV→St→Prop} {ps:List UInt8→List Nat × Int} {L0:List Dc} {n j:Nat} {σ':Sg}
theorem let_c (hT:TermC ps n) (hL:DcOk L0) (fr:Fresh s) (hR:MkR s p ib (L0.take j) scs σ F) (hok:StOk ps L0 scs.flatten σ) (rest:List Sx) (hrl:rest.length≤2 ^ 20) (hfit:∀ y∈rest,y.fit) (hw:scs.length + 1 + Sx.wts rest≤2 ^ 30) {r:Int × Int} (hc:letM (T ps true n) (L0.take j) scs.flatten rest σ = some (r,σ')) :
  ∃ v s',WideC Tryz.env 176 [.ptr p 0,.sl false (rest.map Sx.av)] s v s'∧v = res r∧∃ F',MkQ s p ib (L0.take j) scs F σ' s' F':=by
 have hF:=hR.lt fr
 refine f176_run _ _ _ ?_
 unfold f176
 have hne3:∀ u v:Int,bn .neq 3 (.int .i64 u) (.int .i64 v) = some (.bool (u != v)):=fun _ _=>bin_neq
 have same:∀ (S:St) (r0:Int × Int),EF [] s S→(some (r0,σ):Rt) = some (r,σ')→(res r0 = res r∧∃ F',MkQ s p ib (L0.take j) scs F σ' S F'):=fun S r0 e h=>by
  simp only [Option.some.injEq,Prod.mk.injEq] at h
  obtain ⟨rfl,rfl⟩:=h
  exact ⟨rfl,_,MkQ.same hR fr e⟩
 by_cases h2:rest.length = 2
 ·obtain ⟨h,z,rfl⟩:∃ h z,rest = [h,z]:=by
   match rest,h2 with
   | [h,z],_=>exact ⟨h,z,rfl⟩
  have ix0:ixS 6 (.sl false ([h,z].map Sx.av)) (.int .i64 0) = some (.pel h.av.cells 0):=ix_map encSx false (l:=[h,z]) (i:=0) (a:=h) rfl .i64
  have hl2:∀ id S,bt .len #[31] [.sl false ([h,z].map Sx.av)] id S = some (.int .i64 2,S):=fun id S=>ln31m [h,z] id S
  simp only [hl2,hne3,ix0,sxc0,show ((2:Int) != 2) = false from rfl,wx,wy,Nat.reduceAdd,Nat.reduceEqDiff,reduceCtorEq]
  cases hh:h.lst with
  | false =>
   have:letM (T ps true n) (L0.take j) scs.flatten [h,z] σ = some ((0,1),σ):=by unfold letM; simp only [hh,cond_false]
   rw [this] at hc
   simp only [Bool.not_false,wx,wy,Nat.reduceAdd,Nat.reduceEqDiff,reduceCtorEq]
   exact same _ (0,1) (ef0 fr _) hc
  | true =>
   have hhf:=hfit h (by simp)
   have hzf:=hfit z (by simp)
   obtain ⟨hil,_⟩:=fit_its hhf
   simp only [Bool.not_true,ix0,sxc5,zf254,ln31m,wx,wy,Nat.reduceAdd,Nat.reduceEqDiff,reduceCtorEq]
   have hz254:(AV.agg [.nils,.nils]).cells = [.nils,.nils]:=rfl
   simp only [hz254]
   have e0:∀ (v k:Nat),s.nx≤v→v < s.nx + k→EF [] s (Ai.adv (s.set v (some (.cells [.nils,.nils] 254 true true))) k):=fun v k hv hk=>⟨by simp only [adv_nx,set_nx]; omega,fun b hb _=>by rw [adv_h,st_other (by omega)],fun b hb=>by
    have hb:s.nx + k≤b:=hb
    rw [adv_h,st_other (by omega)]; exact fr b (by omega)⟩
   simp only [Sx.wts] at hw
   refine ⟨_,l176 s h.its hil hF _ (.sl false ([h,z].map Sx.av)) _ (fun s' hp e hm=>?_) (fun s' y ty ns ts hp hl=>?_) h.its.length 0 _ .nils .nils [] [] (by omega) (by simp) (by simp) (by simp only [List.drop_zero,List.nil_append]; cases pairsM h.its <;> rfl)
    ⟨hR.ext fr (e0 _ _ (by omega) (by omega)),e0 _ _ (by omega) (by omega),by rw [adv_h,st_same],gw_nil,gw_nil,⟨by omega,(fun h=>by cases h),(fun h=>by cases h)⟩,(fun x hx=>by cases hx),(fun x hx=>by cases hx)⟩⟩
   ·have:letM (T ps true n) (L0.take j) scs.flatten [h,z] σ = some ((0,1),σ):=by unfold letM; simp only [hh,cond_true,hp]
    rw [this] at hc
    exact same s' (0,1) e hc
   ·obtain ⟨q1,q2⟩:=pairs_len hp
    exact j176 hT hL s fr hR hok h z hh hzf (by omega) hhf _ y ty ns ts hp (by omega) (by omega) s' hl hc _ fun s'' F' hq=>⟨rfl,F',hq⟩
 ·have:letM (T ps true n) (L0.take j) scs.flatten rest σ = some ((0,1),σ):=by
   match rest,h2 with
   | [],_=>rfl
   | [_],_=>rfl
   | _ :: _ :: _ :: _,_=>rfl
  rw [this] at hc
  have hb:(((rest.length:Nat):Int) != 2) = true:=by simp; omega
  simp only [ln31m,hne3,hb,wx,wy,Nat.reduceAdd,Nat.reduceEqDiff,reduceCtorEq]
  exact same _ (0,1) (ef0 fr _) hc
def opL2:List (List UInt8 × Int):=opL.filter fun q=>!(q.1 == [45])
theorem hit_filter (x:List UInt8) (hx:(x == [45]) = false):∀ l:List (List UInt8 × Int),hit (l.filter fun q=>!(q.1 == [45])) x = hit l x:=by
 intro l
 induction l with
 | nil=>rfl
 | cons q l ih =>
  obtain ⟨a,v⟩:=q
  cases ha:(a == [45]) with
  | false =>
   rw [List.filter_cons_of_pos (by simp only [ha,Bool.not_false])]
   simp only [hit,ih]
  | true =>
   rw [List.filter_cons_of_neg (by simp only [ha,Bool.not_true]; decide)]
   have:a = [45]:=by simpa using ha
   subst this
   simp only [hit,hx,ih,Bool.false_eq_true,if_false]
theorem c71g (x:List UInt8) (k:Int):PureC Tryz.env 71 [.str x,.int .i64 k] (.int .i64 (operM x k)):=by
 refine pure_closed rfl (f71_run _ _ _ ?_)
 unfold f71
 cases hk:(k == 1) with
 | false =>
  have ho:operM x k = opN x:=by simp only [operM,hk,Bool.and_false,cond_false]
  simp only [Bnd_some,bin_seql,bin_eql,hk,IfP_bool]
  refine hitP (l:=opL) (c:=fun v=>AV.int .i64 v = .int .i64 (operM x k)) (d:=f71j1 (fun r s'=>r = .int .i64 (operM x k)) (.str x) _) (fun v h=>by rw [ho]; simp only [opN,h]; rfl) (fun h=>?_)
  exact callPu (c122 x) (by simp [AV.closed]) (by rw [ho]; simp only [opN,h]; rfl)
 | true =>
  cases hx:(x == [45]) with
  | true =>
   have:x = [45]:=by simpa using hx
   subst this
   have ho:operM [45] k = 14:=by simp only [operM,hk,beq_self_eq_true,Bool.and_self,cond_true]
   have e:∀ y:List UInt8,([45] == y) = decide (([45]:List UInt8) = y):=fun y=>by cases h:([45] == y) <;> simp_all
   simp only [Bnd_some,bin_seql,bin_eql,hk,IfP_bool,ho,show (([45]:List UInt8) == [110,111,116]) = false from rfl,show (([45]:List UInt8) == [97,110,100]) = false from rfl,show (([45]:List UInt8) == [111,114]) = false from rfl,show (([45]:List UInt8) == [61,62]) = false from rfl,show (([45]:List UInt8) == [120,111,114]) = false from rfl,show (([45]:List UInt8) == [61]) = false from rfl,show (([45]:List UInt8) == [100,105,115,116,105,110,99,116]) = false from rfl,show (([45]:List UInt8) == [105,116,101]) = false from rfl,show (([45]:List UInt8) == [43]) = false from rfl,beq_self_eq_true,if_true,Bool.false_eq_true,if_false]
  | false =>
   have ho:operM x k = opN x:=by simp only [operM,hx,Bool.false_and,cond_false]
   have hh:=hit_filter x hx opL
   simp only [Bnd_some,bin_seql,bin_eql,hk,hx,IfP_bool,Bool.false_eq_true,if_false]
   refine hitP (l:=opL2) (c:=fun v=>AV.int .i64 v = .int .i64 (operM x k)) (d:=f71j1 (fun r s'=>r = .int .i64 (operM x k)) (.str x) _) (fun v h=>by rw [ho]; simp only [opN,show hit opL x = some v from hh ▸ h]; rfl) (fun h=>?_)
   have h:hit opL x = none:=by rw [← hh]; exact h
   exact callPu (c122 x) (by simp [AV.closed]) (by rw [ho]; simp only [opN,h]; rfl)
theorem hit_bd {l:List (List UInt8 × Int)} (hl:(l.all fun q=>decide (0≤q.2) && decide (q.2≤1000)) = true) {x:List UInt8} {v:Int} (h:hit l x = some v):0≤v∧v≤1000:=by
 induction l with
 | nil=>cases h
 | cons q l ih =>
  obtain ⟨a,w⟩:=q
  simp only [List.all_cons,Bool.and_eq_true,decide_eq_true_eq] at hl
  simp only [hit] at h
  split at h
  ·cases h; exact hl.1
  ·exact ih (by simpa only [Bool.and_eq_true,decide_eq_true_eq] using hl.2) h
theorem oper_i64 (x:List UInt8) (k:Int):i64 (operM x k):=by
 have h0:i64 0:=⟨by decide,by decide⟩
 have ht:i64 ((hit txL x).getD 0):=by
  cases h:hit txL x with
  | none=>exact h0
  | some v=>obtain ⟨a,b⟩:=hit_bd (by decide) h; exact i64_small a b
 unfold operM
 cases (x == [45] && k == 1) with
 | true=>exact (⟨by decide,by decide⟩:i64 14)
 | false =>
  show i64 (opN x)
  unfold opN
  cases h:hit opL x with
  | none=>exact ht
  | some v=>obtain ⟨a,b⟩:=hit_bd (by decide) h; exact i64_small a b
theorem list_c (hT:TermC ps n) (hL:DcOk L0) (fr:Fresh s) (hR:MkR s p ib (L0.take j) scs σ F) (hok:StOk ps L0 scs.flatten σ) (x:Sx) (hfit:x.fit) (hw:scs.length + x.wt≤2 ^ 30) {r:Int × Int} (hc:lisM true (T ps true n) (L0.take j) scs.flatten x.its σ = some (r,σ')) :
  ∃ v s',WideC Tryz.env 126 [.ptr p 0,x.av] s v s'∧v = res r∧∃ F',MkQ s p ib (L0.take j) scs F σ' s' F':=by
 have hF:=hR.lt fr
 have hp:=hF p hR.pin
 obtain ⟨hil,hif⟩:=fit_its hfit
 have hLl:(L0.take j).length≤2 ^ 30:=by have:=hL.len; simp only [List.length_take]; omega
 refine f126_run _ _ _ ?_
 unfold f126
 refine ⟨sx_ones x,?_⟩
 have heq3:∀ u v:Int,bn .eql 3 (.int .i64 u) (.int .i64 v) = some (.bool (u == v)):=fun _ _=>bin_eql
 have hne3:∀ u v:Int,bn .neq 3 (.int .i64 u) (.int .i64 v) = some (.bool (u != v)):=fun _ _=>bin_neq
 have hls:∀ u v:Int,bn .lss 3 (.int .i64 u) (.int .i64 v) = some (.bool (decide (u < v))):=fun _ _=>bin_lss
 have same:∀ (S:St) (r0:Int × Int),EF [] s S→(some (r0,σ):Rt) = some (r,σ')→(res r0 = res r∧∃ F',MkQ s p ib (L0.take j) scs F σ' S F'):=fun S r0 e h=>by
  simp only [Option.some.injEq,Prod.mk.injEq] at h
  obtain ⟨rfl,rfl⟩:=h
  exact ⟨rfl,_,MkQ.same hR fr e⟩
 have e0:∀ (k:Nat),0 < k→EF [] s (Ai.adv (s.set s.nx (some (.cells x.av.cells 33 true true))) k):=fun k hk=>⟨by simp only [adv_nx,set_nx]; omega,fun b hb _=>by rw [adv_h,st_other (by omega)],fresh_set fr k (by omega)⟩
 simp only [sxc5,ln31m,heq3,wx,wy,Nat.reduceAdd,Nat.reduceEqDiff,reduceCtorEq]
 cases hits:x.its with
 | nil =>
  rw [hits] at hc
  simp only [List.length_nil,show (((0:Nat):Int) == 0) = true from rfl,wx,wy,Nat.reduceAdd,Nat.reduceEqDiff,reduceCtorEq]
  exact same _ (0,1) (e0 _ (by omega)) hc
 | cons h rest =>
 rw [hits] at hc hif hil
 have hlen0:((((h :: rest).length:Nat):Int) == 0) = false:=by simp; omega
 have ix0:ixS 6 (.sl false ((h :: rest).map Sx.av)) (.int .i64 0) = some (.pel h.av.cells 0):=ix_map encSx false (l:=h :: rest) (i:=0) (a:=h) rfl .i64
 have c5:x.av.cells[5]? = some (.sl false ((h :: rest).map Sx.av)):=by rw [sxc5,hits]
 unfold lisM at hc
 dsimp only at hc
 have hx1:h.wt + Sx.wts rest + 1≤x.wt:=by
  cases x with
  | mk l k t p a items =>
   have:items = h :: rest:=hits
   subst this
   simp only [Sx.wt,Sx.wts]; omega
 simp only [hlen0,c5,ix0,sxc0,wx,wy,Nat.reduceAdd,Nat.reduceEqDiff,reduceCtorEq]
 cases hl:h.lst with
 | true =>
  have hn:h.isN = false:=by simp only [Sx.isN,hl,Bool.not_true,Bool.false_and]
  rw [hn] at hc
  simp only [Bool.not_false,cond_true] at hc
  simp only [wx,wy,Nat.reduceAdd,Nat.reduceEqDiff,reduceCtorEq]
  exact same _ (0,101) (e0 _ (by omega)) hc
 | false =>
 simp only [c5,ix0,sxc1,hne3,wx,wy,Nat.reduceAdd,Nat.reduceEqDiff,reduceCtorEq]
 cases hk:(h.kind == 3) with
 | false =>
  have hn:h.isN = false:=by simp only [Sx.isN,hl,hk,Bool.and_false]
  rw [hn] at hc
  simp only [Bool.not_false,cond_true] at hc
  have:(h.kind != 3) = true:=by simp only [bne,hk]; rfl
  simp only [this,wx,wy,Nat.reduceAdd,Nat.reduceEqDiff,reduceCtorEq]
  exact same _ (0,101) (e0 _ (by omega)) hc
 | true =>
 have hn:h.isN = true:=by simp only [Sx.isN,hl,hk,Bool.not_false,Bool.and_self]
 have hk2:(h.kind != 3) = false:=by simp only [bne,hk]; rfl
 rw [hn] at hc
 simp only [Bool.not_true,cond_false] at hc
 have hsl:∀ S,slc 31 (.sl false ((h :: rest).map Sx.av)) (some (.int .i64 1)) none none S = some (.sl false (rest.map Sx.av)):=fun S=>slc_drop tf31 encSx.len false (h :: rest) (k:=1) (by simp) .i64
 simp only [hk2,c5,ix0,sxc2,hsl,ln31m,wx,wy,Nat.reduceAdd,Nat.reduceEqDiff,reduceCtorEq]
 refine callPu (c71g h.txt rest.length) (by simp [AV.closed]) ?_
 obtain ⟨xin,vs,jm,FB,c,rfl⟩:=hR
 have hR:MkR s p ib (L0.take j) scs σ (p :: jm :: (FB ++ inIds xin vs)):=⟨xin,vs,jm,FB,c,rfl⟩
 refine (decl_c (e0 37 (by omega)).adv.fr h.txt (L0.take j) (by omega) ⟨_,_,_,_,_,_,(c.ext fr ((e0 37 (by omega)).adv (n:=4))).cell⟩).call fz174 fun s1 e1=>?_
 have f1:=((e0 37 (by omega)).adv (n:=4)).nil_trans e1
 have c1:=c.ext fr f1.adv (s':=Ai.adv s1 8)
 refine (bound_c f1.adv.fr h.txt (vs_le c (by omega)) ⟨_,_,_,_,_,_,c1.cell⟩ c1.inx c1.sco).call fz175 fun s2 e2=>?_
 have f2:=f1.adv.nil_trans e2
 have key:∀ (kk:Int) (S:St),EF [] s S→(kk = match boundM scs.flatten h.txt with
   | some _=>-1
   | none=>dNum (declM (L0.take j) h.txt)) →
   f126j1 (fun v s'=>v = res r∧∃ F',MkQ s p ib (L0.take j) scs (p :: jm :: (FB ++ inIds xin vs)) σ' s' F') (.str h.txt) (.ptr p 0) (.sl false (rest.map Sx.av)) (.int .i64 (operM h.txt rest.length)) (.int .i64 kk) S:=by
  intro kk S f hkk
  have hrl:rest.length≤2 ^ 20:=by simp only [List.length_cons] at hil; omega
  have hrf:∀ y∈rest,y.fit:=fun y hy=>hif y (by simp [hy])
  have fin2:∀ (kk:Int) (S:St),EF [] s S→(∀ q σ1,eachM (T ps true n) (L0.take j) scs.flatten rest σ = some (q,σ1)→q.2 = 0→(if operM h.txt rest.length = 0 then (∃ k:Nat,kk = (k:Int)∧callM true (T ps true n) (L0.take j) k q.1 σ1 = some (r,σ')) else bkS (appM σ1.1 (operM h.txt rest.length) q.1) σ1.2 = some (r,σ'))) →
    (∀ q σ1,eachM (T ps true n) (L0.take j) scs.flatten rest σ = some (q,σ1)→q.2≠0→r = (0,q.2)∧σ' = σ1)→(∃ q σ1,eachM (T ps true n) (L0.take j) scs.flatten rest σ = some (q,σ1)) →
    f126j2 (fun v s'=>v = res r∧∃ F',MkQ s p ib (L0.take j) scs (p :: jm :: (FB ++ inIds xin vs)) σ' s' F') (.sl false (rest.map Sx.av)) (.ptr p 0) (.int .i64 (operM h.txt rest.length)) (.int .i64 kk) S:=by
   intro kk S f g1 g2 g3
   obtain ⟨q,σ1,hev⟩:=g3
   unfold f126j2
   obtain ⟨hok1,hext,hin,hne⟩:=each_inv (by have:=hL.len; omega) hok hev
   refine each_c hT hL hrl hrf (fun y hy=>by have:=wts_mem hy; omega) f.adv.fr (hR.ext fr f.adv) hok (.inl rfl) (fun a ha=>by cases ha) hev fun s3 F3 k3=>?_
   have k3':=k3.from f.adv hp
   have x0:extr (.tup [.sl false (q.1.map inA),.int .i64 q.2]) 0 = some (.sl false (q.1.map inA)):=rfl
   have x1:extr (.tup [.sl false (q.1.map inA),.int .i64 q.2]) 1 = some (.int .i64 q.2):=rfl
   have hne34:∀ u v:Int,bn .neq 34 (.int .i64 u) (.int .i64 v) = some (.bool (u != v)):=fun _ _=>bin_neq
   by_cases hq:q.2 = 0
   ·have b1:(q.2 != 0) = false:=by simp [hq]
    obtain ⟨hql,hqin⟩:=hin hq
    have:=g1 q σ1 hev hq
    have hp3:p < s3.nx:=k3'.1.lt k3'.2.1.fr p k3'.1.pin
    by_cases hop:operM h.txt rest.length = 0
    ·rw [if_pos hop] at this
     obtain ⟨k,rfl,hcall⟩:=this
     have b2:(operM h.txt rest.length != 0) = false:=by simp [hop]
     simp only [x0,x1,hne34,hne3,b1,b2,wx,wy,Nat.reduceAdd,Nat.reduceEqDiff,reduceCtorEq]
     obtain ⟨v,s4,t1,rfl,F4,t2⟩:=call_c hT hL k3'.adv.2.1.fr k3'.adv.1 hok1 q.1 (.sl false (q.1.map inA)) (.inl rfl) hqin k hcall
     refine callWiF fz178 ⟨_,s4,t1,?_⟩
     simp only [ex0,ex1,wx,wy,Nat.reduceAdd,Nat.reduceEqDiff,reduceCtorEq]
     exact ⟨rfl,F4,k3'.adv.trans t2⟩
    ·rw [if_neg hop] at this
     have b2:(operM h.txt rest.length != 0) = true:=by simp [hop]
     obtain ⟨⟨xin3,vs3,jm3,FB3,c3,hF3⟩,e3,m3,ns3⟩:=k3'
     simp only [x0,x1,hne34,hne3,b1,b2,wx,wy,Nat.reduceAdd,Nat.reduceEqDiff,reduceCtorEq]
     refine ⟨rfl,?_⟩
     simp only [c3.cell,wx,wy,Nat.reduceAdd,Nat.reduceEqDiff,reduceCtorEq]
     have hi64:∀ a∈q.1,i64 a:=fun a ha=>by
      obtain ⟨u1,u2⟩:=hqin a ha
      have:=hok1.wf.1
      exact ⟨by omega,by omega⟩
     refine (app_w (ef0 e3.fr 15).fr (c3.bank.adv) hok1.wf (operM h.txt rest.length) q.1 (oper_i64 _ _) (by omega) hi64).call fz81 fun s4 hs=>?_
     simp only [bkS,Option.some.injEq,Prod.mk.injEq] at this
     obtain ⟨hr,hσ⟩:=this
     obtain ⟨F4,t2⟩:=bank_in c3 e3.fr (ef0 e3.fr 15) hs
     simp only [ex0,ex1,wx,wy,Nat.reduceAdd,Nat.reduceEqDiff,reduceCtorEq]
     rw [hr] at *
     rw [hσ] at t2
     rw [← hF3] at t2
     exact ⟨rfl,F4,MkQ.trans (σ1:=σ1) ⟨⟨xin3,vs3,jm3,FB3,c3,hF3⟩,e3,m3,ns3⟩ t2⟩
   ·have b1:(q.2 != 0) = true:=by simp [hq]
    obtain ⟨rfl,rfl⟩:=g2 q σ1 hev hq
    simp only [x0,x1,hne34,b1,wx,wy,Nat.reduceAdd,Nat.reduceEqDiff,reduceCtorEq]
    exact ⟨rfl,F3,k3'.adv⟩
  unfold f126j1
  cases hlet:(h.txt == letW) with
  | true =>
   rw [hlet,cond_true] at hc
   have hl2:(h.txt == [108,101,116]) = true:=hlet
   simp only [eq9,hl2,wx,wy,Nat.reduceAdd,Nat.reduceEqDiff,reduceCtorEq]
   obtain ⟨v,s3,t1,rfl,F3,t2⟩:=let_c hT hL f.adv.fr (hR.ext fr f.adv) hok rest hrl hrf (by omega) hc
   refine callWiF fz176 ⟨_,s3,t1,?_⟩
   simp only [ex0,ex1,wx,wy,Nat.reduceAdd,Nat.reduceEqDiff,reduceCtorEq]
   exact ⟨rfl,F3,t2.from f.adv hp⟩
  | false =>
  rw [hlet,cond_false] at hc
  have hl2:(h.txt == [108,101,116]) = false:=hlet
  have tail:∀ (kk:Int) (S:St),EF [] s S→((eachM (T ps true n) (L0.take j) scs.flatten rest σ).bind fun q=>bif q.1.2 == 0 then (if operM h.txt rest.length = 0 then (if 0≤kk then callM true (T ps true n) (L0.take j) kk.toNat q.1.1 q.2 else none) else bkS (appM q.2.1 (operM h.txt rest.length) q.1.1) q.2.2) else some ((0,q.1.2),q.2)) = some (r,σ') →
    f126j2 (fun v s'=>v = res r∧∃ F',MkQ s p ib (L0.take j) scs (p :: jm :: (FB ++ inIds xin vs)) σ' s' F') (.sl false (rest.map Sx.av)) (.ptr p 0) (.int .i64 (operM h.txt rest.length)) (.int .i64 kk) S:=by
   intro kk S f hb
   simp only [Option.bind_eq_some_iff] at hb
   obtain ⟨⟨q,σ1⟩,hev,hb⟩:=hb
   refine fin2 kk S f (fun q2 σ2 h1 h2=>?_) (fun q2 σ2 h1 h2=>?_) ⟨q,σ1,hev⟩
   ·rw [hev] at h1
    simp only [Option.some.injEq,Prod.mk.injEq] at h1
    obtain ⟨rfl,rfl⟩:=h1
    simp only [h2,beq_self_eq_true,cond_true] at hb
    by_cases hop:operM h.txt rest.length = 0
    ·rw [if_pos hop] at hb ⊢
     by_cases h0:0≤kk
     ·rw [if_pos h0] at hb
      exact ⟨kk.toNat,by omega,hb⟩
     ·rw [if_neg h0] at hb; cases hb
    ·rw [if_neg hop] at hb ⊢; exact hb
   ·rw [hev] at h1
    simp only [Option.some.injEq,Prod.mk.injEq] at h1
    obtain ⟨rfl,rfl⟩:=h1
    have:(q.2 == 0) = false:=by simp [h2]
    simp only [this,cond_false,Option.some.injEq,Prod.mk.injEq] at hb
    exact ⟨hb.1.symm,hb.2.symm⟩
  cases hop:(operM h.txt rest.length == 0) with
  | false =>
   have hop2:¬ (operM h.txt rest.length = 0):=by simpa using hop
   rw [hop] at hc
   simp only [Bool.false_and,cond_false] at hc
   simp only [eq9,hl2,heq3,hop,wx,wy,Nat.reduceAdd,Nat.reduceEqDiff,reduceCtorEq]
   exact tail _ _ f.adv (by simpa only [if_neg hop2] using hc)
  | true =>
   have hop2:operM h.txt rest.length = 0:=by simpa using hop
   rw [hop] at hc
   simp only [Bool.true_and,cond_true] at hc
   simp only [eq9,hl2,heq3,hop,wx,wy,Nat.reduceAdd,Nat.reduceEqDiff,reduceCtorEq]
   refine callPu (c24 h.txt) (by simp [AV.closed]) ?_
   have hrs:reservedM h.txt = ((hit resN h.txt).isSome || (opN h.txt != 0) || pre [115,116,114,46] h.txt || pre [114,101,46] h.txt):=rfl
   rw [← hrs]
   cases hres:reservedM h.txt with
   | true =>
    rw [hres,cond_true] at hc
    simp only [hop,wx,wy,Nat.reduceAdd,Nat.reduceEqDiff,reduceCtorEq]
    exact same _ (0,101) f.adv hc
   | false =>
    rw [hres,cond_false] at hc
    cases hb:boundM scs.flatten h.txt with
    | some i =>
     rw [hb] at hc hkk
     subst hkk
     simp only [hop,hls,show decide ((-1:Int) < 0) = true from rfl,wx,wy,Nat.reduceAdd,Nat.reduceEqDiff,reduceCtorEq]
     cases hd:declM (L0.take j) h.txt <;> (rw [hd] at hc; exact same _ (0,100) f.adv hc)
    | none =>
     rw [hb] at hc hkk
     cases hd:declM (L0.take j) h.txt with
     | none =>
      rw [hd] at hc hkk
      have hkk:kk = -1:=hkk
      subst hkk
      simp only [hop,hls,show decide ((-1:Int) < 0) = true from rfl,wx,wy,Nat.reduceAdd,Nat.reduceEqDiff,reduceCtorEq]
      exact same _ (0,100) f.adv hc
     | some k =>
      rw [hd] at hc hkk
      have hkk:kk = (k:Int):=hkk
      subst hkk
      have hk0:decide (((k:Nat):Int) < 0) = false:=by simp
      simp only at hc
      cases hdk:(L0.take j)[k]? with
      | none=>simp only [hdk] at hc; cases hc
      | some d =>
       simp only [hdk] at hc
       have hix:=ix_map encDc false hdk .i64
       have c3:=c.ext fr (f.adv (n:=10))
       have c3h:S.h p = _:=c3.cell
       simp only [hop,hls,hk0,wx,wy,Nat.reduceAdd,Nat.reduceEqDiff,reduceCtorEq]
       refine ⟨rfl,?_⟩
       simp only [c3h,hix,dc2,wx,wy,Nat.reduceAdd,Nat.reduceEqDiff,reduceCtorEq]
       cases hm:d.mac with
       | false =>
        rw [hm,cond_false] at hc
        simp only [hop,Bool.not_false,wx,wy,Nat.reduceAdd,Nat.reduceEqDiff,reduceCtorEq]
        exact same _ (0,100) f.adv hc
       | true =>
        rw [hm,cond_true] at hc
        simp only [hop,Bool.not_true,wx,wy,Nat.reduceAdd,Nat.reduceEqDiff,reduceCtorEq]
        refine tail _ _ f.adv ?_
        simp only [if_pos hop2,show (0:Int)≤(k:Int) by omega,if_true,Int.toNat_natCast]
        exact hc
 have f2':=f2
 cases hb:boundM scs.flatten h.txt with
 | some i =>
  simp only [bE0,bE1,Option.isSome_some,wx,wy,Nat.reduceAdd,Nat.reduceEqDiff,reduceCtorEq]
  exact key (-1) _ f2.adv (by rw [hb])
 | none =>
  simp only [bE0,bE1,Option.isSome_none,wx,wy,Nat.reduceAdd,Nat.reduceEqDiff,reduceCtorEq]
  exact key _ _ f2.adv (by rw [hb])
end
end
noncomputable section
def ParseC (ps:List UInt8→List Nat × Int):Prop:=∀ x:List UInt8,x.length≤2 ^ 30→PureC Tryz.env 127 [.str x] (.tup [nsA (ps x).1,.int .i64 (ps x).2])∧limbs (ps x).1∧(ps x).1.length≤2 ^ 20
theorem ptsGo_len:∀ (n:Nat) (x:List UInt8),(ptsGo n x).length≤n:=by
 intro n
 induction n with
 | zero=>intro x; exact Nat.le_refl _
 | succ n ih =>
  intro x
  unfold ptsGo
  cases x with
  | nil=>simp
  | cons c r =>
   simp only
   cases decide ((escM (c :: r)).1 < 0)
   ·simp only [cond_false,List.length_cons]; have:=ih ((c :: r).drop (escM (c :: r)).2.toNat); omega
   ·simp only [cond_true,List.length_cons]; have:=ih r; omega
theorem runGo_len:∀ (l:List Int) (out:List (Int × Int)),(runGo l out).1.length≤out.length + l.length:=by
 intro l
 induction l with
 | nil =>
  intro out
  unfold runGo
  cases decide ((out.length:Int) > 65536)
  ·exact Nat.le_refl _
  ·exact Nat.zero_le _
 | cons c l ih =>
  intro out
  unfold runGo
  cases point c
  ·exact Nat.zero_le _
  ·simp only [cond_true]
   have h1:=ih (stepRun out c)
   have h2:=stepRun_len out c
   simp only [List.length_cons]; omega
section
variable {s s':St} {p ib:Nat} {L:List Dc} {scs:List Ev} {σ:Sg} {F:List Nat} {K:AV→St→Prop} {ps:List UInt8→List Nat × Int} {L0:List Dc} {n j:Nat} {σ':Sg}
theorem rt_ex (r:List (Int × Int) × Int):extr (rtA r) 0 = some (.sl false (r.1.map rnA))∧extr (rtA r) 1 = some (.int .i64 r.2):=⟨rfl,rfl⟩
theorem term_c (hps:ParseC ps) (hT:TermC ps n):TermC ps (n + 1):=by
 intro s p ib L0 j scs σ F x r σ' fr hR hok hL hfit hw hc
 have hc:termM ps true (T ps true n) (L0.take j) scs.flatten x σ = some (r,σ'):=hc
 have hF:=hR.lt fr
 have hp:=hF p hR.pin
 obtain ⟨xin,vs,jm,FB,c,rfl⟩:=hR
 have hR:MkR s p ib (L0.take j) scs σ (p :: jm :: (FB ++ inIds xin vs)):=⟨xin,vs,jm,FB,c,rfl⟩
 refine f75_run _ _ _ ?_
 unfold f75
 refine ⟨sx_ones x,?_⟩
 have heq3:∀ u v:Int,bn .eql 3 (.int .i64 u) (.int .i64 v) = some (.bool (u == v)):=fun _ _=>bin_eql
 have hne34:∀ u v:Int,bn .neq 34 (.int .i64 u) (.int .i64 v) = some (.bool (u != v)):=fun _ _=>bin_neq
 have same:∀ (S:St) (r0:Int × Int),EF [] s S→(some (r0,σ):Rt) = some (r,σ')→(res r0 = res r∧∃ F',MkQ s p ib (L0.take j) scs (p :: jm :: (FB ++ inIds xin vs)) σ' S F'):=fun S r0 e h=>by
  simp only [Option.some.injEq,Prod.mk.injEq] at h
  obtain ⟨rfl,rfl⟩:=h
  exact ⟨rfl,_,MkQ.same hR fr e⟩
 have bank:∀ (S s':St) (q:(Int × Int) × Bk),EF [] s S→bkS q σ.2 = some (r,σ')→BkQ S ib FB q.2 s'→(res q.1 = res r∧∃ F',MkQ s p ib (L0.take j) scs (p :: jm :: (FB ++ inIds xin vs)) σ' s' F'):=fun S s' q e h hb=>by
  simp only [bkS,Option.some.injEq,Prod.mk.injEq] at h
  obtain ⟨rfl,rfl⟩:=h
  exact ⟨rfl,bank_in c fr e hb⟩
 have e0:∀ (k:Nat),0 < k→EF [] s (Ai.adv (s.set s.nx (some (.cells x.av.cells 33 true true))) k):=fun k hk=>⟨by simp only [adv_nx,set_nx]; omega,fun b hb _=>by rw [adv_h,st_other (by omega)],fresh_set fr k (by omega)⟩
 have hpn:¬ (p = s.nx):=by omega
 have hx30:=fit_txt hfit
 unfold termM at hc
 simp only [sxc0,wx,wy,Nat.reduceAdd,Nat.reduceEqDiff,reduceCtorEq]
 cases hl:x.lst with
 | true =>
  rw [hl,cond_true] at hc
  simp only [sx_part,wx,wy,Nat.reduceAdd,Nat.reduceEqDiff,reduceCtorEq]
  obtain ⟨v,s1,t1,rfl,F1,t2⟩:=list_c hT hL (e0 12 (by omega)).fr (hR.ext fr (e0 12 (by omega))) hok x hfit hw hc
  refine callWiF fz126 ⟨_,s1,t1,?_⟩
  simp only [ex0,ex1,wx,wy,Nat.reduceAdd,Nat.reduceEqDiff,reduceCtorEq]
  exact ⟨rfl,F1,t2.from (e0 12 (by omega)) hp⟩
 | false =>
 rw [hl,cond_false] at hc
 simp only [sxc1,heq3,wx,wy,Nat.reduceAdd,Nat.reduceEqDiff,reduceCtorEq]
 cases h4:(x.kind == 4) with
 | true =>
  rw [h4,cond_true] at hc
  obtain ⟨p1,p2,p3⟩:=hps x.txt hx30
  simp only [sxc2,wx,wy,Nat.reduceAdd,Nat.reduceEqDiff,reduceCtorEq]
  refine callPu p1 (by simp [AV.closed]) ?_
  have x0:extr (.tup [nsA (ps x.txt).1,.int .i64 (ps x.txt).2]) 0 = some (nsA (ps x.txt).1):=rfl
  have x1:extr (.tup [nsA (ps x.txt).1,.int .i64 (ps x.txt).2]) 1 = some (.int .i64 (ps x.txt).2):=rfl
  cases he:((ps x.txt).2 != 0) with
  | true =>
   rw [he,cond_true] at hc
   simp only [x0,x1,hne34,he,wx,wy,Nat.reduceAdd,Nat.reduceEqDiff,reduceCtorEq]
   exact same _ (0,101) (e0 _ (by omega)) hc
  | false =>
   rw [he,cond_false] at hc
   have hb24:bld 24 [(1,nsA (ps x.txt).1)] = some (wzA false (ps x.txt).1):=by rw [bf24]; rfl
   simp only [x0,x1,hne34,he,wx,wy,Nat.reduceAdd,Nat.reduceEqDiff,reduceCtorEq]
   refine ⟨rfl,?_⟩
   simp only [hpn,c.cell,hb24,if_false,wx,wy,Nat.reduceAdd,Nat.reduceEqDiff,reduceCtorEq]
   refine (num_w (e0 _ (by omega)).fr (c.ext fr (e0 _ (by omega))).bank false _ p2 p3).call fz79 fun s1 hs=>?_
   simp only [ex0,ex1,wx,wy,Nat.reduceAdd,Nat.reduceEqDiff,reduceCtorEq]
   exact bank _ _ _ (e0 _ (by omega)) hc hs
 | false =>
 rw [h4,cond_false] at hc
 cases h6:(x.kind == 6) with
 | true =>
  rw [h6,cond_true] at hc
  have hpl:=ptsGo_len x.txt.length x.txt
  have hpl:(ptsM x.txt).length≤2 ^ 30:=Nat.le_trans hpl hx30
  have hrl:=runGo_len (ptsM x.txt) []
  simp only [List.length_nil] at hrl
  simp only [heq3,h6,sxc2,wx,wy,Nat.reduceAdd,Nat.reduceEqDiff,reduceCtorEq]
  refine callPu (c129 x.txt hx30) (by simp [AV.closed]) ?_
  refine callPu (c128 (ptsM x.txt) hpl) (by simp [sla_closed]) ?_
  simp only [(rt_ex (runGo (ptsM x.txt) [])).1,(rt_ex (runGo (ptsM x.txt) [])).2,wx,wy,Nat.reduceAdd,Nat.reduceEqDiff,reduceCtorEq]
  refine ⟨rfl,?_⟩
  simp only [hpn,c.cell,if_false,wx,wy,Nat.reduceAdd,Nat.reduceEqDiff,reduceCtorEq]
  refine (str_w (e0 _ (by omega)).fr (c.ext fr (e0 _ (by omega))).bank _ (by omega)).call fz80 fun s1 hs=>?_
  simp only [ex0,ex1,wx,wy,Nat.reduceAdd,Nat.reduceEqDiff,reduceCtorEq]
  exact bank _ _ _ (e0 _ (by omega)) hc hs
 | false =>
 rw [h6,cond_false] at hc
 cases h3:(x.kind == 3) with
 | true =>
  rw [h3,cond_true] at hc
  simp only [heq3,h6,h3,sxc2,wx,wy,Nat.reduceAdd,Nat.reduceEqDiff,reduceCtorEq]
  obtain ⟨v,s1,t1,rfl,F1,t2⟩:=name_c hT hL (e0 23 (by omega)).fr (hR.ext fr (e0 23 (by omega))) hok (by omega) x.txt hc
  refine callWiF fz130 ⟨_,s1,t1,?_⟩
  simp only [ex0,ex1,wx,wy,Nat.reduceAdd,Nat.reduceEqDiff,reduceCtorEq]
  exact ⟨rfl,F1,t2.from (e0 23 (by omega)) hp⟩
 | false =>
  rw [h3,cond_false] at hc
  simp only [heq3,h6,h3,f75j1,wx,wy,Nat.reduceAdd,Nat.reduceEqDiff,reduceCtorEq]
  exact same _ (0,101) (e0 _ (by omega)) hc
theorem term_ok (hps:ParseC ps):∀ n,TermC ps n:=by
 intro n
 induction n with
 | zero=>intro s p ib L0 j scs σ F x r σ' _ _ _ _ _ _ hc; cases hc
 | succ n ih=>exact term_c hps ih
theorem fz30:Tryz.env.fz 30 = true:=by kernel_rfl
theorem se30:Tryz.env.se 30 = [false,true,true]:=by kernel_rfl
theorem pur_cl {v:AV} (h:v.closed = true) (s:St):pur Tryz.env.P s 12 v = some (v,[]):=pur_closed 12 h
theorem seal30p {s:St} {ib:Nat} {x y x' y':AV} {i j:List Nat} (hx:pur Tryz.env.P s 12 x = some (x',i)) (hy:pur Tryz.env.P s 12 y = some (y',j)):sealA Tryz.env.P s (Tryz.env.se 30) [.ptr ib 0,x,y] = some ([.ptr ib 0,x',y'],i ++ (j ++ [])):=by
 rw [se30]
 simp only [sealA,hx,hy,Option.bind_some,Option.map_some,cond_true,cond_false]
theorem dcs_closed (L:List Dc):(AV.sl false (L.map Dc.av)).closed = true:=by
 simp only [AV.closed,Bool.not_false,Bool.true_and]; exact closedL_map _ _ dc_closed
theorem seal30 (s:St) (ib:Nat) (L:List Dc) (x:Sx):sealA Tryz.env.P s (Tryz.env.se 30) [.ptr ib 0,.sl false (L.map Dc.av),x.av] = some ([.ptr ib 0,.sl false (L.map Dc.av),x.av],[]):=seal30p (pur_cl (dcs_closed L) s) (pur_cl (sx_closed x) s)
theorem Term_c (hps:ParseC ps) {B B':Bk} {M':Mm} (fr:Fresh s) (hB:BkR s ib B F) (hw:Wf B) (hL:DcOk L0) (x:Sx) (hfit:x.fit) (hwt:x.wt≤2 ^ 29) {r:Int × Int} {n:Nat} (hc:T ps true n L0 [] x (B,[]) = some (r,(B',M'))):BkW 30 [.ptr ib 0,.sl false (L0.map Dc.av),x.av] s ib F (r,B'):=by
 have hF:=hB.lt fr
 have hib:=hF ib hB.mem
 refine f30_run _ _ _ _ ?_
 unfold f30
 refine ⟨sx_ones x,?_⟩
 have hb:∀ k,bld 124 [(0,.ptr ib 0),(1,.sl false (L0.map Dc.av)),(3,.map k)] = some (.agg [.ptr ib 0,.sl false (L0.map Dc.av),.nils,.map k]):=fun k=>by rw [bf124]; rfl
 have hcl:∀ k,(AV.agg [.ptr ib 0,.sl false (L0.map Dc.av),.nils,.map k]).cells = [.ptr ib 0,.sl false (L0.map Dc.av),.nils,.map k]:=fun k=>rfl
 have hone:∀ k,([.ptr ib 0,.sl false (L0.map Dc.av),.nils,.map k]:List AV).all AV.one = true:=fun k=>rfl
 simp only [hb,hcl,hone,sx_part,wx,wy,Nat.reduceAdd,Nat.reduceEqDiff,reduceCtorEq]
 obtain ⟨S,hS⟩:∃ S,S = Ai.adv (((s.set s.nx (some (.cells x.av.cells 33 true true))).set (s.nx + 5) (some (.map []))).set (s.nx + 7) (some (.cells [.ptr ib 0,.sl false (L0.map Dc.av),.nils,.map (s.nx + 5)] 124 true true))) 16:=⟨_,rfl⟩
 rw [← hS]
 have nS:S.nx = s.nx + 16:=by rw [hS]; rfl
 have gS:∀ x,x < s.nx→S.h x = s.h x:=fun a ha=>by rw [hS,adv_h,st_other (by omega),st_other (by omega),st_other (by omega)]
 have eS:EF [] s S:=by
  refine ⟨by omega,fun a ha _=>gS a ha,fun a ha=>?_⟩
  rw [nS] at ha
  rw [hS,adv_h,st_other (by omega),st_other (by omega),st_other (by omega)]
  exact fr a (by omega)
 have hmk:MkR S (s.nx + 7) ib (L0.take L0.length) [] (B,[]) ((s.nx + 7) :: (s.nx + 5) :: (F ++ inIds .nils [])):=by
  refine ⟨.nils,[],s.nx + 5,F,⟨by rw [List.take_length,hS,adv_h,st_same],hB.keep fun a ha=>gS a (hF a ha),by rw [hS,adv_h,st_other (by omega),st_same]; rfl,.inl ⟨rfl,rfl⟩,trivial,by omega,fun h=>by have:=hF _ h; omega,fun h=>by have:=hF _ h; omega,fun a ha=>by cases ha⟩,rfl⟩
 have hok:StOk ps L0 ([]:List Ev).flatten (B,[]):=⟨hw,(fun q hq=>by cases hq),mval_nil ps L0 B⟩
 obtain ⟨v,s1,t1,rfl,F1,t2⟩:=term_ok hps n S (s.nx + 7) ib L0 L0.length [] (B,[]) _ x r (B',M') eS.fr hmk hok hL hfit (by simp only [List.length_nil]; omega) (by rw [List.take_length]; exact hc)
 refine callWiF fz75 ⟨_,s1,t1,?_⟩
 simp only [ex0,ex1,wx,wy,Nat.reduceAdd,Nat.reduceEqDiff,reduceCtorEq]
 refine ⟨rfl,?_⟩
 obtain ⟨⟨xin,vs,jm,FB,c,hF1⟩,e1,m1,_⟩:=t2
 have hsub:∀ a∈(s.nx + 7) :: (s.nx + 5) :: (F ++ inIds .nils []),a∈F∨s.nx≤a:=fun a ha=>by
  simp only [List.mem_cons,List.mem_append,inIds,idOf,List.flatMap_nil,List.append_nil,List.not_mem_nil,or_false] at ha
  rcases ha with rfl | rfl | ha
  ·exact .inr (by omega)
  ·exact .inr (by omega)
  ·exact .inl ha
 refine ⟨FB,c.bank,(eS.sub (M':=F) fun a ha=>by cases ha).trans e1 fun a ha=>(hsub a ha).symm,fun a ha=>?_⟩
 rcases m1 a (by rw [hF1]; simp [ha]) with h | h
 ·exact hsub a h
 ·exact .inr (by omega)
end
end
noncomputable section
def limV (v:Nat):List Nat:=if h:v = 0 then [] else v % 4294967296 :: limV (v / 4294967296)
termination_by v
decreasing_by omega
theorem limV_zero:limV 0 = []:=by unfold limV; rfl
theorem limV_pos {v:Nat} (h:v≠0):limV v = v % 4294967296 :: limV (v / 4294967296):=by rw [limV]; simp [h]
theorem val_limV:∀ v,val (limV v) = v:=by
 intro v
 induction v using Nat.strongRecOn with
 | ind v ih =>
  by_cases h:v = 0
  ·subst h; rw [limV_zero]; rfl
  ·rw [limV_pos h]
   simp only [val,ih _ (show v / 4294967296 < v by omega)]
   omega
theorem limV_limbs:∀ v,limbs (limV v):=by
 intro v
 induction v using Nat.strongRecOn with
 | ind v ih =>
  by_cases h:v = 0
  ·subst h; rw [limV_zero]; intro x hx; cases hx
  ·rw [limV_pos h]
   intro x hx
   rcases List.mem_cons.1 hx with rfl | hx
   ·rw [p32]; omega
   ·exact ih _ (show v / 4294967296 < v by omega) x hx
theorem limV_len:∀ (k v:Nat),v < pw k→(limV v).length≤k:=by
 intro k
 induction k with
 | zero =>
  intro v h
  rw [pw_zero] at h
  have:v = 0:=by omega
  subst this; rw [limV_zero]; simp
 | succ k ih =>
  intro v h
  by_cases h0:v = 0
  ·subst h0; rw [limV_zero]; simp
  ·rw [limV_pos h0]
   rw [pw_succ] at h
   have:=ih (v / 4294967296) (by omega)
   simp only [List.length_cons]; omega
def noT (l:List Nat):Prop:=l = []∨∃ x,l[l.length - 1]? = some x∧x≠0
theorem canon:∀ (l:List Nat),limbs l→noT l→l = limV (val l):=by
 intro l
 induction l with
 | nil=>intro _ _; simp only [val]; rw [limV_zero]
 | cons x l ih =>
  intro hl hn
  have hx:=hl x (List.mem_cons_self ..)
  rw [p32] at hx
  have hl':limbs l:=fun y hy=>hl y (List.mem_cons_of_mem _ hy)
  rcases hn with hn | ⟨y,hy,hy0⟩
  ·cases hn
  ·have hv:val (x :: l)≠0:=by
    simp only [val]
    cases l with
    | nil=>simp at hy; omega
    | cons z l =>
     have hn2:noT (z :: l):=.inr ⟨y,by simpa using hy,hy0⟩
     have:=ih hl' hn2
     intro h
     have h0:val (z :: l) = 0:=by omega
     rw [h0,limV_zero] at this
     cases this
   rw [limV_pos hv]
   simp only [val]
   have h1:(x + 4294967296 * val l) % 4294967296 = x:=by omega
   have h2:(x + 4294967296 * val l) / 4294967296 = val l:=by omega
   rw [h1,h2]
   congr 1
   refine ih hl' ?_
   cases l with
   | nil=>exact .inl rfl
   | cons z l=>exact .inr ⟨y,by simpa using hy,hy0⟩
theorem norm_lim {l:List Nat} (h:limbs l):normM l = limV (val l):=by
 have h1:=canon (normM l) (norm_limbs h) (by
  obtain ⟨_,h2⟩:=trim_spec l l.length (Nat.le_refl _)
  have hle:=trimN_le l l.length
  unfold normM
  rcases h2 with h2 | ⟨x,h2,h3⟩
  ·rw [h2]; exact .inl rfl
  ·by_cases h0:trimN l l.length = 0
   ·rw [h0]; exact .inl rfl
   ·right
    refine ⟨x,?_,h3⟩
    rw [List.length_take,Nat.min_eq_left hle,List.getElem?_take_of_lt (by omega)]
    exact h2)
 rw [val_norm] at h1
 exact h1
theorem val_set {l:List Nat} {k u:Nat} (v:Nat) (h:l[k]? = some u):val (l.set k v) + pw k * u = val l + pw k * v:=by
 induction l generalizing k with
 | nil=>simp at h
 | cons x l ih =>
  cases k with
  | zero=>simp at h; subst h; simp only [List.set_cons_zero,val,pw_zero]; omega
  | succ k =>
   simp only [List.getElem?_cons_succ] at h
   have:=ih h
   simp only [List.set_cons_succ,val,pw_succ]
   have e1:4294967296 * pw k * u = 4294967296 * (pw k * u):=Nat.mul_assoc ..
   have e2:4294967296 * pw k * v = 4294967296 * (pw k * v):=Nat.mul_assoc ..
   omega
theorem val_rep (n:Nat):val (List.replicate n 0) = 0:=by
 induction n with
 | zero=>rfl
 | succ n ih=>simp only [List.replicate_succ,val,ih]
def lb (a:List Nat) (i:Nat):Nat:=(a[i]?).getD 0
theorem lb_lt {a:List Nat} (h:limbs a) (i:Nat):lb a i < 2 ^ 32:=by
 unfold lb
 cases he:a[i]? with
 | none=>decide
 | some x=>exact h x (List.mem_of_getElem? he)
theorem val_take (a:List Nat) (i:Nat):val (a.take (i + 1)) = val (a.take i) + pw i * lb a i:=by
 unfold lb
 cases he:a[i]? with
 | none =>
  have:=List.getElem?_eq_none_iff.1 he
  rw [List.take_of_length_le (by omega),List.take_of_length_le this]; simp
 | some x =>
  have hlt:=(List.getElem?_eq_some_iff.1 he).1
  rw [List.take_add_one,he,val_append]
  simp only [List.length_take,Nat.min_eq_left (Nat.le_of_lt hlt),Option.toList,val,Option.getD_some,Nat.mul_zero,Nat.add_zero]
theorem pw_mono {i j:Nat} (h:i≤j):pw i≤pw j:=Nat.pow_le_pow_right (by decide) h
theorem c214 (a:List Nat) (i:Nat) (h:limbs a):PureC Tryz.env 214 [nsA a,.int .i64 i] (.int .u64 (lb a i)):=by
 refine pure_q (f214_run _ _ _ ?_)
 unfold f214
 have hg:∀ u v:Int,bn .geq 3 (.int .i64 u) (.int .i64 v) = some (.bool (decide (u ≥ v))):=fun _ _=>bin_geq
 simp only [nsA,ln22s,List.length_map,hg,wx,wy,Nat.reduceAdd,Nat.reduceEqDiff,reduceCtorEq]
 cases he:a[i]? with
 | none =>
  have:=List.getElem?_eq_none_iff.1 he
  have hd:decide ((i:Int) ≥ (a.length:Int)) = true:=decide_eq_true (by omega)
  simp only [hd,lb,he,Option.getD_none,wx,wy,Nat.reduceAdd,Nat.reduceEqDiff,reduceCtorEq]
  exact pureQ_closed rfl
 | some x =>
  have hlt:=(List.getElem?_eq_some_iff.1 he).1
  have hd:decide ((i:Int) ≥ (a.length:Int)) = false:=decide_eq_false (by omega)
  have hx:=h x (List.mem_of_getElem? he)
  rw [p32] at hx
  simp only [hd,ix_map encU false he,u3_0,cf211_159,lb,he,Option.getD_some,wx,wy,Nat.reduceAdd,Nat.reduceEqDiff,reduceCtorEq]
  rw [show IntKind.u64.wrap (x:Int) = (x:Int) from IntWalk.u64_in _ (by omega)]
  exact pureQ_closed rfl
theorem bn_shr64 (a:Nat):bn .shr 159 (.int .u64 (a:Int)) (.int .u64 32) = some (.int .u64 ((a / 4294967296:Nat):Int)):=by
 have h:bn .shr 159 (.int .u64 (a:Int)) (.int .u64 32) = some (.int .u64 ((a:Int).fdiv (2 ^ 32))):=bin_shr (n:=32) (by decide)
 rw [h]
 congr 2
 rw [Int.fdiv_eq_ediv_of_nonneg _ (by decide)]
 rfl
theorem wrap32 (a:Nat):IntKind.u32.wrap (a:Int) = ((a % 4294967296:Nat):Int):=by
 simp [IntKind.wrap,IntKind.bits,IntKind.signed]
 try omega
theorem l179 (a b:List Nat) (ha:limbs a) (hb:limbs b) (n:Nat) (hn:n≤2 ^ 31) (hla:a.length < n) (hlb:b.length < n) (Q:AV→St→Prop) (N c:Nat) (e':TypeId)
  (hQ:∀ (out:List Nat) s,limbs out→out.length = n→val out = val a + val b→s.h N = some (.cells (out.map u3A) e' true true)→f179j1 Q (.ref N 0 n (some c) 211) s) :
  ∀ (m i:Nat) (done:List Nat) (cy:Nat) (s:St),i + m = n→done.length = i→limbs done→cy≤1→val done + pw i * cy = val (a.take i) + val (b.take i)→s.h N = some (.cells ((done ++ List.replicate m 0).map u3A) e' true true) →
   f179l1 Q (m + 1) (nsA a) (nsA b) (.ref N 0 n (some c) 211) (.int .u64 cy) (.int .i64 n) (.int .i64 i) s:=by
 intro m
 induction m with
 | zero =>
  intro i done cy s hi hd hld hcy hv hs
  show f179l1s Q (f179l1 Q 0) _ _ _ _ _ _ s
  have c1:decide ((i:Int) < (n:Int)) = false:=by simp; omega
  rw [List.take_of_length_le (by omega),List.take_of_length_le (by omega)] at hv
  simp only [List.replicate_zero,List.append_nil] at hs
  have hcy0:cy = 0:=by
   have h1:=val_lt a ha
   have h2:=val_lt b hb
   have h3:pw a.length≤pw (n - 1):=pw_mono (by omega)
   have h4:pw b.length≤pw (n - 1):=pw_mono (by omega)
   have h5:pw n = 4294967296 * pw (n - 1):=by rw [← pw_succ]; congr 1; omega
   have hin:i = n:=by omega
   subst hin
   rcases Nat.eq_zero_or_pos cy with h | h
   ·exact h
   ·exfalso
    have:cy = 1:=by omega
    subst this
    have:=pw_pos (i - 1)
    omega
  simp only [f179l1s,c1,wx,wy,Nat.reduceAdd,Nat.reduceEqDiff,reduceCtorEq]
  refine hQ done _ hld (by omega) (by rw [← hv,hcy0]; simp) (by rw [adv_h]; exact hs)
 | succ m ih =>
  intro i done cy s hi hd hld hcy hv hs
  show f179l1s Q (f179l1 Q (m + 1)) _ _ _ _ _ _ s
  have c1:decide ((i:Int) < (n:Int)) = true:=by simp; omega
  have w1:IntKind.i64.wrap ((i:Int) + 1) = ((i + 1:Nat):Int):=wrap_i (n:=n) (by omega) (by omega)
  have la:=lb_lt ha i
  have lb':=lb_lt hb i
  rw [p32] at la lb'
  have hadd:∀ x y:Nat,x + y < 2 ^ 64→bn .add 159 (.int .u64 (x:Int)) (.int .u64 (y:Int)) = some (.int .u64 ((x + y:Nat):Int)):=fun x y h=>by
   have h1:bn .add 159 (.int .u64 (x:Int)) (.int .u64 (y:Int)) = some (.int .u64 (IntKind.u64.wrap ((x:Int) + (y:Int)))):=bin_add
   rw [h1,show IntKind.u64.wrap ((x:Int) + (y:Int)) = ((x + y:Nat):Int) by rw [IntWalk.u64_in _ (by omega)]; rfl]
  have hix:ixS 1 (.ref N 0 n (some c) 211) (.int .i64 (i:Int)) = some (.ptr N i):=ix_ref0 (by omega) .i64
  simp only [f179l1s,c1,wx,wy,Nat.reduceAdd,Nat.reduceEqDiff,reduceCtorEq]
  refine callPu (c214 a i ha) (by simp [ns_closed,AV.closed]) ?_
  refine callPu (c214 b i hb) (by simp [ns_closed,AV.closed]) ?_
  rw [hadd _ _ (by omega)]
  simp only [Bnd_some]
  rw [hadd _ _ (by omega)]
  simp only [cf159_211,wrap32,hix,bn_shr64,wx,wy,Nat.reduceAdd,Nat.reduceEqDiff,reduceCtorEq]
  obtain ⟨t,ht⟩:∃ t,t = cy + (lb a i + lb b i):=⟨_,rfl⟩
  rw [← ht]
  rw [sto_c (v:=.int .u32 ((t % 4294967296:Nat):Int)) (c:=(done ++ List.replicate (m + 1) 0).map u3A) (by rw [adv_h]; exact hs) (by simp; omega) rfl rfl]
  simp only [f179j2,w1,wx,wy,Nat.reduceAdd,Nat.reduceEqDiff,reduceCtorEq]
  have hset:((done ++ List.replicate (m + 1) 0).map u3A).set i (.int .u32 ((t % 4294967296:Nat):Int)) = ((done ++ [t % 4294967296]) ++ List.replicate m 0).map u3A:=by
   subst hd
   simp [List.replicate_succ,u3A]
  rw [hset]
  refine ih (i + 1) (done ++ [t % 4294967296]) (t / 4294967296) _ (by omega) (by simp [hd]) (fun x hx=>?_) (by omega) ?_ (by rw [adv_h,st_same])
  ·rcases List.mem_append.1 hx with hx | hx
   ·exact hld x hx
   ·rw [List.mem_singleton.1 hx,p32]; omega
  ·rw [val_append,val_take,val_take,hd,pw_succ]
   simp only [val,Nat.mul_zero,Nat.add_zero]
   have hm:t = 4294967296 * (t / 4294967296) + t % 4294967296:=(Nat.div_add_mod t 4294967296).symm
   have e1:pw i * (t % 4294967296) + 4294967296 * pw i * (t / 4294967296) = pw i * t:=by
    have e:pw i * t = pw i * (4294967296 * (t / 4294967296) + t % 4294967296):=by rw [← hm]
    rw [e,Nat.mul_add,← Nat.mul_assoc,Nat.mul_comm (pw i) 4294967296]; omega
   have e2:pw i * t = pw i * cy + (pw i * lb a i + pw i * lb b i):=by rw [ht,Nat.mul_add,Nat.mul_add]
   omega
theorem mx_eq' (a b:Nat) (id:Nat) (s:St):bt .max #[3,3] [.int .i64 (a:Int),.int .i64 (b:Int)] id s = some (.int .i64 ((Nat.max a b:Nat):Int),s):=by
 have h:bt .max #[3,3] [.int .i64 (a:Int),.int .i64 (b:Int)] id s = (minI (fun y x=>decide (x < y)) [.int .i64 (a:Int),.int .i64 (b:Int)]).map (·,s):=by kernel_rfl
 rw [h]
 simp only [minI,if_true,Option.map_some,decide_eq_true_eq]
 congr 3
 by_cases hc:(a:Int) < (b:Int)
 ·rw [if_pos hc]; congr 1; exact (Nat.max_eq_right (by omega)).symm
 ·rw [if_neg hc]; congr 1; exact (Nat.max_eq_left (by omega)).symm
theorem c179 (a b:List Nat) (ha:limbs a) (hb:limbs b) (hla:a.length≤2 ^ 29) (hlb:b.length≤2 ^ 29):PureC Tryz.env 179 [nsA a,nsA b] (nsA (limV (val a + val b))):=by
 refine pure_q (f179_run _ _ _ ?_)
 have hz:zero Tryz.ty 211 = some (.int .u32 0):=zf211
 have hc0:(AV.int .u32 0).cells = [.int .u32 0]:=rfl
 have h1:a.length≤Nat.max a.length b.length:=Nat.le_max_left ..
 have h2:b.length≤Nat.max a.length b.length:=Nat.le_max_right ..
 have h3:Nat.max a.length b.length≤2 ^ 29:=Nat.max_le.2 ⟨hla,hlb⟩
 have hw:IntKind.i64.wrap (((Nat.max a.length b.length:Nat):Int) + 1) = ((Nat.max a.length b.length + 1:Nat):Int):=by rw [IntWalk.i64_in _ (by omega)]; rfl
 unfold f179
 simp only [ln22ns,mx_eq',hw,mkS_eq tf22 hz (Nat.max a.length b.length + 1) (by omega) (by omega),hc0,flat_rep,wx,wy,Nat.reduceAdd,Nat.reduceEqDiff,reduceCtorEq]
 refine ⟨_,l179 a b ha hb (Nat.max a.length b.length + 1) (by omega) (by omega) (by omega) _ _ _ 211 (fun out s g1 g2 g3 g4=>?_) (Nat.max a.length b.length + 1) 0 [] 0 _ (by omega) rfl (fun x hx=>by cases hx) (by omega) (by simp [val]) (by rw [adv_h,st_same]; simp [u3A])⟩
 unfold f179j1
 have hp:=pur_ref (s:=Ai.adv s 3) (c:=some (Nat.max a.length b.length + 1)) (k:=11) (l:=out) (f:=u3A) tf22 (by rw [adv_h]; exact g4) (fun _ _=>rfl) (fun _ _=>rfl)
 rw [g2] at hp
 refine callPur (args2:=[nsA out]) (ids:=[St.empty.nx + 9]) (by simp only [purL,hp,nsA,List.append_nil]) (c110 _ (by rw [g2]; omega)) ?_
 rw [norm_lim g1,g3]
 exact pureQ_closed (ns_closed _)
theorem len_set_val {l:List Nat} (h:limbs l) {k v:Nat} (hv:v < 2 ^ 32):limbs (l.set k v):=fun x hx=>by
 rcases List.mem_or_eq_of_mem_set hx with h1 | rfl
 ·exact h x h1
 ·exact hv
theorem mul_small {x y u c:Nat} (hx:x < 4294967296) (hy:y < 4294967296) (hu:u < 4294967296) (hc:c < 4294967296):c + (x * y + u) < 18446744073709551616:=by
 have h1:x * y≤4294967295 * 4294967295:=Nat.mul_le_mul (by omega) (by omega)
 omega
theorem u32_64 {x:Nat} (h:x < 4294967296):IntKind.u64.wrap (x:Int) = (x:Int):=IntWalk.u64_in _ (by omega)
theorem l180b (a b:List Nat) (hb:limbs b) (hla:a.length≤2 ^ 28) (hlb:b.length≤2 ^ 28) (Q:AV→St→Prop) (ih1:AV→AV→AV→AV→AV→St→Prop) (N c n:Nat) (e':TypeId) (i x:Nat) (hi:i < a.length) (hn:n = a.length + b.length) (hx:x < 2 ^ 32) (v0:Nat)
  (hQ:∀ (out:List Nat) s,limbs out→out.length = n→val out = v0 + pw i * (x * val b)→(∀ k,i + b.length < k→k < n→out[k]? = some 0)→s.h N = some (.cells (out.map u3A) e' true true)→f180j2 Q ih1 (.int .i64 i) (nsA b) (.ref N 0 n (some c) 211) (nsA a) (.int .i64 a.length) s) :
  ∀ (m j:Nat) (out:List Nat) (cy:Nat) (s:St),j + m = b.length→limbs out→out.length = n→cy < 2 ^ 32→val out + pw (i + j) * cy = v0 + pw i * (x * val (b.take j))→(∀ k,i + b.length≤k→k < n→out[k]? = some 0)→s.h N = some (.cells (out.map u3A) e' true true) →
   f180l2 Q ih1 (m + 1) (nsA b) (.ref N 0 n (some c) 211) (.int .i64 i) (.int .u32 x) (.int .u64 cy) (nsA a) (.int .i64 a.length) (.int .i64 i) (.int .i64 b.length) (.int .i64 j) s:=by
 rw [p32] at hx
 intro m
 induction m with
 | zero =>
  intro j out cy s hj hlo hlen hcy hv hz hs
  rw [p32] at hcy
  show f180l2s Q ih1 (f180l2 Q ih1 0) _ _ _ _ _ _ _ _ _ _ s
  have c1:decide ((j:Int) < (b.length:Int)) = false:=by simp; omega
  rw [List.take_of_length_le (by omega)] at hv
  have hjb:j = b.length:=by omega
  subst hjb
  have hz0:=hz (i + b.length) (Nat.le_refl _) (by omega)
  have hix:ixS 1 (.ref N 0 n (some c) 211) (.int .i64 ((i + b.length:Nat):Int)) = some (.ptr N (i + b.length)):=ix_ref0 (by omega) .i64
  have wij:IntKind.i64.wrap ((i:Int) + (b.length:Int)) = ((i + b.length:Nat):Int):=by rw [IntWalk.i64_in _ (by omega)]; rfl
  simp only [f180l2s,c1,f180j3,ln22ns,wij,cf159_211,wrap32,hix,wx,wy,Nat.reduceAdd,Nat.reduceEqDiff,reduceCtorEq]
  rw [sto_c (v:=.int .u32 ((cy % 4294967296:Nat):Int)) (c:=out.map u3A) (by simp only [adv_h]; exact hs) (by simp; omega) rfl rfl]
  simp only [Bnd_some]
  have hset:(out.map u3A).set (i + b.length) (.int .u32 ((cy % 4294967296:Nat):Int)) = (out.set (i + b.length) cy).map u3A:=by
   rw [Nat.mod_eq_of_lt hcy,List.map_set]; rfl
  rw [hset]
  have hvs:=val_set cy hz0
  refine hQ (out.set (i + b.length) cy) _ (len_set_val hlo (by rw [p32]; exact hcy)) (by rw [List.length_set]; exact hlen) (by simp only [Nat.mul_zero,Nat.add_zero] at hvs; omega) (fun k hk hk2=>?_) (by rw [st_same])
  rw [List.getElem?_set_ne (by omega)]
  exact hz k (by omega) hk2
 | succ m ih =>
  intro j out cy s hj hlo hlen hcy hv hz hs
  rw [p32] at hcy
  show f180l2s Q ih1 (f180l2 Q ih1 (m + 1)) _ _ _ _ _ _ _ _ _ _ s
  have c1:decide ((j:Int) < (b.length:Int)) = true:=by simp; omega
  have w1:IntKind.i64.wrap ((j:Int) + 1) = ((j + 1:Nat):Int):=wrap_i (n:=b.length) (by omega) (by omega)
  obtain ⟨y,hy⟩:∃ y,b[j]? = some y:=⟨_,List.getElem?_eq_getElem (by omega)⟩
  have hyl:=hb y (List.mem_of_getElem? hy)
  rw [p32] at hyl
  obtain ⟨u,hu⟩:∃ u,out[i + j]? = some u:=⟨_,List.getElem?_eq_getElem (by omega)⟩
  have hul:=hlo u (List.mem_of_getElem? hu)
  rw [p32] at hul
  have hix:ixS 1 (.ref N 0 n (some c) 211) (.int .i64 ((i + j:Nat):Int)) = some (.ptr N (i + j)):=ix_ref0 (by omega) .i64
  have hub:(out.map u3A)[i + j]? = some (.int .u32 (u:Int)):=by rw [List.getElem?_map,hu]; rfl
  have hsm:=mul_small hx hyl hul hcy
  have h1:x * y < 2 ^ 64:=by rw [p64]; omega
  have hiy:ixS 1 (nsA b) (.int .i64 (j:Int)) = some (.pel (u3A y).cells 0):=ix_map encU false hy .i64
  have c8:∀ (z:Nat) (s:St),z < 4294967296→cv 211 159 (.int .u32 (z:Int)) s = some (.int .u64 (z:Int)):=fun z s hz=>by rw [cf211_159,u32_64 hz]
  have wij:IntKind.i64.wrap ((i:Int) + (j:Int)) = ((i + j:Nat):Int):=by rw [IntWalk.i64_in _ (by omega)]; rfl
  have wxy:IntKind.u64.wrap ((x:Int) * (y:Int)) = ((x * y:Nat):Int):=by rw [IntWalk.u64_in _ (by rw [← Int.natCast_mul]; omega)]; exact (Int.natCast_mul ..).symm
  have wu:IntKind.u64.wrap (((x * y:Nat):Int) + (u:Int)) = ((x * y + u:Nat):Int):=by rw [IntWalk.u64_in _ (by omega)]; rfl
  have wc:IntKind.u64.wrap (((cy:Nat):Int) + ((x * y + u:Nat):Int)) = ((cy + (x * y + u):Nat):Int):=by rw [IntWalk.u64_in _ (by omega)]; rfl
  simp only [f180l2s,c1,hiy,u3_0,c8 x _ hx,c8 y _ hyl,wij,wxy,hix,ld_ptr,adv_h,hs,part_one,hub,c8 u _ hul,wu,wc,wx,wy,Nat.reduceAdd,Nat.reduceEqDiff,reduceCtorEq]
  obtain ⟨t,ht⟩:∃ t,t = cy + (x * y + u):=⟨_,rfl⟩
  rw [← ht]
  simp only [cf159_211,wrap32,bn_shr64,Bnd_some,hix]
  rw [sto_c (v:=.int .u32 ((t % 4294967296:Nat):Int)) (c:=out.map u3A) (by simp only [adv_h]; exact hs) (by simp; omega) rfl rfl]
  simp only [f180j4,w1,wx,wy,Nat.reduceAdd,Nat.reduceEqDiff,reduceCtorEq]
  have hset:(out.map u3A).set (i + j) (.int .u32 ((t % 4294967296:Nat):Int)) = (out.set (i + j) (t % 4294967296)).map u3A:=by rw [List.map_set]; rfl
  rw [hset]
  have htl:t < 18446744073709551616:=by rw [ht]; exact hsm
  refine ih (j + 1) (out.set (i + j) (t % 4294967296)) (t / 4294967296) _ (by omega) (len_set_val hlo (by rw [p32]; omega)) (by rw [List.length_set]; exact hlen) (by rw [p32]; omega) ?_ (fun k hk hk2=>by rw [List.getElem?_set_ne (by omega)]; exact hz k hk hk2) (by rw [adv_h,st_same])
  have hvs:=val_set (t % 4294967296) hu
  have hvt:=val_take b j
  have hlbj:lb b j = y:=by unfold lb; rw [hy]; rfl
  rw [hlbj] at hvt
  have hm:t = 4294967296 * (t / 4294967296) + t % 4294967296:=(Nat.div_add_mod t 4294967296).symm
  have hpij:pw (i + j) = pw i * pw j:=by unfold pw; rw [Nat.pow_add]
  rw [← Nat.add_assoc,pw_succ,hvt]
  have e1:pw (i + j) * (t % 4294967296) + 4294967296 * pw (i + j) * (t / 4294967296) = pw (i + j) * t:=by
   have e:pw (i + j) * t = pw (i + j) * (4294967296 * (t / 4294967296) + t % 4294967296):=by rw [← hm]
   rw [e,Nat.mul_add,← Nat.mul_assoc,Nat.mul_comm (pw (i + j)) 4294967296]; omega
  have e2:pw (i + j) * t = pw (i + j) * cy + (pw (i + j) * (x * y) + pw (i + j) * u):=by rw [ht,Nat.mul_add,Nat.mul_add]
  have e3:pw i * (x * (val (b.take j) + pw j * y)) = pw i * (x * val (b.take j)) + pw (i + j) * (x * y):=by
   rw [hpij,Nat.mul_add,Nat.mul_add,Nat.mul_left_comm x (pw j) y,Nat.mul_assoc]
  rw [e3]
  omega
theorem l180a (a b:List Nat) (ha:limbs a) (hb:limbs b) (hla:a.length≤2 ^ 28) (hlb:b.length≤2 ^ 28) (Q:AV→St→Prop) (N c n:Nat) (e':TypeId) (hn:n = a.length + b.length)
  (hQ:∀ (out:List Nat) s,limbs out→out.length = n→val out = val a * val b→s.h N = some (.cells (out.map u3A) e' true true)→f180j1 Q (.ref N 0 n (some c) 211) s) :
  ∀ (m i:Nat) (out:List Nat) (s:St),i + m = a.length→limbs out→out.length = n→val out = val (a.take i) * val b→(∀ k,i + b.length≤k→k < n→out[k]? = some 0)→s.h N = some (.cells (out.map u3A) e' true true) →
   f180l1 Q (m + 1) (nsA b) (.ref N 0 n (some c) 211) (nsA a) (.int .i64 a.length) (.int .i64 i) s:=by
 intro m
 induction m with
 | zero =>
  intro i out s hi hlo hlen hv hz hs
  show f180l1s Q (f180l1 Q 0) _ _ _ _ _ s
  have c1:decide ((i:Int) < (a.length:Int)) = false:=by simp; omega
  rw [List.take_of_length_le (by omega)] at hv
  simp only [f180l1s,c1,wx,wy,Nat.reduceAdd,Nat.reduceEqDiff,reduceCtorEq]
  exact hQ out _ hlo hlen hv hs
 | succ m ih =>
  intro i out s hi hlo hlen hv hz hs
  show f180l1s Q (f180l1 Q (m + 1)) _ _ _ _ _ s
  have c1:decide ((i:Int) < (a.length:Int)) = true:=by simp; omega
  have w1:IntKind.i64.wrap ((i:Int) + 1) = ((i + 1:Nat):Int):=wrap_i (n:=a.length) (by omega) (by omega)
  obtain ⟨x,hx⟩:∃ x,a[i]? = some x:=⟨_,List.getElem?_eq_getElem (by omega)⟩
  have hxl:=ha x (List.mem_of_getElem? hx)
  have hix:ixS 1 (nsA a) (.int .i64 (i:Int)) = some (.pel (u3A x).cells 0):=ix_map encU false hx .i64
  simp only [f180l1s,c1,hix,u3_0,ln22ns,wx,wy,Nat.reduceAdd,Nat.reduceEqDiff,reduceCtorEq]
  refine ⟨_,l180b a b hb hla hlb Q (f180l1 Q (m + 1)) N c n e' i x (by omega) hn hxl (val out) (fun out2 s2 g1 g2 g3 g4 g5=>?_) b.length 0 out 0 _ (by omega) hlo hlen (by decide) (by simp [val]) (fun k hk hk2=>hz k hk hk2) (by rw [adv_h]; exact hs)⟩
  simp only [f180j2,w1,wx,wy,Nat.reduceAdd,Nat.reduceEqDiff,reduceCtorEq]
  refine ih (i + 1) out2 _ (by omega) g1 g2 ?_ (fun k hk hk2=>g4 k (by omega) hk2) (by rw [adv_h]; exact g5)
  have hvt:=val_take a i
  have:lb a i = x:=by unfold lb; rw [hx]; rfl
  rw [this] at hvt
  rw [g3,hv,hvt,Nat.add_mul,Nat.mul_assoc]
theorem c180 (a b:List Nat) (ha:limbs a) (hb:limbs b) (hla:a.length≤2 ^ 28) (hlb:b.length≤2 ^ 28):PureC Tryz.env 180 [nsA a,nsA b] (nsA (limV (val a * val b))):=by
 refine pure_q (f180_run _ _ _ ?_)
 have hz:zero Tryz.ty 211 = some (.int .u32 0):=zf211
 have hc0:(AV.int .u32 0).cells = [.int .u32 0]:=rfl
 unfold f180
 simp only [ln22ns,wx,wy,Nat.reduceAdd,Nat.reduceEqDiff,reduceCtorEq]
 have hw:IntKind.i64.wrap ((a.length:Int) + (b.length:Int)) = ((a.length + b.length:Nat):Int):=by rw [IntWalk.i64_in _ (by omega)]; rfl
 simp only [hw,mkS_eq tf22 hz (a.length + b.length) (by omega) (by omega),hc0,flat_rep,ln22ns,wx,wy,Nat.reduceAdd,Nat.reduceEqDiff,reduceCtorEq]
 refine ⟨_,l180a a b ha hb hla hlb _ _ _ (a.length + b.length) 211 rfl (fun out s g1 g2 g3 g4=>?_) a.length 0 (List.replicate (a.length + b.length) 0) _ (by omega) (fun x hx=>by rw [List.eq_of_mem_replicate hx]; decide) (by simp) (by rw [val_rep]; simp [val]) (fun k _ hk=>by simp [hk]) (by rw [adv_h,st_same]; simp [u3A])⟩
 unfold f180j1
 have hp:=pur_ref (s:=Ai.adv s 3) (c:=some (a.length + b.length)) (k:=11) (l:=out) (f:=u3A) tf22 (by rw [adv_h]; exact g4) (fun _ _=>rfl) (fun _ _=>rfl)
 rw [g2] at hp
 refine callPur (args2:=[nsA out]) (ids:=[St.empty.nx + 6]) (by simp only [purL,hp,nsA,List.append_nil]) (c110 _ (by rw [g2]; omega)) ?_
 rw [norm_lim g1,g3]
 exact pureQ_closed (ns_closed _)
end
noncomputable section
def psM (x:List UInt8):List Nat × Int:=cond (x == [] || (decide (x.length > 2000) || (x.head? == some 48 && x != [48]))) ([],8) (cond (x.all isDig) (limV (decV x),0) ([],8))
theorem decV_snoc (l:List UInt8) (c:UInt8):decV (l ++ [c]) = 10 * decV l + (c.toNat - 48):=by
 unfold decV; rw [List.foldl_append]; rfl
theorem decV_ltN:∀ (n:Nat) (l:List UInt8),l.length = n→(∀ c∈l,isDig c = true)→decV l < pw n:=by
 intro n
 induction n with
 | zero=>intro l hl _; cases l with
  | nil=>decide
  | cons c l=>cases hl
 | succ n ih =>
  intro l hl h
  rcases List.eq_nil_or_concat l with rfl | ⟨l',c,rfl⟩
  ·cases hl
  simp only [List.concat_eq_append] at hl h ⊢
  have h1:=ih l' (by simp at hl; exact hl) fun d hd=>h d (List.mem_append_left _ hd)
  have h2:=h c (List.mem_append_right _ (List.mem_singleton.2 rfl))
  simp only [isDig,Bool.and_eq_true,decide_eq_true_eq] at h2
  rw [decV_snoc,pw_succ]
  omega
theorem decV_lt (l:List UInt8) (h:∀ c∈l,isDig c = true):decV l < pw l.length:=decV_ltN _ l rfl h
theorem l127 (x:List UInt8) (hx:x.length≤2000) (Q:AV→St→Prop)
  (hbad:x.all isDig = false→∀ s,Q (.tup [.nils,.int .i64 8]) s)
  (hgood:x.all isDig = true→∀ s,Q (.tup [nsA (limV (decV x)),.int .i64 0]) s) :
  ∀ (m i:Nat) (a:AV) (s:St),i + m = x.length→(∀ c∈x.take i,isDig c = true)→(∀ s:St,pur Tryz.env.P s 12 a = some (nsA (limV (decV (x.take i))),[])) →
   f127l1 Q (m + 1) a (.sl false (x.map byt)) (.int .i64 x.length) (.int .i64 i) s:=by
 intro m
 induction m with
 | zero =>
  intro i a s hi hd ha
  show f127l1s Q (f127l1 Q 0) _ _ _ _ s
  have c1:decide ((i:Int) < (x.length:Int)) = false:=by simp; omega
  rw [List.take_of_length_le (by omega)] at hd ha
  simp only [f127l1s,c1,f127j1,wx,wy,Nat.reduceAdd,Nat.reduceEqDiff,reduceCtorEq]
  have hall:x.all isDig = true:=List.all_eq_true.2 hd
  have hlt:=decV_lt x hd
  refine callPur (args2:=[nsA (limV (decV x))]) (ids:=[]) (by simp only [purL,ha,List.append_nil]) (c110 _ (Nat.le_trans (limV_len _ _ hlt) (by omega))) ?_
  rw [norm_lim (limV_limbs _),val_limV]
  exact hgood hall _
 | succ m ih =>
  intro i a s hi hd ha
  show f127l1s Q (f127l1 Q (m + 1)) _ _ _ _ s
  have c1:decide ((i:Int) < (x.length:Int)) = true:=by simp; omega
  have w1:IntKind.i64.wrap ((i:Int) + 1) = ((i + 1:Nat):Int):=wrap_i (n:=x.length) (by omega) (by omega)
  obtain ⟨c,hc⟩:∃ c,x[i]? = some c:=⟨_,List.getElem?_eq_getElem (by omega)⟩
  have hix:ixS 1 (.sl false (x.map byt)) (.int .i64 (i:Int)) = some (.pel (byt c).cells 0):=ix_map encBy false hc .i64
  have hb0:(byt c).cells[0]? = some (.int .u8 c.toNat):=rfl
  have hmem:c∈x:=List.mem_of_getElem? hc
  have hno:isDig c = false→x.all isDig = false:=fun h=>by
   cases h2:x.all isDig with
   | false=>rfl
   | true=>rw [List.all_eq_true.1 h2 c hmem] at h; cases h
  by_cases h48:c.toNat < 48
  ·have k1:decide ((c.toNat:Int) < 48) = true:=by simp; omega
   simp only [f127l1s,c1,hix,hb0,k1,wx,wy,Nat.reduceAdd,Nat.reduceEqDiff,reduceCtorEq]
   exact hbad (hno (by simp [isDig]; omega)) _
  by_cases h57:57 < c.toNat
  ·have k1:decide ((c.toNat:Int) < 48) = false:=by simp; omega
   have k2:decide ((c.toNat:Int) > 57) = true:=by simp; omega
   simp only [f127l1s,c1,hix,hb0,k1,k2,wx,wy,Nat.reduceAdd,Nat.reduceEqDiff,reduceCtorEq]
   exact hbad (hno (by simp [isDig]; omega)) _
  have k1:decide ((c.toNat:Int) < 48) = false:=by simp; omega
  have k2:decide ((c.toNat:Int) > 57) = false:=by simp; omega
  have hdc:isDig c = true:=by simp [isDig]; omega
  have w2:IntKind.u8.wrap ((c.toNat:Int) - 48) = ((c.toNat - 48:Nat):Int):=by rw [IntWalk.u8_in _ (by omega)]; omega
  have w3:IntKind.u32.wrap ((c.toNat - 48:Nat):Int) = ((c.toNat - 48:Nat):Int):=by rw [IntWalk.u32_in _ (by omega)]
  have b1:∀ n:Nat,bsl 22 1 [(0,.int .u32 (n:Int))] = some (.sl true [u3A n]):=fun n=>bsl_one tf22 (by decide) rfl rfl
  have hp10:∀ (n:Nat) (s:St),pur Tryz.env.P s 12 (.sl true [u3A n]) = some (nsA [n],[]):=fun n s=>rfl
  have e10:bsl 22 1 [(0,.int .u32 10)] = some (.sl true [u3A 10]):=b1 10
  have hlt:=decV_lt _ hd
  have hle:(x.take i).length = i:=by rw [List.length_take]; omega
  rw [hle] at hlt
  have hlen:=limV_len _ _ hlt
  have htk:x.take (i + 1) = x.take i ++ [c]:=by rw [List.take_add_one,hc]; rfl
  have hl1:limbs [10]:=by intro y hy; rw [List.mem_singleton.1 hy,p32]; decide
  have hl2:limbs [c.toNat - 48]:=by intro y hy; rw [List.mem_singleton.1 hy,p32]; omega
  simp only [f127l1s,c1,hix,hb0,k1,k2,w2,cf5_211,w3,b1,e10,wx,wy,Nat.reduceAdd,Nat.reduceEqDiff,reduceCtorEq]
  refine callPur (args2:=[nsA (limV (decV (x.take i))),nsA [10]]) (ids:=[]) (by simp only [purL,ha,hp10,List.append_nil]) (c180 _ _ (limV_limbs _) hl1 (by omega) (by simp)) ?_
  rw [val_limV]
  have hv10:val [10] = 10:=rfl
  have hvc:val [c.toNat - 48] = c.toNat - 48:=by simp [val]
  rw [hv10]
  have hdd:decV (x.take i) * 10 < pw (i + 1):=by rw [pw_succ]; omega
  have hlen2:=limV_len _ _ hdd
  refine callPur (args2:=[nsA (limV (decV (x.take i) * 10)),nsA [c.toNat - 48]]) (ids:=[]) (by simp only [purL,pur_closed 12 (ns_closed _),hp10,List.append_nil]) (c179 _ _ (limV_limbs _) hl2 (by omega) (by simp)) ?_
  rw [val_limV,hvc]
  have hfin:decV (x.take i) * 10 + (c.toNat - 48) = decV (x.take (i + 1)):=by rw [htk,decV_snoc,Nat.mul_comm]
  rw [hfin]
  simp only [f127j2,w1,wx,wy,Nat.reduceAdd,Nat.reduceEqDiff,reduceCtorEq]
  exact ih (i + 1) _ _ (by omega) (fun d hd'=>by
   rw [htk] at hd'
   rcases List.mem_append.1 hd' with h | h
   ·exact hd d h
   ·rw [List.mem_singleton.1 h]; exact hdc) (fun s=>pur_closed 12 (ns_closed _))
theorem c127 (x:List UInt8) (hxl:x.length≤2 ^ 30):PureC Tryz.env 127 [.str x] (.tup [nsA (psM x).1,.int .i64 (psM x).2]):=by
 have hbad:∀ s:St,PureQ (.tup [nsA [],.int .i64 8]) (.tup [.nils,.int .i64 8]) s:=fun s=>⟨[],rfl⟩
 by_cases h0:x = []
 ·subst h0
  refine pure_q (f127_run _ _ ?_)
  unfold f127
  simp only [wx,wy,Nat.reduceAdd,Nat.reduceEqDiff,reduceCtorEq]
  exact hbad _
 have h0':(x == []) = false:=by cases x with
  | nil=>exact absurd rfl h0
  | cons=>rfl
 refine pure_q (f127_run _ _ ?_)
 unfold f127
 by_cases h2:2000 < x.length
 ·have k1:decide ((x.length:Int) > 2000) = true:=by simp; omega
  have k2:decide (x.length > 2000) = true:=by simp; omega
  simp only [h0',cf9_161,ln9t,k1,wx,wy,Nat.reduceAdd,Nat.reduceEqDiff,reduceCtorEq]
  have hp:psM x = ([],8):=by unfold psM; rw [k2,Bool.true_or,Bool.or_true]; rfl
  rw [hp]; exact hbad _
 have k1:decide ((x.length:Int) > 2000) = false:=by simp; omega
 have k2:decide (x.length > 2000) = false:=by simp; omega
 have hcv:(x.map fun c=>AV.int .u8 c.toNat) = x.map byt:=rfl
 have hrest:(x.head? == some 48 && x != [48]) = false→∀ (s:St),∃ n,f127l1 (PureQ (AV.tup [nsA (psM x).fst,AV.int IntKind.i64 (psM x).snd])) n AV.nils (.sl false (x.map byt)) (.int .i64 x.length) (.int .i64 0) s:=fun hh s=>by
  have hp:psM x = cond (x.all isDig) (limV (decV x),0) ([],8):=by unfold psM; rw [h0',k2,hh]; rfl
  rw [hp]
  refine ⟨_,l127 x (by omega) _ (fun hd s=>by rw [hd]; exact hbad s) (fun hd s=>by rw [hd]; exact pureQ_closed (by simp [AV.closed,ns_closed,closedL])) x.length 0 .nils s (by omega) (fun c hc=>by simp at hc) (fun s=>?_)⟩
  show _ = some (nsA (limV 0),[])
  rw [limV_zero]; rfl
 obtain ⟨c,l,rfl⟩:∃ c l,x = c :: l:=by cases x with
  | nil=>exact absurd rfl h0
  | cons c l=>exact ⟨c,l,rfl⟩
 have hix:ixa 9 (.str (c :: l)) (.int .i64 0) = some (.int .u8 c.toNat):=ixa_str (x:=c :: l) (i:=0) .i64 rfl
 by_cases h48:c = 48
 ·have k3:(((c.toNat:Nat):Int) == 48) = true:=by rw [h48]; rfl
  by_cases hone:c :: l = [48]
  ·have k4:(c :: l == [48]) = true:=by rw [hone]; rfl
   have k5:(c :: l != [48]) = false:=by rw [hone]; rfl
   simp only [h0',cf9_161,ln9t,k1,hix,k3,k4,hcv,ln161s,List.length_map,wx,wy,Nat.reduceAdd,Nat.reduceEqDiff,reduceCtorEq]
   exact hrest (by rw [k5,Bool.and_false]) _
  ·have k4:(c :: l == [48]) = false:=by rw [beq_eq_false_iff_ne]; exact hone
   have k5:(c :: l != [48]) = true:=by rw [bne_iff_ne]; exact hone
   simp only [h0',cf9_161,ln9t,k1,hix,k3,k4,wx,wy,Nat.reduceAdd,Nat.reduceEqDiff,reduceCtorEq]
   have hp:psM (c :: l) = ([],8):=by unfold psM; rw [k5,h48]; simp
   rw [hp]; exact hbad _
 ·have k3:(((c.toNat:Nat):Int) == 48) = false:=by
   rw [beq_eq_false_iff_ne]; intro h
   exact h48 (UInt8.toNat_inj.1 (by rw [show (48:UInt8).toNat = 48 from rfl]; omega))
  simp only [h0',cf9_161,ln9t,k1,hix,k3,hcv,ln161s,List.length_map,wx,wy,Nat.reduceAdd,Nat.reduceEqDiff,reduceCtorEq]
  exact hrest (by simp [h48]) _
theorem parse_ok:ParseC psM:=by
 intro x hx
 refine ⟨c127 x hx,?_,?_⟩
 ·unfold psM
  cases (x == [] || (decide (x.length > 2000) || (x.head? == some 48 && x != [48]))) with
  | true=>intro y hy; cases hy
  | false =>
   cases x.all isDig with
   | true=>exact limV_limbs _
   | false=>intro y hy; cases hy
 ·unfold psM
  by_cases h2:2000 < x.length
  ·have k:decide (x.length > 2000) = true:=by simp; omega
   rw [k,Bool.true_or,Bool.or_true]; exact Nat.zero_le _
  cases (x == [] || (decide (x.length > 2000) || (x.head? == some 48 && x != [48]))) with
  | true=>exact Nat.zero_le _
  | false =>
   cases hd:x.all isDig with
   | true=>exact Nat.le_trans (limV_len _ _ (decV_lt x (List.all_eq_true.1 hd))) (by omega)
   | false=>exact Nat.zero_le _
end
noncomputable section
theorem c7 (L:List Dc) (x:Sx) (hL:DcOk L) (hfit:x.fit) (hwt:x.wt≤2 ^ 29) (hlen:L.length≤maxLen) (hok:∀ d∈L,d.ok = true) (hxok:x.ok = true):∃ s',WideC Tryz.env 7 [.sl false (L.map Dc.av),x.av] St.empty (.bool true) s':=by
 have h:=f7_run (.sl false (L.map Dc.av)) x.av St.empty (Q:=fun r _=>r = .bool true) (by
  have hcl:(AV.sl false (L.map Dc.av)).closed = true:=by simp only [AV.closed]; exact closedL_map _ _ dc_closed
  have hL60:L.length < 2 ^ 60:=by have:=hL.len; omega
  obtain ⟨n1,⟨r,B1,M1⟩,h1⟩:=T_tot psM true L [] x ([],[])
  obtain ⟨n2,⟨r2,B2,M2⟩,h2⟩:=T_tot psM true L [] x (B1,[])
  obtain ⟨t1,t2⟩:=twice_law psM ckey_ok hL60 h1 h2
  unfold f7
  refine ⟨sx_ones x,?_⟩
  refine callPu awake10 (by simp) ?_
  simp only [sx_part,wx,wy,Nat.reduceAdd,Nat.reduceEqDiff,reduceCtorEq]
  refine callPu (few_c false L x hlen hok hxok) (by simp only [List.mem_cons,List.mem_nil_iff,or_false,forall_eq_or_imp,forall_eq]; exact ⟨hcl,sx_closed x⟩) ?_
  cases few10 L x with
  | false=>simp only [wx,wy,Nat.reduceAdd,Nat.reduceEqDiff,reduceCtorEq]
  | true =>
  have hb:bld 58 [] = some (.agg [.nils,.nilm,.nils]):=by rw [bf58]; rfl
  have hc0:(AV.agg [AV.nils,AV.nilm,AV.nils]).cells = [.nils,.nilm,.nils]:=rfl
  have w1:Wf B1:=by
   have u1:=T_plain psM ckey_ok (B:=[]) hL60 wf_nil (fun p hp=>by cases hp) h1
   exact (U_step psM wf_nil (fun p hp=>by cases hp) u1).2.1
  simp only [hb,hc0,sx_part,wx,wy,Nat.reduceAdd,Nat.reduceEqDiff,reduceCtorEq]
  refine ⟨rfl,?_⟩
  obtain ⟨S,hS⟩:∃ S,S = Ai.adv ((St.empty.set St.empty.nx (some (Blk.cells x.av.cells 33 true true))).set (St.empty.nx + 15) (some (Blk.cells [.nils,.nilm,.nils] 58 true true))) 26:=⟨_,rfl⟩
  rw [← hS]
  have fr:Fresh S:=fun j hj=>by
   have hn:S.nx = St.empty.nx + 26:=by rw [hS]; rfl
   rw [hn] at hj
   rw [hS,adv_h,st_other (by omega),st_other (by omega)]
   exact fresh_empty j (by omega)
  have h15:S.h (St.empty.nx + 15) = some (.cells [.nils,.nilm,.nils] 58 true true):=by rw [hS,adv_h,st_same]
  have h0:S.h St.empty.nx = some (.cells x.av.cells 33 true true):=by rw [hS,adv_h,st_other (by decide),st_same]
  have n15:St.empty.nx + 15 < S.nx:=by rw [hS]; exact (by decide:(15:Nat) < 26)
  have hB0:BkR S (St.empty.nx + 15) [] [St.empty.nx + 15]:=⟨.nils,.nilm,.nils,⟨h15,gw_nil,.inl ⟨rfl,rfl⟩,gw_nil,by decide,fun n h=>(by cases h),by decide⟩,rfl⟩
  refine BkW.callS0 (Term_c parse_ok fr hB0 wf_nil hL x hfit hwt h1) fz30 (seal30 _ _ L x) fun s1 hs1=>?_
  obtain ⟨F1,k1,k2,k3⟩:=hs1
  have g0:s1.h St.empty.nx = some (.cells x.av.cells 33 true true):=by rw [k2.h _ (by omega) (by simp)]; exact h0
  simp only [ex0,ex1,wx,wy,Nat.reduceAdd,Nat.reduceEqDiff,reduceCtorEq]
  refine len_c k1.adv ?_
  simp only [adv_h,g0,sx_part,wx,wy,Nat.reduceAdd,Nat.reduceEqDiff,reduceCtorEq]
  refine BkW.callS0 (Term_c parse_ok (k2.fr.adv) k1.adv w1 hL x hfit hwt h2) fz30 (seal30 _ _ L x) fun s2 hs2=>?_
  obtain ⟨F2,m1,m2,m3⟩:=hs2
  simp only [ex0,ex1,wx,wy,Nat.reduceAdd,Nat.reduceEqDiff,reduceCtorEq]
  obtain ⟨v,e⟩:=r
  by_cases he:e = 0
  ·obtain ⟨e1,e2,e3,e4⟩:=t2 he
   subst e1 e2 he
   have k0:((0:Int) != 0) = false:=rfl
   have k00:((0:Int) == 0) = true:=rfl
   have kvv:(v == v) = true:=by simp
   have kll:(((B2.length:Nat):Int) == (B2.length:Int)) = true:=by simp
   have klt:decide (v < (B2.length:Int)) = true:=decide_eq_true e4
   have kge:decide (v ≥ 0) = true:=decide_eq_true e3
   simp only [k0,k00,kvv,wx,wy,Nat.reduceAdd,Nat.reduceEqDiff,reduceCtorEq]
   refine len_c m1.adv ?_
   simp only [kll,klt,kge,wx,wy,Nat.reduceAdd,Nat.reduceEqDiff,reduceCtorEq]
  ·obtain ⟨e1,e2⟩:=t1 he
   have e1:v = 0:=e1
   subst e2 e1
   have k0:(e != 0) = true:=by simpa using he
   have k00:((0:Int) == 0) = true:=rfl
   have kee:(e == e) = true:=by simp
   simp only [k0,k00,kee,wx,wy,Nat.reduceAdd,Nat.reduceEqDiff,reduceCtorEq])
 obtain ⟨r,s',h1,h2⟩:=h
 subst h2
 exact ⟨s',h1⟩
end
noncomputable section
def replR (nm:List UInt8) (b x:Sx):AV:=.tup [((replM nm b x).getD x).av,.bool (replM nm b x).isSome]
def C32 (nm:List UInt8) (b x:Sx):Prop:=PureC Tryz.env 32 [x.av,.str nm,b.av] (replR nm b x)
theorem c32s (nm:List UInt8) (b:Sx) (k:Int) (x:List UInt8) (p a:Int) (items:List Sx):C32 nm b (.mk false k x p a items):=by
 have h0:(Sx.mk false k x p a items).av.cells[0]? = some (.bool false):=rfl
 have h1:(Sx.mk false k x p a items).av.cells[1]? = some (.int .i64 k):=rfl
 have h2:(Sx.mk false k x p a items).av.cells[2]? = some (.str x):=rfl
 have hz:(AV.agg [.bool false,.int .i64 0,.str [],.int .i64 0,.int .i64 0,.nils]).cells = [.bool false,.int .i64 0,.str [],.int .i64 0,.int .i64 0,.nils]:=rfl
 refine pure_q (f32_run _ _ _ _ ?_)
 unfold f32
 refine ⟨sx_ones _,sx_ones b,?_⟩
 simp only [h0,h1,h2,zf33,hz,sx_part,wx,wy,Nat.reduceAdd,Nat.reduceEqDiff,reduceCtorEq]
 have st:∀ (v:Sx) (q:St) (c:List AV) (n:Nat),c.length = 6→sto 6 (.ptr n 0) v.av (q.set n (some (.cells c 33 true true))) = some ((q.set n (some (.cells c 33 true true))).set n (some (.cells v.av.cells 33 true true))):=fun v q c n hc=>sto_all st_same hc (sx_len v) (sx_ones v)
 have sta:∀ (v:Sx) (q:St) (c:List AV) (n m:Nat),c.length = 6→sto 6 (.ptr n 0) v.av (Ai.adv (q.set n (some (.cells c 33 true true))) m) = some ((Ai.adv (q.set n (some (.cells c 33 true true))) m).set n (some (.cells v.av.cells 33 true true))):=fun v q c n m hc=>sto_all (by rw [adv_h]; exact st_same) hc (sx_len v) (sx_ones v)
 have fin:∀ (v:Sx) (s:St),replR nm b (.mk false k x p a items) = .tup [v.av,.bool true]→PureQ (replR nm b (.mk false k x p a items)) (.tup [v.av,.bool true]) s:=fun v s h=>by rw [h]; exact pureQ_closed (by simp [AV.closed,closedL,sx_closed])
 cases hk:(k == 3) with
 | false =>
  simp only [sta _ _ _ _ _ (show [AV.bool false,AV.int .i64 0,AV.str [],AV.int .i64 0,AV.int .i64 0,AV.nils].length = 6 from rfl),st_same,sx_part,wx,wy,Nat.reduceAdd,Nat.reduceEqDiff,reduceCtorEq]
  refine fin _ _ ?_
  simp only [replR,replM,hk,Bool.false_and,cond_false,Option.getD_some,Option.isSome_some]
 | true =>
  cases hx:(x == nm) with
  | false =>
   simp only [sta _ _ _ _ _ (show [AV.bool false,AV.int .i64 0,AV.str [],AV.int .i64 0,AV.int .i64 0,AV.nils].length = 6 from rfl),st_same,sx_part,wx,wy,Nat.reduceAdd,Nat.reduceEqDiff,reduceCtorEq]
   refine fin _ _ ?_
   simp only [replR,replM,hk,hx,Bool.true_and,cond_false,Option.getD_some,Option.isSome_some]
  | true =>
   simp only [sta _ _ _ _ _ (show [AV.bool false,AV.int .i64 0,AV.str [],AV.int .i64 0,AV.int .i64 0,AV.nils].length = 6 from rfl),st_same,sx_part,wx,wy,Nat.reduceAdd,Nat.reduceEqDiff,reduceCtorEq]
   refine fin _ _ ?_
   simp only [replR,replM,hk,hx,Bool.and_self,cond_true,cond_false,Option.getD_some,Option.isSome_some]
theorem reps_snoc {nm:List UInt8} {b y:Sx}:∀ {l d:List Sx},replsM nm b l = some d→replsM nm b (l ++ [y]) = (replM nm b y).map fun z=>d ++ [z]:=by
 intro l
 induction l with
 | nil =>
  intro d h
  simp only [replsM,Option.some.injEq] at h
  subst h
  simp only [List.nil_append,replsM]
  cases replM nm b y <;> rfl
 | cons x l ih =>
  intro d h
  simp only [replsM] at h
  simp only [List.cons_append,replsM]
  cases hx:replM nm b x with
  | none=>rw [hx] at h; cases h
  | some x' =>
   rw [hx] at h
   cases hl:replsM nm b l with
   | none=>rw [hl] at h; cases h
   | some d' =>
    rw [hl] at h
    simp only [Option.map_some,Option.some.injEq] at h
    subst h
    simp only [ih hl]
    cases replM nm b y <;> rfl
theorem reps_none {nm:List UInt8} {b y:Sx}:∀ {l:List Sx},y∈l→replM nm b y = none→replsM nm b l = none:=by
 intro l
 induction l with
 | nil=>intro h; cases h
 | cons x l ih =>
  intro h hn
  simp only [replsM]
  rcases List.mem_cons.1 h with rfl | h
  ·rw [hn]
  ·rw [ih h hn]; cases replM nm b x <;> rfl
def accC (a:Int) (xl:AV):List AV:=[.bool true,.int .i64 0,.str [],.int .i64 0,.int .i64 a,xl]
theorem l32 (nm:List UInt8) (b:Sx) (k:Int) (tx:List UInt8) (p a:Int) (items:List Sx) (hlen:items.length≤2 ^ 20) (ih:∀ y∈items,C32 nm b y) (Q:AV→St→Prop) (b3 b5 b6 b8:Nat) (hd:[b3,b5,b6,b8].Nodup)
  (hbad:replM nm b (.mk true k tx p a items) = none→∀ s,Q (.tup [(Sx.mk true k tx p a items).av,.bool false]) s)
  (hQ:∀ xl s its,replM nm b (.mk true k tx p a items) = some (.mk true 0 [] 0 a its)→Gw 33 6 0 s xl (its.map Sx.av)→Q (.tup [.agg (accC a xl),.bool true]) s) :
  ∀ (m i:Nat) (done:List Sx) (xl:AV) (c6:List AV) (s:St),i + m = items.length→Fresh s→b3 < s.nx→b5 < s.nx→b6 < s.nx→b8 < s.nx→s.h b3 = some (.cells (Sx.mk true k tx p a items).av.cells 33 true true)→s.h b5 = some (.cells b.av.cells 33 true true) →
   s.h b6 = some (.cells c6 33 true true)→c6.length = 6→s.h b8 = some (.cells (accC a xl) 33 true true)→Gw 33 6 0 s xl (done.map Sx.av)→(∀ j∈idOf xl,j ∉ [b3,b5,b6,b8])→replsM nm b (items.take i) = some done→(0 < i→headBad nm items = false) →
   f32l1 Q (m + 1) (.str nm) (.ptr b3 0) (.ptr b5 0) (.ptr b6 0) (.ptr b8 0) (.int .i64 i) s:=by
 have hz:(AV.agg [.bool false,.int .i64 0,.str [],.int .i64 0,.int .i64 0,.nils]).cells = [.bool false,.int .i64 0,.str [],.int .i64 0,.int .i64 0,.nils]:=rfl
 intro m
 induction m with
 | zero =>
  intro i done xl c6 s hi fr n3 n5 n6 n8 h3 h5 h6 hc6 h8 g hx hr hh
  show f32l1s Q (f32l1 Q 0) _ _ _ _ _ _ s
  have c1:decide ((i:Int) < (items.length:Int)) = false:=by simp; omega
  rw [List.take_of_length_le (by omega)] at hr
  have hp:Ai.part 6 true 0 (accC a xl) = some (.agg (accC a xl)):=rfl
  have hone:(AV.agg (accC a xl)).cells.all AV.one = true:=by
   have:=g.one.2
   simp [AV.cells,accC,this]; simp [AV.one]
  have h2:replM nm b (.mk true k tx p a items) = some (.mk true 0 [] 0 a done):=by
   have hb:headBad nm items = false:=by
    cases items with
    | nil=>rfl
    | cons y l=>exact hh (by simp at hi; omega)
   simp only [replM,cond_true,hb,cond_false,hr,Option.map_some]
  simp only [f32l1s,f32j1,h3,mk_cells,len31,avs_length,c1,adv_h,h8,hp,wx,wy,Nat.reduceAdd,Nat.reduceEqDiff,reduceCtorEq]
  rw [sto_all (v:=.agg (accC a xl)) (by rw [adv_h]; exact h6) hc6 rfl hone]
  simp only [st_same,hp,wx,wy,Nat.reduceAdd,Nat.reduceEqDiff,reduceCtorEq]
  refine hQ xl _ done h2 (g.keep fun j hj=>?_)
  have hne:j≠b6:=fun e=>hx j hj (by simp [e])
  rw [adv_h,st_other hne]
 | succ m ihm =>
  intro i done xl c6 s hi fr n3 n5 n6 n8 h3 h5 h6 hc6 h8 g hx hr hh
  show f32l1s Q (f32l1 Q (m + 1)) _ _ _ _ _ _ s
  have c1:decide ((i:Int) < (items.length:Int)) = true:=by simp; omega
  have w1:IntKind.i64.wrap ((i:Int) + 1) = ((i + 1:Nat):Int):=wrap_i (n:=items.length) (by omega) (by omega)
  obtain ⟨y,hy⟩:∃ y,items[i]? = some y:=⟨_,List.getElem?_eq_getElem (by omega)⟩
  have hix:=fun ex=>ix_avs ex items i y hy
  have y0:y.av.cells[0]? = some (.bool y.lst):=by cases y; rfl
  have y2:y.av.cells[2]? = some (.str y.txt):=by cases y; rfl
  simp only [f32l1s,h3,mk_cells,len31,avs_length,c1,adv_h,hix,sx_part,zf33,hz,wx,wy,Nat.reduceAdd,Nat.reduceEqDiff,reduceCtorEq]
  rw [sto_all (id:=s.nx + 10) (z:=6) (c:=[.bool false,.int .i64 0,.str [],.int .i64 0,.int .i64 0,.nils]) (e:=33) (ex:=true) (v:=y.av) (by rw [adv_h]; exact st_same) rfl (sx_len y) (sx_ones y)]
  obtain ⟨S,hS⟩:∃ S,S = (Ai.adv (s.set (s.nx + 10) (some (.cells [.bool false,.int .i64 0,.str [],.int .i64 0,.int .i64 0,.nils] 33 true true))) 12).set (s.nx + 10) (some (.cells y.av.cells 33 true true)):=⟨_,rfl⟩
  rw [← hS]
  have hSy:S.h (s.nx + 10) = some (.cells y.av.cells 33 true true):=by rw [hS]; exact st_same
  have nS:S.nx = s.nx + 12:=by rw [hS]; rfl
  have eS:EF [] s S:=⟨by omega,fun j hj _=>by rw [hS,st_other (by omega),adv_h,st_other (by omega)],fun j hj=>by rw [nS] at hj; rw [hS,st_other (by omega),adv_h,st_other (by omega)]; exact fr j (by omega)⟩
  simp only [Bnd_some,hSy,y0,y2,sx_part]
  have hS3:S.h b3 = some (.cells (Sx.mk true k tx p a items).av.cells 33 true true):=by rw [eS.h b3 n3 (by simp)]; exact h3
  have hS5:S.h b5 = some (.cells b.av.cells 33 true true):=by rw [eS.h b5 n5 (by simp)]; exact h5
  have hS6:S.h b6 = some (.cells c6 33 true true):=by rw [eS.h b6 n6 (by simp)]; exact h6
  have hS8:S.h b8 = some (.cells (accC a xl) 33 true true):=by rw [eS.h b8 n8 (by simp)]; exact h8
  have hmem:y∈items:=List.mem_of_getElem? hy
  have out:∀ (R:St) (n:Nat),replM nm b (.mk true k tx p a items) = none→R.h b6 = some (.cells c6 33 true true)→Bnd (sto 6 (.ptr b6 0) (Sx.mk true k tx p a items).av (Ai.adv R n)) fun s16=>RetP ((resC [ld 6 true (.ptr b6 0) s16,some (.bool false)]).map tupV) fun v=>Q v s16:=fun R n hn hR=>by
   rw [sto_all (v:=(Sx.mk true k tx p a items).av) (by rw [adv_h]; exact hR) hc6 (sx_len _) (sx_ones _)]
   simp only [st_same,sx_part,wx,wy,Nat.reduceAdd,Nat.reduceEqDiff,reduceCtorEq]
   exact hbad hn _
  have out2:∀ (R:St) (n:Nat),replM nm b (.mk true k tx p a items) = none→R.h b6 = some (.cells c6 33 true true)→Bnd (sto 6 (.ptr b6 0) (Sx.mk true k tx p a items).av (Ai.adv R n)) fun s16=>RetP ((resC [match s16.h b6 with | some (.cells c e ex wr)=>Ai.part 6 true 0 c | x=>none,some (.bool false)]).map tupV) fun v=>Q v s16:=out
  have H:headBad nm items = false→Bnd (ld 6 true (.ptr b5 0) (Ai.adv S 30)) fun t68=>CallPu Tryz.env 32 [y.av,.str nm,t68] (Ai.adv S 30) fun t69 s17=>Bnd (extr t69 0) fun t70=>Bnd (extr t69 1) fun t71=>Bnd (sto 6 (.ptr (S.nx + 27) 0) t70 (s17.set (S.nx + 27) (some (.cells [.bool false,.int .i64 0,.str [],.int .i64 0,.int .i64 0,.nils] 33 true true)))) fun s18=>Bnd (un .not t71) fun t73=>IfP t73 (Bnd (ld 6 true (.ptr b3 0) (Ai.adv s18 5)) fun t74=>Bnd (sto 6 (.ptr b6 0) t74 (Ai.adv s18 5)) fun s19=>RetP ((resC [ld 6 true (.ptr b6 0) s19,some (.bool false)]).map tupV) fun v=>Q v s19) (Bnd (ld 1 false (.ptr b8 5) (Ai.adv s18 9)) fun t76=>Bnd (ld 6 true (.ptr (S.nx + 27) 0) (Ai.adv s18 9)) fun t77=>Bnd (bsl 31 1 [(0,t77)]) fun t78=>Bnd (bt .append #[31,31] [t76,t78] (s18.nx + 6) (Ai.adv s18 9)) fun r79=>Bnd (sto 1 (.ptr b8 5) r79.1 r79.2) fun s20=>f32j2 Q (f32l1 Q (m + 1)) (.int .i64 i) (.str nm) (.ptr b3 0) (.ptr b5 0) (.ptr b6 0) (.ptr b8 0) s20):=by
   intro hnb
   simp only [hS5,sx_part,wx,wy,Nat.reduceAdd,Nat.reduceEqDiff,reduceCtorEq]
   refine callPu (ih y hmem) (by simp [sx_closed,AV.closed]) ?_
   have ex0:extr (replR nm b y) 0 = some ((replM nm b y).getD y).av:=rfl
   have ex1:extr (replR nm b y) 1 = some (.bool (replM nm b y).isSome):=rfl
   simp only [ex0,ex1,wx,wy,Nat.reduceAdd,Nat.reduceEqDiff,reduceCtorEq]
   obtain ⟨z,hzz⟩:∃ z,z = (replM nm b y).getD y:=⟨_,rfl⟩
   rw [← hzz]
   rw [sto_all (id:=S.nx + 27) (z:=6) (c:=[.bool false,.int .i64 0,.str [],.int .i64 0,.int .i64 0,.nils]) (e:=33) (ex:=true) (v:=z.av) (by rw [adv_h]; exact st_same) rfl (sx_len z) (sx_ones z)]
   obtain ⟨R,hR⟩:∃ R,R = (Ai.adv (S.set (S.nx + 27) (some (.cells [.bool false,.int .i64 0,.str [],.int .i64 0,.int .i64 0,.nils] 33 true true))) 30).set (S.nx + 27) (some (.cells z.av.cells 33 true true)):=⟨_,rfl⟩
   rw [← hR]
   have hRz:R.h (S.nx + 27) = some (.cells z.av.cells 33 true true):=by rw [hR]; exact st_same
   have nR:R.nx = S.nx + 30:=by rw [hR]; rfl
   have frS:=eS.fr
   have eR:EF [] S R:=⟨by omega,fun j hj _=>by rw [hR,st_other (by omega),adv_h,st_other (by omega)],fun j hj=>by rw [nR] at hj; rw [hR,st_other (by omega),adv_h,st_other (by omega)]; exact frS j (by omega)⟩
   have hR3:R.h b3 = some (.cells (Sx.mk true k tx p a items).av.cells 33 true true):=by rw [eR.h b3 (by omega) (by simp)]; exact hS3
   have hR5:R.h b5 = some (.cells b.av.cells 33 true true):=by rw [eR.h b5 (by omega) (by simp)]; exact hS5
   have hR6:R.h b6 = some (.cells c6 33 true true):=by rw [eR.h b6 (by omega) (by simp)]; exact hS6
   have hR8:R.h b8 = some (.cells (accC a xl) 33 true true):=by rw [eR.h b8 (by omega) (by simp)]; exact hS8
   have htk:items.take (i + 1) = items.take i ++ [y]:=by rw [List.take_add_one,hy]; rfl
   cases hrep:replM nm b y with
   | none =>
    simp only [Bnd_some,hR3,Option.isSome_none,sx_part,wx,wy,Nat.reduceAdd,Nat.reduceEqDiff,reduceCtorEq]
    exact out2 R 5 (by simp only [replM,cond_true,hnb,cond_false,reps_none hmem hrep,Option.map_none]) hR6
   | some z' =>
    have hz':z = z':=by rw [hzz,hrep]; rfl
    subst hz'
    have hb31:bsl 31 1 [(0,z.av)] = some (.sl true [z.av]):=bsl_one tf31 (by decide) (sx_len z) (sx_ones z)
    have h5c:(accC a xl)[5]? = some xl:=rfl
    simp only [Bnd_some,hR8,hRz,h5c,hb31,Option.isSome_some,sx_part,wx,wy,Nat.reduceAdd,Nat.reduceEqDiff,reduceCtorEq]
    have gR:Gw 33 6 0 R xl (done.map Sx.av):=(g.ext fr eS (fun _ _=>by simp)).ext frS eR (fun _ _=>by simp)
    have hdl:done.length = i:=by
     have:=reps_len hr
     rw [this,List.length_take]; omega
    have hfit:fitsA ((done.map Sx.av).length + 1) 72 = true:=by
     rw [List.length_map,hdl]
     have h1:(i + 1) * 72≤most:=by unfold most; omega
     have h2:i + 1≤most:=by unfold most; omega
     simp only [fitsA,Nat.ble_eq_true_of_le h1,Nat.ble_eq_true_of_le h2,Bool.and_self]
    rw [app_one tf31 gR.adv (sx_len z) (sx_ones z) hfit true (R.nx + 6)]
    obtain ⟨P,hP⟩:∃ P,P = ((Ai.adv R 9).drop (idOf xl)).set (R.nx + 6) (some (.cells ((done.map Sx.av ++ [z.av]).flatMap AV.cells) 33 false true)):=⟨_,rfl⟩
    rw [← hP]
    simp only [Bnd_some]
    have n8R:b8 < R.nx:=by omega
    have kP:∀ j,j < R.nx→j ∉ idOf xl→P.h j = R.h j:=fun j hj hjx=>by
     rw [hP,st_other (by omega),get_drop',if_neg hjx,adv_h]
    have hx8:∀ j∈[b3,b5,b6,b8],j ∉ idOf xl:=fun j hj hh=>hx j hh hj
    have hP8:P.h b8 = some (.cells (accC a xl) 33 true true):=by rw [kP b8 n8R (hx8 b8 (by simp))]; exact hR8
    rw [sto_c (v:=.ref (R.nx + 6) 0 ((done.map Sx.av).length + 1) none 33) hP8 (show 5 < 6 by decide) rfl rfl]
    simp only [Bnd_some,f32j2,w1,wx,wy,Nat.reduceAdd,Nat.reduceEqDiff,reduceCtorEq]
    have nP:P.nx = R.nx + 9:=by rw [hP]; exact drop_nx (idOf xl) (Ai.adv R 9)
    have hnew:P.h (R.nx + 6) = some (.cells ((done.map Sx.av ++ [z.av]).flatMap AV.cells) 33 false true):=by rw [hP]; exact st_same
    have kP2:∀ j,j < R.nx→j≠b8→j ∉ idOf xl→(P.set b8 (some (.cells ((accC a xl).set 5 (.ref (R.nx + 6) 0 ((done.map Sx.av).length + 1) none 33)) 33 true true))).h j = R.h j:=fun j hj h8 hjx=>by rw [st_other h8]; exact kP j hj hjx
    have frR:=eR.fr
    have frP:Fresh P:=fun j hj=>by
     rw [nP] at hj
     rw [hP,st_other (by omega),get_drop']
     split
     ·rfl
     ·rw [adv_h]; exact frR j (by omega)
    simp only [List.nodup_cons,List.mem_cons,List.mem_nil_iff,or_false,not_or,List.not_mem_nil,not_false_eq_true,and_true,List.nodup_nil] at hd
    refine ihm (i + 1) (done ++ [z]) (.ref (R.nx + 6) 0 ((done.map Sx.av).length + 1) none 33) c6 _ (by omega) (frP.set (by omega)).adv (by simp only [adv_nx,set_nx]; omega) (by simp only [adv_nx,set_nx]; omega) (by simp only [adv_nx,set_nx]; omega) (by simp only [adv_nx,set_nx]; omega) ?_ ?_ ?_ hc6 ?_ ?_ ?_ ?_ (fun _=>hnb)
    ·rw [adv_h,kP2 b3 (by omega) (by omega) (hx8 b3 (by simp))]; exact hR3
    ·rw [adv_h,kP2 b5 (by omega) (by omega) (hx8 b5 (by simp))]; exact hR5
    ·rw [adv_h,kP2 b6 (by omega) (by omega) (hx8 b6 (by simp))]; exact hR6
    ·rw [adv_h,st_same]; rfl
    ·refine ⟨fun v hv=>?_,.inr ⟨R.nx + 6,Nat.zero_le _,by simp,?_⟩⟩
     ·obtain ⟨w,_,rfl⟩:=List.mem_map.1 hv
      exact ⟨sx_len w,sx_ones w⟩
     ·rw [adv_h,st_other (by omega),List.map_append]; exact hnew
    ·intro j hj
     have hj:j = R.nx + 6:=by simpa [idOf] using hj
     subst hj
     simp only [List.mem_cons,List.mem_nil_iff,or_false,not_or]
     omega
    ·rw [htk,reps_snoc hr,hrep]; rfl
  have hi0:i = 0→headBad nm items = (!y.lst && (y.txt == nm || y.txt == [108,101,116])):=fun h=>by
   subst h
   cases items with
   | nil=>cases hy
   | cons z l=>simp only [List.getElem?_cons_zero,Option.some.injEq] at hy; subst hy; rfl
  have hbn:headBad nm items = true→replM nm b (.mk true k tx p a items) = none:=fun h=>by simp only [replM,cond_true,h]
  cases h0:((i:Int) == 0) with
  | false =>
   simp only [hSy,y0,y2,sx_part,wx,wy,Nat.reduceAdd,Nat.reduceEqDiff,reduceCtorEq]
   have hp:0 < i:=by
    have:(i:Int)≠0:=by simpa using h0
    omega
   exact H (hh hp)
  | true =>
  have hz0:i = 0:=by
   have:(i:Int) = 0:=by simpa using h0
   omega
  have hq:=hi0 hz0
  cases hl:y.lst with
  | true =>
   simp only [hSy,y0,y2,hl,sx_part,wx,wy,Nat.reduceAdd,Nat.reduceEqDiff,reduceCtorEq]
   exact H (by rw [hq,hl]; rfl)
  | false =>
  cases hn:(y.txt == nm) with
  | true =>
   simp only [hSy,y0,y2,hl,hn,hS3,sx_part,wx,wy,Nat.reduceAdd,Nat.reduceEqDiff,reduceCtorEq]
   exact out2 S 23 (hbn (by rw [hq,hl,hn]; rfl)) hS6
  | false =>
  cases ht:(y.txt == [108,101,116]) with
  | true =>
   simp only [hSy,y0,y2,hl,hn,ht,hS3,sx_part,wx,wy,Nat.reduceAdd,Nat.reduceEqDiff,reduceCtorEq]
   exact out2 S 23 (hbn (by rw [hq,hl,hn,ht]; rfl)) hS6
  | false =>
   simp only [hSy,y0,y2,hl,hn,ht,sx_part,wx,wy,Nat.reduceAdd,Nat.reduceEqDiff,reduceCtorEq]
   exact H (by rw [hq,hl,hn,ht]; rfl)
theorem c32 (nm:List UInt8) (b:Sx):∀ x:Sx,x.fit→C32 nm b x:=by
 refine sx_all fun l k x p a items ih ho=>?_
 cases l with
 | false=>exact c32s nm b k x p a items
 | true =>
  obtain ⟨hlen,hfi⟩:=fit_its ho
  have h0:(Sx.mk true k x p a items).av.cells[0]? = some (.bool true):=rfl
  have h4:(Sx.mk true k x p a items).av.cells[4]? = some (.int .i64 a):=rfl
  have hz:(AV.agg [.bool false,.int .i64 0,.str [],.int .i64 0,.int .i64 0,.nils]).cells = [.bool false,.int .i64 0,.str [],.int .i64 0,.int .i64 0,.nils]:=rfl
  have hb:bld 33 [(0,.bool true),(2,.int .i64 a)] = some (.agg (accC a .nils)):=by rw [bf33]; rfl
  refine pure_q (f32_run _ _ _ _ ?_)
  unfold f32
  refine ⟨sx_ones _,sx_ones b,?_⟩
  simp only [h0,h4,zf33,hz,hb,sx_part,wx,wy,Nat.reduceAdd,Nat.reduceEqDiff,reduceCtorEq]
  rw [sto_all (id:=St.empty.nx + 10) (z:=6) (c:=[.bool false,.int .i64 0,.str [],.int .i64 0,.int .i64 0,.nils]) (e:=33) (ex:=true) (v:=.agg (accC a .nils)) (by rw [adv_h]; exact st_same) rfl rfl rfl]
  simp only [Bnd_some]
  obtain ⟨S,hS⟩:∃ S,S = Ai.adv (Ai.adv ((((St.empty.set St.empty.nx (some (Blk.cells (Sx.mk true k x p a items).av.cells 33 true true))).set (St.empty.nx + 1) (some (Blk.cells b.av.cells 33 true true))).set (St.empty.nx + 2) (some (Blk.cells [AV.bool false,AV.int IntKind.i64 0,AV.str [],AV.int IntKind.i64 0,AV.int IntKind.i64 0,AV.nils] 33 true true))).set (St.empty.nx + 10) (some (Blk.cells [AV.bool false,AV.int IntKind.i64 0,AV.str [],AV.int IntKind.i64 0,AV.int IntKind.i64 0,AV.nils] 33 true true))) 12 |>.set (St.empty.nx + 10) (some (.cells (AV.agg (accC a .nils)).cells 33 true true))) 1:=⟨_,rfl⟩
  rw [← hS]
  have nS:S.nx = St.empty.nx + 13:=by rw [hS]; rfl
  have fr:Fresh S:=fun j hj=>by
   rw [nS] at hj
   rw [hS,adv_h,st_other (by omega),adv_h,st_other (by omega),st_other (by omega),st_other (by omega),st_other (by omega)]
   exact fresh_empty j (by omega)
  refine ⟨items.length + 1,l32 nm b k x p a items hlen (fun y hy=>ih y hy (hfi y hy)) _ St.empty.nx (St.empty.nx + 1) (St.empty.nx + 2) (St.empty.nx + 10) (by simp) (fun hn s=>?_) (fun xl s its hs g=>?_) items.length 0 [] .nils [.bool false,.int .i64 0,.str [],.int .i64 0,.int .i64 0,.nils] S (by omega) fr (by omega) (by omega) (by omega) (by omega) ?_ ?_ ?_ rfl ?_ gw_nil (fun j hj=>by cases hj) (by simp [replsM]) (fun h=>absurd h (by omega))⟩
  ·have:replR nm b (.mk true k x p a items) = .tup [(Sx.mk true k x p a items).av,.bool false]:=by simp only [replR,hn,Option.getD_none,Option.isSome_none]
   rw [this]; exact pureQ_closed (by simp [AV.closed,closedL,sx_closed])
  ·have:replR nm b (.mk true k x p a items) = .tup [(Sx.mk true 0 [] 0 a its).av,.bool true]:=by simp only [replR,hs,Option.getD_some,Option.isSome_some]
   rw [this]
   obtain ⟨ids,hp,_⟩:=pur_map tf31 g (fun y _=>sx_closed y) (fun y _=>by cases y; rfl) 9
   have hcx:xl.closed = false:=by
    obtain ⟨_,⟨rfl,_⟩ | ⟨j,_,rfl,_⟩⟩:=g <;> rfl
   have hca:(AV.agg (accC a xl)).closed = false:=by simp [AV.closed,accC,closedL,hcx]
   have hct:(AV.tup [AV.agg (accC a xl),.bool true]).closed = false:=by
    rw [show (AV.tup [AV.agg (accC a xl),.bool true]).closed = ((AV.agg (accC a xl)).closed && ((AV.bool true).closed && true)) from rfl,hca]; rfl
   have q:∀ v:AV,v.closed = true→pur Tryz.env.P s 10 v = some (v,[]):=fun v h=>pur_closed 10 h
   have e1:pur Tryz.env.P s 11 (.agg (accC a xl)) = some (.agg [.bool true,.int .i64 0,.str [],.int .i64 0,.int .i64 a,.sl false (its.map Sx.av)],ids ++ []):=by
    unfold pur
    rw [if_neg (by rw [hca]; simp)]
    simp only [accC,purL,q _ (show (AV.bool true).closed = true from rfl),q _ (show (AV.int .i64 0).closed = true from rfl),q _ (show (AV.str []).closed = true from rfl),q _ (show (AV.int .i64 a).closed = true from rfl),hp,Option.map_some,List.nil_append]
   refine ⟨(ids ++ []) ++ ([] ++ []),?_⟩
   unfold pur
   rw [if_neg (by rw [hct]; simp)]
   simp only [purL,e1,pur_closed 11 (show (AV.bool true).closed = true from rfl),Option.map_some]
   have e3:(Sx.mk true 0 [] 0 a its).av = .agg [.bool true,.int .i64 0,.str [],.int .i64 0,.int .i64 a,.sl false (its.map Sx.av)]:=by rw [← Sx.avs_eq]; rfl
   rw [e3]
  ·rw [hS,adv_h,st_other (by omega),adv_h,st_other (by omega),st_other (by omega),st_other (by omega),st_same]
  ·rw [hS,adv_h,st_other (by omega),adv_h,st_other (by omega),st_other (by omega),st_same]
  ·rw [hS,adv_h,st_other (by omega),adv_h,st_other (by omega),st_same]
  ·rw [hS,adv_h,st_same]; rfl
end
noncomputable section
theorem wt_pos (s:Sx):1≤s.wt:=by cases s; simp only [Sx.wt]; omega
mutual
theorem rep_fit (nm:List UInt8) (b:Sx) (hb:b.ok = true) (hf:b.fit):∀ (x y:Sx),x.ok = true→x.fit→replM nm b x = some y→y.ok = true∧y.fit∧y.wt≤x.wt * b.wt
 | .mk l k t p a items,y,hx,hxf,h=>by
  have hw:=wt_pos b
  simp only [replM] at h
  cases l with
  | false =>
   simp only [cond_false] at h
   cases hc:(k == 3 && t == nm) with
   | true =>
    rw [hc,cond_true,Option.some.injEq] at h
    subst h
    exact ⟨hb,hf,Nat.le_mul_of_pos_left _ (wt_pos _)⟩
   | false =>
    rw [hc,cond_false,Option.some.injEq] at h
    subst h
    exact ⟨hx,hxf,Nat.le_mul_of_pos_right _ hw⟩
  | true =>
   simp only [cond_true] at h
   cases hh:headBad nm items with
   | true=>rw [hh] at h; cases h
   | false =>
    rw [hh,cond_false,Option.map_eq_some_iff] at h
    obtain ⟨its,h1,rfl⟩:=h
    have hxo:=hx
    simp only [Sx.ok,Bool.and_eq_true] at hxo
    obtain ⟨g1,g2,g3⟩:=reps_fit nm b hb hf items its hxo.2 hxf.2.2.2 h1
    have hl:=reps_len h1
    refine ⟨?_,⟨⟨by decide,by decide⟩,by simp,by rw [hl]; exact hxf.2.2.1,g2⟩,?_⟩
    ·have e0:isInt 0 = true:=by decide
     have e1:decide (([]:List UInt8).length≤maxLen) = true:=by decide
     simp only [Sx.ok,Bool.and_eq_true] at *
     simp_all
    ·simp only [Sx.wt]
     rw [Nat.add_mul]
     omega
theorem reps_fit (nm:List UInt8) (b:Sx) (hb:b.ok = true) (hf:b.fit):∀ (l l':List Sx),Sx.oks l = true→Sx.fits l→replsM nm b l = some l'→Sx.oks l' = true∧Sx.fits l'∧Sx.wts l'≤Sx.wts l * b.wt
 | [],l',_,_,h=>by
  simp only [replsM,Option.some.injEq] at h
  subst h
  exact ⟨rfl,trivial,Nat.zero_le _⟩
 | s :: l,l',ho,hl,h=>by
  simp only [replsM] at h
  simp only [Sx.oks,Bool.and_eq_true] at ho
  cases hr:replM nm b s with
  | none=>rw [hr] at h; cases h
  | some y =>
   rw [hr] at h
   simp only [Option.map_eq_some_iff] at h
   obtain ⟨q,h1,rfl⟩:=h
   obtain ⟨g1,g2,g3⟩:=rep_fit nm b hb hf s y ho.1 hl.1 hr
   obtain ⟨k1,k2,k3⟩:=reps_fit nm b hb hf l q ho.2 hl.2 h1
   refine ⟨by simp only [Sx.oks,g1,k1,Bool.and_self],⟨g2,k2⟩,?_⟩
   simp only [Sx.wts]
   rw [Nat.add_mul]
   omega
end
mutual
theorem size_wt:∀ s:Sx,s.wt≤2 ^ 50→s.size = (s.wt:Int)∨(5000 < s.size∧s.size≤(s.wt:Int))
 | .mk l k t p a items,h=>by
  simp only [Sx.wt,Sx.size] at h ⊢
  rcases sizes_wt items 1 (by omega) (by omega) (by omega) with g | g
  ·exact .inl (by omega)
  ·exact .inr (by omega)
theorem sizes_wt:∀ (l:List Sx) (n:Int),0≤n→n≤2 ^ 51→Sx.wts l≤2 ^ 50→Sx.sizes l n = n + (Sx.wts l:Int)∨(5000 < Sx.sizes l n∧Sx.sizes l n≤n + (Sx.wts l:Int))
 | [],n,_,_,_=>.inl (by simp only [Sx.sizes,Sx.wts]; omega)
 | s :: l,n,h0,h1,h=>by
  simp only [Sx.wts] at h
  simp only [Sx.sizes,Sx.wts,Int.natCast_add]
  by_cases hn:n≤5000
  ·have:=wt_pos s
   have hs:=size_wt s (by omega)
   have hw:IntKind.i64.wrap (n + s.size) = n + s.size:=IntWalk.i64_in _ (by omega)
   rw [decide_eq_true hn,cond_true,hw]
   have hs1:s.size≤(s.wt:Int)∧0≤s.size:=by omega
   by_cases hb:s.size = (s.wt:Int)
   ·rcases sizes_wt l (n + s.size) (by omega) (by omega) (by omega) with g | g
    ·exact .inl (by omega)
    ·exact .inr (by omega)
   ·rcases sizes_wt l (n + s.size) (by omega) (by omega) (by omega) with g | g
    ·exact .inr (by omega)
    ·exact .inr (by omega)
  ·rw [decide_eq_false hn,cond_false]
   exact .inr (by omega)
end
theorem size_small {s:Sx} (h:s.wt≤2 ^ 50) (hs:s.size≤4000):s.wt≤4000:=by
 rcases size_wt s h with g | g <;> omega
end
noncomputable section
theorem pm834:Tryz.env.pm 8 34 = true:=by kernel_rfl
theorem c34 (t:List UInt8):PureC Tryz.env 34 [.str t] (atomS t).av:=by
 have hz:(AV.agg [.bool false,.int .i64 0,.str [],.int .i64 0,.int .i64 0,.nils]).cells = [.bool false,.int .i64 0,.str [],.int .i64 0,.int .i64 0,.nils]:=rfl
 have hb:bld 30 [(0,.int .i64 3),(1,.str t)] = some (.agg [.int .i64 3,.str t,.int .i64 0]):=by kernel_rfl
 have hb2:bld 33 [(1,.agg [.int .i64 3,.str t,.int .i64 0])] = some (.agg [.bool false,.int .i64 3,.str t,.int .i64 0,.int .i64 0,.nils]):=by rw [bf33]; rfl
 refine pure_q (f34_run _ _ ?_)
 unfold f34
 simp only [zf33,hz,hb,hb2,wx,wy,Nat.reduceAdd,Nat.reduceEqDiff,reduceCtorEq]
 rw [sto_all (id:=St.empty.nx) (z:=6) (c:=[.bool false,.int .i64 0,.str [],.int .i64 0,.int .i64 0,.nils]) (e:=33) (ex:=true) (v:=.agg [.bool false,.int .i64 3,.str t,.int .i64 0,.int .i64 0,.nils]) (by rw [adv_h]; exact st_same) rfl rfl rfl]
 simp only [Bnd_some,st_same,wx,wy,Nat.reduceAdd,Nat.reduceEqDiff,reduceCtorEq]
 exact ⟨[],rfl⟩
theorem callAtom (t:List UInt8) {l:List Nat} {s:St} {K:AV→St→Prop} (hk:K (atomS t).av s):CallVD Tryz.env 8 (.fn 34 [] []) [.str t] l s K:=by
 unfold CallVD
 simp only [pm834]
 exact callPuD (c34 t) (by simp [AV.closed]) hk
theorem rch_nil {s:St} {vs:List AV} (h:idsL vs = []):rch s vs = []:=by unfold rch; rw [h]; rfl
theorem mark34 (i:Nat) (s:St) (t:List UInt8):markV Tryz.env 8 i (.fn 34 [] []) (rch s [.fn 34 [] [],.str t]) s = ⟨i,false,[],none⟩:=by
 rw [rch_nil rfl]
 unfold markV
 simp only [pm834]
 rfl
theorem bslB {t e:TypeId} {z b:Nat} {ag:Bool} (h:SlTy t e z ag b) (hm:2 * z≤2 ^ 24) {v w:AV} (hv:v.cells.length = z) (ho:v.cells.all AV.one = true) (hv':w.cells.length = z) (ho':w.cells.all AV.one = true):bsl t 2 [(0,v),(1,w)] = some (.sl true [v,w]):=by
 have h4:=h.zr
 cases hz:zero Tryz.ty e with
 | none=>rw [hz] at h4; cases h4
 | some zv =>
  rw [hz] at h4
  simp only [Option.map_some,Option.some.injEq] at h4
  simp [buildSl,h.u,h.l,hz,h4,h.pos,hm,setParts,hv,ho,hv',ho']
theorem bslT {t e:TypeId} {z b:Nat} {ag:Bool} (h:SlTy t e z ag b) (hm:3 * z≤2 ^ 24) {v w u:AV} (hv:v.cells.length = z) (ho:v.cells.all AV.one = true) (hv':w.cells.length = z) (ho':w.cells.all AV.one = true) (hu:u.cells.length = z) (hu':u.cells.all AV.one = true):bsl t 3 [(0,v),(1,w),(2,u)] = some (.sl true [v,w,u]):=by
 have h4:=h.zr
 cases hz:zero Tryz.ty e with
 | none=>rw [hz] at h4; cases h4
 | some zv =>
  rw [hz] at h4
  simp only [Option.map_some,Option.some.injEq] at h4
  simp [buildSl,h.u,h.l,hz,h4,h.pos,hm,setParts,hv,ho,hv',ho',hu,hu']
def lstX (l:List AV):AV:=.agg [.bool true,.int .i64 0,.str [],.int .i64 0,.int .i64 0,.sl true l]
theorem bldX (l:List AV):bld 33 [(0,.bool true),(3,.sl true l)] = some (lstX l):=by rw [bf33]; rfl
theorem lstX_len (l:List AV):(lstX l).cells.length = 6:=rfl
theorem lstX_ones (l:List AV):(lstX l).cells.all AV.one = true:=rfl
def letX (nm:List UInt8) (b x:Sx):AV:=lstX [(atomS letW).av,lstX [lstX [(atomS nm).av,b.av]],x.av]
theorem purX {k:Nat} {s:St} {l:List AV} {l':List AV} (h:purL (pur Tryz.env.P s k) l = some (l',[])):pur Tryz.env.P s (k + 2) (lstX l) = some (.agg [.bool true,.int .i64 0,.str [],.int .i64 0,.int .i64 0,.sl false l'],[]):=by
 have hc:(lstX l).closed = false:=by simp [lstX,AV.closed,closedL]
 have hs:(AV.sl true l).closed = false:=by simp [AV.closed]
 unfold pur
 rw [hc]
 simp only [lstX,Bool.false_eq_true,if_false,purL]
 have e:∀ v:AV,v.closed = true→pur Tryz.env.P s (k + 1) v = some (v,[]):=fun v h=>pur_closed (k + 1) h
 have e2:pur Tryz.env.P s (k + 1) (.sl true l) = some (.sl false l',[]):=by
  unfold pur
  rw [hs]
  simp only [Bool.false_eq_true,if_false,h,Option.map_some]
 rw [e _ rfl,e _ rfl,e _ rfl,e2]
 rfl
theorem pur_let (nm:List UInt8) (b x:Sx) (s:St):pur Tryz.env.P s 12 (letX nm b x) = some ((listS [atomS letW,listS [listS [atomS nm,b]],x]).av,[]):=by
 have e:∀ (k:Nat) (v:AV),v.closed = true→pur Tryz.env.P s k v = some (v,[]):=fun k v h=>pur_closed k h
 have a1:purL (pur Tryz.env.P s 6) [(atomS nm).av,b.av] = some ([(atomS nm).av,b.av],[]):=by
  simp only [purL,e _ _ (sx_closed _),List.append_nil]
 have a2:purL (pur Tryz.env.P s 8) [lstX [(atomS nm).av,b.av]] = some ([(listS [atomS nm,b]).av],[]):=by
  simp only [purL,purX a1,List.append_nil]
  rfl
 have a3:purL (pur Tryz.env.P s 10) [(atomS letW).av,lstX [lstX [(atomS nm).av,b.av]],x.av] = some ([(atomS letW).av,(listS [listS [atomS nm,b]]).av,x.av],[]):=by
  simp only [purL,purX a2,e _ _ (sx_closed _),List.append_nil]
  rfl
 rw [letX,purX a3]
 rfl
theorem ids_let (nm:List UInt8) (b x:Sx):idsOf (letX nm b x) = []:=by
 have e:∀ x:Sx,idsOf x.av = []:=fun x=>by
  have h:=idsL_closed (l:=[x.av]) (by simp only [closedL,sx_closed,Bool.and_self])
  simpa only [idsL,List.append_nil] using h
 simp only [letX,lstX,idsOf,idsL,e,List.append_nil]
theorem ids_dcs (L:List Dc):idsL (L.map Dc.av) = []:=idsL_closed (closedL_map _ _ dc_closed)
theorem let_fit {nm:List UInt8} {b x:Sx} (hnm:nm.length≤2 ^ 30) (hb:b.fit) (hx:x.fit):(listS [atomS letW,listS [listS [atomS nm,b]],x]).fit:=by
 have z:i64 0:=⟨by decide,by decide⟩
 have a:∀ t:List UInt8,t.length≤2 ^ 30→(atomS t).fit:=fun t h=>⟨⟨by decide,by decide⟩,h,by simp,trivial⟩
 have l:∀ l:List Sx,l.length≤3→Sx.fits l→(listS l).fit:=fun l h1 h2=>⟨z,by simp,by omega,h2⟩
 exact l _ (by simp) ⟨a _ (by decide),l _ (by simp) ⟨l _ (by simp) ⟨a _ hnm,hb,trivial⟩,trivial⟩,hx,trivial⟩
theorem let_wt (nm:List UInt8) (b x:Sx):(listS [atomS letW,listS [listS [atomS nm,b]],x]).wt = b.wt + x.wt + 5:=by
 simp only [listS,atomS,Sx.wt,Sx.wts]; omega
theorem repl_ex0 (nm:List UInt8) (b x:Sx):extr (replR nm b x) 0 = some ((replM nm b x).getD x).av:=rfl
theorem repl_ex1 (nm:List UInt8) (b x:Sx):extr (replR nm b x) 1 = some (.bool (replM nm b x).isSome):=rfl
theorem sx_part6 (x:Sx):Ai.part 6 true 0 x.av.cells = some x.av:=sx_part x
theorem res_tf {nm:List UInt8} (h:reservedM nm = false):(nm == trueW || nm == falseW) = false:=by
 cases h1:(nm == trueW || nm == falseW) with
 | false=>rfl
 | true =>
  simp only [Bool.or_eq_true,beq_iff_eq] at h1
  rcases h1 with rfl | rfl
  ·have:reservedM trueW = true:=by decide
   rw [this] at h; cases h
  ·have:reservedM falseW = true:=by decide
   rw [this] at h; cases h
theorem c8 (L:List Dc) (nm:List UInt8) (b x:Sx) (hL:DcOk L) (hnm:nm.length≤2 ^ 30) (hbf:b.fit) (hbw:b.wt≤2 ^ 20) (hfit:x.fit) (hwt:x.wt≤2 ^ 20) (hlen:L.length≤maxLen) (hok:∀ d∈L,d.ok = true) (hbok:b.ok = true) (hxok:x.ok = true):∃ s',WideC Tryz.env 8 [.sl false (L.map Dc.av),.str nm,b.av,x.av] St.empty (.bool true) s':=by
 have h:=f8_run (.sl false (L.map Dc.av)) (.str nm) b.av x.av St.empty (Q:=fun r _=>r = .bool true) (by
  have hcl:(AV.sl false (L.map Dc.av)).closed = true:=dcs_closed L
  have hL60:L.length < 2 ^ 60:=by have:=hL.len; omega
  have mem2:∀ x:Sx,∀ y∈[AV.sl false (L.map Dc.av),x.av],y.closed = true:=fun x y hy=>by
   simp only [List.mem_cons,List.mem_nil_iff,or_false] at hy
   rcases hy with rfl | rfl
   ·exact hcl
   ·exact sx_closed x
  unfold f8
  refine ⟨sx_ones b,sx_ones x,?_⟩
  refine callPu awake10 (by simp) ?_
  simp only [sx_part,wx,wy,Nat.reduceAdd,Nat.reduceEqDiff,reduceCtorEq]
  refine callPu (few_c false L b hlen hok hbok) (mem2 b) ?_
  simp only [sx_part,wx,wy,Nat.reduceAdd,Nat.reduceEqDiff,reduceCtorEq]
  refine callPu (few_c false L x hlen hok hxok) (mem2 x) ?_
  cases few10 L b with
  | false=>simp only [wx,wy,Nat.reduceAdd,Nat.reduceEqDiff,reduceCtorEq]
  | true =>
  cases few10 L x with
  | false=>simp only [wx,wy,Nat.reduceAdd,Nat.reduceEqDiff,reduceCtorEq]
  | true =>
  simp only [wx,wy,Nat.reduceAdd,Nat.reduceEqDiff,reduceCtorEq]
  refine callPu (c24 nm) (by simp [AV.closed]) ?_
  show _
  cases hr:reservedM nm with
  | true =>
   unfold reservedM at hr
   simp only [hr,wx,wy,Nat.reduceAdd,Nat.reduceEqDiff,reduceCtorEq]
  | false =>
  have htf:=res_tf hr
  have hr0:=hr
  unfold reservedM at hr
  simp only [hr,sx_part,wx,wy,Nat.reduceAdd,Nat.reduceEqDiff,reduceCtorEq]
  refine callPu (c32 nm b x hfit) (by simp [AV.closed,sx_closed]) ?_
  have hz:(AV.agg [.bool false,.int .i64 0,.str [],.int .i64 0,.int .i64 0,.nils]).cells = [.bool false,.int .i64 0,.str [],.int .i64 0,.int .i64 0,.nils]:=rfl
  simp only [repl_ex0,repl_ex1,zf33,hz,wx,wy,Nat.reduceAdd,Nat.reduceEqDiff,reduceCtorEq]
  rw [sto_all (id:=St.empty.nx + 34) (z:=6) (c:=[.bool false,.int .i64 0,.str [],.int .i64 0,.int .i64 0,.nils]) (e:=33) (ex:=true) (v:=((replM nm b x).getD x).av) (by rw [adv_h]; exact st_same) rfl (sx_len _) (sx_ones _)]
  simp only [Bnd_some]
  cases hy:replM nm b x with
  | none=>simp only [Option.isSome_none,wx,wy,Nat.reduceAdd,Nat.reduceEqDiff,reduceCtorEq]
  | some y =>
  obtain ⟨yok,yfit,ywt⟩:=rep_fit nm b hbok hbf x y hxok hfit hy
  simp only [Option.isSome_some,Option.getD_some,st_same,sx_part,wx,wy,Nat.reduceAdd,Nat.reduceEqDiff,reduceCtorEq]
  refine callPu (size_c y yok) (by simp [sx_closed]) ?_
  cases hsz:decide (y.size > 4000) with
  | true=>simp only [hsz,wx,wy,Nat.reduceAdd,Nat.reduceEqDiff,reduceCtorEq]
  | false =>
  have hs4:y.wt≤4000:=size_small (Nat.le_trans ywt (Nat.le_trans (Nat.mul_le_mul hwt hbw) (by decide))) (by simpa using hsz)
  simp only [hsz,wx,wy,Nat.reduceAdd,Nat.reduceEqDiff,reduceCtorEq]
  refine callAtom nm ?_
  obtain ⟨S,hS⟩:∃ S,S = Ai.adv (((St.empty.set St.empty.nx (some (Blk.cells b.av.cells 33 true true))).set (St.empty.nx + 1) (some (Blk.cells x.av.cells 33 true true))).set (St.empty.nx + 34) (some (Blk.cells y.av.cells 33 true true))) 55:=⟨_,rfl⟩
  rw [← hS]
  have nS:S.nx = 55:=by rw [hS]; rfl
  have g0:S.h St.empty.nx = some (.cells b.av.cells 33 true true):=by rw [hS,adv_h,st_other (by decide),st_other (by decide),st_same]
  have g1:S.h (St.empty.nx + 1) = some (.cells x.av.cells 33 true true):=by rw [hS,adv_h,st_other (by decide),st_same]
  have g34:S.h (St.empty.nx + 34) = some (.cells y.av.cells 33 true true):=by rw [hS,adv_h,st_same]
  have gn:∀ j,j≠St.empty.nx→j≠St.empty.nx + 1→j≠St.empty.nx + 34→S.h j = none:=fun j h1 h2 h3=>by
   rw [hS,adv_h,st_other h3,st_other h2,st_other h1]; rfl
  have e1:bsl 31 2 [(0,(atomS nm).av),(1,b.av)] = some (.sl true [(atomS nm).av,b.av]):=bslB tf31 (by decide) (sx_len _) (sx_ones _) (sx_len _) (sx_ones _)
  have e2:bsl 31 1 [(0,lstX [(atomS nm).av,b.av])] = some (.sl true [lstX [(atomS nm).av,b.av]]):=bsl_one tf31 (by decide) rfl rfl
  have hb58:bld 58 [] = some (.agg [.nils,.nilm,.nils]):=by rw [bf58]; rfl
  have hc0:(AV.agg [AV.nils,AV.nilm,AV.nils]).cells = [.nils,.nilm,.nils]:=rfl
  simp only [mark34,g0,sx_part6,e1,bldX,e2,hb58,hc0,wx,wy,Nat.reduceAdd,Nat.reduceEqDiff,reduceCtorEq]
  refine ⟨rfl,rfl,gn _ (by decide) (by decide) (by decide),gn _ (by decide) (by decide) (by decide),?_⟩
  rw [sto_all (id:=St.empty.nx + 53) (z:=6) (c:=[.bool false,.int .i64 0,.str [],.int .i64 0,.int .i64 0,.nils]) (e:=33) (ex:=true) (v:=lstX [lstX [(atomS nm).av,b.av]]) st_same rfl (lstX_len _) (lstX_ones _)]
  simp only [Bnd_some,wx,wy,Nat.reduceAdd,Nat.reduceEqDiff,reduceCtorEq]
  have hne:¬ (St.empty.nx = S.nx + 1):=by rw [nS]; decide
  refine ⟨rfl,?_⟩
  simp only [hne,if_false,g0,sx_part6,wx,wy,Nat.reduceAdd,Nat.reduceEqDiff,reduceCtorEq]
  obtain ⟨S1,hS1⟩:∃ S1,S1 = Ai.adv ((S.set (St.empty.nx + 53) (some (Blk.cells (lstX [lstX [(atomS nm).av,b.av]]).cells 33 true true))).set (S.nx + 1) (some (Blk.cells [AV.nils,AV.nilm,AV.nils] 58 true true))) 12:=⟨_,rfl⟩
  rw [← hS1]
  have n0:St.empty.nx = 0:=rfl
  have nS1:S1.nx = 67:=by rw [hS1]; show S.nx + 12 = 67; omega
  have k56:S1.h (S.nx + 1) = some (.cells [.nils,.nilm,.nils] 58 true true):=by rw [hS1,adv_h,st_same]
  have kk:∀ j,j≠S.nx + 1→j≠St.empty.nx + 53→S1.h j = S.h j:=fun j a1 a2=>by rw [hS1,adv_h,st_other a1,st_other a2]
  have k53:S1.h (St.empty.nx + 53) = some (.cells (lstX [lstX [(atomS nm).av,b.av]]).cells 33 true true):=by rw [hS1,adv_h,st_other (by omega),st_same]
  have fr:Fresh S1:=fun j hj=>by rw [kk j (by omega) (by omega)]; exact gn j (by omega) (by omega) (by omega)
  have hB0:BkR S1 (S.nx + 1) [] [S.nx + 1]:=⟨.nils,.nilm,.nils,⟨k56,gw_nil,.inl ⟨rfl,rfl⟩,gw_nil,by simp [idOf],fun n h=>(by cases h),by decide⟩,rfl⟩
  obtain ⟨n1,⟨r,B1,M1⟩,h1⟩:=T_tot psM true L [] b ([],[])
  obtain ⟨n2,⟨u,B2,M2⟩,h2⟩:=T_tot psM true L [] (listS [atomS letW,listS [listS [atomS nm,b]],x]) (B1,[])
  obtain ⟨n3,⟨v,B3,M3⟩,h3⟩:=T_tot psM true L [] y (B2,[])
  obtain ⟨t1,t2⟩:=lets_law psM ckey_ok hL60 hr0 htf hy h1 h2 h3
  have w1:Wf B1:=by
   have u1:=T_plain psM ckey_ok (B:=[]) hL60 wf_nil (fun p hp=>by cases hp) h1
   exact (U_step psM wf_nil (fun p hp=>by cases hp) u1).2.1
  have w2:Wf B2:=by
   have u1:=T_plain psM ckey_ok hL60 w1 (fun p hp=>by cases hp) h2
   exact (U_step psM w1 (fun p hp=>by cases hp) u1).2.1
  refine BkW.callS0 (Term_c parse_ok fr hB0 wf_nil hL b hbf (by omega) h1) fz30 (seal30 _ _ L b) fun s1 hs1=>?_
  obtain ⟨F1,m1,m2,m3⟩:=hs1
  have o:∀ j,j < S1.nx→j≠S.nx + 1→s1.h j = S1.h j:=fun j a1 a2=>m2.h j a1 (by simpa using a2)
  have o53:s1.h (St.empty.nx + 53) = some (.cells (lstX [lstX [(atomS nm).av,b.av]]).cells 33 true true):=by rw [o _ (by omega) (by omega),k53]
  have o1:s1.h (St.empty.nx + 1) = some (.cells x.av.cells 33 true true):=by rw [o _ (by omega) (by omega),kk _ (by omega) (by omega),g1]
  have o34:s1.h (St.empty.nx + 34) = some (.cells y.av.cells 33 true true):=by rw [o _ (by omega) (by omega),kk _ (by omega) (by omega),g34]
  simp only [ex0,ex1,wx,wy,Nat.reduceAdd,Nat.reduceEqDiff,reduceCtorEq]
  obtain ⟨rv,re⟩:=r
  by_cases he:re = 0
  case neg =>
   have e1:rv = 0:=t1 he
   subst e1
   have k0:(re != 0) = true:=by simpa using he
   have k00:((0:Int) == 0) = true:=rfl
   simp only [k0,k00,wx,wy,Nat.reduceAdd,Nat.reduceEqDiff,reduceCtorEq]
  case pos =>
  have t2:u = v:=t2 he
  subst t2 he
  have k0:((0:Int) != 0) = false:=rfl
  simp only [k0,wx,wy,Nat.reduceAdd,Nat.reduceEqDiff,reduceCtorEq]
  refine callAtom _ ?_
  have hp53:Ai.part 6 true 0 (lstX [lstX [(atomS nm).av,b.av]]).cells = some (lstX [lstX [(atomS nm).av,b.av]]):=rfl
  have e3:bsl 31 3 [(0,(atomS [108,101,116]).av),(1,lstX [lstX [(atomS nm).av,b.av]]),(2,x.av)] = some (.sl true [(atomS [108,101,116]).av,lstX [lstX [(atomS nm).av,b.av]],x.av]):=bslT tf31 (by decide) (sx_len _) (sx_ones _) (lstX_len _) (lstX_ones _) (sx_len _) (sx_ones _)
  simp only [mark34,adv_h,o53,o1,hp53,sx_part6,e3,bldX,wx,wy,Nat.reduceAdd,Nat.reduceEqDiff,reduceCtorEq]
  refine ⟨rfl,rfl,?_⟩
  have hlx:lstX [(atomS [108,101,116]).av,lstX [lstX [(atomS nm).av,b.av]],x.av] = letX nm b x:=rfl
  rw [hlx]
  have m1':=m1.adv (n:=16)
  refine BkW.callDS fz30 m2.fr.adv m1' rfl (by simp only [idsL,idsOf,ids_let,ids_dcs]; rfl) (fun s=>seal30p (pur_cl (dcs_closed L) s) (pur_let nm b x s)) (fun s f h=>Term_c parse_ok f h w1 hL _ (let_fit hnm hbf hfit) (by rw [let_wt]; omega) h2) fun s2 hs2=>?_
  obtain ⟨F2,p1,p2,p3⟩:=hs2
  have q34:s2.h (St.empty.nx + 34) = some (.cells y.av.cells 33 true true):=by
   have hn:St.empty.nx + 34 ∉ F1:=fun h=>by
    rcases m3 _ h with h | h
    ·simp at h; omega
    ·omega
   rw [p2.h _ (by have:=m2.nx; simp only [adv_nx]; omega) hn,adv_h,o34]
  simp only [ex0,ex1,q34,sx_part6,wx,wy,Nat.reduceAdd,Nat.reduceEqDiff,reduceCtorEq]
  refine BkW.callS0 (Term_c parse_ok p2.fr.adv p1.adv w2 hL y yfit (by omega) h3) fz30 (seal30 _ _ L y) fun s3 hs3=>?_
  obtain ⟨uv,ue⟩:=u
  have kvv:(uv == uv) = true:=by simp
  have kee:(ue == ue) = true:=by simp
  simp only [ex0,ex1,kvv,kee,wx,wy,Nat.reduceAdd,Nat.reduceEqDiff,reduceCtorEq])
 obtain ⟨r,s',h1,h2⟩:=h
 subst h2
 exact ⟨s',h1⟩
end
noncomputable section
structure Cl:Type where
 kind:Int
 n:Int
 d:Dc
 x:Sx
def Cl.av (c:Cl):AV:=.agg (.int .i64 c.kind :: .int .i64 c.n :: (c.d.av.cells ++ c.x.av.cells))
def Cl.ok (c:Cl):Bool:=isInt c.kind && isInt c.n && c.d.ok && c.x.ok
end
noncomputable section
section
variable {H:Type}
theorem fields67:fieldTys Tryz.ty 67 = some [9,3,4,65,33]:=by kernel_rfl
theorem fields151:fieldTys Tryz.ty 151 = some [9,3]:=by kernel_rfl
theorem pm_of (n:Nat) (d:DataW H) (h:TyD Tryz.ty n 151 d):∃ p:List UInt8 × Int,dAV d = pmA p:=by
 obtain ⟨m,l,rfl,rfl,hl,hf⟩:=h.struct fields151
 match l,hl with
 | [d0,d1],_ =>
 obtain ⟨x,rfl,_⟩:=(hf 0 9 d0 rfl rfl).str (by kernel_rfl)
 obtain ⟨a,rfl,_⟩:=(hf 1 3 d1 rfl rfl).int (k:=.i64) (by kernel_rfl)
 exact ⟨(x,a),rfl⟩
theorem list_of {α:Type} {f:α→AV} {p:DataW H→Prop} (h:∀ d,p d→∃ a,dAV d = f a) (l:List (DataW H)) (hl:∀ d∈l,p d):∃ bs:List α,dAVs l = bs.map f∧bs.length = l.length:=by
 induction l with
 | nil=>exact ⟨[],rfl,rfl⟩
 | cons d l ih =>
  obtain ⟨a,ha⟩:=h d (hl d (List.mem_cons_self ..))
  obtain ⟨bs,h1,h2⟩:=ih fun x hx=>hl x (List.mem_cons_of_mem _ hx)
  exact ⟨a :: bs,by simp only [dAVs,ha,h1,List.map_cons],by simp [h2]⟩
end
end
noncomputable section
mutual
def Sx.bk:Sx→Nat
 | .mk _ _ t _ _ items=>1 + t.length + Sx.bks items
def Sx.bks:List Sx→Nat
 | []=>0
 | s :: l=>s.bk + Sx.bks l
end
section
variable {H:Type}
theorem list2 {T:Ty} {e t:TypeId} {n:Nat} {d:DataW H} (h:elemTy T t = some e) (hd:TyD T n t d):∃ (m:Nat) (l:List (DataW H)),n = m + 1∧dAV d = .sl false (dAVs l)∧l.length≤maxLen∧(∀ x∈l,TyD T m e x)∧Rows.uptoBulkAll l≤Rows.uptoBulk d:=by
 cases n with
 | zero=>exact hd.elim
 | succ m =>
  unfold elemTy at h
  unfold TyD at hd
  split at h
  ·rename_i hu
   rw [hu] at hd; cases h
   rcases hd with rfl | ⟨l,r,rfl,h1,h2⟩
   ·exact ⟨m,[],rfl,rfl,by simp,(fun _ h=>by cases h),by simp [Rows.uptoBulkAll]⟩
   ·exact ⟨m,l,rfl,rfl,h1,h2,by simp only [Rows.uptoBulk]; omega⟩
  ·cases h
theorem sx_bulk:∀ (n:Nat) (d:DataW H),TyD Tryz.ty n 33 d→∃ s:Sx,dAV d = s.av∧s.ok = true∧s.bk≤Rows.uptoBulk d:=by
 intro n
 induction n using Nat.strongRecOn with
 | ind n ih =>
 intro d hd
 obtain ⟨m,l,rfl,rfl,hl,hf⟩:=hd.struct fields33
 match l,hl with
 | [d0,d1,d2,d3],_ =>
 obtain ⟨b,rfl⟩:=(hf 0 4 d0 rfl rfl).bool (by kernel_rfl)
 obtain ⟨m1,l1,rfl,rfl,hl1,hf1⟩:=(hf 1 30 d1 rfl rfl).struct fields30
 obtain ⟨a,rfl,ha⟩:=(hf 2 3 d2 rfl rfl).int (k:=.i64) (by kernel_rfl)
 obtain ⟨m2,its,hm,hv,hlen,hel,hbk⟩:=list2 (e:=33) (by kernel_rfl) (hf 3 31 d3 rfl rfl)
 match l1,hl1 with
 | [e0,e1,e2],_ =>
 obtain ⟨k,rfl,hk⟩:=(hf1 0 3 e0 rfl rfl).int (k:=.i64) (by kernel_rfl)
 obtain ⟨x,rfl,hx⟩:=(hf1 1 9 e1 rfl rfl).str (by kernel_rfl)
 obtain ⟨p,rfl,hp⟩:=(hf1 2 3 e2 rfl rfl).int (k:=.i64) (by kernel_rfl)
 have:∀ l:List (DataW H),(∀ x∈l,TyD Tryz.ty m2 33 x)→∃ is:List Sx,dAVs l = Sx.avs is∧is.length = l.length∧Sx.oks is = true∧Sx.bks is≤Rows.uptoBulkAll l:=by
  intro l
  induction l with
  | nil=>intro _; exact ⟨[],rfl,rfl,rfl,Nat.le_refl _⟩
  | cons y l ihl =>
   intro hy
   obtain ⟨s,hs,ho,hb⟩:=ih m2 (by omega) y (hy y (List.mem_cons_self ..))
   obtain ⟨is,h1,h2,h3,h4⟩:=ihl fun x hx=>hy x (List.mem_cons_of_mem _ hx)
   exact ⟨s :: is,by simp only [dAVs,Sx.avs,hs,h1],by simp [h2],by simp only [Sx.oks,ho,h3,Bool.and_self],by simp only [Sx.bks,Rows.uptoBulkAll]; omega⟩
 obtain ⟨is,h1,h2,h3,h4⟩:=this its hel
 refine ⟨.mk b k x p a is,?_,?_,?_⟩
 ·simp only [dAV,dAVc,AV.cells,hv,List.cons_append,List.nil_append,List.append_nil,Sx.av,h1]
 ·simp only [Sx.ok,isInt,hk,hx,hp,ha,h2,hlen,h3,decide_true,Bool.and_self]
 ·simp only [Sx.bk,Rows.uptoBulk,Rows.uptoBulkAll]; omega
def Dc.bk (d:Dc):Nat:=d.ps.length + d.nm.length + d.body.bk + 1
theorem pm_bulk (n:Nat) (d:DataW H) (h:TyD Tryz.ty n 151 d):1≤Rows.uptoBulk d:=by
 obtain ⟨m,l,rfl,rfl,hl,hf⟩:=h.struct fields151
 simp only [Rows.uptoBulk]; omega
theorem dc_bulk (n:Nat) (d:DataW H) (h:TyD Tryz.ty n 67 d):∃ c:Dc,dAV d = c.av∧c.ok = true∧c.bk≤Rows.uptoBulk d:=by
 obtain ⟨m,l,rfl,rfl,hl,hf⟩:=h.struct fields67
 match l,hl with
 | [d0,d1,d2,d3,d4],_ =>
 obtain ⟨x,rfl,hx⟩:=(hf 0 9 d0 rfl rfl).str (by kernel_rfl)
 obtain ⟨a,rfl,ha⟩:=(hf 1 3 d1 rfl rfl).int (k:=.i64) (by kernel_rfl)
 obtain ⟨b,rfl⟩:=(hf 2 4 d2 rfl rfl).bool (by kernel_rfl)
 obtain ⟨m2,its,hm,hv,hlen,hel,hbk⟩:=list2 (e:=151) (by kernel_rfl) (hf 3 65 d3 rfl rfl)
 obtain ⟨s,hs,ho,hb⟩:=sx_bulk m d4 (hf 4 33 d4 rfl rfl)
 obtain ⟨ps,h1,h2⟩:=list_of (f:=pmA) (fun d h=>pm_of m2 d h) its hel
 have hlb:∀ l:List (DataW H),(∀ x∈l,TyD Tryz.ty m2 151 x)→l.length≤Rows.uptoBulkAll l:=by
  intro l
  induction l with
  | nil=>intro _; exact Nat.le_refl _
  | cons y l ihl =>
   intro hy
   have h1:=pm_bulk m2 y (hy y (List.mem_cons_self ..))
   have h2:=ihl fun x hx=>hy x (List.mem_cons_of_mem _ hx)
   simp only [List.length_cons,Rows.uptoBulkAll]; omega
 have hlb:=hlb its hel
 refine ⟨⟨x,a,b,ps,s⟩,?_,?_,?_⟩
 ·simp only [dAV,dAVc,AV.cells,hv,h1,hs,List.cons_append,List.nil_append,List.append_nil]
  rfl
 ·simp only [Dc.ok,isInt,hx,ha,h2,hlen,ho,decide_true,Bool.and_self]
 ·simp only [Dc.bk,Rows.uptoBulk,Rows.uptoBulkAll]; omega
theorem dcs_bulk (n:Nat) (d:DataW H) (h:TyD Tryz.ty n 49 d):∃ L:List Dc,dAV d = .sl false (L.map Dc.av)∧L.length≤maxLen∧(∀ c∈L,c.ok = true)∧(∀ c∈L,c.bk≤Rows.uptoBulk d)∧L.length≤Rows.uptoBulk d:=by
 obtain ⟨m,its,hm,hv,hlen,hel,hbk⟩:=list2 (e:=67) (by kernel_rfl) h
 have:∀ l:List (DataW H),(∀ x∈l,TyD Tryz.ty m 67 x)→∃ L:List Dc,dAVs l = L.map Dc.av∧L.length = l.length∧(∀ c∈L,c.ok = true)∧(∀ c∈L,c.bk≤Rows.uptoBulkAll l)∧L.length≤Rows.uptoBulkAll l:=by
  intro l
  induction l with
  | nil=>intro _; exact ⟨[],rfl,rfl,(fun _ h=>by cases h),(fun _ h=>by cases h),Nat.le_refl _⟩
  | cons y l ihl =>
   intro hy
   obtain ⟨c,hc,ho,hb⟩:=dc_bulk m y (hy y (List.mem_cons_self ..))
   obtain ⟨L,h1,h2,h3,h4,h5⟩:=ihl fun x hx=>hy x (List.mem_cons_of_mem _ hx)
   refine ⟨c :: L,by simp only [dAVs,hc,h1,List.map_cons],by simp [h2],?_,?_,?_⟩
   ·intro x hx; rcases List.mem_cons.1 hx with rfl | hx
    ·exact ho
    ·exact h3 x hx
   ·intro x hx; simp only [Rows.uptoBulkAll]; rcases List.mem_cons.1 hx with rfl | hx
    ·omega
    ·have:=h4 x hx; omega
   ·have:1≤c.bk:=by unfold Dc.bk; omega
    simp only [List.length_cons,Rows.uptoBulkAll]; omega
 obtain ⟨L,h1,h2,h3,h4,h5⟩:=this its hel
 exact ⟨L,by rw [hv,h1],by omega,h3,fun c hc=>Nat.le_trans (h4 c hc) hbk,by omega⟩
end
mutual
theorem bk_fit:∀ (s:Sx),s.ok = true→s.bk≤2 ^ 20→s.fit∧s.wt≤s.bk
 | .mk b k x p a items,ho,h=>by
  simp only [Sx.bk] at h
  simp only [Sx.ok,isInt,Bool.and_eq_true,decide_eq_true_eq] at ho
  obtain ⟨f1,f2,f3⟩:=bks_fit items ho.2 (by omega)
  refine ⟨⟨?_,by omega,by omega,f1⟩,?_⟩
  ·have h1:=ho.1.1.1.1.1
   simp only [Lit.wf,Bool.and_eq_true,decide_eq_true_eq] at h1
   exact h1
  ·simp only [Sx.wt,Sx.bk]; omega
theorem bks_fit:∀ (l:List Sx),Sx.oks l = true→Sx.bks l≤2 ^ 20→Sx.fits l∧Sx.wts l≤Sx.bks l∧l.length≤Sx.bks l
 | [],_,_=>⟨trivial,Nat.le_refl _,Nat.le_refl _⟩
 | s :: l,ho,h=>by
  simp only [Sx.bks] at h
  simp only [Sx.oks,Bool.and_eq_true] at ho
  obtain ⟨f1,f2⟩:=bk_fit s ho.1 (by omega)
  obtain ⟨g1,g2,g3⟩:=bks_fit l ho.2 (by omega)
  have hp:1≤s.bk:=by cases s; simp only [Sx.bk]; omega
  exact ⟨⟨f1,g1⟩,by simp only [Sx.wts,Sx.bks]; omega,by simp only [List.length_cons,Sx.bks]; omega⟩
end
theorem dcs_ok {L:List Dc} {b:Nat} (hb:b≤2 ^ 20) (ho:∀ c∈L,c.ok = true) (h:∀ c∈L,c.bk≤b) (hl:L.length≤b):DcOk L:=by
 have hf:∀ d∈L,d.body.fit∧d.body.wt≤d.body.bk:=fun d hd=>bk_fit d.body (by have:=ho d hd; simp only [Dc.ok,Bool.and_eq_true] at this; exact this.2) (by have:=h d hd; unfold Dc.bk at this; omega)
 exact ⟨by omega,fun d hd=>(hf d hd).1,fun d hd=>by have:=(hf d hd).2; have:=h d hd; unfold Dc.bk at this; omega,fun d hd=>by have:=h d hd; unfold Dc.bk at this; omega⟩
end
end Go.Proofs.YtdehdahimkcakaaGreatDoor
