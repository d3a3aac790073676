/- Texts joined by wip/tools/pack.py: Mu,Ar,Ap,Tw,Cl,Rd,Bk. -/
import Derived.Test.YtdehdahimkcakaaGreatDoorYr
set_option linter.unusedSimpArgs false
set_option linter.unusedVariables false
set_option maxHeartbeats 4000000
set_option maxRecDepth 100000
section
namespace Go.Proofs.YtdehdahimkcakaaGreatDoor
open Go Ai
def ParseC (ps:List UInt8→List Nat × Int):Prop:=∀ x:List UInt8,x.length≤2 ^ 30→PureC Tryz.env 127 [.str x] (.tup [nsA (ps x).1,.int .i64 (ps x).2])∧limbs (ps x).1∧(ps x).1.length≤2 ^ 20
theorem ptsGo_len:∀ (n:Nat) (x:List UInt8),(ptsGo n x).length≤n:=by
 intro n
 induction n with
 | zero=>intro x; exact Nat.le_refl _
 | succ n ih =>
  intro x
  unfold ptsGo
  cases x with
  | nil=>simp
  | cons c r =>
   simp only
   cases decide ((escM (c :: r)).1 < 0)
   ·simp only [cond_false,List.length_cons]; have:=ih ((c :: r).drop (escM (c :: r)).2.toNat); omega
   ·simp only [cond_true,List.length_cons]; have:=ih r; omega
theorem runGo_len:∀ (l:List Int) (out:List (Int × Int)),(runGo l out).1.length≤out.length + l.length:=by
 intro l
 induction l with
 | nil =>
  intro out
  unfold runGo
  cases decide ((out.length:Int) > 65536)
  ·exact Nat.le_refl _
  ·exact Nat.zero_le _
 | cons c l ih =>
  intro out
  unfold runGo
  cases point c
  ·exact Nat.zero_le _
  ·simp only [cond_true]
   have h1:=ih (stepRun out c)
   have h2:=stepRun_len out c
   simp only [List.length_cons]; omega
section
variable {s s':St} {p ib:Nat} {L:List Dc} {scs:List Ev} {σ:Sg} {F:List Nat} {K:AV→St→Prop} {ps:List UInt8→List Nat × Int} {L0:List Dc} {n j:Nat} {σ':Sg}
theorem rt_ex (r:List (Int × Int) × Int):extr (rtA r) 0 = some (.sl false (r.1.map rnA))∧extr (rtA r) 1 = some (.int .i64 r.2):=⟨rfl,rfl⟩
theorem term_c (hps:ParseC ps) (hT:TermC ps n):TermC ps (n + 1):=by
 intro s p ib L0 j scs σ F x r σ' fr hR hok hL hfit hw hc
 have hc:termM ps true (T ps true n) (L0.take j) scs.flatten x σ = some (r,σ'):=hc
 have hF:=hR.lt fr
 have hp:=hF p hR.pin
 obtain ⟨xin,vs,jm,FB,c,rfl⟩:=hR
 have hR:MkR s p ib (L0.take j) scs σ (p :: jm :: (FB ++ inIds xin vs)):=⟨xin,vs,jm,FB,c,rfl⟩
 refine f75_run _ _ _ ?_
 unfold f75
 refine ⟨sx_ones x,?_⟩
 have heq3:∀ u v:Int,bn .eql 3 (.int .i64 u) (.int .i64 v) = some (.bool (u == v)):=fun _ _=>bin_eql
 have hne34:∀ u v:Int,bn .neq 34 (.int .i64 u) (.int .i64 v) = some (.bool (u != v)):=fun _ _=>bin_neq
 have same:∀ (S:St) (r0:Int × Int),EF [] s S→(some (r0,σ):Rt) = some (r,σ')→(res r0 = res r∧∃ F',MkQ s p ib (L0.take j) scs (p :: jm :: (FB ++ inIds xin vs)) σ' S F'):=fun S r0 e h=>by
  simp only [Option.some.injEq,Prod.mk.injEq] at h
  obtain ⟨rfl,rfl⟩:=h
  exact ⟨rfl,_,MkQ.same hR fr e⟩
 have bank:∀ (S s':St) (q:(Int × Int) × Bk),EF [] s S→bkS q σ.2 = some (r,σ')→BkQ S ib FB q.2 s'→(res q.1 = res r∧∃ F',MkQ s p ib (L0.take j) scs (p :: jm :: (FB ++ inIds xin vs)) σ' s' F'):=fun S s' q e h hb=>by
  simp only [bkS,Option.some.injEq,Prod.mk.injEq] at h
  obtain ⟨rfl,rfl⟩:=h
  exact ⟨rfl,bank_in c fr e hb⟩
 have e0:∀ (k:Nat),0 < k→EF [] s (Ai.adv (s.set s.nx (some (.cells x.av.cells 33 true true))) k):=fun k hk=>⟨by simp only [adv_nx,set_nx]; omega,fun b hb _=>by rw [adv_h,st_other (by omega)],fresh_set fr k (by omega)⟩
 have hpn:¬ (p = s.nx):=by omega
 have hx30:=fit_txt hfit
 unfold termM at hc
 simp only [sxc0,wx,wy,Nat.reduceAdd,Nat.reduceEqDiff,reduceCtorEq]
 cases hl:x.lst with
 | true =>
  rw [hl,cond_true] at hc
  simp only [sx_part,wx,wy,Nat.reduceAdd,Nat.reduceEqDiff,reduceCtorEq]
  obtain ⟨v,s1,t1,rfl,F1,t2⟩:=list_c hT hL (e0 12 (by omega)).fr (hR.ext fr (e0 12 (by omega))) hok x hfit hw hc
  refine callWiF fz126 ⟨_,s1,t1,?_⟩
  simp only [ex0,ex1,wx,wy,Nat.reduceAdd,Nat.reduceEqDiff,reduceCtorEq]
  exact ⟨rfl,F1,t2.from (e0 12 (by omega)) hp⟩
 | false =>
 rw [hl,cond_false] at hc
 simp only [sxc1,heq3,wx,wy,Nat.reduceAdd,Nat.reduceEqDiff,reduceCtorEq]
 cases h4:(x.kind == 4) with
 | true =>
  rw [h4,cond_true] at hc
  obtain ⟨p1,p2,p3⟩:=hps x.txt hx30
  simp only [sxc2,wx,wy,Nat.reduceAdd,Nat.reduceEqDiff,reduceCtorEq]
  refine callPu p1 (by simp [AV.closed]) ?_
  have x0:extr (.tup [nsA (ps x.txt).1,.int .i64 (ps x.txt).2]) 0 = some (nsA (ps x.txt).1):=rfl
  have x1:extr (.tup [nsA (ps x.txt).1,.int .i64 (ps x.txt).2]) 1 = some (.int .i64 (ps x.txt).2):=rfl
  cases he:((ps x.txt).2 != 0) with
  | true =>
   rw [he,cond_true] at hc
   simp only [x0,x1,hne34,he,wx,wy,Nat.reduceAdd,Nat.reduceEqDiff,reduceCtorEq]
   exact same _ (0,101) (e0 _ (by omega)) hc
  | false =>
   rw [he,cond_false] at hc
   have hb24:bld 24 [(1,nsA (ps x.txt).1)] = some (wzA false (ps x.txt).1):=by rw [bf24]; rfl
   simp only [x0,x1,hne34,he,wx,wy,Nat.reduceAdd,Nat.reduceEqDiff,reduceCtorEq]
   refine ⟨rfl,?_⟩
   simp only [hpn,c.cell,hb24,if_false,wx,wy,Nat.reduceAdd,Nat.reduceEqDiff,reduceCtorEq]
   refine (num_w (e0 _ (by omega)).fr (c.ext fr (e0 _ (by omega))).bank false _ p2 p3).call fz79 fun s1 hs=>?_
   simp only [ex0,ex1,wx,wy,Nat.reduceAdd,Nat.reduceEqDiff,reduceCtorEq]
   exact bank _ _ _ (e0 _ (by omega)) hc hs
 | false =>
 rw [h4,cond_false] at hc
 cases h6:(x.kind == 6) with
 | true =>
  rw [h6,cond_true] at hc
  have hpl:=ptsGo_len x.txt.length x.txt
  have hpl:(ptsM x.txt).length≤2 ^ 30:=Nat.le_trans hpl hx30
  have hrl:=runGo_len (ptsM x.txt) []
  simp only [List.length_nil] at hrl
  simp only [heq3,h6,sxc2,wx,wy,Nat.reduceAdd,Nat.reduceEqDiff,reduceCtorEq]
  refine callPu (c129 x.txt hx30) (by simp [AV.closed]) ?_
  refine callPu (c128 (ptsM x.txt) hpl) (by simp [sla_closed]) ?_
  simp only [(rt_ex (runGo (ptsM x.txt) [])).1,(rt_ex (runGo (ptsM x.txt) [])).2,wx,wy,Nat.reduceAdd,Nat.reduceEqDiff,reduceCtorEq]
  refine ⟨rfl,?_⟩
  simp only [hpn,c.cell,if_false,wx,wy,Nat.reduceAdd,Nat.reduceEqDiff,reduceCtorEq]
  refine (str_w (e0 _ (by omega)).fr (c.ext fr (e0 _ (by omega))).bank _ (by omega)).call fz80 fun s1 hs=>?_
  simp only [ex0,ex1,wx,wy,Nat.reduceAdd,Nat.reduceEqDiff,reduceCtorEq]
  exact bank _ _ _ (e0 _ (by omega)) hc hs
 | false =>
 rw [h6,cond_false] at hc
 cases h3:(x.kind == 3) with
 | true =>
  rw [h3,cond_true] at hc
  simp only [heq3,h6,h3,sxc2,wx,wy,Nat.reduceAdd,Nat.reduceEqDiff,reduceCtorEq]
  obtain ⟨v,s1,t1,rfl,F1,t2⟩:=name_c hT hL (e0 23 (by omega)).fr (hR.ext fr (e0 23 (by omega))) hok (by omega) x.txt hc
  refine callWiF fz130 ⟨_,s1,t1,?_⟩
  simp only [ex0,ex1,wx,wy,Nat.reduceAdd,Nat.reduceEqDiff,reduceCtorEq]
  exact ⟨rfl,F1,t2.from (e0 23 (by omega)) hp⟩
 | false =>
  rw [h3,cond_false] at hc
  simp only [heq3,h6,h3,f75j1,wx,wy,Nat.reduceAdd,Nat.reduceEqDiff,reduceCtorEq]
  exact same _ (0,101) (e0 _ (by omega)) hc
theorem term_ok (hps:ParseC ps):∀ n,TermC ps n:=by
 intro n
 induction n with
 | zero=>intro s p ib L0 j scs σ F x r σ' _ _ _ _ _ _ hc; cases hc
 | succ n ih=>exact term_c hps ih
theorem Term_c (hps:ParseC ps) {B B':Bk} {M':Mm} (fr:Fresh s) (hB:BkR s ib B F) (hw:Wf B) (hL:DcOk L0) (x:Sx) (hfit:x.fit) (hwt:x.wt≤2 ^ 29) {r:Int × Int} {n:Nat} (hc:T ps true n L0 [] x (B,[]) = some (r,(B',M'))):BkW 30 [.ptr ib 0,.sl false (L0.map Dc.av),x.av] s ib F (r,B'):=by
 have hF:=hB.lt fr
 have hib:=hF ib hB.mem
 refine f30_run _ _ _ _ ?_
 unfold f30
 refine ⟨sx_ones x,?_⟩
 have hb:∀ k,bld 124 [(0,.ptr ib 0),(1,.sl false (L0.map Dc.av)),(3,.map k)] = some (.agg [.ptr ib 0,.sl false (L0.map Dc.av),.nils,.map k]):=fun k=>by rw [bf124]; rfl
 have hcl:∀ k,(AV.agg [.ptr ib 0,.sl false (L0.map Dc.av),.nils,.map k]).cells = [.ptr ib 0,.sl false (L0.map Dc.av),.nils,.map k]:=fun k=>rfl
 have hone:∀ k,([.ptr ib 0,.sl false (L0.map Dc.av),.nils,.map k]:List AV).all AV.one = true:=fun k=>rfl
 simp only [hb,hcl,hone,sx_part,wx,wy,Nat.reduceAdd,Nat.reduceEqDiff,reduceCtorEq]
 obtain ⟨S,hS⟩:∃ S,S = Ai.adv (((s.set s.nx (some (.cells x.av.cells 33 true true))).set (s.nx + 5) (some (.map []))).set (s.nx + 7) (some (.cells [.ptr ib 0,.sl false (L0.map Dc.av),.nils,.map (s.nx + 5)] 124 true true))) 16:=⟨_,rfl⟩
 rw [← hS]
 have nS:S.nx = s.nx + 16:=by rw [hS]; rfl
 have gS:∀ x,x < s.nx→S.h x = s.h x:=fun a ha=>by rw [hS,adv_h,st_other (by omega),st_other (by omega),st_other (by omega)]
 have eS:EF [] s S:=by
  refine ⟨by omega,fun a ha _=>gS a ha,fun a ha=>?_⟩
  rw [nS] at ha
  rw [hS,adv_h,st_other (by omega),st_other (by omega),st_other (by omega)]
  exact fr a (by omega)
 have hmk:MkR S (s.nx + 7) ib (L0.take L0.length) [] (B,[]) ((s.nx + 7) :: (s.nx + 5) :: (F ++ inIds .nils [])):=by
  refine ⟨.nils,[],s.nx + 5,F,⟨by rw [List.take_length,hS,adv_h,st_same],hB.keep fun a ha=>gS a (hF a ha),by rw [hS,adv_h,st_other (by omega),st_same]; rfl,.inl ⟨rfl,rfl⟩,trivial,by omega,fun h=>by have:=hF _ h; omega,fun h=>by have:=hF _ h; omega,fun a ha=>by cases ha⟩,rfl⟩
 have hok:StOk ps L0 ([]:List Ev).flatten (B,[]):=⟨hw,(fun q hq=>by cases hq),mval_nil ps L0 B⟩
 obtain ⟨v,s1,t1,rfl,F1,t2⟩:=term_ok hps n S (s.nx + 7) ib L0 L0.length [] (B,[]) _ x r (B',M') eS.fr hmk hok hL hfit (by simp only [List.length_nil]; omega) (by rw [List.take_length]; exact hc)
 refine callWiF fz75 ⟨_,s1,t1,?_⟩
 simp only [ex0,ex1,wx,wy,Nat.reduceAdd,Nat.reduceEqDiff,reduceCtorEq]
 refine ⟨rfl,?_⟩
 obtain ⟨⟨xin,vs,jm,FB,c,hF1⟩,e1,m1,_⟩:=t2
 have hsub:∀ a∈(s.nx + 7) :: (s.nx + 5) :: (F ++ inIds .nils []),a∈F∨s.nx≤a:=fun a ha=>by
  simp only [List.mem_cons,List.mem_append,inIds,idOf,List.flatMap_nil,List.append_nil,List.not_mem_nil,or_false] at ha
  rcases ha with rfl | rfl | ha
  ·exact .inr (by omega)
  ·exact .inr (by omega)
  ·exact .inl ha
 refine ⟨FB,c.bank,(eS.sub (M':=F) fun a ha=>by cases ha).trans e1 fun a ha=>(hsub a ha).symm,fun a ha=>?_⟩
 rcases m1 a (by rw [hF1]; simp [ha]) with h | h
 ·exact hsub a h
 ·exact .inr (by omega)
end
end Go.Proofs.YtdehdahimkcakaaGreatDoor
end
section
namespace Go.Proofs.YtdehdahimkcakaaGreatDoor
open Go Ai
def limV (v:Nat):List Nat:=if h:v = 0 then [] else v % 4294967296 :: limV (v / 4294967296)
termination_by v
decreasing_by omega
theorem limV_zero:limV 0 = []:=by unfold limV; rfl
theorem limV_pos {v:Nat} (h:v≠0):limV v = v % 4294967296 :: limV (v / 4294967296):=by rw [limV]; simp [h]
theorem val_limV:∀ v,val (limV v) = v:=by
 intro v
 induction v using Nat.strongRecOn with
 | ind v ih =>
  by_cases h:v = 0
  ·subst h; rw [limV_zero]; rfl
  ·rw [limV_pos h]
   simp only [val,ih _ (show v / 4294967296 < v by omega)]
   omega
theorem limV_limbs:∀ v,limbs (limV v):=by
 intro v
 induction v using Nat.strongRecOn with
 | ind v ih =>
  by_cases h:v = 0
  ·subst h; rw [limV_zero]; intro x hx; cases hx
  ·rw [limV_pos h]
   intro x hx
   rcases List.mem_cons.1 hx with rfl | hx
   ·rw [p32]; omega
   ·exact ih _ (show v / 4294967296 < v by omega) x hx
theorem limV_len:∀ (k v:Nat),v < pw k→(limV v).length≤k:=by
 intro k
 induction k with
 | zero =>
  intro v h
  rw [pw_zero] at h
  have:v = 0:=by omega
  subst this; rw [limV_zero]; simp
 | succ k ih =>
  intro v h
  by_cases h0:v = 0
  ·subst h0; rw [limV_zero]; simp
  ·rw [limV_pos h0]
   rw [pw_succ] at h
   have:=ih (v / 4294967296) (by omega)
   simp only [List.length_cons]; omega
def noT (l:List Nat):Prop:=l = []∨∃ x,l[l.length - 1]? = some x∧x≠0
theorem canon:∀ (l:List Nat),limbs l→noT l→l = limV (val l):=by
 intro l
 induction l with
 | nil=>intro _ _; simp only [val]; rw [limV_zero]
 | cons x l ih =>
  intro hl hn
  have hx:=hl x (List.mem_cons_self ..)
  rw [p32] at hx
  have hl':limbs l:=fun y hy=>hl y (List.mem_cons_of_mem _ hy)
  rcases hn with hn | ⟨y,hy,hy0⟩
  ·cases hn
  ·have hv:val (x :: l)≠0:=by
    simp only [val]
    cases l with
    | nil=>simp at hy; omega
    | cons z l =>
     have hn2:noT (z :: l):=.inr ⟨y,by simpa using hy,hy0⟩
     have:=ih hl' hn2
     intro h
     have h0:val (z :: l) = 0:=by omega
     rw [h0,limV_zero] at this
     cases this
   rw [limV_pos hv]
   simp only [val]
   have h1:(x + 4294967296 * val l) % 4294967296 = x:=by omega
   have h2:(x + 4294967296 * val l) / 4294967296 = val l:=by omega
   rw [h1,h2]
   congr 1
   refine ih hl' ?_
   cases l with
   | nil=>exact .inl rfl
   | cons z l=>exact .inr ⟨y,by simpa using hy,hy0⟩
theorem norm_lim {l:List Nat} (h:limbs l):normM l = limV (val l):=by
 have h1:=canon (normM l) (norm_limbs h) (by
  obtain ⟨_,h2⟩:=trim_spec l l.length (Nat.le_refl _)
  have hle:=trimN_le l l.length
  unfold normM
  rcases h2 with h2 | ⟨x,h2,h3⟩
  ·rw [h2]; exact .inl rfl
  ·by_cases h0:trimN l l.length = 0
   ·rw [h0]; exact .inl rfl
   ·right
    refine ⟨x,?_,h3⟩
    rw [List.length_take,Nat.min_eq_left hle,List.getElem?_take_of_lt (by omega)]
    exact h2)
 rw [val_norm] at h1
 exact h1
theorem val_set {l:List Nat} {k u:Nat} (v:Nat) (h:l[k]? = some u):val (l.set k v) + pw k * u = val l + pw k * v:=by
 induction l generalizing k with
 | nil=>simp at h
 | cons x l ih =>
  cases k with
  | zero=>simp at h; subst h; simp only [List.set_cons_zero,val,pw_zero]; omega
  | succ k =>
   simp only [List.getElem?_cons_succ] at h
   have:=ih h
   simp only [List.set_cons_succ,val,pw_succ]
   have e1:4294967296 * pw k * u = 4294967296 * (pw k * u):=Nat.mul_assoc ..
   have e2:4294967296 * pw k * v = 4294967296 * (pw k * v):=Nat.mul_assoc ..
   omega
theorem val_rep (n:Nat):val (List.replicate n 0) = 0:=by
 induction n with
 | zero=>rfl
 | succ n ih=>simp only [List.replicate_succ,val,ih]
def lb (a:List Nat) (i:Nat):Nat:=(a[i]?).getD 0
theorem lb_lt {a:List Nat} (h:limbs a) (i:Nat):lb a i < 2 ^ 32:=by
 unfold lb
 cases he:a[i]? with
 | none=>decide
 | some x=>exact h x (List.mem_of_getElem? he)
theorem val_take (a:List Nat) (i:Nat):val (a.take (i + 1)) = val (a.take i) + pw i * lb a i:=by
 unfold lb
 cases he:a[i]? with
 | none =>
  have:=List.getElem?_eq_none_iff.1 he
  rw [List.take_of_length_le (by omega),List.take_of_length_le this]; simp
 | some x =>
  have hlt:=(List.getElem?_eq_some_iff.1 he).1
  rw [List.take_add_one,he,val_append]
  simp only [List.length_take,Nat.min_eq_left (Nat.le_of_lt hlt),Option.toList,val,Option.getD_some,Nat.mul_zero,Nat.add_zero]
theorem pw_mono {i j:Nat} (h:i≤j):pw i≤pw j:=Nat.pow_le_pow_right (by decide) h
theorem c214 (a:List Nat) (i:Nat) (h:limbs a):PureC Tryz.env 214 [nsA a,.int .i64 i] (.int .u64 (lb a i)):=by
 refine pure_q (f214_run _ _ _ ?_)
 unfold f214
 have hg:∀ u v:Int,bn .geq 3 (.int .i64 u) (.int .i64 v) = some (.bool (decide (u ≥ v))):=fun _ _=>bin_geq
 simp only [nsA,ln22s,List.length_map,hg,wx,wy,Nat.reduceAdd,Nat.reduceEqDiff,reduceCtorEq]
 cases he:a[i]? with
 | none =>
  have:=List.getElem?_eq_none_iff.1 he
  have hd:decide ((i:Int) ≥ (a.length:Int)) = true:=decide_eq_true (by omega)
  simp only [hd,lb,he,Option.getD_none,wx,wy,Nat.reduceAdd,Nat.reduceEqDiff,reduceCtorEq]
  exact pureQ_closed rfl
 | some x =>
  have hlt:=(List.getElem?_eq_some_iff.1 he).1
  have hd:decide ((i:Int) ≥ (a.length:Int)) = false:=decide_eq_false (by omega)
  have hx:=h x (List.mem_of_getElem? he)
  rw [p32] at hx
  simp only [hd,ix_map encU false he,u3_0,cf211_159,lb,he,Option.getD_some,wx,wy,Nat.reduceAdd,Nat.reduceEqDiff,reduceCtorEq]
  rw [show IntKind.u64.wrap (x:Int) = (x:Int) from IntWalk.u64_in _ (by omega)]
  exact pureQ_closed rfl
theorem bn_shr64 (a:Nat):bn .shr 159 (.int .u64 (a:Int)) (.int .u64 32) = some (.int .u64 ((a / 4294967296:Nat):Int)):=by
 have h:bn .shr 159 (.int .u64 (a:Int)) (.int .u64 32) = some (.int .u64 ((a:Int).fdiv (2 ^ 32))):=bin_shr (n:=32) (by decide)
 rw [h]
 congr 2
 rw [Int.fdiv_eq_ediv_of_nonneg _ (by decide)]
 rfl
theorem wrap32 (a:Nat):IntKind.u32.wrap (a:Int) = ((a % 4294967296:Nat):Int):=by
 simp [IntKind.wrap,IntKind.bits,IntKind.signed]
 try omega
theorem l179 (a b:List Nat) (ha:limbs a) (hb:limbs b) (n:Nat) (hn:n≤2 ^ 31) (hla:a.length < n) (hlb:b.length < n) (Q:AV→St→Prop) (N c:Nat) (e':TypeId)
  (hQ:∀ (out:List Nat) s,limbs out→out.length = n→val out = val a + val b→s.h N = some (.cells (out.map u3A) e' true true)→f179j1 Q (.ref N 0 n (some c) 211) s) :
  ∀ (m i:Nat) (done:List Nat) (cy:Nat) (s:St),i + m = n→done.length = i→limbs done→cy≤1→val done + pw i * cy = val (a.take i) + val (b.take i)→s.h N = some (.cells ((done ++ List.replicate m 0).map u3A) e' true true) →
   f179l1 Q (m + 1) (nsA a) (nsA b) (.ref N 0 n (some c) 211) (.int .u64 cy) (.int .i64 n) (.int .i64 i) s:=by
 intro m
 induction m with
 | zero =>
  intro i done cy s hi hd hld hcy hv hs
  show f179l1s Q (f179l1 Q 0) _ _ _ _ _ _ s
  have c1:decide ((i:Int) < (n:Int)) = false:=by simp; omega
  rw [List.take_of_length_le (by omega),List.take_of_length_le (by omega)] at hv
  simp only [List.replicate_zero,List.append_nil] at hs
  have hcy0:cy = 0:=by
   have h1:=val_lt a ha
   have h2:=val_lt b hb
   have h3:pw a.length≤pw (n - 1):=pw_mono (by omega)
   have h4:pw b.length≤pw (n - 1):=pw_mono (by omega)
   have h5:pw n = 4294967296 * pw (n - 1):=by rw [← pw_succ]; congr 1; omega
   have hin:i = n:=by omega
   subst hin
   rcases Nat.eq_zero_or_pos cy with h | h
   ·exact h
   ·exfalso
    have:cy = 1:=by omega
    subst this
    have:=pw_pos (i - 1)
    omega
  simp only [f179l1s,c1,wx,wy,Nat.reduceAdd,Nat.reduceEqDiff,reduceCtorEq]
  refine hQ done _ hld (by omega) (by rw [← hv,hcy0]; simp) (by rw [adv_h]; exact hs)
 | succ m ih =>
  intro i done cy s hi hd hld hcy hv hs
  show f179l1s Q (f179l1 Q (m + 1)) _ _ _ _ _ _ s
  have c1:decide ((i:Int) < (n:Int)) = true:=by simp; omega
  have w1:IntKind.i64.wrap ((i:Int) + 1) = ((i + 1:Nat):Int):=wrap_i (n:=n) (by omega) (by omega)
  have la:=lb_lt ha i
  have lb':=lb_lt hb i
  rw [p32] at la lb'
  have hadd:∀ x y:Nat,x + y < 2 ^ 64→bn .add 159 (.int .u64 (x:Int)) (.int .u64 (y:Int)) = some (.int .u64 ((x + y:Nat):Int)):=fun x y h=>by
   have h1:bn .add 159 (.int .u64 (x:Int)) (.int .u64 (y:Int)) = some (.int .u64 (IntKind.u64.wrap ((x:Int) + (y:Int)))):=bin_add
   rw [h1,show IntKind.u64.wrap ((x:Int) + (y:Int)) = ((x + y:Nat):Int) by rw [IntWalk.u64_in _ (by omega)]; rfl]
  have hix:ixS 1 (.ref N 0 n (some c) 211) (.int .i64 (i:Int)) = some (.ptr N i):=ix_ref0 (by omega) .i64
  simp only [f179l1s,c1,wx,wy,Nat.reduceAdd,Nat.reduceEqDiff,reduceCtorEq]
  refine callPu (c214 a i ha) (by simp [ns_closed,AV.closed]) ?_
  refine callPu (c214 b i hb) (by simp [ns_closed,AV.closed]) ?_
  rw [hadd _ _ (by omega)]
  simp only [Bnd_some]
  rw [hadd _ _ (by omega)]
  simp only [cf159_211,wrap32,hix,bn_shr64,wx,wy,Nat.reduceAdd,Nat.reduceEqDiff,reduceCtorEq]
  obtain ⟨t,ht⟩:∃ t,t = cy + (lb a i + lb b i):=⟨_,rfl⟩
  rw [← ht]
  rw [sto_c (v:=.int .u32 ((t % 4294967296:Nat):Int)) (c:=(done ++ List.replicate (m + 1) 0).map u3A) (by rw [adv_h]; exact hs) (by simp; omega) rfl rfl]
  simp only [f179j2,w1,wx,wy,Nat.reduceAdd,Nat.reduceEqDiff,reduceCtorEq]
  have hset:((done ++ List.replicate (m + 1) 0).map u3A).set i (.int .u32 ((t % 4294967296:Nat):Int)) = ((done ++ [t % 4294967296]) ++ List.replicate m 0).map u3A:=by
   subst hd
   simp [List.replicate_succ,u3A]
  rw [hset]
  refine ih (i + 1) (done ++ [t % 4294967296]) (t / 4294967296) _ (by omega) (by simp [hd]) (fun x hx=>?_) (by omega) ?_ (by rw [adv_h,st_same])
  ·rcases List.mem_append.1 hx with hx | hx
   ·exact hld x hx
   ·rw [List.mem_singleton.1 hx,p32]; omega
  ·rw [val_append,val_take,val_take,hd,pw_succ]
   simp only [val,Nat.mul_zero,Nat.add_zero]
   have hm:t = 4294967296 * (t / 4294967296) + t % 4294967296:=(Nat.div_add_mod t 4294967296).symm
   have e1:pw i * (t % 4294967296) + 4294967296 * pw i * (t / 4294967296) = pw i * t:=by
    have e:pw i * t = pw i * (4294967296 * (t / 4294967296) + t % 4294967296):=by rw [← hm]
    rw [e,Nat.mul_add,← Nat.mul_assoc,Nat.mul_comm (pw i) 4294967296]; omega
   have e2:pw i * t = pw i * cy + (pw i * lb a i + pw i * lb b i):=by rw [ht,Nat.mul_add,Nat.mul_add]
   omega
theorem mx_eq' (a b:Nat) (id:Nat) (s:St):bt .max #[3,3] [.int .i64 (a:Int),.int .i64 (b:Int)] id s = some (.int .i64 ((Nat.max a b:Nat):Int),s):=by
 have h:bt .max #[3,3] [.int .i64 (a:Int),.int .i64 (b:Int)] id s = (minI (fun y x=>decide (x < y)) [.int .i64 (a:Int),.int .i64 (b:Int)]).map (·,s):=by kernel_rfl
 rw [h]
 simp only [minI,if_true,Option.map_some,decide_eq_true_eq]
 congr 3
 by_cases hc:(a:Int) < (b:Int)
 ·rw [if_pos hc]; congr 1; exact (Nat.max_eq_right (by omega)).symm
 ·rw [if_neg hc]; congr 1; exact (Nat.max_eq_left (by omega)).symm
theorem c179 (a b:List Nat) (ha:limbs a) (hb:limbs b) (hla:a.length≤2 ^ 29) (hlb:b.length≤2 ^ 29):PureC Tryz.env 179 [nsA a,nsA b] (nsA (limV (val a + val b))):=by
 refine pure_q (f179_run _ _ _ ?_)
 have hz:zero Tryz.ty 211 = some (.int .u32 0):=zf211
 have hc0:(AV.int .u32 0).cells = [.int .u32 0]:=rfl
 have h1:a.length≤Nat.max a.length b.length:=Nat.le_max_left ..
 have h2:b.length≤Nat.max a.length b.length:=Nat.le_max_right ..
 have h3:Nat.max a.length b.length≤2 ^ 29:=Nat.max_le.2 ⟨hla,hlb⟩
 have hw:IntKind.i64.wrap (((Nat.max a.length b.length:Nat):Int) + 1) = ((Nat.max a.length b.length + 1:Nat):Int):=by rw [IntWalk.i64_in _ (by omega)]; rfl
 unfold f179
 simp only [ln22ns,mx_eq',hw,mkS_eq tf22 hz (Nat.max a.length b.length + 1) (by omega) (by omega),hc0,flat_rep,wx,wy,Nat.reduceAdd,Nat.reduceEqDiff,reduceCtorEq]
 refine ⟨_,l179 a b ha hb (Nat.max a.length b.length + 1) (by omega) (by omega) (by omega) _ _ _ 211 (fun out s g1 g2 g3 g4=>?_) (Nat.max a.length b.length + 1) 0 [] 0 _ (by omega) rfl (fun x hx=>by cases hx) (by omega) (by simp [val]) (by rw [adv_h,st_same]; simp [u3A])⟩
 unfold f179j1
 have hp:=pur_ref (s:=Ai.adv s 3) (c:=some (Nat.max a.length b.length + 1)) (k:=11) (l:=out) (f:=u3A) tf22 (by rw [adv_h]; exact g4) (fun _ _=>rfl) (fun _ _=>rfl)
 rw [g2] at hp
 refine callPur (args2:=[nsA out]) (ids:=[St.empty.nx + 9]) (by simp only [purL,hp,nsA,List.append_nil]) (c110 _ (by rw [g2]; omega)) ?_
 rw [norm_lim g1,g3]
 exact pureQ_closed (ns_closed _)
theorem len_set_val {l:List Nat} (h:limbs l) {k v:Nat} (hv:v < 2 ^ 32):limbs (l.set k v):=fun x hx=>by
 rcases List.mem_or_eq_of_mem_set hx with h1 | rfl
 ·exact h x h1
 ·exact hv
theorem mul_small {x y u c:Nat} (hx:x < 4294967296) (hy:y < 4294967296) (hu:u < 4294967296) (hc:c < 4294967296):c + (x * y + u) < 18446744073709551616:=by
 have h1:x * y≤4294967295 * 4294967295:=Nat.mul_le_mul (by omega) (by omega)
 omega
theorem u32_64 {x:Nat} (h:x < 4294967296):IntKind.u64.wrap (x:Int) = (x:Int):=IntWalk.u64_in _ (by omega)
theorem l180b (a b:List Nat) (hb:limbs b) (hla:a.length≤2 ^ 28) (hlb:b.length≤2 ^ 28) (Q:AV→St→Prop) (ih1:AV→AV→AV→AV→AV→St→Prop) (N c n:Nat) (e':TypeId) (i x:Nat) (hi:i < a.length) (hn:n = a.length + b.length) (hx:x < 2 ^ 32) (v0:Nat)
  (hQ:∀ (out:List Nat) s,limbs out→out.length = n→val out = v0 + pw i * (x * val b)→(∀ k,i + b.length < k→k < n→out[k]? = some 0)→s.h N = some (.cells (out.map u3A) e' true true)→f180j2 Q ih1 (.int .i64 i) (nsA b) (.ref N 0 n (some c) 211) (nsA a) (.int .i64 a.length) s) :
  ∀ (m j:Nat) (out:List Nat) (cy:Nat) (s:St),j + m = b.length→limbs out→out.length = n→cy < 2 ^ 32→val out + pw (i + j) * cy = v0 + pw i * (x * val (b.take j))→(∀ k,i + b.length≤k→k < n→out[k]? = some 0)→s.h N = some (.cells (out.map u3A) e' true true) →
   f180l2 Q ih1 (m + 1) (nsA b) (.ref N 0 n (some c) 211) (.int .i64 i) (.int .u32 x) (.int .u64 cy) (nsA a) (.int .i64 a.length) (.int .i64 i) (.int .i64 b.length) (.int .i64 j) s:=by
 rw [p32] at hx
 intro m
 induction m with
 | zero =>
  intro j out cy s hj hlo hlen hcy hv hz hs
  rw [p32] at hcy
  show f180l2s Q ih1 (f180l2 Q ih1 0) _ _ _ _ _ _ _ _ _ _ s
  have c1:decide ((j:Int) < (b.length:Int)) = false:=by simp; omega
  rw [List.take_of_length_le (by omega)] at hv
  have hjb:j = b.length:=by omega
  subst hjb
  have hz0:=hz (i + b.length) (Nat.le_refl _) (by omega)
  have hix:ixS 1 (.ref N 0 n (some c) 211) (.int .i64 ((i + b.length:Nat):Int)) = some (.ptr N (i + b.length)):=ix_ref0 (by omega) .i64
  have wij:IntKind.i64.wrap ((i:Int) + (b.length:Int)) = ((i + b.length:Nat):Int):=by rw [IntWalk.i64_in _ (by omega)]; rfl
  simp only [f180l2s,c1,f180j3,ln22ns,wij,cf159_211,wrap32,hix,wx,wy,Nat.reduceAdd,Nat.reduceEqDiff,reduceCtorEq]
  rw [sto_c (v:=.int .u32 ((cy % 4294967296:Nat):Int)) (c:=out.map u3A) (by simp only [adv_h]; exact hs) (by simp; omega) rfl rfl]
  simp only [Bnd_some]
  have hset:(out.map u3A).set (i + b.length) (.int .u32 ((cy % 4294967296:Nat):Int)) = (out.set (i + b.length) cy).map u3A:=by
   rw [Nat.mod_eq_of_lt hcy,List.map_set]; rfl
  rw [hset]
  have hvs:=val_set cy hz0
  refine hQ (out.set (i + b.length) cy) _ (len_set_val hlo (by rw [p32]; exact hcy)) (by rw [List.length_set]; exact hlen) (by simp only [Nat.mul_zero,Nat.add_zero] at hvs; omega) (fun k hk hk2=>?_) (by rw [st_same])
  rw [List.getElem?_set_ne (by omega)]
  exact hz k (by omega) hk2
 | succ m ih =>
  intro j out cy s hj hlo hlen hcy hv hz hs
  rw [p32] at hcy
  show f180l2s Q ih1 (f180l2 Q ih1 (m + 1)) _ _ _ _ _ _ _ _ _ _ s
  have c1:decide ((j:Int) < (b.length:Int)) = true:=by simp; omega
  have w1:IntKind.i64.wrap ((j:Int) + 1) = ((j + 1:Nat):Int):=wrap_i (n:=b.length) (by omega) (by omega)
  obtain ⟨y,hy⟩:∃ y,b[j]? = some y:=⟨_,List.getElem?_eq_getElem (by omega)⟩
  have hyl:=hb y (List.mem_of_getElem? hy)
  rw [p32] at hyl
  obtain ⟨u,hu⟩:∃ u,out[i + j]? = some u:=⟨_,List.getElem?_eq_getElem (by omega)⟩
  have hul:=hlo u (List.mem_of_getElem? hu)
  rw [p32] at hul
  have hix:ixS 1 (.ref N 0 n (some c) 211) (.int .i64 ((i + j:Nat):Int)) = some (.ptr N (i + j)):=ix_ref0 (by omega) .i64
  have hub:(out.map u3A)[i + j]? = some (.int .u32 (u:Int)):=by rw [List.getElem?_map,hu]; rfl
  have hsm:=mul_small hx hyl hul hcy
  have h1:x * y < 2 ^ 64:=by rw [p64]; omega
  have hiy:ixS 1 (nsA b) (.int .i64 (j:Int)) = some (.pel (u3A y).cells 0):=ix_map encU false hy .i64
  have c8:∀ (z:Nat) (s:St),z < 4294967296→cv 211 159 (.int .u32 (z:Int)) s = some (.int .u64 (z:Int)):=fun z s hz=>by rw [cf211_159,u32_64 hz]
  have wij:IntKind.i64.wrap ((i:Int) + (j:Int)) = ((i + j:Nat):Int):=by rw [IntWalk.i64_in _ (by omega)]; rfl
  have wxy:IntKind.u64.wrap ((x:Int) * (y:Int)) = ((x * y:Nat):Int):=by rw [IntWalk.u64_in _ (by rw [← Int.natCast_mul]; omega)]; exact (Int.natCast_mul ..).symm
  have wu:IntKind.u64.wrap (((x * y:Nat):Int) + (u:Int)) = ((x * y + u:Nat):Int):=by rw [IntWalk.u64_in _ (by omega)]; rfl
  have wc:IntKind.u64.wrap (((cy:Nat):Int) + ((x * y + u:Nat):Int)) = ((cy + (x * y + u):Nat):Int):=by rw [IntWalk.u64_in _ (by omega)]; rfl
  simp only [f180l2s,c1,hiy,u3_0,c8 x _ hx,c8 y _ hyl,wij,wxy,hix,ld_ptr,adv_h,hs,part_one,hub,c8 u _ hul,wu,wc,wx,wy,Nat.reduceAdd,Nat.reduceEqDiff,reduceCtorEq]
  obtain ⟨t,ht⟩:∃ t,t = cy + (x * y + u):=⟨_,rfl⟩
  rw [← ht]
  simp only [cf159_211,wrap32,bn_shr64,Bnd_some,hix]
  rw [sto_c (v:=.int .u32 ((t % 4294967296:Nat):Int)) (c:=out.map u3A) (by simp only [adv_h]; exact hs) (by simp; omega) rfl rfl]
  simp only [f180j4,w1,wx,wy,Nat.reduceAdd,Nat.reduceEqDiff,reduceCtorEq]
  have hset:(out.map u3A).set (i + j) (.int .u32 ((t % 4294967296:Nat):Int)) = (out.set (i + j) (t % 4294967296)).map u3A:=by rw [List.map_set]; rfl
  rw [hset]
  have htl:t < 18446744073709551616:=by rw [ht]; exact hsm
  refine ih (j + 1) (out.set (i + j) (t % 4294967296)) (t / 4294967296) _ (by omega) (len_set_val hlo (by rw [p32]; omega)) (by rw [List.length_set]; exact hlen) (by rw [p32]; omega) ?_ (fun k hk hk2=>by rw [List.getElem?_set_ne (by omega)]; exact hz k hk hk2) (by rw [adv_h,st_same])
  have hvs:=val_set (t % 4294967296) hu
  have hvt:=val_take b j
  have hlbj:lb b j = y:=by unfold lb; rw [hy]; rfl
  rw [hlbj] at hvt
  have hm:t = 4294967296 * (t / 4294967296) + t % 4294967296:=(Nat.div_add_mod t 4294967296).symm
  have hpij:pw (i + j) = pw i * pw j:=by unfold pw; rw [Nat.pow_add]
  rw [← Nat.add_assoc,pw_succ,hvt]
  have e1:pw (i + j) * (t % 4294967296) + 4294967296 * pw (i + j) * (t / 4294967296) = pw (i + j) * t:=by
   have e:pw (i + j) * t = pw (i + j) * (4294967296 * (t / 4294967296) + t % 4294967296):=by rw [← hm]
   rw [e,Nat.mul_add,← Nat.mul_assoc,Nat.mul_comm (pw (i + j)) 4294967296]; omega
  have e2:pw (i + j) * t = pw (i + j) * cy + (pw (i + j) * (x * y) + pw (i + j) * u):=by rw [ht,Nat.mul_add,Nat.mul_add]
  have e3:pw i * (x * (val (b.take j) + pw j * y)) = pw i * (x * val (b.take j)) + pw (i + j) * (x * y):=by
   rw [hpij,Nat.mul_add,Nat.mul_add,Nat.mul_left_comm x (pw j) y,Nat.mul_assoc]
  rw [e3]
  omega
theorem l180a (a b:List Nat) (ha:limbs a) (hb:limbs b) (hla:a.length≤2 ^ 28) (hlb:b.length≤2 ^ 28) (Q:AV→St→Prop) (N c n:Nat) (e':TypeId) (hn:n = a.length + b.length)
  (hQ:∀ (out:List Nat) s,limbs out→out.length = n→val out = val a * val b→s.h N = some (.cells (out.map u3A) e' true true)→f180j1 Q (.ref N 0 n (some c) 211) s) :
  ∀ (m i:Nat) (out:List Nat) (s:St),i + m = a.length→limbs out→out.length = n→val out = val (a.take i) * val b→(∀ k,i + b.length≤k→k < n→out[k]? = some 0)→s.h N = some (.cells (out.map u3A) e' true true) →
   f180l1 Q (m + 1) (nsA b) (.ref N 0 n (some c) 211) (nsA a) (.int .i64 a.length) (.int .i64 i) s:=by
 intro m
 induction m with
 | zero =>
  intro i out s hi hlo hlen hv hz hs
  show f180l1s Q (f180l1 Q 0) _ _ _ _ _ s
  have c1:decide ((i:Int) < (a.length:Int)) = false:=by simp; omega
  rw [List.take_of_length_le (by omega)] at hv
  simp only [f180l1s,c1,wx,wy,Nat.reduceAdd,Nat.reduceEqDiff,reduceCtorEq]
  exact hQ out _ hlo hlen hv hs
 | succ m ih =>
  intro i out s hi hlo hlen hv hz hs
  show f180l1s Q (f180l1 Q (m + 1)) _ _ _ _ _ s
  have c1:decide ((i:Int) < (a.length:Int)) = true:=by simp; omega
  have w1:IntKind.i64.wrap ((i:Int) + 1) = ((i + 1:Nat):Int):=wrap_i (n:=a.length) (by omega) (by omega)
  obtain ⟨x,hx⟩:∃ x,a[i]? = some x:=⟨_,List.getElem?_eq_getElem (by omega)⟩
  have hxl:=ha x (List.mem_of_getElem? hx)
  have hix:ixS 1 (nsA a) (.int .i64 (i:Int)) = some (.pel (u3A x).cells 0):=ix_map encU false hx .i64
  simp only [f180l1s,c1,hix,u3_0,ln22ns,wx,wy,Nat.reduceAdd,Nat.reduceEqDiff,reduceCtorEq]
  refine ⟨_,l180b a b hb hla hlb Q (f180l1 Q (m + 1)) N c n e' i x (by omega) hn hxl (val out) (fun out2 s2 g1 g2 g3 g4 g5=>?_) b.length 0 out 0 _ (by omega) hlo hlen (by decide) (by simp [val]) (fun k hk hk2=>hz k hk hk2) (by rw [adv_h]; exact hs)⟩
  simp only [f180j2,w1,wx,wy,Nat.reduceAdd,Nat.reduceEqDiff,reduceCtorEq]
  refine ih (i + 1) out2 _ (by omega) g1 g2 ?_ (fun k hk hk2=>g4 k (by omega) hk2) (by rw [adv_h]; exact g5)
  have hvt:=val_take a i
  have:lb a i = x:=by unfold lb; rw [hx]; rfl
  rw [this] at hvt
  rw [g3,hv,hvt,Nat.add_mul,Nat.mul_assoc]
theorem c180 (a b:List Nat) (ha:limbs a) (hb:limbs b) (hla:a.length≤2 ^ 28) (hlb:b.length≤2 ^ 28):PureC Tryz.env 180 [nsA a,nsA b] (nsA (limV (val a * val b))):=by
 refine pure_q (f180_run _ _ _ ?_)
 have hz:zero Tryz.ty 211 = some (.int .u32 0):=zf211
 have hc0:(AV.int .u32 0).cells = [.int .u32 0]:=rfl
 unfold f180
 simp only [ln22ns,wx,wy,Nat.reduceAdd,Nat.reduceEqDiff,reduceCtorEq]
 have hw:IntKind.i64.wrap ((a.length:Int) + (b.length:Int)) = ((a.length + b.length:Nat):Int):=by rw [IntWalk.i64_in _ (by omega)]; rfl
 simp only [hw,mkS_eq tf22 hz (a.length + b.length) (by omega) (by omega),hc0,flat_rep,ln22ns,wx,wy,Nat.reduceAdd,Nat.reduceEqDiff,reduceCtorEq]
 refine ⟨_,l180a a b ha hb hla hlb _ _ _ (a.length + b.length) 211 rfl (fun out s g1 g2 g3 g4=>?_) a.length 0 (List.replicate (a.length + b.length) 0) _ (by omega) (fun x hx=>by rw [List.eq_of_mem_replicate hx]; decide) (by simp) (by rw [val_rep]; simp [val]) (fun k _ hk=>by simp [hk]) (by rw [adv_h,st_same]; simp [u3A])⟩
 unfold f180j1
 have hp:=pur_ref (s:=Ai.adv s 3) (c:=some (a.length + b.length)) (k:=11) (l:=out) (f:=u3A) tf22 (by rw [adv_h]; exact g4) (fun _ _=>rfl) (fun _ _=>rfl)
 rw [g2] at hp
 refine callPur (args2:=[nsA out]) (ids:=[St.empty.nx + 6]) (by simp only [purL,hp,nsA,List.append_nil]) (c110 _ (by rw [g2]; omega)) ?_
 rw [norm_lim g1,g3]
 exact pureQ_closed (ns_closed _)
end Go.Proofs.YtdehdahimkcakaaGreatDoor
end
section
namespace Go.Proofs.YtdehdahimkcakaaGreatDoor
open Go Ai
def psM (x:List UInt8):List Nat × Int:=cond (x == [] || (decide (x.length > 2000) || (x.head? == some 48 && x != [48]))) ([],8) (cond (x.all isDig) (limV (decV x),0) ([],8))
theorem decV_snoc (l:List UInt8) (c:UInt8):decV (l ++ [c]) = 10 * decV l + (c.toNat - 48):=by
 unfold decV; rw [List.foldl_append]; rfl
theorem decV_ltN:∀ (n:Nat) (l:List UInt8),l.length = n→(∀ c∈l,isDig c = true)→decV l < pw n:=by
 intro n
 induction n with
 | zero=>intro l hl _; cases l with
  | nil=>decide
  | cons c l=>cases hl
 | succ n ih =>
  intro l hl h
  rcases List.eq_nil_or_concat l with rfl | ⟨l',c,rfl⟩
  ·cases hl
  simp only [List.concat_eq_append] at hl h ⊢
  have h1:=ih l' (by simp at hl; exact hl) fun d hd=>h d (List.mem_append_left _ hd)
  have h2:=h c (List.mem_append_right _ (List.mem_singleton.2 rfl))
  simp only [isDig,Bool.and_eq_true,decide_eq_true_eq] at h2
  rw [decV_snoc,pw_succ]
  omega
theorem decV_lt (l:List UInt8) (h:∀ c∈l,isDig c = true):decV l < pw l.length:=decV_ltN _ l rfl h
theorem l127 (x:List UInt8) (hx:x.length≤2000) (Q:AV→St→Prop)
  (hbad:x.all isDig = false→∀ s,Q (.tup [.nils,.int .i64 8]) s)
  (hgood:x.all isDig = true→∀ s,Q (.tup [nsA (limV (decV x)),.int .i64 0]) s) :
  ∀ (m i:Nat) (a:AV) (s:St),i + m = x.length→(∀ c∈x.take i,isDig c = true)→(∀ s:St,pur Tryz.env.P s 12 a = some (nsA (limV (decV (x.take i))),[])) →
   f127l1 Q (m + 1) a (.sl false (x.map byt)) (.int .i64 x.length) (.int .i64 i) s:=by
 intro m
 induction m with
 | zero =>
  intro i a s hi hd ha
  show f127l1s Q (f127l1 Q 0) _ _ _ _ s
  have c1:decide ((i:Int) < (x.length:Int)) = false:=by simp; omega
  rw [List.take_of_length_le (by omega)] at hd ha
  simp only [f127l1s,c1,f127j1,wx,wy,Nat.reduceAdd,Nat.reduceEqDiff,reduceCtorEq]
  have hall:x.all isDig = true:=List.all_eq_true.2 hd
  have hlt:=decV_lt x hd
  refine callPur (args2:=[nsA (limV (decV x))]) (ids:=[]) (by simp only [purL,ha,List.append_nil]) (c110 _ (Nat.le_trans (limV_len _ _ hlt) (by omega))) ?_
  rw [norm_lim (limV_limbs _),val_limV]
  exact hgood hall _
 | succ m ih =>
  intro i a s hi hd ha
  show f127l1s Q (f127l1 Q (m + 1)) _ _ _ _ s
  have c1:decide ((i:Int) < (x.length:Int)) = true:=by simp; omega
  have w1:IntKind.i64.wrap ((i:Int) + 1) = ((i + 1:Nat):Int):=wrap_i (n:=x.length) (by omega) (by omega)
  obtain ⟨c,hc⟩:∃ c,x[i]? = some c:=⟨_,List.getElem?_eq_getElem (by omega)⟩
  have hix:ixS 1 (.sl false (x.map byt)) (.int .i64 (i:Int)) = some (.pel (byt c).cells 0):=ix_map encBy false hc .i64
  have hb0:(byt c).cells[0]? = some (.int .u8 c.toNat):=rfl
  have hmem:c∈x:=List.mem_of_getElem? hc
  have hno:isDig c = false→x.all isDig = false:=fun h=>by
   cases h2:x.all isDig with
   | false=>rfl
   | true=>rw [List.all_eq_true.1 h2 c hmem] at h; cases h
  by_cases h48:c.toNat < 48
  ·have k1:decide ((c.toNat:Int) < 48) = true:=by simp; omega
   simp only [f127l1s,c1,hix,hb0,k1,wx,wy,Nat.reduceAdd,Nat.reduceEqDiff,reduceCtorEq]
   exact hbad (hno (by simp [isDig]; omega)) _
  by_cases h57:57 < c.toNat
  ·have k1:decide ((c.toNat:Int) < 48) = false:=by simp; omega
   have k2:decide ((c.toNat:Int) > 57) = true:=by simp; omega
   simp only [f127l1s,c1,hix,hb0,k1,k2,wx,wy,Nat.reduceAdd,Nat.reduceEqDiff,reduceCtorEq]
   exact hbad (hno (by simp [isDig]; omega)) _
  have k1:decide ((c.toNat:Int) < 48) = false:=by simp; omega
  have k2:decide ((c.toNat:Int) > 57) = false:=by simp; omega
  have hdc:isDig c = true:=by simp [isDig]; omega
  have w2:IntKind.u8.wrap ((c.toNat:Int) - 48) = ((c.toNat - 48:Nat):Int):=by rw [IntWalk.u8_in _ (by omega)]; omega
  have w3:IntKind.u32.wrap ((c.toNat - 48:Nat):Int) = ((c.toNat - 48:Nat):Int):=by rw [IntWalk.u32_in _ (by omega)]
  have b1:∀ n:Nat,bsl 22 1 [(0,.int .u32 (n:Int))] = some (.sl true [u3A n]):=fun n=>bsl_one tf22 (by decide) rfl rfl
  have hp10:∀ (n:Nat) (s:St),pur Tryz.env.P s 12 (.sl true [u3A n]) = some (nsA [n],[]):=fun n s=>rfl
  have e10:bsl 22 1 [(0,.int .u32 10)] = some (.sl true [u3A 10]):=b1 10
  have hlt:=decV_lt _ hd
  have hle:(x.take i).length = i:=by rw [List.length_take]; omega
  rw [hle] at hlt
  have hlen:=limV_len _ _ hlt
  have htk:x.take (i + 1) = x.take i ++ [c]:=by rw [List.take_add_one,hc]; rfl
  have hl1:limbs [10]:=by intro y hy; rw [List.mem_singleton.1 hy,p32]; decide
  have hl2:limbs [c.toNat - 48]:=by intro y hy; rw [List.mem_singleton.1 hy,p32]; omega
  simp only [f127l1s,c1,hix,hb0,k1,k2,w2,cf5_211,w3,b1,e10,wx,wy,Nat.reduceAdd,Nat.reduceEqDiff,reduceCtorEq]
  refine callPur (args2:=[nsA (limV (decV (x.take i))),nsA [10]]) (ids:=[]) (by simp only [purL,ha,hp10,List.append_nil]) (c180 _ _ (limV_limbs _) hl1 (by omega) (by simp)) ?_
  rw [val_limV]
  have hv10:val [10] = 10:=rfl
  have hvc:val [c.toNat - 48] = c.toNat - 48:=by simp [val]
  rw [hv10]
  have hdd:decV (x.take i) * 10 < pw (i + 1):=by rw [pw_succ]; omega
  have hlen2:=limV_len _ _ hdd
  refine callPur (args2:=[nsA (limV (decV (x.take i) * 10)),nsA [c.toNat - 48]]) (ids:=[]) (by simp only [purL,pur_closed 12 (ns_closed _),hp10,List.append_nil]) (c179 _ _ (limV_limbs _) hl2 (by omega) (by simp)) ?_
  rw [val_limV,hvc]
  have hfin:decV (x.take i) * 10 + (c.toNat - 48) = decV (x.take (i + 1)):=by rw [htk,decV_snoc,Nat.mul_comm]
  rw [hfin]
  simp only [f127j2,w1,wx,wy,Nat.reduceAdd,Nat.reduceEqDiff,reduceCtorEq]
  exact ih (i + 1) _ _ (by omega) (fun d hd'=>by
   rw [htk] at hd'
   rcases List.mem_append.1 hd' with h | h
   ·exact hd d h
   ·rw [List.mem_singleton.1 h]; exact hdc) (fun s=>pur_closed 12 (ns_closed _))
theorem c127 (x:List UInt8) (hxl:x.length≤2 ^ 30):PureC Tryz.env 127 [.str x] (.tup [nsA (psM x).1,.int .i64 (psM x).2]):=by
 have hbad:∀ s:St,PureQ (.tup [nsA [],.int .i64 8]) (.tup [.nils,.int .i64 8]) s:=fun s=>⟨[],rfl⟩
 by_cases h0:x = []
 ·subst h0
  refine pure_q (f127_run _ _ ?_)
  unfold f127
  simp only [wx,wy,Nat.reduceAdd,Nat.reduceEqDiff,reduceCtorEq]
  exact hbad _
 have h0':(x == []) = false:=by cases x with
  | nil=>exact absurd rfl h0
  | cons=>rfl
 refine pure_q (f127_run _ _ ?_)
 unfold f127
 by_cases h2:2000 < x.length
 ·have k1:decide ((x.length:Int) > 2000) = true:=by simp; omega
  have k2:decide (x.length > 2000) = true:=by simp; omega
  simp only [h0',cf9_161,ln9t,k1,wx,wy,Nat.reduceAdd,Nat.reduceEqDiff,reduceCtorEq]
  have hp:psM x = ([],8):=by unfold psM; rw [k2,Bool.true_or,Bool.or_true]; rfl
  rw [hp]; exact hbad _
 have k1:decide ((x.length:Int) > 2000) = false:=by simp; omega
 have k2:decide (x.length > 2000) = false:=by simp; omega
 have hcv:(x.map fun c=>AV.int .u8 c.toNat) = x.map byt:=rfl
 have hrest:(x.head? == some 48 && x != [48]) = false→∀ (s:St),∃ n,f127l1 (PureQ (AV.tup [nsA (psM x).fst,AV.int IntKind.i64 (psM x).snd])) n AV.nils (.sl false (x.map byt)) (.int .i64 x.length) (.int .i64 0) s:=fun hh s=>by
  have hp:psM x = cond (x.all isDig) (limV (decV x),0) ([],8):=by unfold psM; rw [h0',k2,hh]; rfl
  rw [hp]
  refine ⟨_,l127 x (by omega) _ (fun hd s=>by rw [hd]; exact hbad s) (fun hd s=>by rw [hd]; exact pureQ_closed (by simp [AV.closed,ns_closed,closedL])) x.length 0 .nils s (by omega) (fun c hc=>by simp at hc) (fun s=>?_)⟩
  show _ = some (nsA (limV 0),[])
  rw [limV_zero]; rfl
 obtain ⟨c,l,rfl⟩:∃ c l,x = c :: l:=by cases x with
  | nil=>exact absurd rfl h0
  | cons c l=>exact ⟨c,l,rfl⟩
 have hix:ixa 9 (.str (c :: l)) (.int .i64 0) = some (.int .u8 c.toNat):=ixa_str (x:=c :: l) (i:=0) .i64 rfl
 by_cases h48:c = 48
 ·have k3:(((c.toNat:Nat):Int) == 48) = true:=by rw [h48]; rfl
  by_cases hone:c :: l = [48]
  ·have k4:(c :: l == [48]) = true:=by rw [hone]; rfl
   have k5:(c :: l != [48]) = false:=by rw [hone]; rfl
   simp only [h0',cf9_161,ln9t,k1,hix,k3,k4,hcv,ln161s,List.length_map,wx,wy,Nat.reduceAdd,Nat.reduceEqDiff,reduceCtorEq]
   exact hrest (by rw [k5,Bool.and_false]) _
  ·have k4:(c :: l == [48]) = false:=by rw [beq_eq_false_iff_ne]; exact hone
   have k5:(c :: l != [48]) = true:=by rw [bne_iff_ne]; exact hone
   simp only [h0',cf9_161,ln9t,k1,hix,k3,k4,wx,wy,Nat.reduceAdd,Nat.reduceEqDiff,reduceCtorEq]
   have hp:psM (c :: l) = ([],8):=by unfold psM; rw [k5,h48]; simp
   rw [hp]; exact hbad _
 ·have k3:(((c.toNat:Nat):Int) == 48) = false:=by
   rw [beq_eq_false_iff_ne]; intro h
   exact h48 (UInt8.toNat_inj.1 (by rw [show (48:UInt8).toNat = 48 from rfl]; omega))
  simp only [h0',cf9_161,ln9t,k1,hix,k3,hcv,ln161s,List.length_map,wx,wy,Nat.reduceAdd,Nat.reduceEqDiff,reduceCtorEq]
  exact hrest (by simp [h48]) _
theorem parse_ok:ParseC psM:=by
 intro x hx
 refine ⟨c127 x hx,?_,?_⟩
 ·unfold psM
  cases (x == [] || (decide (x.length > 2000) || (x.head? == some 48 && x != [48]))) with
  | true=>intro y hy; cases hy
  | false =>
   cases x.all isDig with
   | true=>exact limV_limbs _
   | false=>intro y hy; cases hy
 ·unfold psM
  by_cases h2:2000 < x.length
  ·have k:decide (x.length > 2000) = true:=by simp; omega
   rw [k,Bool.true_or,Bool.or_true]; exact Nat.zero_le _
  cases (x == [] || (decide (x.length > 2000) || (x.head? == some 48 && x != [48]))) with
  | true=>exact Nat.zero_le _
  | false =>
   cases hd:x.all isDig with
   | true=>exact Nat.le_trans (limV_len _ _ (decV_lt x (List.all_eq_true.1 hd))) (by omega)
   | false=>exact Nat.zero_le _
end Go.Proofs.YtdehdahimkcakaaGreatDoor
end
section
namespace Go.Proofs.YtdehdahimkcakaaGreatDoor
open Go Ai
theorem c7 (L:List Dc) (x:Sx) (hL:DcOk L) (hfit:x.fit) (hwt:x.wt≤2 ^ 29) (hlen:L.length≤maxLen) (hok:∀ d∈L,d.ok = true) (hxok:x.ok = true):∃ s',WideC Tryz.env 7 [.sl false (L.map Dc.av),x.av] St.empty (.bool true) s':=by
 have h:=f7_run (.sl false (L.map Dc.av)) x.av St.empty (Q:=fun r _=>r = .bool true) (by
  have hcl:(AV.sl false (L.map Dc.av)).closed = true:=by simp only [AV.closed]; exact closedL_map _ _ dc_closed
  have hL60:L.length < 2 ^ 60:=by have:=hL.len; omega
  obtain ⟨n1,⟨r,B1,M1⟩,h1⟩:=T_tot psM true L [] x ([],[])
  obtain ⟨n2,⟨r2,B2,M2⟩,h2⟩:=T_tot psM true L [] x (B1,[])
  obtain ⟨t1,t2⟩:=twice_law psM ckey_ok hL60 h1 h2
  unfold f7
  refine ⟨sx_ones x,?_⟩
  refine callPu awake10 (by simp) ?_
  simp only [sx_part,wx,wy,Nat.reduceAdd,Nat.reduceEqDiff,reduceCtorEq]
  refine callPu (few_c false L x hlen hok hxok) (by simp only [List.mem_cons,List.mem_nil_iff,or_false,forall_eq_or_imp,forall_eq]; exact ⟨hcl,sx_closed x⟩) ?_
  cases few10 L x with
  | false=>simp only [wx,wy,Nat.reduceAdd,Nat.reduceEqDiff,reduceCtorEq]
  | true =>
  have hb:bld 58 [] = some (.agg [.nils,.nilm,.nils]):=by rw [bf58]; rfl
  have hc0:(AV.agg [AV.nils,AV.nilm,AV.nils]).cells = [.nils,.nilm,.nils]:=rfl
  have w1:Wf B1:=by
   have u1:=T_plain psM ckey_ok (B:=[]) hL60 wf_nil (fun p hp=>by cases hp) h1
   exact (U_step psM wf_nil (fun p hp=>by cases hp) u1).2.1
  simp only [hb,hc0,sx_part,wx,wy,Nat.reduceAdd,Nat.reduceEqDiff,reduceCtorEq]
  refine ⟨rfl,?_⟩
  obtain ⟨S,hS⟩:∃ S,S = Ai.adv ((St.empty.set St.empty.nx (some (Blk.cells x.av.cells 33 true true))).set (St.empty.nx + 15) (some (Blk.cells [.nils,.nilm,.nils] 58 true true))) 26:=⟨_,rfl⟩
  rw [← hS]
  have fr:Fresh S:=fun j hj=>by
   have hn:S.nx = St.empty.nx + 26:=by rw [hS]; rfl
   rw [hn] at hj
   rw [hS,adv_h,st_other (by omega),st_other (by omega)]
   exact fresh_empty j (by omega)
  have h15:S.h (St.empty.nx + 15) = some (.cells [.nils,.nilm,.nils] 58 true true):=by rw [hS,adv_h,st_same]
  have h0:S.h St.empty.nx = some (.cells x.av.cells 33 true true):=by rw [hS,adv_h,st_other (by decide),st_same]
  have n15:St.empty.nx + 15 < S.nx:=by rw [hS]; exact (by decide:(15:Nat) < 26)
  have hB0:BkR S (St.empty.nx + 15) [] [St.empty.nx + 15]:=⟨.nils,.nilm,.nils,⟨h15,gw_nil,.inl ⟨rfl,rfl⟩,gw_nil,by decide,fun n h=>(by cases h),by decide⟩,rfl⟩
  refine (Term_c parse_ok fr hB0 wf_nil hL x hfit hwt h1).call (by kernel_rfl) fun s1 hs1=>?_
  obtain ⟨F1,k1,k2,k3⟩:=hs1
  have g0:s1.h St.empty.nx = some (.cells x.av.cells 33 true true):=by rw [k2.h _ (by omega) (by simp)]; exact h0
  simp only [ex0,ex1,wx,wy,Nat.reduceAdd,Nat.reduceEqDiff,reduceCtorEq]
  refine len_c k1.adv ?_
  simp only [adv_h,g0,sx_part,wx,wy,Nat.reduceAdd,Nat.reduceEqDiff,reduceCtorEq]
  refine (Term_c parse_ok (k2.fr.adv) k1.adv w1 hL x hfit hwt h2).call (by kernel_rfl) fun s2 hs2=>?_
  obtain ⟨F2,m1,m2,m3⟩:=hs2
  simp only [ex0,ex1,wx,wy,Nat.reduceAdd,Nat.reduceEqDiff,reduceCtorEq]
  obtain ⟨v,e⟩:=r
  by_cases he:e = 0
  ·obtain ⟨e1,e2,e3,e4⟩:=t2 he
   subst e1 e2 he
   have k0:((0:Int) != 0) = false:=rfl
   have k00:((0:Int) == 0) = true:=rfl
   have kvv:(v == v) = true:=by simp
   have kll:(((B2.length:Nat):Int) == (B2.length:Int)) = true:=by simp
   have klt:decide (v < (B2.length:Int)) = true:=decide_eq_true e4
   have kge:decide (v ≥ 0) = true:=decide_eq_true e3
   simp only [k0,k00,kvv,wx,wy,Nat.reduceAdd,Nat.reduceEqDiff,reduceCtorEq]
   refine len_c m1.adv ?_
   simp only [kll,klt,kge,wx,wy,Nat.reduceAdd,Nat.reduceEqDiff,reduceCtorEq]
  ·obtain ⟨e1,e2⟩:=t1 he
   have e1:v = 0:=e1
   subst e2 e1
   have k0:(e != 0) = true:=by simpa using he
   have k00:((0:Int) == 0) = true:=rfl
   have kee:(e == e) = true:=by simp
   simp only [k0,k00,kee,wx,wy,Nat.reduceAdd,Nat.reduceEqDiff,reduceCtorEq])
 obtain ⟨r,s',h1,h2⟩:=h
 subst h2
 exact ⟨s',h1⟩
end Go.Proofs.YtdehdahimkcakaaGreatDoor
end
section
namespace Go.Proofs.YtdehdahimkcakaaGreatDoor
open Go Ai
structure Cl:Type where
 kind:Int
 n:Int
 d:Dc
 x:Sx
def Cl.av (c:Cl):AV:=.agg (.int .i64 c.kind :: .int .i64 c.n :: (c.d.av.cells ++ c.x.av.cells))
def Cl.ok (c:Cl):Bool:=isInt c.kind && isInt c.n && c.d.ok && c.x.ok
end Go.Proofs.YtdehdahimkcakaaGreatDoor
end
section
namespace Go.Proofs.YtdehdahimkcakaaGreatDoor
open Go Ai
section
variable {H:Type}
theorem fields67:fieldTys Tryz.ty 67 = some [9,3,4,65,33]:=by kernel_rfl
theorem fields151:fieldTys Tryz.ty 151 = some [9,3]:=by kernel_rfl
theorem pm_of (n:Nat) (d:DataW H) (h:TyD Tryz.ty n 151 d):∃ p:List UInt8 × Int,dAV d = pmA p:=by
 obtain ⟨m,l,rfl,rfl,hl,hf⟩:=h.struct fields151
 match l,hl with
 | [d0,d1],_ =>
 obtain ⟨x,rfl,_⟩:=(hf 0 9 d0 rfl rfl).str (by kernel_rfl)
 obtain ⟨a,rfl,_⟩:=(hf 1 3 d1 rfl rfl).int (k:=.i64) (by kernel_rfl)
 exact ⟨(x,a),rfl⟩
theorem list_of {α:Type} {f:α→AV} {p:DataW H→Prop} (h:∀ d,p d→∃ a,dAV d = f a) (l:List (DataW H)) (hl:∀ d∈l,p d):∃ bs:List α,dAVs l = bs.map f∧bs.length = l.length:=by
 induction l with
 | nil=>exact ⟨[],rfl,rfl⟩
 | cons d l ih =>
  obtain ⟨a,ha⟩:=h d (hl d (List.mem_cons_self ..))
  obtain ⟨bs,h1,h2⟩:=ih fun x hx=>hl x (List.mem_cons_of_mem _ hx)
  exact ⟨a :: bs,by simp only [dAVs,ha,h1,List.map_cons],by simp [h2]⟩
end
end Go.Proofs.YtdehdahimkcakaaGreatDoor
end
section
namespace Go.Proofs.YtdehdahimkcakaaGreatDoor
open Go Ai
mutual
def Sx.bk:Sx→Nat
 | .mk _ _ t _ _ items=>1 + t.length + Sx.bks items
def Sx.bks:List Sx→Nat
 | []=>0
 | s :: l=>s.bk + Sx.bks l
end
section
variable {H:Type}
theorem list2 {T:Ty} {e t:TypeId} {n:Nat} {d:DataW H} (h:elemTy T t = some e) (hd:TyD T n t d):∃ (m:Nat) (l:List (DataW H)),n = m + 1∧dAV d = .sl false (dAVs l)∧l.length≤maxLen∧(∀ x∈l,TyD T m e x)∧Rows.uptoBulkAll l≤Rows.uptoBulk d:=by
 cases n with
 | zero=>exact hd.elim
 | succ m =>
  unfold elemTy at h
  unfold TyD at hd
  split at h
  ·rename_i hu
   rw [hu] at hd; cases h
   rcases hd with rfl | ⟨l,r,rfl,h1,h2⟩
   ·exact ⟨m,[],rfl,rfl,by simp,(fun _ h=>by cases h),by simp [Rows.uptoBulkAll]⟩
   ·exact ⟨m,l,rfl,rfl,h1,h2,by simp only [Rows.uptoBulk]; omega⟩
  ·cases h
theorem sx_bulk:∀ (n:Nat) (d:DataW H),TyD Tryz.ty n 33 d→∃ s:Sx,dAV d = s.av∧s.ok = true∧s.bk≤Rows.uptoBulk d:=by
 intro n
 induction n using Nat.strongRecOn with
 | ind n ih =>
 intro d hd
 obtain ⟨m,l,rfl,rfl,hl,hf⟩:=hd.struct fields33
 match l,hl with
 | [d0,d1,d2,d3],_ =>
 obtain ⟨b,rfl⟩:=(hf 0 4 d0 rfl rfl).bool (by kernel_rfl)
 obtain ⟨m1,l1,rfl,rfl,hl1,hf1⟩:=(hf 1 30 d1 rfl rfl).struct fields30
 obtain ⟨a,rfl,ha⟩:=(hf 2 3 d2 rfl rfl).int (k:=.i64) (by kernel_rfl)
 obtain ⟨m2,its,hm,hv,hlen,hel,hbk⟩:=list2 (e:=33) (by kernel_rfl) (hf 3 31 d3 rfl rfl)
 match l1,hl1 with
 | [e0,e1,e2],_ =>
 obtain ⟨k,rfl,hk⟩:=(hf1 0 3 e0 rfl rfl).int (k:=.i64) (by kernel_rfl)
 obtain ⟨x,rfl,hx⟩:=(hf1 1 9 e1 rfl rfl).str (by kernel_rfl)
 obtain ⟨p,rfl,hp⟩:=(hf1 2 3 e2 rfl rfl).int (k:=.i64) (by kernel_rfl)
 have:∀ l:List (DataW H),(∀ x∈l,TyD Tryz.ty m2 33 x)→∃ is:List Sx,dAVs l = Sx.avs is∧is.length = l.length∧Sx.oks is = true∧Sx.bks is≤Rows.uptoBulkAll l:=by
  intro l
  induction l with
  | nil=>intro _; exact ⟨[],rfl,rfl,rfl,Nat.le_refl _⟩
  | cons y l ihl =>
   intro hy
   obtain ⟨s,hs,ho,hb⟩:=ih m2 (by omega) y (hy y (List.mem_cons_self ..))
   obtain ⟨is,h1,h2,h3,h4⟩:=ihl fun x hx=>hy x (List.mem_cons_of_mem _ hx)
   exact ⟨s :: is,by simp only [dAVs,Sx.avs,hs,h1],by simp [h2],by simp only [Sx.oks,ho,h3,Bool.and_self],by simp only [Sx.bks,Rows.uptoBulkAll]; omega⟩
 obtain ⟨is,h1,h2,h3,h4⟩:=this its hel
 refine ⟨.mk b k x p a is,?_,?_,?_⟩
 ·simp only [dAV,dAVc,AV.cells,hv,List.cons_append,List.nil_append,List.append_nil,Sx.av,h1]
 ·simp only [Sx.ok,isInt,hk,hx,hp,ha,h2,hlen,h3,decide_true,Bool.and_self]
 ·simp only [Sx.bk,Rows.uptoBulk,Rows.uptoBulkAll]; omega
def Dc.bk (d:Dc):Nat:=d.ps.length + d.nm.length + d.body.bk + 1
theorem pm_bulk (n:Nat) (d:DataW H) (h:TyD Tryz.ty n 151 d):1≤Rows.uptoBulk d:=by
 obtain ⟨m,l,rfl,rfl,hl,hf⟩:=h.struct fields151
 simp only [Rows.uptoBulk]; omega
theorem dc_bulk (n:Nat) (d:DataW H) (h:TyD Tryz.ty n 67 d):∃ c:Dc,dAV d = c.av∧c.ok = true∧c.bk≤Rows.uptoBulk d:=by
 obtain ⟨m,l,rfl,rfl,hl,hf⟩:=h.struct fields67
 match l,hl with
 | [d0,d1,d2,d3,d4],_ =>
 obtain ⟨x,rfl,hx⟩:=(hf 0 9 d0 rfl rfl).str (by kernel_rfl)
 obtain ⟨a,rfl,ha⟩:=(hf 1 3 d1 rfl rfl).int (k:=.i64) (by kernel_rfl)
 obtain ⟨b,rfl⟩:=(hf 2 4 d2 rfl rfl).bool (by kernel_rfl)
 obtain ⟨m2,its,hm,hv,hlen,hel,hbk⟩:=list2 (e:=151) (by kernel_rfl) (hf 3 65 d3 rfl rfl)
 obtain ⟨s,hs,ho,hb⟩:=sx_bulk m d4 (hf 4 33 d4 rfl rfl)
 obtain ⟨ps,h1,h2⟩:=list_of (f:=pmA) (fun d h=>pm_of m2 d h) its hel
 have hlb:∀ l:List (DataW H),(∀ x∈l,TyD Tryz.ty m2 151 x)→l.length≤Rows.uptoBulkAll l:=by
  intro l
  induction l with
  | nil=>intro _; exact Nat.le_refl _
  | cons y l ihl =>
   intro hy
   have h1:=pm_bulk m2 y (hy y (List.mem_cons_self ..))
   have h2:=ihl fun x hx=>hy x (List.mem_cons_of_mem _ hx)
   simp only [List.length_cons,Rows.uptoBulkAll]; omega
 have hlb:=hlb its hel
 refine ⟨⟨x,a,b,ps,s⟩,?_,?_,?_⟩
 ·simp only [dAV,dAVc,AV.cells,hv,h1,hs,List.cons_append,List.nil_append,List.append_nil]
  rfl
 ·simp only [Dc.ok,isInt,hx,ha,h2,hlen,ho,decide_true,Bool.and_self]
 ·simp only [Dc.bk,Rows.uptoBulk,Rows.uptoBulkAll]; omega
theorem dcs_bulk (n:Nat) (d:DataW H) (h:TyD Tryz.ty n 49 d):∃ L:List Dc,dAV d = .sl false (L.map Dc.av)∧L.length≤maxLen∧(∀ c∈L,c.ok = true)∧(∀ c∈L,c.bk≤Rows.uptoBulk d)∧L.length≤Rows.uptoBulk d:=by
 obtain ⟨m,its,hm,hv,hlen,hel,hbk⟩:=list2 (e:=67) (by kernel_rfl) h
 have:∀ l:List (DataW H),(∀ x∈l,TyD Tryz.ty m 67 x)→∃ L:List Dc,dAVs l = L.map Dc.av∧L.length = l.length∧(∀ c∈L,c.ok = true)∧(∀ c∈L,c.bk≤Rows.uptoBulkAll l)∧L.length≤Rows.uptoBulkAll l:=by
  intro l
  induction l with
  | nil=>intro _; exact ⟨[],rfl,rfl,(fun _ h=>by cases h),(fun _ h=>by cases h),Nat.le_refl _⟩
  | cons y l ihl =>
   intro hy
   obtain ⟨c,hc,ho,hb⟩:=dc_bulk m y (hy y (List.mem_cons_self ..))
   obtain ⟨L,h1,h2,h3,h4,h5⟩:=ihl fun x hx=>hy x (List.mem_cons_of_mem _ hx)
   refine ⟨c :: L,by simp only [dAVs,hc,h1,List.map_cons],by simp [h2],?_,?_,?_⟩
   ·intro x hx; rcases List.mem_cons.1 hx with rfl | hx
    ·exact ho
    ·exact h3 x hx
   ·intro x hx; simp only [Rows.uptoBulkAll]; rcases List.mem_cons.1 hx with rfl | hx
    ·omega
    ·have:=h4 x hx; omega
   ·have:1≤c.bk:=by unfold Dc.bk; omega
    simp only [List.length_cons,Rows.uptoBulkAll]; omega
 obtain ⟨L,h1,h2,h3,h4,h5⟩:=this its hel
 exact ⟨L,by rw [hv,h1],by omega,h3,fun c hc=>Nat.le_trans (h4 c hc) hbk,by omega⟩
end
mutual
theorem bk_fit:∀ (s:Sx),s.ok = true→s.bk≤2 ^ 20→s.fit∧s.wt≤s.bk
 | .mk b k x p a items,ho,h=>by
  simp only [Sx.bk] at h
  simp only [Sx.ok,isInt,Bool.and_eq_true,decide_eq_true_eq] at ho
  obtain ⟨f1,f2,f3⟩:=bks_fit items ho.2 (by omega)
  refine ⟨⟨?_,by omega,by omega,f1⟩,?_⟩
  ·have h1:=ho.1.1.1.1.1
   simp only [Lit.wf,Bool.and_eq_true,decide_eq_true_eq] at h1
   exact h1
  ·simp only [Sx.wt,Sx.bk]; omega
theorem bks_fit:∀ (l:List Sx),Sx.oks l = true→Sx.bks l≤2 ^ 20→Sx.fits l∧Sx.wts l≤Sx.bks l∧l.length≤Sx.bks l
 | [],_,_=>⟨trivial,Nat.le_refl _,Nat.le_refl _⟩
 | s :: l,ho,h=>by
  simp only [Sx.bks] at h
  simp only [Sx.oks,Bool.and_eq_true] at ho
  obtain ⟨f1,f2⟩:=bk_fit s ho.1 (by omega)
  obtain ⟨g1,g2,g3⟩:=bks_fit l ho.2 (by omega)
  have hp:1≤s.bk:=by cases s; simp only [Sx.bk]; omega
  exact ⟨⟨f1,g1⟩,by simp only [Sx.wts,Sx.bks]; omega,by simp only [List.length_cons,Sx.bks]; omega⟩
end
theorem dcs_ok {L:List Dc} {b:Nat} (hb:b≤2 ^ 20) (ho:∀ c∈L,c.ok = true) (h:∀ c∈L,c.bk≤b) (hl:L.length≤b):DcOk L:=by
 have hf:∀ d∈L,d.body.fit∧d.body.wt≤d.body.bk:=fun d hd=>bk_fit d.body (by have:=ho d hd; simp only [Dc.ok,Bool.and_eq_true] at this; exact this.2) (by have:=h d hd; unfold Dc.bk at this; omega)
 exact ⟨by omega,fun d hd=>(hf d hd).1,fun d hd=>by have:=(hf d hd).2; have:=h d hd; unfold Dc.bk at this; omega,fun d hd=>by have:=h d hd; unfold Dc.bk at this; omega⟩
end Go.Proofs.YtdehdahimkcakaaGreatDoor
end
