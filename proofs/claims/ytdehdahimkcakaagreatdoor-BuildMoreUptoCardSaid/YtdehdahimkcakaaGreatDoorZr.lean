/- Texts joined by wip/tools/pack.py: Te,Tg,Th,Mk,Ml,Mn,Mo,Mp,Mq,Mr,Ms. -/
import Derived.Test.YtdehdahimkcakaaGreatDoorZq
set_option linter.unusedSimpArgs false
set_option linter.unusedVariables false
set_option maxHeartbeats 4000000
set_option maxRecDepth 100000
namespace Go.Proofs.YtdehdahimkcakaaGreatDoor
open Go Ai
noncomputable section
section
variable {s:St} {i:Nat} {B:Bk} {F:List Nat} {K:AV→St→Prop}
theorem fz187:Tryz.env.fz 187 = false:=by kernel_rfl
theorem fz135:Tryz.env.fz 135 = false:=by kernel_rfl
theorem fz134:Tryz.env.fz 134 = false:=by kernel_rfl
theorem fz133:Tryz.env.fz 133 = false:=by kernel_rfl
theorem fz186:Tryz.env.fz 186 = false:=by kernel_rfl
theorem fz132:Tryz.env.fz 132 = false:=by kernel_rfl
theorem EF.nil_trans {a b c:St} (h:EF [] a b) (k:EF [] b c):EF [] a c:=h.trans k fun j hj=>by cases hj
theorem wrap_i {i n:Nat} (h:i < n) (hn:n≤2 ^ 40):IntKind.i64.wrap ((i:Int) + 1) = ((i + 1:Nat):Int):=by rw [IntWalk.i64_in _ (by omega)]; rfl
theorem ln72m (l:List Int) (id:Nat) (s:St):bt .len #[72] [.sl false (l.map inA)] id s = some (.int .i64 l.length,s):=by rw [ln72s,List.length_map]
theorem in0 (q:Int):(inA q).cells[0]? = some (.int .i64 q):=rfl
theorem free_take (a:List Int) (j:Nat) (q:Int) (h:a[j]? = some q):freeM B (a.take (j + 1)) = freeM B (a.take j) + (bif numeralM B q then 0 else 1):=by
 induction a generalizing j with
 | nil=>simp at h
 | cons x a ih =>
  cases j with
  | zero=>simp at h; subst h; simp [freeM]
  | succ j =>
   simp only [List.getElem?_cons_succ] at h
   simp only [List.take_succ_cons,freeM,ih j h]; omega
theorem free_le (a:List Int):freeM B a≤a.length:=by
 induction a with
 | nil=>exact Nat.le_refl _
 | cons x a ih=>simp only [freeM,List.length_cons]; cases numeralM B x <;> simp <;> omega
theorem l135 (hw:Wf B) (a:List Int) (ha:∀ q∈a,inB B q) (hl:a.length≤2 ^ 30) (s0:St) (fr0:Fresh s0) (hB:BkR s0 i B F) (Q:AV→St→Prop) (hQ:∀ s',EF [] s0 s'→Q (.bool (decide (freeM B a≤1))) s') :
  ∀ (m j:Nat) (s:St),j + m = a.length→EF [] s0 s→f135l1 Q (m + 1) (.ptr i 0) (.int .i64 (freeM B (a.take j))) (.sl false (a.map inA)) (.int .i64 a.length) (.int .i64 j) s:=by
 intro m
 induction m with
 | zero =>
  intro j s hj e
  show f135l1s Q (f135l1 Q 0) _ _ _ _ _ s
  have c1:decide ((j:Int) < (a.length:Int)) = false:=by simp; omega
  rw [List.take_of_length_le (by omega)]
  have c2:decide (((freeM B a:Nat):Int)≤1) = decide (freeM B a≤1):=by
   by_cases h:freeM B a≤1
   ·rw [decide_eq_true h,decide_eq_true (by omega)]
   ·rw [decide_eq_false h,decide_eq_false (by omega)]
  simp only [f135l1s,c1,f135j1,c2,wx,wy,Nat.reduceAdd,Nat.reduceEqDiff,reduceCtorEq]
  exact hQ _ e.adv
 | succ m ih =>
  intro j s hj e
  show f135l1s Q (f135l1 Q (m + 1)) _ _ _ _ _ s
  have c1:decide ((j:Int) < (a.length:Int)) = true:=by simp; omega
  obtain ⟨q,hq⟩:∃ q,a[j]? = some q:=⟨_,List.getElem?_eq_getElem (by omega)⟩
  have hix:=ix_map encIn false hq .i64
  have w1:=wrap_i (i:=j) (n:=a.length) (by omega) (by omega)
  have hft:=free_take (B:=B) a j q hq
  have hfl:=free_le (B:=B) (a.take j)
  have hfl2:=List.length_take_le j a
  simp only [f135l1s,c1,hix,in0,wx,wy,Nat.reduceAdd,Nat.reduceEqDiff,reduceCtorEq]
  refine (numeral_c e.adv.fr (bk_keep hB fr0 e.adv) hw (ha q (List.mem_of_getElem? hq))).call fz187 fun s1 e1=>?_
  have e2:=e.adv.nil_trans e1
  cases hn:numeralM B q with
  | true =>
   rw [hn] at hft
   simp only [f135j2,w1,wx,wy,Nat.reduceAdd,Nat.reduceEqDiff,reduceCtorEq]
   have:=ih (j + 1) (Ai.adv s1 2) (by omega) e2.adv
   rw [hft] at this
   exact this
  | false =>
   rw [hn] at hft
   have w2:IntKind.i64.wrap (((freeM B (a.take j):Nat):Int) + 1) = ((freeM B (a.take j) + 1:Nat):Int):=by rw [IntWalk.i64_in _ (by omega)]; rfl
   simp only [f135j2,w1,w2,wx,wy,Nat.reduceAdd,Nat.reduceEqDiff,reduceCtorEq]
   have:=ih (j + 1) (Ai.adv s1 5) (by omega) e2.adv
   rw [hft] at this
   exact this
theorem linear_c (fr:Fresh s) (hB:BkR s i B F) (hw:Wf B) (a:List Int) (ha:∀ q∈a,inB B q) (hl:a.length≤2 ^ 30):RdW 135 [.ptr i 0,.sl false (a.map inA)] s (.bool (decide (freeM B a≤1))):=by
 refine f135_run _ _ _ ?_
 unfold f135
 simp only [ln72m,wx,wy,Nat.reduceAdd,Nat.reduceEqDiff,reduceCtorEq]
 exact ⟨_,l135 hw a ha hl s fr hB _ (fun s' e=>⟨rfl,e⟩) a.length 0 _ (by omega) (EF.refl _ fr).adv⟩
def Ask.av (x:Ask):AV:=.agg [.int .i64 x.parts,.bool x.more,.int .i64 x.s0,.int .i64 x.s1,.int .i64 x.s2,.int .i64 x.own]
theorem ask_cells (x:Ask):x.av.cells = [.int .i64 x.parts,.bool x.more,.int .i64 x.s0,.int .i64 x.s1,.int .i64 x.s2,.int .i64 x.own]:=rfl
theorem ask_sort (x:Ask) (k:Nat) (hk:k≤2):x.av.cells[2 + k]? = some (.int .i64 (x.sort k)):=by
 match k,hk with
 | 0,_=>rfl
 | 1,_=>rfl
 | 2,_=>rfl
theorem sort_min (x:Ask) (j:Nat):x.sort (min j 2) = x.sort j:=by
 match j with
 | 0=>rfl
 | 1=>rfl
 | 2=>rfl
 | j + 3=>rw [Nat.min_eq_right (by omega)]; rfl
theorem min3 (j:Nat) (id:Nat) (s:St):bt .min #[3,3] [.int .i64 (j:Int),.int .i64 2] id s = some (.int .i64 ((min j 2:Nat):Int),s):=by
 have h:bt .min #[3,3] [.int .i64 (j:Int),.int .i64 2] id s = some (.int .i64 (if decide ((2:Int) < (j:Int)) then 2 else (j:Int)),s):=rfl
 rw [h]
 by_cases hc:2 < j
 ·rw [decide_eq_true (by omega),if_pos rfl,Nat.min_eq_right (by omega)]; rfl
 ·rw [decide_eq_false (by omega),if_neg (by decide),Nat.min_eq_left (by omega)]
theorem ix3 (p o k:Nat) (hk:k≤2):ixA 3 1 (.ptr p o) (.int .i64 (k:Int)) = some (.ptr p (o + k)):=by
 have:(k:Int) < 3:=by omega
 simp [ixA,asI,idx,shiftP,this]
theorem l134 (hw:Wf B) (x:Ask) (a:List Int) (ha:∀ q∈a,inB B q) (hl:a.length≤2 ^ 30) (s0:St) (fr0:Fresh s0) (hB:BkR s0 i B F) (p:Nat) (Q:AV→St→Prop) (r:Int) (hQ:∀ s',EF [] s0 s'→Q (.int .i64 r) s') :
  ∀ (m j:Nat) (last:Int) (s:St),j + m = a.length→EF [] s0 s→s.h p = some (.cells x.av.cells 192 true true)→r = sortGo B x j last (a.drop j)→f134l1 Q (m + 1) (.ptr i 0) (.ptr p 0) (.int .i64 last) (.sl false (a.map inA)) (.int .i64 a.length) (.int .i64 j) s:=by
 intro m
 induction m with
 | zero =>
  intro j last s hj e hp hr
  show f134l1s Q (f134l1 Q 0) _ _ _ _ _ _ s
  have c1:decide ((j:Int) < (a.length:Int)) = false:=by simp; omega
  rw [List.drop_of_length_le (by omega)] at hr
  simp only [f134l1s,c1,f134j1,hp,ask_cells,eq3,wx,wy,Nat.reduceAdd,Nat.reduceEqDiff,reduceCtorEq]
  have hr:r = bif x.own == -1 then last else x.own:=hr
  cases ho:(x.own == -1) with
  | true =>
   rw [ho] at hr; rw [hr] at hQ
   simp only [wx,wy,Nat.reduceAdd,Nat.reduceEqDiff,reduceCtorEq]
   exact hQ _ e.adv
  | false =>
   rw [ho] at hr; rw [hr] at hQ
   simp only [hp,ask_cells,wx,wy,Nat.reduceAdd,Nat.reduceEqDiff,reduceCtorEq]
   exact hQ _ e.adv
 | succ m ih =>
  intro j last s hj e hp hr
  show f134l1s Q (f134l1 Q (m + 1)) _ _ _ _ _ _ s
  have c1:decide ((j:Int) < (a.length:Int)) = true:=by simp; omega
  obtain ⟨q,hq⟩:∃ q,a[j]? = some q:=⟨_,List.getElem?_eq_getElem (by omega)⟩
  rw [get_drop a j q hq] at hr
  simp only [sortGo] at hr
  have hix:=ix_map encIn false hq .i64
  have w1:=wrap_i (i:=j) (n:=a.length) (by omega) (by omega)
  obtain ⟨n,hn⟩:=get_in (ha q (List.mem_of_getElem? hq))
  obtain ⟨xl,mm,xn,⟨h1,h2,h3,h4,h5,h6,h7⟩,_⟩:=bk_keep hB fr0 e
  obtain ⟨k,j1,j2,j3,j4⟩:=nd_at h4 hn
  have j31:=j3 1 (by decide)
  have o1:n.av.cells[1]? = some (.int .i64 n.so):=rfl
  have hso:soOf B q = n.so:=by simp only [soOf,hn]
  rw [hso] at hr
  have hs:=ask_sort x (min j 2) (Nat.min_le_right _ _)
  rw [sort_min] at hs
  have hsx:x.av.cells[2 + min j 2]? = some (.int .i64 (x.sort j)):=hs
  simp only [f134l1s,c1,hix,in0,min3,ix3 p 2 (min j 2) (Nat.min_le_right _ _),hp,hsx,wx,wy,Nat.reduceAdd,Nat.reduceEqDiff,reduceCtorEq]
  refine ⟨rfl,?_⟩
  have hgo:∀ (want:Int) (c:Nat),(want = bif x.sort j == -1 then last else x.sort j)→f134j3 Q (f134l1 Q (m + 1)) (.int .i64 want) (.int .i64 n.so) (.int .i64 j) (.ptr i 0) (.ptr p 0) (.sl false (a.map inA)) (.int .i64 a.length) (Ai.adv s c):=fun want c hwant=>by
   rw [← hwant] at hr
   unfold f134j3
   have hneq:∀ u v:Int,bn .neq 3 (.int .i64 u) (.int .i64 v) = some (.bool (u != v)):=fun u v=>bin_neq
   cases d1:(want != -2) with
   | false =>
    rw [d1] at hr
    simp only [hneq,d1,f134j2,w1,wx,wy,Nat.reduceAdd,Nat.reduceEqDiff,reduceCtorEq]
    exact ih (j + 1) n.so _ (by omega) e.adv hp (by simpa using hr)
   | true =>
    rw [d1] at hr
    cases d2:(want != n.so) with
    | true =>
     rw [d2] at hr
     simp only [Bool.true_and,cond_true] at hr
     rw [hr] at hQ
     simp only [hneq,d1,d2,wx,wy,Nat.reduceAdd,Nat.reduceEqDiff,reduceCtorEq]
     exact hQ _ e.adv
    | false =>
     rw [d2] at hr
     simp only [hneq,d1,d2,f134j2,w1,wx,wy,Nat.reduceAdd,Nat.reduceEqDiff,reduceCtorEq]
     exact ih (j + 1) n.so _ (by omega) e.adv hp (by simpa using hr)
  simp only [h1,j1,j2,j31,o1,eq3,wx,wy,Nat.reduceAdd,Nat.reduceEqDiff,reduceCtorEq]
  cases ho:(x.sort j == -1) with
  | true =>
   simp only [wx,wy,Nat.reduceAdd,Nat.reduceEqDiff,reduceCtorEq]
   exact hgo _ _ (by rw [ho,cond_true])
  | false =>
   simp only [wx,wy,Nat.reduceAdd,Nat.reduceEqDiff,reduceCtorEq]
   exact hgo _ _ (by rw [ho,cond_false])
theorem sorted_c (fr:Fresh s) (hB:BkR s i B F) (hw:Wf B) (x:Ask) (a:List Int) (ha:∀ q∈a,inB B q) (hl:a.length≤2 ^ 30):RdW 134 [.ptr i 0,x.av,.sl false (a.map inA)] s (.int .i64 (sortGo B x 0 0 a)):=by
 refine f134_run _ _ _ _ ?_
 unfold f134
 refine ⟨rfl,?_⟩
 simp only [ln72m,wx,wy,Nat.reduceAdd,Nat.reduceEqDiff,reduceCtorEq]
 have e0:∀ k,0 < k→EF [] s (Ai.adv (s.set s.nx (some (.cells x.av.cells 192 true true))) k):=fun k hk=>⟨by simp only [adv_nx,set_nx]; omega,fun y hy _=>by rw [adv_h,st_other (by omega)],fresh_set fr k (by omega)⟩
 exact ⟨_,l134 hw x a ha hl s fr hB s.nx _ _ (fun s' e=>⟨rfl,e⟩) a.length 0 0 _ (by omega) (e0 _ (by omega)) (by rw [adv_h,st_same]) rfl⟩
theorem callV_wi {f h:FuncId} {a cap args:List AV} (hp:Tryz.env.pm f h = false) (hk:CallWi Tryz.env h (a ++ args ++ cap) s K):CallV Tryz.env f (.fn h a cap) args s K:=by
 show CallP Tryz.env f h (a ++ args ++ cap) s K
 unfold CallP
 rw [hp]; exact hk
theorem callV_pu {f h:FuncId} {a cap args:List AV} (hp:Tryz.env.pm f h = true) (hk:CallPu Tryz.env h (a ++ args ++ cap) s K):CallV Tryz.env f (.fn h a cap) args s K:=by
 show CallP Tryz.env f h (a ++ args ++ cap) s K
 unfold CallP
 rw [hp]; exact hk
theorem c132 (fr:Fresh s) (hB:BkR s i B F) {p:Nat} (hp:s.h p = some (.cells [.ptr i 0] 51 true true)) (q:Int):RdW 132 [.int .i64 q,.ptr p 0] s (.bool (badM B q)):=by
 refine f132_run _ _ _ ?_
 unfold f132
 have hl:∀ a b:Int,bn .lss 3 (.int .i64 a) (.int .i64 b) = some (.bool (decide (a < b))):=fun a b=>bin_lss
 have hg:∀ a b:Int,bn .geq 3 (.int .i64 a) (.int .i64 b) = some (.bool (decide (a ≥ b))):=fun a b=>bin_geq
 unfold badM
 cases h:decide (q < 0) with
 | true =>
  simp only [hl,h,wx,wy,Nat.reduceAdd,Nat.reduceEqDiff,reduceCtorEq]
  exact (EF.refl _ fr).adv
 | false =>
  simp only [hl,h,hp,wx,wy,Nat.reduceAdd,Nat.reduceEqDiff,reduceCtorEq]
  refine len_c hB.adv ?_
  simp only [hg,wx,wy,Nat.reduceAdd,Nat.reduceEqDiff,reduceCtorEq]
  exact (EF.refl _ fr).adv
theorem l186 (a:List Int) (hl:a.length≤2 ^ 30) (s0:St) (fr0:Fresh s0) (hB:BkR s0 i B F) {p:Nat} (hp:s0.h p = some (.cells [.ptr i 0] 51 true true)) (Q:AV→St→Prop) (r:Bool) (hQ:∀ k s',EF [] s0 s'→decide (k ≥ 0) = r→Q (.int .i64 k) s') :
  ∀ (m j:Nat) (s:St),j + m = a.length→EF [] s0 s→r = (a.drop j).any (badM B)→f186l1 Q (m + 1) (.sl false (a.map inA)) (.fn 132 [] [.ptr p 0]) (.int .i64 a.length) (.int .i64 j) s:=by
 intro m
 induction m with
 | zero =>
  intro j s hj e hr
  show f186l1s Q (f186l1 Q 0) _ _ _ _ s
  have c1:decide ((j:Int) < (a.length:Int)) = false:=by simp; omega
  rw [List.drop_of_length_le (by omega)] at hr
  simp only [f186l1s,c1,f186j1,wx,wy,Nat.reduceAdd,Nat.reduceEqDiff,reduceCtorEq]
  exact hQ _ _ e.adv (by rw [hr]; rfl)
 | succ m ih =>
  intro j s hj e hr
  show f186l1s Q (f186l1 Q (m + 1)) _ _ _ _ s
  have c1:decide ((j:Int) < (a.length:Int)) = true:=by simp; omega
  obtain ⟨q,hq⟩:∃ q,a[j]? = some q:=⟨_,List.getElem?_eq_getElem (by omega)⟩
  rw [get_drop a j q hq,List.any_cons] at hr
  have hix:=ix_map encIn false hq .i64
  have w1:=wrap_i (i:=j) (n:=a.length) (by omega) (by omega)
  have hpp:=fr0.lt hp
  simp only [f186l1s,c1,hix,in0,wx,wy,Nat.reduceAdd,Nat.reduceEqDiff,reduceCtorEq]
  refine callV_wi (by kernel_rfl) ?_
  refine (c132 (i:=i) (B:=B) e.adv.fr (bk_keep hB fr0 e.adv) (p:=p) (by rw [e.adv.h p hpp (by simp)]; exact hp) q).call fz132 fun s1 e1=>?_
  have e2:=e.adv.nil_trans e1
  cases hb:badM B q with
  | true =>
   rw [hb,Bool.true_or] at hr
   simp only [wx,wy,Nat.reduceAdd,Nat.reduceEqDiff,reduceCtorEq]
   exact hQ _ _ e2.adv (by rw [hr]; simp)
  | false =>
   rw [hb,Bool.false_or] at hr
   simp only [f186j2,w1,wx,wy,Nat.reduceAdd,Nat.reduceEqDiff,reduceCtorEq]
   exact ih (j + 1) _ (by omega) e2.adv hr
theorem c133 (fr:Fresh s) (hB:BkR s i B F) {p:Nat} (hp:s.h p = some (.cells [.ptr i 0] 51 true true)) (a:List Int) (hl:a.length≤2 ^ 30):RdW 133 [.sl false (a.map inA),.fn 132 [] [.ptr p 0]] s (.bool (a.any (badM B))):=by
 refine f133_run _ _ _ ?_
 unfold f133
 have h186:∃ k s',WideC Tryz.env 186 [.sl false (a.map inA),.fn 132 [] [.ptr p 0]] (Ai.adv s 6) k s'∧∃ n:Int,k = .int .i64 n∧EF [] s s'∧decide (n ≥ 0) = a.any (badM B):=by
  refine f186_run _ _ _ ?_
  unfold f186
  simp only [ln72m,wx,wy,Nat.reduceAdd,Nat.reduceEqDiff,reduceCtorEq]
  exact ⟨_,l186 a hl (Ai.adv s 6) fr.adv hB.adv hp _ _ (fun k s' e hk=>⟨k,rfl,(EF.refl [] fr).adv.nil_trans e,hk⟩) a.length 0 _ (by omega) ⟨by simp only [adv_nx]; omega,fun _ _ _=>rfl,fr.adv⟩ rfl⟩
 obtain ⟨k,s',h1,n,rfl,h2,h3⟩:=h186
 refine callWiF fz186 ⟨_,s',h1,?_⟩
 have hg:∀ a b:Int,bn .geq 3 (.int .i64 a) (.int .i64 b) = some (.bool (decide (a ≥ b))):=fun a b=>bin_geq
 simp only [hg,h3,wx,wy,Nat.reduceAdd,Nat.reduceEqDiff,reduceCtorEq]
 exact h2
def asksC:List AV:=(asksL.map Ask.av).flatMap AV.cells
theorem gl1:gl 1 = .pel asksC 0:=by kernel_rfl
theorem ask_at {op:Int} (h0:0≤op) {x:Ask} (hx:asksL[op.toNat]? = some x):ixA 31 6 (gl 1) (.int .i64 op) = some (.pel asksC (op.toNat * 6))∧asksC[op.toNat * 6]? = some (.int .i64 x.parts)∧Ai.part 6 true (op.toNat * 6) asksC = some x.av:=by
 have hv:(asksL.map Ask.av)[op.toNat]? = some x.av:=by rw [List.getElem?_map,hx]; rfl
 have hlt:=(List.getElem?_eq_some_iff.1 hx).1
 have h31:asksL.length = 31:=rfl
 have hlen:∀ v∈asksL.map Ask.av,v.cells.length = 6:=fun v hv=>by obtain ⟨y,_,rfl⟩:=List.mem_map.1 hv; rfl
 obtain ⟨d1,d2⟩:=drop_flat hlen hv
 refine ⟨?_,?_,?_⟩
 ·rw [gl1]
  have:op < 31:=by omega
  simp [ixA,asI,idx,shiftP,h0,this]
 ·have:=getElem_flat hlen hv (k:=0) (by decide)
  rw [Nat.add_zero] at this
  exact this
 ·unfold asksC
  rw [part_agg,if_pos d2]
  show some (AV.agg ((((asksL.map Ask.av).flatMap AV.cells).drop (op.toNat * 6)).take 6)) = _
  rw [d1]; rfl
end
end
noncomputable section
section
variable {s:St} {i:Nat} {B:Bk} {F:List Nat} {K:AV→St→Prop}
theorem app_lt {op:Int} (h0:0≤op):(op < 31↔∃ x,asksL[op.toNat]? = some x):=by
 have h31:asksL.length = 31:=rfl
 constructor
 ·intro h; exact ⟨_,List.getElem?_eq_getElem (by omega)⟩
 ·rintro ⟨x,hx⟩; have:=(List.getElem?_eq_some_iff.1 hx).1; omega
theorem so_i64 (hok:∀ n∈B,n.ok) (q:Int):i64 (soOf B q):=by
 unfold soOf
 cases h:getN B q with
 | none=>exact ⟨by decide,by decide⟩
 | some n=>exact (hok n (getN_mem h)).so
theorem sort_i64 (hok:∀ n∈B,n.ok) {x:Ask} (hx:i64 x.own):∀ (a:List Int) (j:Nat) (last:Int),i64 last→i64 (sortGo B x j last a):=by
 intro a
 induction a with
 | nil =>
  intro j last h
  simp only [sortGo]
  cases (x.own == -1)
  ·exact hx
  ·exact h
 | cons q a ih =>
  intro j last h
  simp only [sortGo]
  generalize (bif x.sort j == -1 then last else x.sort j) = w
  cases (w != -2 && w != soOf B q)
  ·exact ih _ _ (so_i64 hok q)
  ·exact (⟨by decide,by decide⟩:i64 0)
theorem own_i64 (x:Ask) (h:x∈asksL):i64 x.own:=by
 have:(asksL.all fun x=>decide (-9223372036854775808≤x.own) && decide (x.own≤9223372036854775807)) = true:=by decide
 have:=List.all_eq_true.1 this x h
 simp only [Bool.and_eq_true,decide_eq_true_eq] at this
 exact this
theorem app_w (fr:Fresh s) (hB:BkR s i B F) (hw:Wf B) (op:Int) (a:List Int) (hop:i64 op) (hl:a.length≤2 ^ 30) (ha:∀ q∈a,i64 q):BkW 81 [.ptr i 0,.int .i64 op,.sl false (a.map inA)] s i F (appM B op a):=by
 refine f81_run _ _ _ _ ?_
 unfold f81
 refine ⟨rfl,?_⟩
 have hs:∀ u v:Int,bn .lss 3 (.int .i64 u) (.int .i64 v) = some (.bool (decide (u < v))):=fun _ _=>bin_lss
 have hg:∀ u v:Int,bn .geq 3 (.int .i64 u) (.int .i64 v) = some (.bool (decide (u ≥ v))):=fun _ _=>bin_geq
 have hgt:∀ u v:Int,bn .gtr 3 (.int .i64 u) (.int .i64 v) = some (.bool (decide (u > v))):=fun _ _=>bin_gtr
 have hcell:(AV.ptr i 0).cells = [.ptr i 0]:=rfl
 have hi:=hB.lt fr i hB.mem
 have e0:∀ (k:Nat),0 < k→EF [] s (Ai.adv (s.set s.nx (some (.cells [.ptr i 0] 51 true true))) k):=fun k hk=>⟨by simp only [adv_nx,set_nx]; omega,fun y hy _=>by rw [adv_h,st_other (by omega)],fresh_set fr k (by omega)⟩
 have hnil:∀ (k:Nat) (e:Int),0 < k→(AV.tup [.int .i64 0,.int .i64 e] = res (((0,e),B):(Int × Int) × Bk).1∧BkQ s i F (((0,e),B):(Int × Int) × Bk).2 (Ai.adv (s.set s.nx (some (.cells [.ptr i 0] 51 true true))) k)):=fun k e hk=>⟨rfl,BkQ.same hB fr (e0 k hk)⟩
 unfold appM
 cases h1:decide (op < 0) with
 | true =>
  simp only [hcell,hs,h1,wx,wy,Nat.reduceAdd,Nat.reduceEqDiff,reduceCtorEq]
  exact hnil _ _ (by omega)
 | false =>
 have o1:=of_decide_eq_false h1
 cases h2:asksL[op.toNat]? with
 | none =>
  have h31:decide (op ≥ 31) = true:=decide_eq_true (by
   have:=app_lt (op:=op) (by omega)
   by_cases hc:op < 31
   ·obtain ⟨x,hx⟩:=this.1 hc; rw [h2] at hx; cases hx
   ·omega)
  simp only [hcell,hs,hg,h1,h31,wx,wy,Nat.reduceAdd,Nat.reduceEqDiff,reduceCtorEq]
  exact hnil _ _ (by omega)
 | some x =>
 have h31:decide (op ≥ 31) = false:=decide_eq_false (by have:=(app_lt (op:=op) (by omega)).2 ⟨x,h2⟩; omega)
 obtain ⟨a1,a2,a3⟩:=ask_at (op:=op) (by omega) h2
 cases h3:(x.parts == 0) with
 | true =>
  simp only [hcell,hs,hg,h1,h31,a1,a2,eq3,h3,wx,wy,Nat.reduceAdd,Nat.reduceEqDiff,reduceCtorEq]
  exact hnil _ _ (by omega)
 | false =>
 have hst:∀ (q:St) (k c:Nat),sto 6 (.ptr k 0) x.av (Ai.adv (q.set k (some (.cells (AV.agg [.int .i64 0,.bool false,.int .i64 0,.int .i64 0,.int .i64 0,.int .i64 0]).cells 192 true true))) c) = some (Ai.adv (q.set k (some (.cells x.av.cells 192 true true))) c):=fun q k c=>by
  rw [sto_all (z:=6) (by rw [adv_h,st_same]) rfl rfl rfl,adv_set,set_set]
 have hp6:Ai.part 6 true 0 x.av.cells = some x.av:=rfl
 have q0:x.av.cells[0]? = some (.int .i64 x.parts):=rfl
 have q1:x.av.cells[1]? = some (.bool x.more):=rfl
 obtain ⟨p,hp⟩:∃ p,p = s.nx:=⟨_,rfl⟩
 have e1:∀ (k d:Nat),0 < d→d < k→EF [] s (Ai.adv ((s.set s.nx (some (.cells [.ptr i 0] 51 true true))).set (s.nx + d) (some (.cells x.av.cells 192 true true))) k):=fun k d hd hk =>
  ⟨by simp only [adv_nx,set_nx]; omega,fun y hy _=>by rw [adv_h,st_other (by omega),st_other (by omega)],fun y hy=>by
   have hy:s.nx + k≤y:=hy
   rw [adv_h,st_other (by omega),st_other (by omega)]; exact fr y (by omega)⟩
 have hnil1:∀ (k d:Nat) (e:Int),0 < d→d < k→(AV.tup [.int .i64 0,.int .i64 e] = res (((0,e),B):(Int × Int) × Bk).1∧BkQ s i F (((0,e),B):(Int × Int) × Bk).2 (Ai.adv ((s.set s.nx (some (.cells [.ptr i 0] 51 true true))).set (s.nx + d) (some (.cells x.av.cells 192 true true))) k)):=fun k d e hd hk=>⟨rfl,BkQ.same hB fr (e1 k d hd hk)⟩
 simp only [hcell,hs,hg,h1,h31,a1,a2,a3,eq3,h3,zf192,hst,ln72m,q0,wx,wy,Nat.reduceAdd,Nat.reduceEqDiff,reduceCtorEq]
 have hx64:i64 x.own:=own_i64 x (List.mem_of_getElem? h2)
 have hok:∀ n∈B,n.ok:=by obtain ⟨_,_,_,⟨_,_,_,_,_,h,_⟩,_⟩:=hB; exact h
 cases h4:decide ((a.length:Int) < x.parts) with
 | true =>
  simp only [h4,Bool.true_or,wx,wy,Nat.reduceAdd,Nat.reduceEqDiff,reduceCtorEq]
  exact hnil1 _ _ _ (by omega) (by omega)
 | false =>
 by_cases h56:(decide ((a.length:Int) > x.parts) && !x.more) = true
 ·simp only [Bool.and_eq_true,Bool.not_eq_true'] at h56
  obtain ⟨h5,h6⟩:=h56
  rw [h6] at q1
  simp only [h4,h5,h6,q0,q1,hgt,ln72m,Bool.not_false,Bool.and_self,Bool.true_or,Bool.false_or,wx,wy,Nat.reduceAdd,Nat.reduceEqDiff,reduceCtorEq]
  exact hnil1 _ _ _ (by omega) (by omega)
 ·have hc:decide ((a.length:Int) > x.parts) = false∨(decide ((a.length:Int) > x.parts) = true∧x.more = true):=by
   cases h5:decide ((a.length:Int) > x.parts) with
   | false=>exact .inl rfl
   | true =>
    rw [h5] at h56
    cases h6:x.more with
    | false=>rw [h6] at h56; simp at h56
    | true=>exact .inr ⟨rfl,rfl⟩
  have h56:(decide ((a.length:Int) > x.parts) && !x.more) = false:=by simpa using h56
  rcases hc with h5 | ⟨h5,h6⟩
  all_goals
   first
    | (rw [h6] at q1; simp only [h4,h5,h6,q0,q1,hgt,ln72m,Bool.not_true,Bool.and_false,Bool.false_or,wx,wy,Nat.reduceAdd,Nat.reduceEqDiff,reduceCtorEq])
    | simp only [h4,h5,h56,q0,q1,hgt,ln72m,Bool.false_or,wx,wy,Nat.reduceAdd,Nat.reduceEqDiff,reduceCtorEq]
   cases h7:decide ((a.length:Int) > 200) with
   | true =>
    simp only [Bool.true_or,wx,wy,Nat.reduceAdd,Nat.reduceEqDiff,reduceCtorEq]
    exact hnil1 _ _ _ (by omega) (by omega)
   | false =>
    simp only [Bool.false_or,wx,wy,Nat.reduceAdd,Nat.reduceEqDiff,reduceCtorEq]
    refine (c133 (i:=i) (B:=B) (e1 _ _ (by omega) (by omega)).fr (bk_keep hB fr (e1 _ _ (by omega) (by omega))) (p:=s.nx) (by rw [adv_h,st_other (by omega),st_same]) a hl).call fz133 fun s1 k1=>?_
    have k2:=(e1 _ _ (by omega) (by omega)).nil_trans k1
    have b1:s1.h s.nx = some (.cells [.ptr i 0] 51 true true):=by rw [k1.h s.nx (by simp only [adv_nx,set_nx]; omega) (by simp),adv_h,st_other (by omega),st_same]
    have b2:s1.h (s.nx + 19) = some (.cells x.av.cells 192 true true):=by rw [k1.h (s.nx + 19) (by simp only [adv_nx,set_nx]; omega) (by simp),adv_h,st_same]
    have n1:s.nx + 20≤s1.nx:=by have:=k1.nx; simp only [adv_nx,set_nx] at this; omega
    cases h8:a.any (badM B) with
    | true =>
     simp only [wx,wy,Nat.reduceAdd,Nat.reduceEqDiff,reduceCtorEq]
     exact ⟨rfl,BkQ.same hB fr k2.adv⟩
    | false =>
     have hin:=bad_in.1 h8
     simp only [b1,b2,hp6,wx,wy,Nat.reduceAdd,Nat.reduceEqDiff,reduceCtorEq]
     refine (sorted_c (i:=i) (B:=B) k2.adv.fr (bk_keep hB fr k2.adv) hw x a hin hl).call fz134 fun s2 k3=>?_
     have k4:=k2.adv.nil_trans k3
     have n2:=k3.nx
     simp only [adv_nx] at n2
     have c1:s2.h s.nx = some (.cells [.ptr i 0] 51 true true):=by rw [k3.h s.nx (by simp only [adv_nx]; omega) (by simp)]; exact b1
     cases h9:(sortGo B x 0 0 a == 0) with
     | true =>
      simp only [eq3,h9,wx,wy,Nat.reduceAdd,Nat.reduceEqDiff,reduceCtorEq]
      exact ⟨rfl,BkQ.same hB fr k4.adv⟩
     | false =>
      have ho:Nd.ok ⟨op,sortGo B x 0 0 a,a,[],false,[],[]⟩:=nd_ok hop (sort_i64 hok hx64 a 0 0 (i64_small (by decide) (by decide))) ha (by have:=of_decide_eq_false h7; omega) (by simp) (fun _ h=>by cases h) (by simp) (fun _ h=>by cases h) (by simp)
      have hb:bld 101 [(0,.int .i64 op),(1,.int .i64 (sortGo B x 0 0 a)),(2,.sl false (a.map inA))] = some (rawN ⟨op,sortGo B x 0 0 a,a,[],false,[],[]⟩ (.sl false (a.map inA)) .nils .nils):=by rw [bf101]; rfl
      cases h10:(op == 17) with
      | false =>
       simp only [eq3,h9,h10,Bool.false_and,f81j1,c1,hb,wx,wy,Nat.reduceAdd,Nat.reduceEqDiff,reduceCtorEq]
       refine (add_w k4.adv.fr (bk_keep hB fr k4.adv) ho (raw_of _ (.inl rfl) em_nil em_nil)).call fz131 fun s' hs'=>?_
       simp only [ex0,ex1,wx,wy,Nat.reduceAdd,Nat.reduceEqDiff,reduceCtorEq]
       exact ⟨rfl,hs'.from k4.adv⟩
      | true =>
       simp only [eq3,h9,h10,c1,Bool.true_and,wx,wy,Nat.reduceAdd,Nat.reduceEqDiff,reduceCtorEq]
       refine (linear_c (i:=i) (B:=B) k4.adv.fr (bk_keep hB fr k4.adv) hw a hin hl).call fz135 fun s3 k5=>?_
       have k6:=k4.adv.nil_trans k5
       have d1:s3.h s.nx = some (.cells [.ptr i 0] 51 true true):=by rw [k5.h s.nx (by simp only [adv_nx]; omega) (by simp)]; exact c1
       cases h11:decide (freeM B a≤1) with
       | false =>
        simp only [h10,Bool.not_false,wx,wy,Nat.reduceAdd,Nat.reduceEqDiff,reduceCtorEq]
        exact ⟨rfl,BkQ.same hB fr k6.adv⟩
       | true =>
        simp only [h10,Bool.not_true,f81j1,d1,hb,wx,wy,Nat.reduceAdd,Nat.reduceEqDiff,reduceCtorEq]
        refine (add_w k6.adv.fr (bk_keep hB fr k6.adv) ho (raw_of _ (.inl rfl) em_nil em_nil)).call fz131 fun s' hs'=>?_
        simp only [ex0,ex1,wx,wy,Nat.reduceAdd,Nat.reduceEqDiff,reduceCtorEq]
        exact ⟨rfl,hs'.from k6.adv⟩
end
end
noncomputable section
section
variable {s:St} {i:Nat} {B:Bk} {F:List Nat} {K:AV→St→Prop}
theorem fz53:Tryz.env.fz 53 = false:=by kernel_rfl
theorem at_c (fr:Fresh s) (hB:BkR s i B F) {id:Int} {n:Nd} (hid:inB B id) (hn:getN B id = some n):RdW 53 [.ptr i 0,.int .i64 id] s (.tup [n.av,.bool true]):=by
 have hF:=hB.lt fr
 have hi:=hF i hB.mem
 refine f53_run _ _ _ ?_
 unfold f53
 have hs:∀ u v:Int,bn .lss 3 (.int .i64 u) (.int .i64 v) = some (.bool (decide (u < v))):=fun _ _=>bin_lss
 have hg:∀ u v:Int,bn .geq 3 (.int .i64 u) (.int .i64 v) = some (.bool (decide (u ≥ v))):=fun _ _=>bin_geq
 have h1:decide (id < 0) = false:=decide_eq_false (by have:=hid.1; omega)
 have h2:decide (id ≥ (B.length:Int)) = false:=decide_eq_false (by have:=hid.2; omega)
 have hz:(AV.agg [.int .i64 0,.int .i64 0,.nils,.str [],.bool false,.nils,.nils]).cells = [.int .i64 0,.int .i64 0,.nils,.str [],.bool false,.nils,.nils]:=rfl
 have e0:∀ (C:Option Blk) (k:Nat),0 < k→EF [] s (Ai.adv (s.set s.nx C) k):=fun C k hk=>⟨by simp only [adv_nx,set_nx]; omega,fun y hy _=>by rw [adv_h,st_other (by omega)],fresh_set fr k (by omega)⟩
 simp only [zf101,hz,hs,h1,wx,wy,Nat.reduceAdd,Nat.reduceEqDiff,reduceCtorEq]
 refine len_c (bk_keep hB fr (e0 _ _ (by omega))) ?_
 obtain ⟨xl,m,xn,⟨b1,b2,b3,b4,b5,b6,b7⟩,rfl⟩:=hB
 obtain ⟨j,j1,j2,j3,j4⟩:=nd_at b4 hn
 have hj:=fr.lt j1
 have ni:¬ (i = s.nx):=by omega
 have nj:¬ (j = s.nx):=by omega
 simp only [hg,h2,wx,wy,Nat.reduceAdd,Nat.reduceEqDiff,reduceCtorEq]
 refine ⟨rfl,?_⟩
 simp only [b1,ni,nj,j1,j2,j4,if_false,wx,wy,Nat.reduceAdd,Nat.reduceEqDiff,reduceCtorEq]
 refine callPu (c104 n (b6 n (getN_mem hn))) (by simp [nd_closed]) ?_
 rw [sto_all (z:=7) (by rw [adv_h,st_same]) rfl rfl rfl]
 simp only [adv_set,set_set,nd_part,wx,wy,Nat.reduceAdd,Nat.reduceEqDiff,reduceCtorEq]
 exact e0 _ _ (by omega)
theorem RdW.callD {f:FuncId} {args:List AV} {l:List Nat} {v:AV} (h:RdW f args (s.only l) v) (hz:Tryz.env.fz f = false) (fr:Fresh s) (hk:∀ s',EF [] s s'→K v s'):CallWiD Tryz.env f args l s K:=by
 obtain ⟨r,s',h1,rfl,h2⟩:=h
 exact callWiDF hz ⟨_,s',h1,hk _ (merge_EF h2 fun j hj=>by cases hj)⟩
theorem at_D (fr:Fresh s) (hB:BkR s i B F) {id:Int} {n:Nd} (hid:inB B id) (hn:getN B id = some n) {l:List Nat} {f:FuncId} (hl:l = rch s [.fn f [] [],.ptr i 0,.int .i64 id]) (hk:∀ s',EF [] s s'→K (.tup [n.av,.bool true]) s'):CallWiD Tryz.env 53 [.ptr i 0,.int .i64 id] l s K:=by
 have hm:∀ j,j∈l↔j∈F:=fun j=>by rw [hl]; exact hB.rch rfl j
 have hB':BkR (s.only l) i B F:=hB.keep fun j hj=>by rw [only_h,if_pos ((hm j).2 hj)]
 exact (at_c (only_fresh fr) hB' hid hn).callD fz53 fr hk
theorem BkW.callD {f g:FuncId} {args:List AV} {l:List Nat} {r:(Int × Int) × Bk} (hz:Tryz.env.fz f = false) (fr:Fresh s) (hB:BkR s i B F) (hl:l = rch s (.fn g [] [] :: args)) (hv:idsL (.fn g [] [] :: args) = [i]) (h:∀ s,Fresh s→BkR s i B F→BkW f args s i F r) (hk:∀ s',BkQ s i F r.2 s'→K (res r.1) s'):CallWiD Tryz.env f args l s K:=by
 have hm:∀ j,j∈l↔j∈F:=fun j=>by rw [hl]; exact hB.rch hv j
 have hB':BkR (s.only l) i B F:=hB.keep fun j hj=>by rw [only_h,if_pos ((hm j).2 hj)]
 obtain ⟨v,s',h1,rfl,F',h2,h3,h4⟩:=h (s.only l) (only_fresh fr) hB'
 have hM:∀ j∈F,j∈l:=fun j hj=>(hm j).2 hj
 refine callWiDF hz ⟨_,s',h1,hk _ ⟨F',?_,merge_EF h3 hM,h4⟩⟩
 exact h2.keep fun j hj=>by
  obtain ⟨b,hb⟩:=h2.have j hj
  rw [hb]; exact merge_some h3 hM hb
theorem st0 (q:List UInt8):(stA q).cells[0]? = some (.str q):=rfl
theorem sts_closed (l:List (List UInt8)):(AV.sl false (l.map stA)).closed = true:=sl_closed_map _ _ fun _ _=>rfl
theorem ln52m (ex:Bool) (l:List (List UInt8)) (id:Nat) (s:St):bt .len #[52] [.sl ex (l.map stA)] id s = some (.int .i64 l.length,s):=by rw [ln52s,List.length_map]
theorem eq9 (a b:List UInt8):bn .eql 9 (.str a) (.str b) = some (.bool (a == b)):=bin_seql
theorem c248 (l:List (List UInt8)) (hl:l.length≤2 ^ 30) (q:List UInt8):∃ k:Int,PureC Tryz.env 248 [.sl false (l.map stA),.str q] (.int .i64 k)∧decide (k ≥ 0) = l.any (· == q):=by
 have key:∀ (Q:AV→St→Prop) (r:Bool),(∀ (k:Int) (s:St),decide (k ≥ 0) = r→Q (.int .i64 k) s)→∀ (m j:Nat) (s:St),j + m = l.length→r = (l.drop j).any (· == q)→f248l1 Q (m + 1) (.sl false (l.map stA)) (.str q) (.int .i64 l.length) (.int .i64 j) s:=by
  intro Q r hQ m
  induction m with
  | zero =>
   intro j s hj hr
   show f248l1s Q (f248l1 Q 0) _ _ _ _ s
   have c1:decide ((j:Int) < (l.length:Int)) = false:=by simp; omega
   rw [List.drop_of_length_le (by omega)] at hr
   simp only [f248l1s,c1,f248j1,wx,wy,Nat.reduceAdd,Nat.reduceEqDiff,reduceCtorEq]
   exact hQ _ _ (by rw [hr]; rfl)
  | succ m ih =>
   intro j s hj hr
   show f248l1s Q (f248l1 Q (m + 1)) _ _ _ _ s
   have c1:decide ((j:Int) < (l.length:Int)) = true:=by simp; omega
   obtain ⟨y,hy⟩:∃ y,l[j]? = some y:=⟨_,List.getElem?_eq_getElem (by omega)⟩
   rw [get_drop l j y hy,List.any_cons] at hr
   have hix:=ix_map encSt false hy .i64
   have w1:=wrap_i (i:=j) (n:=l.length) (by omega) (by omega)
   simp only [f248l1s,c1,hix,st0,eq9,wx,wy,Nat.reduceAdd,Nat.reduceEqDiff,reduceCtorEq]
   have hsym:(y == q) = (q == y):=by
    cases h:(q == y) with
    | true=>have:q = y:=by simpa using h
            subst this; simp
    | false =>
     cases h2:(y == q) with
     | false=>rfl
     | true=>have:y = q:=by simpa using h2
             subst this; simp at h
   rw [hsym] at hr
   cases h:(q == y) with
   | true =>
    rw [h,Bool.true_or] at hr
    simp only [wx,wy,Nat.reduceAdd,Nat.reduceEqDiff,reduceCtorEq]
    exact hQ _ _ (by rw [hr]; simp)
   | false =>
    rw [h,Bool.false_or] at hr
    simp only [f248j2,w1,wx,wy,Nat.reduceAdd,Nat.reduceEqDiff,reduceCtorEq]
    exact ih (j + 1) _ (by omega) hr
 have h:=f248_run (.sl false (l.map stA)) (.str q) St.empty (Q:=fun v _=>∃ k:Int,v = .int .i64 k∧decide (k ≥ 0) = l.any (· == q)) (by
  unfold f248
  simp only [ln52m,wx,wy,Nat.reduceAdd,Nat.reduceEqDiff,reduceCtorEq]
  exact ⟨_,key _ _ (fun k s hk=>⟨k,rfl,hk⟩) l.length 0 _ (by omega) rfl⟩)
 obtain ⟨v,s',h1,k,rfl,h2⟩:=h
 exact ⟨k,pure_q ⟨_,s',h1,pureQ_closed rfl⟩,h2⟩
theorem c221 (l:List (List UInt8)) (hl:l.length≤2 ^ 30) (q:List UInt8):PureC Tryz.env 221 [.sl false (l.map stA),.str q] (.bool (l.any (· == q))):=by
 obtain ⟨k,h1,h2⟩:=c248 l hl q
 refine pure_q (f221_run _ _ _ ?_)
 unfold f221
 refine callPu h1 (by intro x hx; simp only [List.mem_cons,List.mem_nil_iff,or_false] at hx; rcases hx with rfl | rfl; exact sts_closed l; rfl) ?_
 have hg:∀ u v:Int,bn .geq 3 (.int .i64 u) (.int .i64 v) = some (.bool (decide (u ≥ v))):=fun _ _=>bin_geq
 simp only [hg,h2,wx,wy,Nat.reduceAdd,Nat.reduceEqDiff,reduceCtorEq]
 exact pureQ_closed rfl
theorem c192 (l:List (List UInt8)) (hl:l.length≤2 ^ 30):PureC Tryz.env 192 [.sl false (l.map stA)] (.bool (dbl l)):=by
 have key:∀ (Q:AV→St→Prop) (r:Bool),(∀ s,Q (.bool r) s)→∀ (m j:Nat) (s:St),j + m = l.length→r = ((List.range l.length).drop j).any (fun i=>(l.take i).any fun y=>some y == l[i]?)→f192l1 Q (m + 1) (.sl false (l.map stA)) (.sl false (l.map stA)) (.int .i64 l.length) (.int .i64 j) s:=by
  intro Q r hQ m
  induction m with
  | zero =>
   intro j s hj hr
   show f192l1s Q (f192l1 Q 0) _ _ _ _ s
   have c1:decide ((j:Int) < (l.length:Int)) = false:=by simp; omega
   rw [List.drop_of_length_le (by rw [List.length_range]; omega)] at hr
   have hr:r = false:=hr
   subst hr
   simp only [f192l1s,c1,f192j1,wx,wy,Nat.reduceAdd,Nat.reduceEqDiff,reduceCtorEq]
   exact hQ _
  | succ m ih =>
   intro j s hj hr
   show f192l1s Q (f192l1 Q (m + 1)) _ _ _ _ s
   have c1:decide ((j:Int) < (l.length:Int)) = true:=by simp; omega
   obtain ⟨y,hy⟩:∃ y,l[j]? = some y:=⟨_,List.getElem?_eq_getElem (by omega)⟩
   have hrg:(List.range l.length)[j]? = some j:=List.getElem?_range (by omega)
   rw [get_drop _ j j hrg,List.any_cons,hy] at hr
   have hix:=ix_map encSt false hy .i64
   have w1:=wrap_i (i:=j) (n:=l.length) (by omega) (by omega)
   have hsl:∀ s,slc 52 (.sl false (l.map stA)) none (some (.int .i64 (j:Int))) none s = some (.sl false ((l.take j).map stA)):=fun s=>by
    rw [slc_take tf52 encSt.len false l (by omega) .i64,Bool.false_and]
   simp only [f192l1s,c1,hix,st0,hsl,wx,wy,Nat.reduceAdd,Nat.reduceEqDiff,reduceCtorEq]
   refine callPu (c221 (l.take j) (by simp only [List.length_take]; omega) y) (by intro x hx; simp only [List.mem_cons,List.mem_nil_iff,or_false] at hx; rcases hx with rfl | rfl; exact sts_closed _; rfl) ?_
   have he:(l.take j).any (fun x=>some x == some y) = (l.take j).any (· == y):=rfl
   rw [he] at hr
   cases h:(l.take j).any (· == y) with
   | true =>
    rw [h,Bool.true_or] at hr
    subst hr
    simp only [wx,wy,Nat.reduceAdd,Nat.reduceEqDiff,reduceCtorEq]
    exact hQ _
   | false =>
    rw [h,Bool.false_or] at hr
    simp only [f192j2,w1,wx,wy,Nat.reduceAdd,Nat.reduceEqDiff,reduceCtorEq]
    exact ih (j + 1) _ (by omega) hr
 refine pure_q (f192_run _ _ ?_)
 unfold f192
 simp only [ln52m,wx,wy,Nat.reduceAdd,Nat.reduceEqDiff,reduceCtorEq]
 exact ⟨_,key _ _ (fun s=>pureQ_closed rfl) l.length 0 _ (by omega) rfl⟩
theorem gw_ix {e:TypeId} {z:Nat} {x:AV} {vs:List AV} (g:Gw e z 0 s x vs) {k:Nat} {v:AV} (hv:vs[k]? = some v):∃ j,s.h j = some (.cells (vs.flatMap AV.cells) e false true)∧ixS z x (.int .i64 (k:Int)) = some (.ptr j (k * z))∧∀ o,o < z→(vs.flatMap AV.cells)[k * z + o]? = v.cells[o]?:=by
 have hlt:=(List.getElem?_eq_some_iff.1 hv).1
 obtain ⟨g1,⟨rfl,g2⟩ | ⟨j,_,rfl,g3⟩⟩:=g
 ·rw [g2] at hlt; simp at hlt
 ·have hlen:∀ v∈vs,v.cells.length = z:=fun v hv=>(g1 v hv).1
  have hix:=ix_ref (e:=e) (z:=z) (id:=j) (off:=0) (c:=none) hlt .i64
  rw [Nat.zero_add] at hix
  exact ⟨j,g3,hix,fun o ho=>getElem_flat hlen hv ho⟩
theorem fz193:Tryz.env.fz 193 = false:=by kernel_rfl
theorem fz222:Tryz.env.fz 222 = false:=by kernel_rfl
theorem c193 (fr:Fresh s) {x:AV} {l:List (List UInt8)} (hx:Gw 9 1 0 s x (l.map stA)) (hl:l.length≤2 ^ 30):RdW 193 [x,.fn 24 [] []] s (.bool (l.any reservedM)):=by
 refine f193_run _ _ _ ?_
 unfold f193
 have key:∀ (Q:AV→St→Prop) (r:Bool) (s0:St),Fresh s0→Gw 9 1 0 s0 x (l.map stA)→(∀ (k:Int) (s':St),EF [] s0 s'→decide (k ≥ 0) = r→Q (.int .i64 k) s')→∀ (m j:Nat) (s:St),j + m = l.length→EF [] s0 s→r = (l.drop j).any reservedM→f222l1 Q (m + 1) x (.fn 24 [] []) (.int .i64 l.length) (.int .i64 j) s:=by
  intro Q r s0 fr0 hx0 hQ m
  induction m with
  | zero =>
   intro j s hj e hr
   show f222l1s Q (f222l1 Q 0) _ _ _ _ s
   have c1:decide ((j:Int) < (l.length:Int)) = false:=by simp; omega
   rw [List.drop_of_length_le (by omega)] at hr
   simp only [f222l1s,c1,f222j1,wx,wy,Nat.reduceAdd,Nat.reduceEqDiff,reduceCtorEq]
   exact hQ _ _ e.adv (by rw [hr]; rfl)
  | succ m ih =>
   intro j s hj e hr
   show f222l1s Q (f222l1 Q (m + 1)) _ _ _ _ s
   have c1:decide ((j:Int) < (l.length:Int)) = true:=by simp; omega
   obtain ⟨y,hy⟩:∃ y,l[j]? = some y:=⟨_,List.getElem?_eq_getElem (by omega)⟩
   rw [get_drop l j y hy,List.any_cons] at hr
   have hv:(l.map stA)[j]? = some (stA y):=by rw [List.getElem?_map,hy]; rfl
   have w1:=wrap_i (i:=j) (n:=l.length) (by omega) (by omega)
   obtain ⟨k,k1,k2,k3⟩:=gw_ix (hx0.ext fr0 e fun _ _ h=>by cases h) hv
   have k4:((l.map stA).flatMap AV.cells)[j]? = some (.str y):=by
    have:=k3 0 (by decide)
    rw [Nat.add_zero,Nat.mul_one] at this
    exact this
   rw [Nat.mul_one] at k2
   simp only [f222l1s,c1,k2,k1,k4,wx,wy,Nat.reduceAdd,Nat.reduceEqDiff,reduceCtorEq]
   refine callV_pu (by kernel_rfl) ?_
   refine callPu (c24 y) (by simp [AV.closed]) ?_
   have hrs:reservedM y = ((hit resN y).isSome || (opN y != 0) || pre [115,116,114,46] y || pre [114,101,46] y):=rfl
   rw [← hrs]
   cases h:reservedM y with
   | true =>
    rw [h,Bool.true_or] at hr
    simp only [wx,wy,Nat.reduceAdd,Nat.reduceEqDiff,reduceCtorEq]
    exact hQ _ _ e.adv (by rw [hr]; simp)
   | false =>
    rw [h,Bool.false_or] at hr
    simp only [f222j2,w1,wx,wy,Nat.reduceAdd,Nat.reduceEqDiff,reduceCtorEq]
    exact ih (j + 1) _ (by omega) e.adv hr
 have h222:∃ k s',WideC Tryz.env 222 [x,.fn 24 [] []] (Ai.adv s 6) k s'∧∃ n:Int,k = .int .i64 n∧EF [] s s'∧decide (n ≥ 0) = l.any reservedM:=by
  refine f222_run _ _ _ ?_
  unfold f222
  have hln:∀ id,bt .len #[52] [x] id (Ai.adv s 10) = some (.int .i64 l.length,Ai.adv s 10):=fun id=>gw_str_len hx.adv id
  simp only [hln,wx,wy,Nat.reduceAdd,Nat.reduceEqDiff,reduceCtorEq]
  exact ⟨_,key _ _ (Ai.adv s 6) fr.adv hx.adv (fun k s' e hk=>⟨k,rfl,(EF.refl [] fr).adv.nil_trans e,hk⟩) l.length 0 _ (by omega) ⟨by simp only [adv_nx]; omega,fun _ _ _=>rfl,fr.adv⟩ rfl⟩
 obtain ⟨k,s',h1,n,rfl,h2,h3⟩:=h222
 refine callWiF fz222 ⟨_,s',h1,?_⟩
 have hg:∀ a b:Int,bn .geq 3 (.int .i64 a) (.int .i64 b) = some (.bool (decide (a ≥ b))):=fun a b=>bin_geq
 simp only [hg,h3,wx,wy,Nat.reduceAdd,Nat.reduceEqDiff,reduceCtorEq]
 exact h2
end
end
noncomputable section
def scA (v:AV × AV):AV:=.agg [v.1,v.2]
section
variable {s s':St} {p ib:Nat} {x:AV} {vs:List (AV × AV)} {K:AV→St→Prop}
def InX (s:St) (x:AV) (vs:List (AV × AV)):Prop :=
 (x = .nils∧vs = [])∨(x = .sl true (vs.map scA))∨∃ id c,x = .ref id 0 vs.length none 254∧s.h id = some (.cells c 254 false true)∧c.take (vs.length * 2) = (vs.map scA).flatMap AV.cells∧vs.length * 2≤c.length∧∃ k,c.length = k * 2
def ScR (s:St) (v:AV × AV) (sc:Ev):Prop:=Gw 9 1 0 s v.1 ((sc.map (·.1)).map stA)∧Em v.2 ((sc.map (·.2)).map inA)∧sc.length≤2 ^ 20
def ScsR (s:St):List (AV × AV)→List Ev→Prop
 | [],[]=>True
 | v :: vs,sc :: scs=>ScR s v sc∧ScsR s vs scs
 | _,_=>False
def inIds (x:AV) (vs:List (AV × AV)):List Nat:=idOf x ++ vs.flatMap fun v=>idOf v.1
theorem ScR.keep {v:AV × AV} {sc:Ev} (h:ScR s v sc) (hk:∀ j∈idOf v.1,s'.h j = s.h j):ScR s' v sc:=⟨h.1.keep hk,h.2⟩
theorem ScsR.keep:∀ {vs:List (AV × AV)} {scs:List Ev},ScsR s vs scs→(∀ j∈vs.flatMap (fun v=>idOf v.1),s'.h j = s.h j)→ScsR s' vs scs:=by
 intro vs
 induction vs with
 | nil=>intro scs h _; cases scs with
  | nil=>exact h
  | cons a b=>exact h.elim
 | cons v vs ih =>
  intro scs h hk
  cases scs with
  | nil=>exact h.elim
  | cons sc scs=>exact ⟨h.1.keep fun j hj=>hk j (by simp [hj]),ih h.2 fun j hj=>hk j (by simp only [List.flatMap_cons,List.mem_append]; exact .inr hj)⟩
theorem ScsR.len:∀ {vs:List (AV × AV)} {scs:List Ev},ScsR s vs scs→vs.length = scs.length:=by
 intro vs
 induction vs with
 | nil=>intro scs h; cases scs with
  | nil=>rfl
  | cons a b=>exact h.elim
 | cons v vs ih =>
  intro scs h
  cases scs with
  | nil=>exact h.elim
  | cons sc scs=>simp only [List.length_cons,ih h.2]
theorem ScsR.get:∀ {vs:List (AV × AV)} {scs:List Ev},ScsR s vs scs→∀ {j:Nat} {v:AV × AV} {sc:Ev},vs[j]? = some v→scs[j]? = some sc→ScR s v sc:=by
 intro vs
 induction vs with
 | nil=>intro scs _ j v sc h; simp at h
 | cons w vs ih =>
  intro scs h j v sc hv hs
  cases scs with
  | nil=>exact h.elim
  | cons sc2 scs =>
   cases j with
   | zero=>simp at hv hs; subst hv; subst hs; exact h.1
   | succ j=>simp at hv hs; exact ih h.2 hv hs
theorem ScsR.has:∀ {vs:List (AV × AV)} {scs:List Ev},ScsR s vs scs→∀ j∈vs.flatMap (fun v=>idOf v.1),∃ b,s.h j = some b:=by
 intro vs
 induction vs with
 | nil=>intro scs _ j h; simp at h
 | cons w vs ih =>
  intro scs h j hj
  cases scs with
  | nil=>exact h.elim
  | cons sc scs =>
   simp only [List.flatMap_cons,List.mem_append] at hj
   rcases hj with hj | hj
   ·exact ⟨_,h.1.1.has j hj⟩
   ·exact ih h.2 j hj
theorem InX.keep (h:InX s x vs) (hk:∀ j∈idOf x,s'.h j = s.h j):InX s' x vs:=by
 rcases h with h | h | ⟨id,c,rfl,h1,h2⟩
 ·exact .inl h
 ·exact .inr (.inl h)
 ·exact .inr (.inr ⟨id,c,rfl,by rw [hk id (by simp [idOf])]; exact h1,h2⟩)
theorem InX.has (h:InX s x vs):∀ j∈idOf x,∃ b,s.h j = some b:=by
 rcases h with ⟨rfl,_⟩ | rfl | ⟨id,c,rfl,h1,h2⟩
 ·intro j hj; cases hj
 ·intro j hj; cases hj
 ·intro j hj; simp only [idOf,List.mem_singleton] at hj; subst hj; exact ⟨_,h1⟩
theorem scs_len (vs:List (AV × AV)):((vs.map scA).flatMap AV.cells).length = vs.length * 2:=by
 induction vs with
 | nil=>rfl
 | cons v l ih=>simp only [List.map_cons,List.flatMap_cons,List.length_append,ih,List.length_cons]; show 2 + l.length * 2 = _; omega
theorem InX.ix (h:InX s x vs) {j:Nat} {v:AV × AV} (hv:vs[j]? = some v):∃ a a0 a1,ixS 2 x (.int .i64 (j:Int)) = some a∧shiftP 0 a = some a0∧shiftP 1 a = some a1∧(∀ S:St,S.h = s.h→ld 1 false a0 S = some v.1)∧(∀ S:St,S.h = s.h→ld 1 false a1 S = some v.2):=by
 have hlt:=(List.getElem?_eq_some_iff.1 hv).1
 have hm:(vs.map scA)[j]? = some (scA v):=by rw [List.getElem?_map,hv]; rfl
 rcases h with ⟨_,rfl⟩ | rfl | ⟨id,c,rfl,h1,h2,h3,_⟩
 ·simp at hlt
 ·have hix:ixS 2 (.sl true (vs.map scA)) (.int .i64 (j:Int)) = some (.pel (scA v).cells 0):=by
   have hlt2:j < (vs.map scA).length:=by simpa using hlt
   simp only [ixS,asI,Option.bind_some,idx]
   rw [if_pos (by omega)]
   simp only [Option.bind_some,Int.toNat_natCast,hm]
   rfl
  exact ⟨_,_,_,hix,rfl,rfl,fun _ _=>rfl,fun _ _=>rfl⟩
 ·have hix:=ix_ref (e:=254) (z:=2) (id:=id) (off:=0) (c:=none) hlt .i64
  rw [Nat.zero_add] at hix
  have hlen:∀ v∈vs.map scA,v.cells.length = 2:=fun v hv=>by obtain ⟨w,_,rfl⟩:=List.mem_map.1 hv; rfl
  have g0:=getElem_flat hlen hm (k:=0) (by decide)
  have g1:=getElem_flat hlen hm (k:=1) (by decide)
  rw [← h2,List.getElem?_take_of_lt (by omega)] at g0 g1
  exact ⟨_,_,_,hix,rfl,rfl,fun S hS=>by rw [ld_ptr,hS,h1]; exact g0,fun S hS=>by rw [ld_ptr,hS,h1]; exact g1⟩
theorem InX.len (h:InX s x vs) (id:Nat) (c:Nat):bt .len #[122] [x] id (Ai.adv s c) = some (.int .i64 vs.length,Ai.adv s c):=by
 rcases h with ⟨rfl,rfl⟩ | rfl | ⟨_,_,rfl,_⟩
 ·exact ln122n id _
 ·rw [ln122s,List.length_map]
 ·exact ln122r ..
theorem bound_app (a b:Ev) (nm:List UInt8):boundM (a ++ b) nm = match boundM b nm with
  | some i=>some i
  | none=>boundM a nm:=by
 induction a with
 | nil=>simp only [List.nil_append]; cases boundM b nm <;> rfl
 | cons p a ih =>
  simp only [List.cons_append,boundM,ih]
  cases boundM b nm <;> rfl
def bRes (o:Option Int):AV:=.tup [.int .i64 (o.getD 0),.bool o.isSome]
theorem l175b (nm:List UInt8) (hvs:vs.length≤2 ^ 30) (s0:St) (hp:∃ a b d e ex wr,s0.h p = some (.cells [a,b,x,d] e ex wr)) (hI:InX s0 x vs) {j:Nat} {v:AV × AV} {sc:Ev} (hv:vs[j]? = some v) (hsc:ScR s0 v sc) (Q:AV→St→Prop) (ih1:AV→AV→AV→St→Prop) :
  ∀ (k c:Nat),k≤sc.length→(∀ c',boundM (sc.take k) nm = none→ih1 (.ptr p 0) (.str nm) (.int .i64 ((j:Int) - 1)) (Ai.adv s0 c'))→(∀ id c',boundM (sc.take k) nm = some id→Q (bRes (some id)) (Ai.adv s0 c')) →
   f175l2 Q ih1 (k + 1) (.ptr p 0) (.str nm) (.int .i64 j) (.int .i64 ((k:Int) - 1)) (Ai.adv s0 c):=by
 obtain ⟨q1,q2,q3,q4,q5,q6,hp⟩:=hp
 obtain ⟨a,a0,a1,i1,i2,i3,i4,i5⟩:=hI.ix hv
 have hjl:j < vs.length:=(List.getElem?_eq_some_iff.1 hv).1
 have hj1:IntKind.i64.wrap ((j:Int) - 1) = (j:Int) - 1:=by
  rw [IntWalk.i64_in _ (by omega)]
 obtain ⟨g1,g2,g3⟩:=hsc
 intro k
 induction k with
 | zero =>
  intro c _ h1 h2
  show f175l2s Q ih1 (f175l2 Q ih1 0) _ _ _ _ _
  have c1:decide ((((0:Nat):Int) - 1) ≥ 0) = false:=by decide
  simp only [f175l2s,c1,f175j2,hj1,wx,wy,Nat.reduceAdd,Nat.reduceEqDiff,reduceCtorEq]
  exact h1 _ (by simp [boundM])
 | succ k ih =>
  intro c hk h1 h2
  show f175l2s Q ih1 (f175l2 Q ih1 (k + 1)) _ _ _ _ _
  have c0:(((k + 1:Nat):Int) - 1) = (k:Int):=by omega
  have c1:decide ((k:Int) ≥ 0) = true:=by simp
  have hk1:IntKind.i64.wrap ((k:Int) - 1) = (k:Int) - 1:=by rw [IntWalk.i64_in _ (by omega)]
  obtain ⟨q,hq⟩:∃ q,sc[k]? = some q:=⟨_,List.getElem?_eq_getElem (by omega)⟩
  have hn:((sc.map (·.1)).map stA)[k]? = some (stA q.1):=by simp [hq]
  have hd:((sc.map (·.2)).map inA)[k]? = some (inA q.2):=by simp [hq]
  obtain ⟨jn,n1,n2,n3⟩:=gw_ix g1 hn
  have n3:=n3 0 (by decide)
  rw [Nat.add_zero,Nat.mul_one,st0] at n3
  rw [Nat.mul_one] at n2
  have htk:sc.take (k + 1) = sc.take k ++ [q]:=by rw [List.take_add_one,hq]; rfl
  have hb:boundM (sc.take (k + 1)) nm = bif q.1 == nm then some q.2 else boundM (sc.take k) nm:=by
   rw [htk,bound_app]
   simp only [boundM]
   cases (q.1 == nm) <;> rfl
  rw [c0]
  simp only [f175l2s,c1,hp,i1,i2,wx,wy,Nat.reduceAdd,Nat.reduceEqDiff,reduceCtorEq]
  refine ⟨rfl,?_⟩
  simp only [hp,i1,i2,i4 (Ai.adv s0 (c + 15)) rfl,n1,n2,n3,eq9,wx,wy,Nat.reduceAdd,Nat.reduceEqDiff,reduceCtorEq]
  cases hqn:(q.1 == nm) with
  | false =>
   rw [hqn,cond_false] at hb
   simp only [f175j3,hk1,wx,wy,Nat.reduceAdd,Nat.reduceEqDiff,reduceCtorEq]
   exact ih _ (by omega) (fun c' h=>h1 c' (by rw [hb]; exact h)) (fun id c' h=>h2 id c' (by rw [hb]; exact h))
  | true =>
   rw [hqn,cond_true] at hb
   have hix:ixS 1 v.2 (.int .i64 (k:Int)) = some (.pel (inA q.2).cells 0):=by
    rcases g2 with g2 | ⟨_,g2⟩
    ·rw [g2]
     have:=ix_map encIn false (l:=sc.map (·.2)) (i:=k) (a:=q.2) (by simp [hq]) .i64
     exact this
    ·rw [g2] at hd; simp at hd
   simp only [wx,wy,Nat.reduceAdd,Nat.reduceEqDiff,reduceCtorEq]
   refine ⟨rfl,?_⟩
   simp only [hp,i1,i3,i5 (Ai.adv s0 (c + 28)) rfl,hix,in0,wx,wy,Nat.reduceAdd,Nat.reduceEqDiff,reduceCtorEq]
   exact h2 q.2 _ hb
theorem flatten_take (scs:List Ev) (j:Nat) (sc:Ev) (h:scs[j]? = some sc):(scs.take (j + 1)).flatten = (scs.take j).flatten ++ sc:=by
 rw [List.take_add_one,h]; simp
theorem l175a (nm:List UInt8) (hvs:vs.length≤2 ^ 30) (s0:St) {scs:List Ev} (hp:∃ a b d e ex wr,s0.h p = some (.cells [a,b,x,d] e ex wr)) (hI:InX s0 x vs) (hS:ScsR s0 vs scs) (Q:AV→St→Prop) (hQ:∀ c,Q (bRes (boundM scs.flatten nm)) (Ai.adv s0 c)) :
  ∀ (j c:Nat),j≤vs.length→boundM scs.flatten nm = boundM (scs.take j).flatten nm→f175l1 Q (j + 1) (.ptr p 0) (.str nm) (.int .i64 ((j:Int) - 1)) (Ai.adv s0 c):=by
 intro j
 induction j with
 | zero =>
  intro c _ hb
  show f175l1s Q (f175l1 Q 0) _ _ _ _
  have c1:decide ((((0:Nat):Int) - 1) ≥ 0) = false:=by decide
  have hb:boundM scs.flatten nm = none:=by rw [hb]; rfl
  rw [hb] at hQ
  simp only [f175l1s,c1,f175j1,wx,wy,Nat.reduceAdd,Nat.reduceEqDiff,reduceCtorEq]
  exact hQ _
 | succ j ih =>
  intro c hj hb
  show f175l1s Q (f175l1 Q (j + 1)) _ _ _ _
  have c0:(((j + 1:Nat):Int) - 1) = (j:Int):=by omega
  have c1:decide ((j:Int) ≥ 0) = true:=by simp
  obtain ⟨v,hv⟩:∃ v,vs[j]? = some v:=⟨_,List.getElem?_eq_getElem (by omega)⟩
  have hlen:=hS.len
  obtain ⟨sc,hsc⟩:∃ sc,scs[j]? = some sc:=⟨_,List.getElem?_eq_getElem (by omega)⟩
  have hR:=hS.get hv hsc
  obtain ⟨a,a0,a1,i1,i2,i3,i4,i5⟩:=hI.ix hv
  rw [flatten_take scs j sc hsc,bound_app] at hb
  have hln:∀ id c,bt .len #[52] [v.1] id (Ai.adv s0 c) = some (.int .i64 sc.length,Ai.adv s0 c):=fun id c=>by
   have:=gw_str_len (s:=Ai.adv s0 c) hR.1.adv id
   rwa [List.length_map] at this
  have hk1:IntKind.i64.wrap ((sc.length:Int) - 1) = (sc.length:Int) - 1:=by have:=hR.2.2; rw [IntWalk.i64_in _ (by omega)]
  have hp':=hp
  obtain ⟨q1,q2,q3,q4,q5,q6,hp⟩:=hp
  rw [c0]
  simp only [f175l1s,c1,hp,i1,i2,wx,wy,Nat.reduceAdd,Nat.reduceEqDiff,reduceCtorEq]
  refine ⟨rfl,?_⟩
  simp only [hp,i1,i2,i4 (Ai.adv s0 (c + 13)) rfl,hln,hk1,wx,wy,Nat.reduceAdd,Nat.reduceEqDiff,reduceCtorEq]
  refine ⟨sc.length + 1,l175b nm hvs s0 hp' hI hv hR Q (f175l1 Q (j + 1)) sc.length _ (Nat.le_refl _) (fun c' h=>?_) (fun id c' h=>?_)⟩
  ·rw [List.take_length] at h
   rw [h] at hb
   exact ih c' (by omega) hb
  ·rw [List.take_length] at h
   rw [h] at hb
   have:=hQ c'
   rw [hb] at this
   exact this
theorem fz175:Tryz.env.fz 175 = false:=by kernel_rfl
theorem fz174:Tryz.env.fz 174 = false:=by kernel_rfl
theorem bound_c (fr:Fresh s) (nm:List UInt8) (hvs:vs.length≤2 ^ 30) {scs:List Ev} (hp:∃ a b d e ex wr,s.h p = some (.cells [a,b,x,d] e ex wr)) (hI:InX s x vs) (hS:ScsR s vs scs):RdW 175 [.ptr p 0,.str nm] s (bRes (boundM scs.flatten nm)):=by
 refine f175_run _ _ _ ?_
 unfold f175
 have hp':=hp
 obtain ⟨q1,q2,q3,q4,q5,q6,hp⟩:=hp
 refine ⟨rfl,?_⟩
 have hk1:IntKind.i64.wrap ((vs.length:Int) - 1) = (vs.length:Int) - 1:=by rw [IntWalk.i64_in _ (by omega)]
 simp only [hp,hI.len,hk1,wx,wy,Nat.reduceAdd,Nat.reduceEqDiff,reduceCtorEq]
 exact ⟨_,l175a nm hvs s hp' hI hS _ (fun c=>⟨rfl,(EF.refl _ fr).adv⟩) vs.length _ (Nat.le_refl _) (by rw [hS.len,List.take_length])⟩
theorem decl_app2 (a b:List Dc) (nm:List UInt8):declM (a ++ b) nm = match declM b nm with
  | some i=>some (a.length + i)
  | none=>declM a nm:=by
 induction a with
 | nil =>
  simp only [List.nil_append]
  cases declM b nm with
  | none=>rfl
  | some k=>simp
 | cons d a ih =>
  simp only [List.cons_append,declM,ih]
  cases declM b nm with
  | none=>rfl
  | some k=>simp only [List.length_cons,Option.some.injEq]; omega
def dNum (o:Option Nat):Int:=match o with
 | some k=>(k:Int)
 | none=>-1
theorem encDc:Enc Dc.av 10:=⟨dc_len,dc_ones⟩
theorem decl_c (fr:Fresh s) (nm:List UInt8) (L:List Dc) (hL:L.length≤2 ^ 40) (hp:∃ a b d e ex wr,s.h p = some (.cells [a,.sl false (L.map Dc.av),b,d] e ex wr)):RdW 174 [.ptr p 0,.str nm] s (.int .i64 (dNum (declM L nm))):=by
 refine f174_run _ _ _ ?_
 unfold f174
 obtain ⟨q1,q2,q3,q4,q5,q6,hp⟩:=hp
 refine ⟨rfl,?_⟩
 have hk1:IntKind.i64.wrap ((L.length:Int) - 1) = (L.length:Int) - 1:=by rw [IntWalk.i64_in _ (by omega)]
 have hln:∀ id c,bt .len #[49] [.sl false (L.map Dc.av)] id (Ai.adv s c) = some (.int .i64 L.length,Ai.adv s c):=fun id c=>by rw [ln49s,List.length_map]
 have key:∀ (Q:AV→St→Prop),(∀ c,Q (.int .i64 (dNum (declM L nm))) (Ai.adv s c))→∀ (j c:Nat),j≤L.length→declM L nm = declM (L.take j) nm→f174l1 Q (j + 1) (.ptr p 0) (.str nm) (.int .i64 ((j:Int) - 1)) (Ai.adv s c):=by
  intro Q hQ j
  induction j with
  | zero =>
   intro c _ hb
   show f174l1s Q (f174l1 Q 0) _ _ _ _
   have c1:decide ((((0:Nat):Int) - 1) ≥ 0) = false:=by decide
   have hb:declM L nm = none:=by rw [hb]; rfl
   rw [hb] at hQ
   simp only [f174l1s,c1,f174j1,wx,wy,Nat.reduceAdd,Nat.reduceEqDiff,reduceCtorEq]
   exact hQ _
  | succ j ih =>
   intro c hj hb
   show f174l1s Q (f174l1 Q (j + 1)) _ _ _ _
   have c0:(((j + 1:Nat):Int) - 1) = (j:Int):=by omega
   have c1:decide ((j:Int) ≥ 0) = true:=by simp
   have hj1:IntKind.i64.wrap ((j:Int) - 1) = (j:Int) - 1:=by rw [IntWalk.i64_in _ (by omega)]
   obtain ⟨d,hd⟩:∃ d,L[j]? = some d:=⟨_,List.getElem?_eq_getElem (by omega)⟩
   have hix:=ix_map encDc false hd .i64
   rw [List.take_add_one,hd] at hb
   have hb:declM L nm = bif d.nm == nm then some j else declM (L.take j) nm:=by
    rw [hb,show (some d).toList = [d] from rfl,decl_app2]
    simp only [declM]
    cases (d.nm == nm) with
    | true=>simp only [cond_true,List.length_take,Nat.add_zero,Nat.min_eq_left (show j≤L.length by omega)]
    | false=>rfl
   rw [c0]
   simp only [f174l1s,c1,hp,hix,dc0,eq9,wx,wy,Nat.reduceAdd,Nat.reduceEqDiff,reduceCtorEq]
   refine ⟨rfl,?_⟩
   cases hn:(d.nm == nm) with
   | true =>
    rw [hn,cond_true] at hb
    rw [hb] at hQ
    simp only [wx,wy,Nat.reduceAdd,Nat.reduceEqDiff,reduceCtorEq]
    exact hQ _
   | false =>
    rw [hn,cond_false] at hb
    simp only [f174j2,hj1,wx,wy,Nat.reduceAdd,Nat.reduceEqDiff,reduceCtorEq]
    exact ih _ (by omega) hb
 simp only [hp,hln,hk1,wx,wy,Nat.reduceAdd,Nat.reduceEqDiff,reduceCtorEq]
 exact ⟨_,key _ (fun c=>⟨rfl,(EF.refl _ fr).adv⟩) L.length _ (Nat.le_refl _) (by rw [List.take_length])⟩
end
end
noncomputable section
mutual
def Sx.fit:Sx→Prop
 | .mk _ k x _ _ items=>i64 k∧x.length≤2 ^ 30∧items.length≤2 ^ 20∧Sx.fits items
def Sx.fits:List Sx→Prop
 | []=>True
 | s :: l=>s.fit∧Sx.fits l
end
theorem fits_mem:∀ {l:List Sx},Sx.fits l→∀ s∈l,s.fit:=by
 intro l
 induction l with
 | nil=>intro _ s h; cases h
 | cons a l ih=>intro h s hs; rcases List.mem_cons.1 hs with rfl | hs; exact h.1; exact ih h.2 s hs
theorem fit_its {x:Sx} (h:x.fit):x.its.length≤2 ^ 20∧∀ s∈x.its,s.fit:=by
 cases x with
 | mk l k t p a items=>exact ⟨h.2.2.1,fits_mem h.2.2.2⟩
theorem fit_txt {x:Sx} (h:x.fit):x.txt.length≤2 ^ 30:=by
 cases x with
 | mk l k t p a items=>exact h.2.1
structure DcOk (L:List Dc):Prop where
 len:L.length≤2 ^ 30
 fit:∀ d∈L,d.body.fit
 wt:∀ d∈L,d.body.wt≤2 ^ 29
 ps:∀ d∈L,d.ps.length≤2 ^ 20
def mapM (M:Mm):List (AV × AV):=M.map fun q=>(.str q.1,.int .i64 q.2)
theorem mget_find (k:List UInt8):∀ M:Mm,find (.str k) (mapM M) = some ((mget k M).map fun v=>.int .i64 v):=by
 intro M
 induction M with
 | nil=>rfl
 | cons q M ih =>
  obtain ⟨a,v⟩:=q
  simp only [mapM,List.map_cons,find,cellEq,mget]
  cases h:(k == a) with
  | true=>rfl
  | false=>exact ih
theorem mset_set (k:List UInt8) (v:Int):∀ M:Mm,mapSet (.str k) (.int .i64 v) (mapM M) = mapM (mset k v M):=by
 intro M
 induction M with
 | nil=>rfl
 | cons q M ih =>
  obtain ⟨a,u⟩:=q
  by_cases h:k = a
  ·subst h
   simp [mapM,mapSet,cellEq,mset]
  ·have h1:(k == a) = false:=by simpa using h
   simp only [mapM] at ih
   simp [mapM,mapSet,cellEq,mset,h1,ih]
section
variable {s s':St} {p ib:Nat} {L:List Dc} {scs:List Ev} {σ:Sg} {F:List Nat} {K:AV→St→Prop}
structure MkC (s:St) (p ib:Nat) (L:List Dc) (scs:List Ev) (σ:Sg) (xin:AV) (vs:List (AV × AV)) (jm:Nat) (FB:List Nat):Prop where
 cell:s.h p = some (.cells [.ptr ib 0,.sl false (L.map Dc.av),xin,.map jm] 124 true true)
 bank:BkR s ib σ.1 FB
 made:s.h jm = some (.map (mapM σ.2))
 inx:InX s xin vs
 sco:ScsR s vs scs
 ne:p≠jm
 pb:p ∉ FB
 jb:jm ∉ FB
 ii:∀ j∈inIds xin vs,j≠p∧j≠jm∧j ∉ FB
def MkR (s:St) (p ib:Nat) (L:List Dc) (scs:List Ev) (σ:Sg) (F:List Nat):Prop:=∃ xin vs jm FB,MkC s p ib L scs σ xin vs jm FB∧F = p :: jm :: (FB ++ inIds xin vs)
theorem MkR.have (h:MkR s p ib L scs σ F):∀ j∈F,∃ b,s.h j = some b:=by
 obtain ⟨xin,vs,jm,FB,c,rfl⟩:=h
 intro j hj
 simp only [List.mem_cons,List.mem_append,inIds] at hj
 rcases hj with rfl | rfl | hj | hj | hj
 ·exact ⟨_,c.cell⟩
 ·exact ⟨_,c.made⟩
 ·exact c.bank.have j hj
 ·exact c.inx.has j hj
 ·exact c.sco.has j hj
theorem MkR.lt (h:MkR s p ib L scs σ F) (fr:Fresh s):∀ j∈F,j < s.nx:=fun j hj=>by obtain ⟨b,hb⟩:=h.have j hj; exact fr.lt hb
theorem MkR.keep (h:MkR s p ib L scs σ F) (hk:∀ j∈F,s'.h j = s.h j):MkR s' p ib L scs σ F:=by
 obtain ⟨xin,vs,jm,FB,c,rfl⟩:=h
 refine ⟨xin,vs,jm,FB,⟨?_,?_,?_,?_,?_,c.ne,c.pb,c.jb,c.ii⟩,rfl⟩
 ·rw [hk p (by simp)]; exact c.cell
 ·exact c.bank.keep fun j hj=>hk j (by simp [hj])
 ·rw [hk jm (by simp)]; exact c.made
 ·exact c.inx.keep fun j hj=>hk j (by simp [inIds,hj])
 ·exact c.sco.keep fun j hj=>hk j (by simp only [List.mem_cons,List.mem_append,inIds]; exact .inr (.inr (.inr (.inr hj))))
theorem MkR.ext (h:MkR s p ib L scs σ F) (fr:Fresh s) (e:EF [] s s'):MkR s' p ib L scs σ F:=by
 have hF:=h.lt fr
 exact h.keep fun j hj=>e.h j (hF j hj) (by simp)
theorem MkR.adv {n:Nat} (h:MkR s p ib L scs σ F):MkR (Ai.adv s n) p ib L scs σ F:=h.keep fun _ _=>rfl
def slOf (s:St) (p:Nat):Option (List AV):=match s.h p with
 | some (.cells [_,_,.sl true l,_] _ _ _)=>some l
 | _=>none
def NS (s s':St) (p:Nat):Prop:=slOf s' p = none∨slOf s' p = slOf s p
theorem NS.of (h:s'.h p = s.h p):NS s s' p:=.inr (by simp only [slOf,h])
theorem NS.trans {a b c:St} (h:NS a b p) (k:NS b c p):NS a c p:=by
 rcases k with k | k
 ·exact .inl k
 ·rcases h with h | h
  ·exact .inl (k.trans h)
  ·exact .inr (k.trans h)
def MkQ (s:St) (p ib:Nat) (L:List Dc) (scs:List Ev) (F:List Nat) (σ':Sg) (s':St) (F':List Nat):Prop:=MkR s' p ib L scs σ' F'∧EF F s s'∧(∀ j∈F',j∈F∨s.nx≤j)∧NS s s' p
theorem MkR.pin (h:MkR s p ib L scs σ F):p∈F:=by obtain ⟨_,_,_,_,_,rfl⟩:=h; simp
theorem MkQ.same (h:MkR s p ib L scs σ F) (fr:Fresh s) (e:EF [] s s'):MkQ s p ib L scs F σ s' F:=⟨h.ext fr e,e.sub fun j hj=>(by cases hj),fun j hj=>.inl hj,NS.of (e.h p (h.lt fr p h.pin) (by simp))⟩
theorem MkQ.from {σ':Sg} {s1:St} {F':List Nat} (h:MkQ s1 p ib L scs F σ' s' F') (e:EF [] s s1) (hp:p < s.nx):MkQ s p ib L scs F σ' s' F':=by
 obtain ⟨h1,h2,h3,h4⟩:=h
 have:=e.nx
 exact ⟨h1,(e.sub (M':=F) fun j hj=>(by cases hj)).trans h2 fun j hj=>.inr hj,fun j hj=>(h3 j hj).imp_right fun h=>(by omega),(NS.of (e.h p hp (by simp))).trans h4⟩
theorem MkQ.trans {σ1 σ2:Sg} {s1 s2:St} {F1 F2:List Nat} (h:MkQ s p ib L scs F σ1 s1 F1) (k:MkQ s1 p ib L scs F1 σ2 s2 F2):MkQ s p ib L scs F σ2 s2 F2:=by
 obtain ⟨h1,h2,h3,h4⟩:=h
 obtain ⟨k1,k2,k3,k4⟩:=k
 have:=h2.nx
 refine ⟨k1,h2.trans k2 fun j hj=>(h3 j hj).symm,fun j hj=>?_,h4.trans k4⟩
 rcases k3 j hj with k3 | k3
 ·exact h3 j k3
 ·exact .inr (by omega)
theorem MkQ.adv {σ':Sg} {s':St} {F':List Nat} {n:Nat} (h:MkQ s p ib L scs F σ' s' F'):MkQ s p ib L scs F σ' (Ai.adv s' n) F':=⟨h.1.adv,h.2.1.adv,h.2.2.1,h.2.2.2⟩
theorem MkQ.bank {xin:AV} {vs:List (AV × AV)} {jm:Nat} {FB:List Nat} (c:MkC s p ib L scs σ xin vs jm FB) (fr:Fresh s) {B':Bk} (h:BkQ s ib FB B' s'):∃ F',MkQ s p ib L scs (p :: jm :: (FB ++ inIds xin vs)) (B',σ.2) s' F':=by
 obtain ⟨FB',h1,h2,h3⟩:=h
 have hR:MkR s p ib L scs σ (p :: jm :: (FB ++ inIds xin vs)):=⟨xin,vs,jm,FB,c,rfl⟩
 have hlt:=hR.lt fr
 have hp:=hlt p (by simp)
 have hj:=hlt jm (by simp)
 have hi:∀ j∈inIds xin vs,j < s.nx:=fun j hj=>hlt j (by simp only [List.mem_cons,List.mem_append]; exact .inr (.inr (.inr hj)))
 have nb:∀ y,y < s.nx→y ∉ FB→y ∉ FB':=fun y hy hn hm=>by rcases h3 y hm with h | h; exact hn h; omega
 refine ⟨p :: jm :: (FB' ++ inIds xin vs),⟨xin,vs,jm,FB',⟨?_,h1,?_,?_,?_,c.ne,nb p hp c.pb,nb jm hj c.jb,fun j hj=>?_⟩,rfl⟩,?_,fun j hj=>?_,NS.of (h2.h p hp c.pb)⟩
 ·rw [h2.h p hp c.pb]; exact c.cell
 ·rw [h2.h jm hj c.jb]; exact c.made
 ·exact c.inx.keep fun j hj=>h2.h j (hi j (by simp [inIds,hj])) (c.ii j (by simp [inIds,hj])).2.2
 ·exact c.sco.keep fun j hj=>h2.h j (hi j (by simp only [inIds,List.mem_append]; exact .inr hj)) (c.ii j (by simp only [inIds,List.mem_append]; exact .inr hj)).2.2
 ·obtain ⟨a,b,d⟩:=c.ii j hj; exact ⟨a,b,nb j (hi j hj) d⟩
 ·exact h2.sub fun j hj=>.inr (by simp [hj])
 ·simp only [List.mem_cons,List.mem_append] at hj ⊢
  rcases hj with rfl | rfl | hj | hj
  ·exact .inl (.inl rfl)
  ·exact .inl (.inr (.inl rfl))
  ·rcases h3 j hj with h | h
   ·exact .inl (.inr (.inr (.inl h)))
   ·exact .inr h
  ·exact .inl (.inr (.inr (.inr hj)))
variable (ps:List UInt8→List Nat × Int)
structure StOk (L0:List Dc) (env:Ev) (σ:Sg):Prop where
 wf:Wf σ.1
 env:∀ q∈env,inB σ.1 q.2
 mv:MVal ps L0 σ.1 σ.2
variable {ps:List UInt8→List Nat × Int} {L0:List Dc} {env:Ev} {n j:Nat} {σ':Sg}
theorem T_inv (hL:L0.length < 2 ^ 60) (h:StOk ps L0 env σ) {x:Sx} {r:Int × Int} (hT:T ps true n (L0.take j) env x σ = some (r,σ')):StOk ps L0 env σ'∧Ext σ.1 σ'.1∧(r.2 = 0→inB σ'.1 r.1)∧(r.2≠0→r.1 = 0):=by
 obtain ⟨B,M⟩:=σ
 obtain ⟨B',M'⟩:=σ'
 obtain ⟨h1,h2⟩:=T_tr ps ckey_ok hL n j env x B M r B' M' h.wf h.env h.mv hT
 obtain ⟨e,w,i⟩:=U_step ps h.wf h.env h1
 obtain ⟨_,_,_,_,g⟩:=U_good ps _ env x B h.wf h.env [] _ _ _ h1
 exact ⟨⟨w,fun q hq=>(h.env q hq).ext e,h2⟩,e,i,fun h0=>(g (by simpa [okE] using h0)).1⟩
theorem each_inv (hL:L0.length < 2 ^ 60) (h:StOk ps L0 env σ) {l:List Sx} {r:List Int × Int} (hT:eachM (T ps true n) (L0.take j) env l σ = some (r,σ')):StOk ps L0 env σ'∧Ext σ.1 σ'.1∧(r.2 = 0→r.1.length = l.length∧∀ i∈r.1,inB σ'.1 i)∧(r.2≠0→r.1 = []):=by
 obtain ⟨B,M⟩:=σ
 obtain ⟨B',M'⟩:=σ'
 obtain ⟨h1,h2⟩:=each_tr ps (T_tr ps ckey_ok hL n) j env l B M r B' M' h.wf h.env h.mv hT
 obtain ⟨e,w,i⟩:=each_step ps h.wf h.env h1
 obtain ⟨_,_,_,_,g⟩:=each_stb (U_good ps) _ env l B h.wf h.env [] _ _ _ h1
 exact ⟨⟨w,fun q hq=>(h.env q hq).ext e,h2⟩,e,i,fun h0=>(g (by simpa [okL] using h0)).1⟩
def TermC (ps:List UInt8→List Nat × Int) (n:Nat):Prop:=∀ (s:St) (p ib:Nat) (L0:List Dc) (j:Nat) (scs:List Ev) (σ:Sg) (F:List Nat) (x:Sx) (r:Int × Int) (σ':Sg),Fresh s→MkR s p ib (L0.take j) scs σ F→StOk ps L0 scs.flatten σ→DcOk L0→x.fit→scs.length + x.wt≤2 ^ 30 →
 T ps true n (L0.take j) scs.flatten x σ = some (r,σ')→∃ v s',WideC Tryz.env 75 [.ptr p 0,x.av] s v s'∧v = res r∧∃ F',MkQ s p ib (L0.take j) scs F σ' s' F'
def LsR (s:St) (x:AV) (l:List Sx):Prop:=x = .sl false (l.map Sx.av)∨Gw 33 6 0 s x (l.map Sx.av)
theorem encSx:Enc Sx.av 6:=⟨sx_len,sx_ones⟩
theorem sx_agg (x:Sx):x.av = .agg x.av.cells:=by cases x; rfl
theorem LsR.keep {x:AV} {l:List Sx} (h:LsR s x l) (hk:∀ j∈idOf x,s'.h j = s.h j):LsR s' x l:=h.imp id fun g=>g.keep hk
theorem LsR.len {x:AV} {l:List Sx} (h:LsR s x l) (id:Nat) (c:Nat):bt .len #[31] [x] id (Ai.adv s c) = some (.int .i64 l.length,Ai.adv s c):=by
 rcases h with rfl | g
 ·rw [ln31s,List.length_map]
 ·have:=ln31g (s:=Ai.adv s c) g.adv id
  rwa [List.length_map] at this
theorem LsR.ix {x:AV} {l:List Sx} (h:LsR s x l) {k:Nat} {y:Sx} (hy:l[k]? = some y):∃ a,ixS 6 x (.int .i64 (k:Int)) = some a∧∀ S:St,S.h = s.h→ld 6 true a S = some y.av:=by
 have hv:(l.map Sx.av)[k]? = some y.av:=by rw [List.getElem?_map,hy]; rfl
 rcases h with rfl | g
 ·exact ⟨_,ix_map encSx false hy .i64,fun S _=>sx_part y⟩
 ·have hlt:=(List.getElem?_eq_some_iff.1 hv).1
  obtain ⟨g1,⟨rfl,g2⟩ | ⟨i,_,rfl,g3⟩⟩:=g
  ·rw [g2] at hlt; simp at hlt
  ·have hlen:∀ v∈l.map Sx.av,v.cells.length = 6:=fun v hv=>(g1 v hv).1
   have hix:=ix_ref (e:=33) (z:=6) (id:=i) (off:=0) (c:=none) hlt .i64
   rw [Nat.zero_add] at hix
   obtain ⟨d1,d2⟩:=drop_flat hlen hv
   refine ⟨_,hix,fun S hS=>?_⟩
   rw [ld_ptr,hS,g3]
   show Ai.part 6 true (k * 6) _ = _
   rw [part_agg,if_pos d2,d1,← sx_agg]
theorem sto_sx33 (y:Sx) (C:List AV) (hC:C.length = 6) (q:St) (k c:Nat):sto 6 (.ptr k 0) y.av (Ai.adv (q.set k (some (.cells C 33 true true))) c) = some (Ai.adv (q.set k (some (.cells y.av.cells 33 true true))) c):=by
 rw [sto_all (z:=6) (by rw [adv_h,st_same]) hC (sx_len y) (sx_ones y),adv_set,set_set]
theorem l177 (hT:TermC ps n) (hL:DcOk L0) (x:AV) (l:List Sx) (hll:l.length≤2 ^ 20) (hfit:∀ y∈l,y.fit) (hw:∀ y∈l,scs.length + y.wt≤2 ^ 30) (s0:St) (fr0:Fresh s0) (F0:List Nat) (hF0:∀ y∈F0,y < s0.nx) (hx:LsR s0 x l) (hxF:∀ y∈idOf x,y < s0.nx∧y ∉ F0)
  (Q:AV→St→Prop) (q:List Int × Int) (σ':Sg)
  (hQ:∀ (out:AV) (s':St) (F':List Nat),MkQ s0 p ib (L0.take j) scs F0 σ' s' F'→(q.2 = 0→Gw 3 1 0 s' out (q.1.map inA)∧∀ y∈idOf out,s0.nx≤y∧y ∉ F')→(q.2≠0→out = .nils)→Q (.tup [out,.int .i64 q.2]) s') :
  ∀ (m i:Nat) (done:List Int) (y:AV) (s:St) (σ:Sg) (F:List Nat),i + m = l.length→done.length = i→StOk ps L0 scs.flatten σ→MkQ s0 p ib (L0.take j) scs F0 σ s F→Gw 3 1 0 s y (done.map inA)→(∀ z∈idOf y,s0.nx≤z∧z ∉ F) →
   (∃ q1,eachM (T ps true n) (L0.take j) scs.flatten (l.drop i) σ = some (q1,σ')∧q = (bif q1.2 == 0 then done ++ q1.1 else [],q1.2)) →
   f177l1 Q (m + 1) (.fn 75 [.ptr p 0] []) y x (.int .i64 l.length) (.int .i64 i) s:=by
 intro m
 induction m with
 | zero =>
  intro i done y s σ F hi hd hok hQ1 hy hyF hev
  show f177l1s Q (f177l1 Q 0) _ _ _ _ _ s
  have c1:decide ((i:Int) < (l.length:Int)) = false:=by simp; omega
  obtain ⟨q1,hev,hq⟩:=hev
  rw [List.drop_of_length_le (by omega)] at hev
  simp only [eachM,Option.some.injEq,Prod.mk.injEq] at hev
  obtain ⟨rfl,rfl⟩:=hev
  simp only [beq_self_eq_true,cond_true,List.append_nil] at hq
  subst hq
  simp only [f177l1s,c1,f177j1,wx,wy,Nat.reduceAdd,Nat.reduceEqDiff,reduceCtorEq]
  exact hQ y _ F hQ1.adv (fun _=>⟨hy.adv,hyF⟩) fun h=>absurd rfl h
 | succ m ih =>
  intro i done y s σ F hi hd hok hQ1 hy hyF hev
  show f177l1s Q (f177l1 Q (m + 1)) _ _ _ _ _ s
  have c1:decide ((i:Int) < (l.length:Int)) = true:=by simp; omega
  obtain ⟨z,hz⟩:∃ z,l[i]? = some z:=⟨_,List.getElem?_eq_getElem (by omega)⟩
  have hzm:=List.mem_of_getElem? hz
  obtain ⟨q1,hev,hq⟩:=hev
  rw [get_drop l i z hz] at hev
  simp only [eachM,Option.bind_eq_some_iff] at hev
  obtain ⟨⟨r,σ1⟩,h1,h2⟩:=hev
  have hQ1':=hQ1
  obtain ⟨hR,hE,hN,hS⟩:=hQ1
  have hps:=hR.lt hE.fr p hR.pin
  have hsn:=hE.nx
  have frs:=hE.fr
  have hx':LsR s x l:=hx.keep fun a ha=>hE.h a (hxF a ha).1 (hxF a ha).2
  obtain ⟨a,a1,a2⟩:=hx'.ix hz
  have w1:=wrap_i (i:=i) (n:=l.length) (by omega) (by omega)
  have hC6:((AV.agg [.bool false,.int .i64 0,.str [],.int .i64 0,.int .i64 0,.nils]).cells).length = 6:=rfl
  have e0:∀ (C:Option Blk) (k:Nat),3 < k→EF [] s (Ai.adv (s.set (s.nx + 3) C) k):=fun C k hk=>⟨by simp only [adv_nx,set_nx]; omega,fun b hb _=>by rw [adv_h,st_other (by omega)],fresh_set frs k (by omega)⟩
  obtain ⟨hok1,hext,hin,hne⟩:=T_inv (by have:=hL.len; omega) hok h1
  simp only [f177l1s,c1,a1,a2 (Ai.adv s 5) rfl,zf33,sto_sx33 z _ hC6,sx_part,wx,wy,Nat.reduceAdd,Nat.reduceEqDiff,reduceCtorEq]
  obtain ⟨v,s2,t1,rfl,F2,t2⟩:=hT (Ai.adv (s.set (s.nx + 3) (some (.cells z.av.cells 33 true true))) 13) p ib L0 j scs σ F z r σ1 (e0 _ _ (by omega)).fr (hR.ext frs (e0 _ _ (by omega))) hok hL (hfit z hzm) (hw z hzm) h1
  refine callV_wi (by kernel_rfl) (callWiF (by kernel_rfl) ⟨_,s2,t1,?_⟩)
  have hne34:∀ u v:Int,bn .neq 34 (.int .i64 u) (.int .i64 v) = some (.bool (u != v)):=fun _ _=>bin_neq
  have t3:=t2.from (e0 _ _ (by omega)) hps
  have hQ2:MkQ s0 p ib (L0.take j) scs F0 σ1 s2 F2:=MkQ.trans hQ1' t3
  simp only [ex0,ex1,hne34,wx,wy,Nat.reduceAdd,Nat.reduceEqDiff,reduceCtorEq]
  cases hr:(r.2 == 0) with
  | false =>
   simp only [hr,cond_false,Option.some.injEq,Prod.mk.injEq] at h2
   obtain ⟨rfl,rfl⟩:=h2
   have hrn:(r.2 != 0) = true:=by simp only [bne,hr]; rfl
   simp only [hr,cond_false] at hq
   subst hq
   simp only [hrn,wx,wy,Nat.reduceAdd,Nat.reduceEqDiff,reduceCtorEq]
   exact hQ .nils _ F2 hQ2.adv (fun h=>by simp only at h; rw [h] at hr; cases hr) fun _=>rfl
  | true =>
   simp only [hr,cond_true,Option.map_eq_some_iff] at h2
   obtain ⟨⟨w,σ2⟩,h3,h4⟩:=h2
   simp only [Prod.mk.injEq] at h4
   obtain ⟨rfl,rfl⟩:=h4
   have hrn:(r.2 != 0) = false:=by simp only [bne,hr]; rfl
   have hr0:r.2 = 0:=by simpa using hr
   have hylt:∀ b∈idOf y,b < s.nx:=fun b hb=>frs.lt (hy.has b hb)
   have hy2:Gw 3 1 0 s2 y (done.map inA):=hy.keep fun b hb=>t3.2.1.h b (hylt b hb) (hyF b hb).2
   have hyF2:∀ b∈idOf y,b ∉ F2:=fun b hb hm=>by
    rcases t3.2.2.1 b hm with h | h
    ·exact (hyF b hb).2 h
    ·have:=hylt b hb; omega
   have bs:bsl 72 1 [(0,.int .i64 r.1)] = some (.sl true [inA r.1]):=bsl_one tf72 (by decide) rfl rfl
   have happ:=app_map tf72 encIn (hy2.adv (n:=7)) (a:=r.1) (by omega) (by omega) true (s2.nx + 5)
   simp only [hrn,bs,happ,f177j2,w1,wx,wy,Nat.reduceAdd,Nat.reduceEqDiff,reduceCtorEq]
   have n2:=t3.2.1.nx
   have hF2:=t3.1.lt t3.2.1.fr
   have e2:EF (idOf y) s2 (Ai.adv ((s2.drop (idOf y)).set (s2.nx + 5) (some (.cells (((done ++ [r.1]).map inA).flatMap AV.cells) 3 false true))) 9):=by
    refine ⟨by simp only [adv_nx,set_nx,nx_drop]; omega,fun b hb hn=>?_,fun b hb=>?_⟩
    ·rw [adv_h,get_set,if_neg (by omega),get_drop',if_neg hn]
    ·simp only [adv_nx,set_nx,nx_drop] at hb
     rw [adv_h,get_set,if_neg (by omega),get_drop']
     split
     ·rfl
     ·exact t3.2.1.fr b (by omega)
   refine ih (i + 1) (done ++ [r.1]) _ _ σ1 F2 (by omega) (by simp only [List.length_append,List.length_singleton]; omega) hok1 ⟨hQ2.1.keep fun b hb=>e2.h b (hF2 b hb) fun hh=>hyF2 b hh hb,hQ2.2.1.trans e2 fun b hb=>.inl (hyF b hb).1,hQ2.2.2.1,hQ2.2.2.2.trans (NS.of (e2.h p (hF2 p hQ2.1.pin) fun hh=>hyF2 p hh hQ2.1.pin))⟩ ?_ ?_ ⟨w,h3,?_⟩
   ·have:=gw_map1 (l:=done) (a:=r.1) encIn (e:=3) (id:=s2.nx + 5) (n:=9) (s0:=s2)
    exact this.keep fun b hb=>by
     simp only [idOf,List.mem_singleton] at hb; subst hb
     rw [adv_h,st_same,adv_h,st_same]
   ·intro b hb
    simp only [idOf,List.mem_singleton] at hb; subst hb
    exact ⟨by omega,fun hm=>by have:=hF2 _ hm; omega⟩
   ·rw [hq]
    cases hw2:(w.2 == 0) with
    | true=>simp only [hw2,cond_true,List.append_assoc,List.singleton_append]
    | false=>simp only [hw2,cond_false]
theorem fz177:Tryz.env.fz 177 = true:=by kernel_rfl
theorem fz75:Tryz.env.fz 75 = false:=by kernel_rfl
theorem each_c (hT:TermC ps n) (hL:DcOk L0) {x:AV} {l:List Sx} (hll:l.length≤2 ^ 20) (hfit:∀ y∈l,y.fit) (hw:∀ y∈l,scs.length + y.wt≤2 ^ 30) (fr:Fresh s) (hR:MkR s p ib (L0.take j) scs σ F) (hok:StOk ps L0 scs.flatten σ) (hx:LsR s x l) (hxF:∀ y∈idOf x,y < s.nx∧y ∉ F) {q:List Int × Int} (hev:eachM (T ps true n) (L0.take j) scs.flatten l σ = some (q,σ'))
  (hK:∀ s' F',MkQ s p ib (L0.take j) scs F σ' s' F'→K (.tup [.sl false (q.1.map inA),.int .i64 q.2]) s'):CallWi Tryz.env 177 [x,.fn 75 [.ptr p 0] []] s K:=by
 obtain ⟨_,_,hq1,hq2⟩:=each_inv (by have:=hL.len; omega) hok hev
 have h:=f177_run x (.fn 75 [.ptr p 0] []) s (Q:=fun v s'=>∃ out F',v = .tup [out,.int .i64 q.2]∧MkQ s p ib (L0.take j) scs F σ' s' F'∧(q.2 = 0→Gw 3 1 0 s' out (q.1.map inA)∧∀ y∈idOf out,s.nx≤y∧y ∉ F')∧(q.2≠0→out = .nils)) (by
  unfold f177
  simp only [hx.len,wx,wy,Nat.reduceAdd,Nat.reduceEqDiff,reduceCtorEq]
  exact ⟨_,l177 hT hL x l hll hfit hw s fr F (hR.lt fr) hx hxF _ q σ' (fun out s' F' a b c=>⟨out,F',rfl,a,b,c⟩) l.length 0 [] .nils _ σ F (by omega) rfl hok (MkQ.same hR fr (EF.refl _ fr).adv) gw_nil (fun z hz=>by cases hz) ⟨q,by simpa using hev,by
   cases hq:(q.2 == 0) with
   | true=>simp
   | false =>
    have:=hq2 (by simpa using hq)
    obtain ⟨a,b⟩:=q
    simp only at this
    subst this; rfl⟩⟩)
 obtain ⟨v,s',h1,out,F',rfl,h2,h3,h4⟩:=h
 refine callWiZ fz177 (by kernel_rfl) ⟨_,s',h1,?_⟩
 by_cases h0:q.2 = 0
 ·obtain ⟨g1,g2⟩:=h3 h0
  obtain ⟨ids,p1,p2⟩:=pur_map1 tf72 g1 (fun _ _=>rfl) (fun _ _=>rfl) 10
  have hno:out.closed = false:=g1.not_closed
  rw [pur_tup2 hno p1 rfl]
  simp only [Bnd_some]
  subst p2
  have hF':=h2.1.lt h2.2.1.fr
  have hdr:∀ y∈F',(s'.drop (idOf out)).h y = s'.h y:=fun y hy=>by rw [get_drop',if_neg fun hh=>(g2 y hh).2 hy]
  exact hK _ F' ⟨h2.1.keep hdr,h2.2.1.drop fun y hy=>.inl (g2 y hy).1,h2.2.2.1,h2.2.2.2.trans (NS.of (hdr p h2.1.pin))⟩
 ·have:=h4 h0
  subst this
  have hq:=hq2 h0
  have:pur Tryz.env.P s' 12 (.tup [.nils,.int .i64 q.2]) = some (.tup [.sl false [],.int .i64 q.2],[]):=rfl
  rw [this]
  simp only [Bnd_some]
  have hk:=hK s' F' h2
  rw [hq] at hk
  exact hk
end
end
noncomputable section
theorem encPm:Enc pmA 2:=⟨fun _=>rfl,fun _=>rfl⟩
section
variable {s s':St} {p ib:Nat} {L:List Dc} {scs:List Ev} {σ:Sg} {F:List Nat} {K:AV→St→Prop} {ps:List UInt8→List Nat × Int} {L0:List Dc} {n j:Nat} {σ':Sg}
theorem disj_one:∀ (l:List Nat) (q:Nat),q ∉ l→disj l [q] = true:=by
 intro l
 induction l with
 | nil=>intro q _; rfl
 | cons x l ih =>
  intro q h
  simp only [List.mem_cons,not_or] at h
  have h1:Nat.beq x q = false:=by
   cases hb:Nat.beq x q with
   | false=>rfl
   | true=>exact absurd (Nat.eq_of_beq_eq_true hb).symm h.1
  simp only [disj,memB,h1,cond_false,Bool.or_self,Bool.not_false,Bool.true_and,ih q h.2]
theorem memB_no {q:Nat} {l:List Nat} (h:q ∉ l):memB q l = false:=by
 cases hc:memB q l with
 | false=>rfl
 | true=>exact absurd (memB_mem.1 hc) h
theorem ix_a {a:List Int} {ta:AV} (hta:Em ta (a.map inA)) {i:Nat} {q:Int} (h:a[i]? = some q):ixS 1 ta (.int .i64 (i:Int)) = some (.pel (inA q).cells 0):=by
 rcases hta with rfl | ⟨_,h2⟩
 ·exact ix_map encIn false h .i64
 ·have:a = []:=by simpa using h2
  subst this; simp at h
structure CaR (s0 s:St) (p ib:Nat) (L:List Dc) (scs:List Ev) (σ:Sg) (F:List Nat) (d:Dc) (ta:AV) (d0 w0 v0:Nat) (names:List (List UInt8)) (bs:List UInt8) (FW:List Nat) (y:AV):Prop where
 mr:MkR s p ib L scs σ F
 ef:EF [] s0 s
 bu:Bu s w0 bs true FW
 dh:s.h d0 = some (.cells d.av.cells 67 true true)
 vh:s.h v0 = some (.cells [y,ta] 254 true true)
 gy:Gw 9 1 0 s y (names.map stA)
 dn:s0.nx≤d0∧d0 ∉ FW∧d0≠v0∧d0 ∉ idOf y
 vn:s0.nx≤v0∧v0 ∉ FW∧v0 ∉ idOf y
 wn:∀ x∈FW,s0.nx≤x∧x ∉ idOf y
 yn:∀ x∈idOf y,s0.nx≤x
theorem CaR.ext {s0:St} {d:Dc} {ta y:AV} {d0 w0 v0:Nat} {names:List (List UInt8)} {bs:List UInt8} {FW:List Nat} (h:CaR s0 s p ib L scs σ F d ta d0 w0 v0 names bs FW y) (e:EF [] s s'):CaR s0 s' p ib L scs σ F d ta d0 w0 v0 names bs FW y:=by
 have fr:=h.ef.fr
 refine ⟨h.mr.ext fr e,h.ef.nil_trans e,h.bu.keep fun x hx=>e.h x (h.bu.lt fr x hx) (by simp),by rw [e.h d0 (fr.lt h.dh) (by simp)]; exact h.dh,by rw [e.h v0 (fr.lt h.vh) (by simp)]; exact h.vh,h.gy.keep fun x hx=>e.h x (fr.lt (h.gy.has x hx)) (by simp),h.dn,h.vn,h.wn,h.yn⟩
theorem CaR.ws {s0:St} {d:Dc} {ta y:AV} {d0 w0 v0:Nat} {names:List (List UInt8)} {bs bs':List UInt8} {FW FW':List Nat} (h:CaR s0 s p ib L scs σ F d ta d0 w0 v0 names bs FW y) (hF:∀ x∈F,x < s0.nx) (b:Bu s' w0 bs' true FW') (e:EF FW s s') (hn:∀ x∈FW',x∈FW∨s.nx≤x):CaR s0 s' p ib L scs σ F d ta d0 w0 v0 names bs' FW' y:=by
 have fr:=h.ef.fr
 have hd0:=fr.lt h.dh
 have hv0:=fr.lt h.vh
 have hyl:∀ x∈idOf y,x < s.nx:=fun x hx=>fr.lt (h.gy.has x hx)
 have hs0:=h.ef.nx
 have no:∀ x,x < s.nx→x ∉ FW→x ∉ FW':=fun x hx hn2 hm=>by rcases hn x hm with h | h; exact hn2 h; omega
 refine ⟨h.mr.keep fun x hx=>e.h x (by have:=hF x hx; omega) fun hm=>by have:=(h.wn x hm).1; have:=hF x hx; omega,h.ef.trans e fun x hx=>.inl (h.wn x hx).1,b,by rw [e.h d0 hd0 h.dn.2.1]; exact h.dh,by rw [e.h v0 hv0 h.vn.2.1]; exact h.vh,h.gy.keep fun x hx=>e.h x (hyl x hx) fun hm=>(h.wn x hm).2 hx,⟨h.dn.1,no d0 hd0 h.dn.2.1,h.dn.2.2⟩,⟨h.vn.1,no v0 hv0 h.vn.2.1,h.vn.2.2⟩,fun x hx=>?_,h.yn⟩
 rcases hn x hx with h1 | h1
 ·exact h.wn x h1
 ·exact ⟨by omega,fun hm=>by have:=hyl x hm; omega⟩
theorem l178 (hL:DcOk L0) (s0:St) (d:Dc) (a:List Int) (ta:AV) (hta:Em ta (a.map inA)) (hlen:a.length = d.ps.length) (hps:d.ps.length≤2 ^ 20) (hw:Wf σ.1) (ha:∀ i∈a,inB σ.1 i) (hF:∀ x∈F,x < s0.nx) (k:Nat) (d0 w0 v0:Nat) (Q:AV→St→Prop)
  (hQ1:∀ s',sortsOk σ.1 d.ps a = false→EF [] s0 s'→MkR s' p ib L scs σ F→Q (res (0,90)) s')
  (hQ2:∀ s' FW y,sortsOk σ.1 d.ps a = true→CaR s0 s' p ib L scs σ F d ta d0 w0 v0 (d.ps.map (·.1)) (a.flatMap fun i=>itoaL i ++ [32]) FW y→f178j1 Q (.int .i64 k) (.ptr w0 0) (.ptr p 0) (.ptr v0 0) (.ptr d0 0) s') :
  ∀ (m i:Nat) (s:St) (FW:List Nat) (y:AV),i + m = d.ps.length→sortsOk σ.1 d.ps a = sortsOk σ.1 (d.ps.drop i) (a.drop i)→CaR s0 s p ib L scs σ F d ta d0 w0 v0 ((d.ps.take i).map (·.1)) ((a.take i).flatMap fun i=>itoaL i ++ [32]) FW y →
   f178l1 Q (m + 1) (.ptr p 0) (.int .i64 k) ta (.ptr d0 0) (.ptr w0 0) (.ptr v0 0) (.sl false (d.ps.map pmA)) (.int .i64 d.ps.length) (.int .i64 i) s:=by
 intro m
 induction m with
 | zero =>
  intro i s FW y hi hso h
  show f178l1s Q (f178l1 Q 0) _ _ _ _ _ _ _ _ _ s
  have c1:decide ((i:Int) < (d.ps.length:Int)) = false:=by simp; omega
  rw [List.drop_of_length_le (by omega)] at hso
  rw [List.take_of_length_le (by omega),List.take_of_length_le (by omega)] at h
  simp only [f178l1s,c1,wx,wy,Nat.reduceAdd,Nat.reduceEqDiff,reduceCtorEq]
  exact hQ2 _ FW y (by rw [hso]; rfl) (h.ext (EF.refl _ h.ef.fr).adv)
 | succ m ih =>
  intro i s FW y hi hso h
  show f178l1s Q (f178l1 Q (m + 1)) _ _ _ _ _ _ _ _ _ s
  have c1:decide ((i:Int) < (d.ps.length:Int)) = true:=by simp; omega
  obtain ⟨z,hz⟩:∃ z,d.ps[i]? = some z:=⟨_,List.getElem?_eq_getElem (by omega)⟩
  obtain ⟨q,hq⟩:∃ q,a[i]? = some q:=⟨_,List.getElem?_eq_getElem (by omega)⟩
  rw [get_drop _ i z hz,get_drop _ i q hq] at hso
  simp only [sortsOk] at hso
  have fr:=h.ef.fr
  have hix:=ix_map encPm false hz .i64
  have hpm:Ai.part 2 true 0 (pmA z).cells = some (pmA z):=rfl
  have hiq:=ix_a hta hq
  have hqin:=ha q (List.mem_of_getElem? hq)
  obtain ⟨nd,hnd⟩:=get_in hqin
  have hso1:soOf σ.1 q = nd.so:=by simp only [soOf,hnd]
  rw [hso1] at hso
  have w1:=wrap_i (i:=i) (n:=d.ps.length) (by omega) (by omega)
  have hst:∀ (q':St) (k c:Nat),sto 2 (.ptr k 0) (pmA z) (Ai.adv (q'.set k (some (.cells (AV.agg [.str [],.int .i64 0]).cells 151 true true))) c) = some (Ai.adv (q'.set k (some (.cells (pmA z).cells 151 true true))) c):=fun q' k c=>by
   rw [sto_all (z:=2) (by rw [adv_h,st_same]) rfl rfl rfl,adv_set,set_set]
  have e0:∀ (C:Option Blk) (k:Nat),4 < k→EF [] s (Ai.adv (s.set (s.nx + 4) C) k):=fun C k hk=>⟨by simp only [adv_nx,set_nx]; omega,fun b hb _=>by rw [adv_h,st_other (by omega)],fresh_set fr k (by omega)⟩
  have h1:=h.ext (e0 (some (.cells (pmA z).cells 151 true true)) 22 (by omega))
  obtain ⟨xin,vs,jm,FB,c,hFe⟩:=h1.mr
  have hcell:=c.cell
  have hcs:s.h p = some (.cells [.ptr ib 0,.sl false (L.map Dc.av),xin,.map jm] 124 true true):=by
   have hp:p < s.nx:=h.mr.lt fr p (by rw [hFe]; simp)
   have:=hcell
   rwa [adv_h,st_other (by omega)] at this
  have hpn:¬ (p = s.nx + 4):=by
   have hp:p < s.nx:=h.mr.lt fr p (by rw [hFe]; simp)
   omega
  simp only [f178l1s,c1,hix,hpm,zf151,hst,wx,wy,Nat.reduceAdd,Nat.reduceEqDiff,reduceCtorEq]
  refine ⟨rfl,?_⟩
  simp only [hcs,hpn,hiq,in0,if_false,wx,wy,Nat.reduceAdd,Nat.reduceEqDiff,reduceCtorEq]
  have hFB:∀ x∈FB,x < s.nx:=fun x hx=>h.mr.lt fr x (by rw [hFe]; simp [hx])
  have hw0:=h.bu.lt fr
  have hd0:=fr.lt h.dh
  have hv0:=fr.lt h.vh
  have hyl:∀ x∈idOf y,x < s.nx:=fun x hx=>fr.lt (h.gy.has x hx)
  have hs0:=h.ef.nx
  refine at_D h1.ef.fr c.bank hqin hnd rfl fun s2 e2=>?_
  have n2:=e2.nx
  simp only [adv_nx,set_nx] at n2
  have n19:s2.h (s.nx + 19) = none:=by rw [e2.h _ (by simp only [adv_nx,set_nx]; omega) (by simp),adv_h,st_other (by omega)]; exact fr _ (by omega)
  have n20:s2.h (s.nx + 20) = none:=by rw [e2.h _ (by simp only [adv_nx,set_nx]; omega) (by simp),adv_h,st_other (by omega)]; exact fr _ (by omega)
  have n4:s2.h (s.nx + 4) = some (.cells (pmA z).cells 151 true true):=by rw [e2.h _ (by simp only [adv_nx,set_nx]; omega) (by simp),adv_h,st_same]
  have x0:extr (.tup [nd.av,.bool true]) 0 = some nd.av:=rfl
  have x1:extr (.tup [nd.av,.bool true]) 1 = some (.bool true):=rfl
  simp only [x0,x1,wx,wy,Nat.reduceAdd,Nat.reduceEqDiff,reduceCtorEq]
  refine ⟨?_,n19,?_⟩
  ·have hnr:s.nx + 19 ∉ rch (Ai.adv (s.set (s.nx + 4) (some (.cells (pmA z).cells 151 true true))) 22) [.fn 53 [] [],.ptr ib 0,.int .i64 q]:=fun hm=>by
    have:=hFB _ ((c.bank.rch rfl _).1 hm); omega
   have hp19:p≠s.nx + 19:=by have:=h.mr.lt fr p (by rw [hFe]; simp); omega
   have hlt:Nat.blt (s.nx + 19) (s.nx + 22) = true:=by simp [Nat.blt_eq]
   have hpb:Nat.beq (s.nx + 19) p = false:=by
    cases hb:Nat.beq (s.nx + 19) p with
    | false=>rfl
    | true=>exact absurd (Nat.eq_of_beq_eq_true hb).symm hp19
   have hpb2:Nat.beq p (s.nx + 19) = false:=by
    cases hb:Nat.beq p (s.nx + 19) with
    | false=>rfl
    | true=>exact absurd (Nat.eq_of_beq_eq_true hb) hp19
   simp [clear,Mark.apart,okLo,bitOf,disj,memB,memB_no hnr,disj_one _ _ hnr,hlt,hpb,hpb2,hp19,Ne.symm hp19]
  simp only [zf101,n20,wx,wy,Nat.reduceAdd,Nat.reduceEqDiff,reduceCtorEq]
  rw [sto_all (z:=7) (by rw [st_same]) rfl rfl rfl,set_set]
  have e2s:EF [] s s2:=(e0 _ _ (by omega)).nil_trans e2
  have e3:EF [] s (s2.set (s.nx + 19) (some (.cells nd.av.cells 101 true true))):=e2s.set (by omega) (.inl (by omega))
  have o1:nd.av.cells[1]? = some (.int .i64 nd.so):=rfl
  have z1:(pmA z).cells[1]? = some (.int .i64 z.2):=rfl
  have z0:(pmA z).cells[0]? = some (.str z.1):=rfl
  have hne3:∀ u v:Int,bn .neq 3 (.int .i64 u) (.int .i64 v) = some (.bool (u != v)):=fun _ _=>bin_neq
  obtain ⟨s3,hs3⟩:∃ s3,s3 = s2.set (s.nx + 19) (some (.cells nd.av.cells 101 true true)):=⟨_,rfl⟩
  rw [← hs3] at e3
  have h3:=h.ext e3
  have m19:s3.h (s.nx + 19) = some (.cells nd.av.cells 101 true true):=by rw [hs3,st_same]
  have m4:s3.h (s.nx + 4) = some (.cells (pmA z).cells 151 true true):=by rw [hs3,st_other (by omega)]; exact n4
  have nx3:s3.nx = s2.nx:=by rw [hs3,set_nx]
  simp only [Bnd_some]
  rw [← hs3]
  simp only [m19,m4,o1,z1,z0,hne3,wx,wy,Nat.reduceAdd,Nat.reduceEqDiff,reduceCtorEq]
  cases hcmp:(nd.so == z.2) with
  | false =>
   rw [hcmp,Bool.false_and] at hso
   have:(nd.so != z.2) = true:=by simp only [bne,hcmp]; rfl
   simp only [this,wx,wy,Nat.reduceAdd,Nat.reduceEqDiff,reduceCtorEq]
   exact hQ1 _ hso h3.ef.adv h3.mr.adv
  | true =>
   rw [hcmp,Bool.true_and] at hso
   have:(nd.so != z.2) = false:=by simp only [bne,hcmp]; rfl
   have bs52:bsl 52 1 [(0,.str z.1)] = some (.sl true [stA z.1]):=bsl_one tf52 (by decide) rfl rfl
   have htl:((d.ps.take i).map (·.1)).length = i:=by simp; omega
   have happ:=app_map tf52 encSt (h3.gy.adv (n:=13)) (a:=z.1) (by omega) (by omega) true (s3.nx + 10)
   simp only [this,h3.vh,z0,bs52,happ,wx,wy,Nat.reduceAdd,Nat.reduceEqDiff,reduceCtorEq]
   have fr3:=h3.ef.fr
   obtain ⟨C,hC⟩:∃ C,C = (some (Blk.cells (((((d.ps.take i).map (·.1)) ++ [z.1]).map stA).flatMap AV.cells) 9 false true):Option Blk):=⟨_,rfl⟩
   rw [← hC]
   have hv3:=fr3.lt h3.vh
   rw [sto_c (c:=[y,ta]) (by rw [adv_h,get_set,if_neg (by omega),get_drop',if_neg h3.vn.2.2]; exact h3.vh) (by simp) rfl rfl]
   simp only [List.set_cons_zero,wx,wy,Nat.reduceAdd,Nat.reduceEqDiff,reduceCtorEq]
   have hqi:i64 q:=⟨by have:=hqin.1; omega,by have:=hqin.2; have:=hw.1; omega⟩
   refine callPu (c206 q hqi.1 hqi.2) (by simp [AV.closed]) ?_
   have li:=itoaL_len q
   rw [add_str (y:=[32]) (by simp only [List.length_cons,List.length_nil]; omega)]
   simp only [Bnd_some]
   have h4:CaR s0 (Ai.adv (((s3.drop (idOf y)).set (s3.nx + 10) C).set v0 (some (.cells [.ref (s3.nx + 10) 0 (((d.ps.take i).map (·.1)).length + 1) none 9,ta] 254 true true))) 20) p ib L scs σ F d ta d0 w0 v0 ((d.ps.take i).map (·.1) ++ [z.1]) ((a.take i).flatMap fun i=>itoaL i ++ [32]) FW (.ref (s3.nx + 10) 0 (((d.ps.take i).map (·.1)).length + 1) none 9):=by
    have get:∀ x,x≠v0→x≠s3.nx + 10→x ∉ idOf y→(Ai.adv (((s3.drop (idOf y)).set (s3.nx + 10) C).set v0 (some (.cells [.ref (s3.nx + 10) 0 (((d.ps.take i).map (·.1)).length + 1) none 9,ta] 254 true true))) 20).h x = s3.h x:=fun x a b c=>by
     rw [adv_h,get_set,if_neg a,get_set,if_neg b,get_drop',if_neg c]
    have hold:∀ x,x < s0.nx→x≠v0∧x≠s3.nx + 10∧x ∉ idOf y:=fun x hx=>⟨fun e=>by have:=h3.vn.1; omega,by have:=h3.ef.nx; omega,fun e=>by have:=h3.yn x e; omega⟩
    refine ⟨h3.mr.keep fun x hx=>?_,⟨?_,fun x hx _=>?_,fun x hx=>?_⟩,h3.bu.keep fun x hx=>?_,?_,by rw [adv_h,st_same],?_,?_,?_,?_,?_⟩
    ·obtain ⟨a1,a2,a3⟩:=hold x (hF x hx); exact get x a1 a2 a3
    ·have:=h3.ef.nx; simp only [adv_nx,set_nx,nx_drop]; omega
    ·obtain ⟨a1,a2,a3⟩:=hold x hx; rw [get x a1 a2 a3]; exact h3.ef.h x hx (by simp)
    ·simp only [adv_nx,set_nx,nx_drop] at hx
     rw [adv_h,get_set,if_neg (by omega),get_set,if_neg (by omega),get_drop']
     split
     ·rfl
     ·exact fr3 x (by omega)
    ·have:=h3.bu.lt fr3 x hx
     exact get x (fun e=>h3.vn.2.1 (by rw [← e]; exact hx)) (by omega) (h3.wn x hx).2
    ·have:=fr3.lt h3.dh
     rw [get d0 h3.dn.2.2.1 (by omega) h3.dn.2.2.2]; exact h3.dh
    ·have:=gw_map1 (l:=(d.ps.take i).map (·.1)) (a:=z.1) encSt (e:=9) (id:=s3.nx + 10) (n:=20) (s0:=s3)
     exact this.keep fun x hx=>by
      simp only [idOf,List.mem_singleton] at hx; subst hx
      rw [adv_h,st_other (by omega),st_same,adv_h,st_same,hC]
    ·have:=fr3.lt h3.dh
     exact ⟨h3.dn.1,h3.dn.2.1,h3.dn.2.2.1,by simp only [idOf,List.mem_singleton]; omega⟩
    ·exact ⟨h3.vn.1,h3.vn.2.1,by simp only [idOf,List.mem_singleton]; omega⟩
    ·intro x hx
     have:=h3.bu.lt fr3 x hx
     exact ⟨(h3.wn x hx).1,by simp only [idOf,List.mem_singleton]; omega⟩
    ·intro x hx
     have:=h3.ef.nx
     simp only [idOf,List.mem_singleton] at hx; omega
   have hbl:((a.take i).flatMap fun i=>itoaL i ++ [32]).length≤22 * i:=by
    have:∀ l:List Int,(l.flatMap fun i=>itoaL i ++ [32]).length≤22 * l.length:=by
     intro l
     induction l with
     | nil=>simp
     | cons x l ih=>have:=itoaL_len x; simp only [List.flatMap_cons,List.length_append,List.length_cons,List.length_nil]; omega
    have h1:=this (a.take i)
    have h2:=List.length_take_le i a
    omega
   refine callWsF h4.bu h4.ef.fr (by simp) (by simp only [List.length_append,List.length_cons,List.length_nil]; omega) fun s5 FW' b1 b2 b3=>?_
   simp only [f178j3,w1,wx,wy,Nat.reduceAdd,Nat.reduceEqDiff,reduceCtorEq]
   have t1:(d.ps.take (i + 1)).map (·.1) = (d.ps.take i).map (·.1) ++ [z.1]:=by rw [List.take_add_one,hz]; simp
   have t2:(a.take (i + 1)).flatMap (fun i=>itoaL i ++ [32]) = (a.take i).flatMap (fun i=>itoaL i ++ [32]) ++ (itoaL q ++ [32]):=by rw [List.take_add_one,hq]; simp
   refine ih (i + 1) _ FW' (.ref (s3.nx + 10) 0 (((d.ps.take i).map (·.1)).length + 1) none 9) (by omega) hso ?_
   rw [t1,t2]
   exact (h4.ws hF b1 b2 b3).ext (EF.refl _ b2.fr).adv
end
end
noncomputable section
section
variable {s s':St} {p ib:Nat} {L:List Dc} {scs:List Ev} {σ:Sg} {F:List Nat} {K:AV→St→Prop} {ps:List UInt8→List Nat × Int} {L0:List Dc} {n j:Nat} {σ':Sg}
theorem lookM {m:Nat} {M:Mm} {S:St} (h:S.h m = some (.map (mapM M))) (k:List UInt8):lookupA Tryz.ty 53 (.map m) (.str k) true S = some (.tup [.int .i64 ((mget k M).getD 0),.bool (mget k M).isSome]):=by
 have h9:und Tryz.ty 9 = some .string:=by kernel_rfl
 have hz:zero Tryz.ty 3 = some (.int .i64 0):=by kernel_rfl
 have he:entryA (.map m) (.str k) S = some ((mget k M).map fun j=>.int .i64 j):=by simp only [entryA,h,mget_find]
 simp only [lookupA,und53,h9,Option.bind_some,keyD,if_true,hz,he,Option.map_some]
 cases mget k M <;> rfl
theorem updM {m:Nat} {M:Mm} {S:St} (h:S.h m = some (.map (mapM M))) (k:List UInt8) (v:Int):mapUpd Tryz.ty 53 (.map m) (.str k) (.int .i64 v) S = some (S.set m (some (.map (mapM (mset k v M))))):=by
 have h9:und Tryz.ty 9 = some .string:=by kernel_rfl
 simp only [mapUpd,und53,h9,Option.bind_some,h,keyD,if_true,mget_find,mset_set,Option.map_some]
structure CbR (s0 s:St) (p ib:Nat) (L:List Dc) (scs:List Ev) (σ:Sg) (F:List Nat) (d:Dc) (ta:AV) (d0 w0 v0:Nat) (names:List (List UInt8)) (bs:List UInt8) (w:Bool) (FW:List Nat) (y:AV):Prop where
 mr:MkR s p ib L scs σ F
 ef:EF [] s0 s
 bu:Bu s w0 bs w FW
 dh:s.h d0 = some (.cells d.av.cells 67 true true)
 vh:s.h v0 = some (.cells [y,ta] 254 true true)
 gy:Gw 9 1 0 s y (names.map stA)
 dn:s0.nx≤d0∧d0 ∉ FW∧d0≠v0∧d0 ∉ idOf y
 vn:s0.nx≤v0∧v0 ∉ FW∧v0 ∉ idOf y
 wn:∀ x∈FW,s0.nx≤x∧x ∉ idOf y
 yn:∀ x∈idOf y,s0.nx≤x
theorem CaR.cb {s0:St} {d:Dc} {ta y:AV} {d0 w0 v0:Nat} {names:List (List UInt8)} {bs bs':List UInt8} {w:Bool} {FW:List Nat} (h:CaR s0 s p ib L scs σ F d ta d0 w0 v0 names bs FW y) (hF:∀ x∈F,x < s0.nx) (b:Bu s' w0 bs' w FW) (e:EF FW s s'):CbR s0 s' p ib L scs σ F d ta d0 w0 v0 names bs' w FW y:=by
 have fr:=h.ef.fr
 have hd0:=fr.lt h.dh
 have hv0:=fr.lt h.vh
 have hyl:∀ x∈idOf y,x < s.nx:=fun x hx=>fr.lt (h.gy.has x hx)
 have hs0:=h.ef.nx
 exact ⟨h.mr.keep fun x hx=>e.h x (by have:=hF x hx; omega) fun hm=>by have:=(h.wn x hm).1; have:=hF x hx; omega,h.ef.trans e fun x hx=>.inl (h.wn x hx).1,b,by rw [e.h d0 hd0 h.dn.2.1]; exact h.dh,by rw [e.h v0 hv0 h.vn.2.1]; exact h.vh,h.gy.keep fun x hx=>e.h x (hyl x hx) fun hm=>(h.wn x hm).2 hx,h.dn,h.vn,h.wn,h.yn⟩
theorem j178 (hT:TermC ps n) (hL:DcOk L0) (s0:St) (hok:StOk ps L0 scs.flatten σ) (d:Dc) (a:List Int) (ta:AV) (hta:Em ta (a.map inA)) (hlen:a.length = d.ps.length) (ha:∀ i∈a,inB σ.1 i) (hF:∀ x∈F,x < s0.nx) (k:Nat) (hd:(L0.take j)[k]? = some d) (d0 w0 v0:Nat) (FW:List Nat) (y:AV) (s:St)
  (h:CaR s0 s p ib (L0.take j) scs σ F d ta d0 w0 v0 (d.ps.map (·.1)) (a.flatMap fun i=>itoaL i ++ [32]) FW y) (hso:sortsOk σ.1 d.ps a = true) {r:Int × Int} (hc:callM true (T ps true n) (L0.take j) k a σ = some (r,σ')) (Q:AV→St→Prop) (hQ:∀ s' F',MkQ s0 p ib (L0.take j) scs F σ' s' F'→Q (res r) s') :
  f178j1 Q (.int .i64 k) (.ptr w0 0) (.ptr p 0) (.ptr v0 0) (.ptr d0 0) s:=by
 have fr0:=h.ef.fr
 have hkl:k < (L0.take j).length:=(List.getElem?_eq_some_iff.1 hd).1
 have hk30:k < 2 ^ 30:=by have:=hL.len; simp only [List.length_take] at hkl; omega
 obtain ⟨hd0,htk⟩:=take_get hd
 have hdm:=List.mem_of_getElem? hd0
 have hps:=hL.ps d hdm
 unfold f178j1
 refine callPu (c206 (k:Int) (by omega) (by omega)) (by simp [AV.closed]) ?_
 have li:=itoaL_len (k:Int)
 rw [add_str (x:=[102]) (by simp only [List.length_cons,List.length_nil]; omega)]
 simp only [Bnd_some]
 have hbl:(a.flatMap fun i=>itoaL i ++ [32]).length≤22 * a.length:=by
  clear hc hso h ha hta hlen
  induction a with
  | nil=>simp
  | cons x l ih=>have:=itoaL_len x; simp only [List.flatMap_cons,List.length_append,List.length_cons,List.length_nil]; omega
 have h1:=h.ext (EF.refl _ fr0).adv (s':=Ai.adv s 4)
 refine callWsF h1.bu h1.ef.fr (by simp) (by simp only [List.length_append,List.length_cons,List.length_nil]; omega) fun s2 FW2 b1 b2 b3=>?_
 have h2:=h1.ws hF b1 b2 b3
 have hkey:(a.flatMap fun i=>itoaL i ++ [32]) ++ ([102] ++ itoaL (k:Int)) = ckey k a:=rfl
 rw [hkey] at h2
 have hkn:ckey k a≠[]:=by simp [ckey]
 have hkl2:(ckey k a).length≤2 ^ 40:=by rw [← hkey]; simp only [List.length_append,List.length_cons,List.length_nil]; omega
 have h3:=h2.ext (EF.refl _ h2.ef.fr).adv (s':=Ai.adv s2 11)
 obtain ⟨xin,vs,jm,FB,c,hFe⟩:=h3.mr
 have hcs:s2.h p = some (.cells [.ptr ib 0,.sl false ((L0.take j).map Dc.av),xin,.map jm] 124 true true):=c.cell
 refine ⟨rfl,?_⟩
 simp only [hcs,wx,wy,Nat.reduceAdd,Nat.reduceEqDiff,reduceCtorEq]
 have hpF:p∈F:=by rw [hFe]; simp
 have hp0:=hF p hpF
 have hjm0:=hF jm (by rw [hFe]; simp)
 have hpW:p ∉ FW2:=fun hm=>by have:=(h2.wn p hm).1; omega
 have hcl:∀ (S:St) (FW:List Nat) (bs:List UInt8) (w:Bool),Bu S w0 bs w FW→p < S.nx→p ∉ FW→clear 0 ⟨4,true,rch S [.fn 108 [] [],.ptr w0 0],some S.nx⟩ [⟨3,false,[p],none⟩,⟨2,false,[],none⟩,⟨1,false,[],none⟩,⟨0,false,[],none⟩] = true:=fun S FW bs w hb hps hpn=>by
  have hn:p ∉ rch S [.fn 108 [] [],.ptr w0 0]:=fun hm=>hpn ((hb.rch rfl p).1 hm)
  simp [clear,Mark.apart,okLo,bitOf,disj,memB_no hn,disj_one _ _ hn,hps]
 refine ⟨hcl _ FW2 _ true h3.bu (by have:=h3.ef.nx; show p < s2.nx + 11; have:s0.nx≤s2.nx + 11:=h3.ef.nx; omega) hpW,?_⟩
 refine callStrD h3.bu h3.ef.fr hkn hkl2 rfl fun s3 g1 g2=>?_
 have h4:=h3.cb hF g1 g2
 obtain ⟨xin2,vs2,jm2,FB2,c2,hFe2⟩:=h4.mr
 have hcell:s3.h p = some (.cells [.ptr ib 0,.sl false ((L0.take j).map Dc.av),xin,.map jm] 124 true true):=by
  rw [g2.h p (by show p < s2.nx + 11; have:s0.nx≤s2.nx + 11:=h3.ef.nx; omega) hpW]; exact c.cell
 obtain ⟨rfl,rfl⟩:xin2 = xin∧jm2 = jm:=by
  have:=c2.cell
  rw [hcell] at this
  simp only [Option.some.injEq,Blk.cells.injEq,List.cons.injEq,AV.map.injEq,and_true,true_and] at this
  exact ⟨this.1.symm,this.2.symm⟩
 have hlk:=lookM c2.made (ckey k a)
 have hcM:=hc
 unfold callM at hcM
 rw [hd] at hcM
 simp only [hlen,beq_self_eq_true,cond_true,hso,htk] at hcM
 simp only [hlk,wx,wy,Nat.reduceAdd,Nat.reduceEqDiff,reduceCtorEq]
 cases hg:mget (ckey k a) σ.2 with
 | some id =>
  rw [hg] at hcM
  simp only [Option.some.injEq,Prod.mk.injEq] at hcM
  obtain ⟨rfl,rfl⟩:=hcM
  simp only [Option.isSome_some,Option.getD_some,wx,wy,Nat.reduceAdd,Nat.reduceEqDiff,reduceCtorEq]
  exact hQ _ F ⟨h4.mr.adv,(h4.ef.sub fun x hx=>by cases hx).adv,fun x hx=>.inl hx,NS.of (h4.ef.h p hp0 (by simp))⟩
 | none =>
  rw [hg] at hcM
  simp only [Option.map_eq_some_iff] at hcM
  obtain ⟨⟨r1,B1,M1⟩,hrun,hfin⟩:=hcM
  simp only [Prod.mk.injEq,Bool.true_and] at hfin
  obtain ⟨rfl,rfl⟩:=hfin
  simp only [Option.isSome_none,Option.getD_none,wx,wy,Nat.reduceAdd,Nat.reduceEqDiff,reduceCtorEq]
  refine ⟨rfl,?_⟩
  simp only [hcell,wx,wy,Nat.reduceAdd,Nat.reduceEqDiff,reduceCtorEq]
  refine ⟨rfl,?_⟩
  have hpart:Ai.part 2 true 0 [y,ta] = some (scA (y,ta)):=rfl
  have hya:y.one = true:=by obtain ⟨_,⟨rfl,_⟩ | ⟨_,_,rfl,_⟩⟩:=h4.gy <;> rfl
  have hb122:bsl 122 1 [(0,scA (y,ta))] = some (.sl true [scA (y,ta)]):=bsl_one tf122 (by decide) rfl (by
   show ([y,ta]:List AV).all AV.one = true
   simp only [List.all_cons,hya,(em_one hta).1,List.all_nil,Bool.and_self])
  have hsl:∀ S,slc 49 (.sl false ((L0.take j).map Dc.av)) none (some (.int .i64 (k:Int))) none S = some (.sl false ((L0.take k).map Dc.av)):=fun S=>by
   rw [slc_take tf49 encDc.len false _ (by omega) .i64,Bool.false_and,htk]
  simp only [hcell,h4.vh,hpart,hb122,hsl,wx,wy,Nat.reduceAdd,Nat.reduceEqDiff,reduceCtorEq]
  refine ⟨rfl,?_⟩
  have fr3:=h4.ef.fr
  have ns3:=h4.ef.nx
  have hp3:p < s3.nx:=by omega
  refine ⟨by simp [clear,Mark.apart,okLo,bitOf,disj],fr3 _ (by omega),?_⟩
  rw [sto_c (c:=[.ptr ib 0,.sl false ((L0.take j).map Dc.av),xin2,.map jm2]) (by rw [adv_h]; exact hcell) (by simp) rfl rfl]
  simp only [List.set_cons_succ,List.set_cons_zero,wx,wy,Nat.reduceAdd,Nat.reduceEqDiff,reduceCtorEq]
  refine ⟨rfl,?_,?_⟩
  ·rw [if_neg (by omega)]; exact fr3 _ (by omega)
  rw [sto_c (c:=[.ptr ib 0,.sl false ((L0.take j).map Dc.av),.sl true [scA (y,ta)],.map jm2]) (by rw [adv_h,st_same]) (by simp) rfl rfl]
  simp only [List.set_cons_succ,List.set_cons_zero,wx,wy,Nat.reduceAdd,Nat.reduceEqDiff,reduceCtorEq]
  have hd0p:¬ (d0 = p):=by have:=h4.dn.1; omega
  have hbody:Ai.part 6 true 4 d.av.cells = some d.body.av:=dc_body d
  simp only [h4.dh,hd0p,hbody,if_false,wx,wy,Nat.reduceAdd,Nat.reduceEqDiff,reduceCtorEq]
  obtain ⟨S5,hS5⟩:∃ S5,S5 = Ai.adv (s3.set p (some (.cells [.ptr ib 0,.sl false ((L0.take k).map Dc.av),.sl true [scA (y,ta)],.map jm2] 124 true true))) 33:=⟨_,rfl⟩
  rw [← hS5]
  have g5:∀ x,x≠p→S5.h x = s3.h x:=fun x hx=>by rw [hS5,adv_h,st_other hx]
  have n5:S5.nx = s3.nx + 33:=by rw [hS5]; rfl
  have f5:Fresh S5:=by rw [hS5]; exact fresh_set fr3 33 (by omega)
  have hyp:∀ x∈idOf y,x≠p∧x≠jm2∧x ∉ FB2:=fun x hx=>by
   have:=h4.yn x hx
   exact ⟨by omega,by omega,fun hm=>by have:=hF x (by rw [hFe2]; simp [hm]); omega⟩
  have hsc:ScR S5 (y,ta) (List.zip (d.ps.map (·.1)) a):=by
   have e1:(List.zip (d.ps.map (·.1)) a).map (·.1) = d.ps.map (·.1):=List.map_fst_zip (by simp [hlen])
   have e2:(List.zip (d.ps.map (·.1)) a).map (·.2) = a:=List.map_snd_zip (by simp [hlen])
   refine ⟨?_,?_,?_⟩
   ·rw [e1]; exact h4.gy.keep fun x hx=>g5 x (hyp x hx).1
   ·rw [e2]; exact hta
   ·simp only [List.length_zip,List.length_map]; omega
  have hmk5:MkR S5 p ib (L0.take k) [List.zip (d.ps.map (·.1)) a] σ (p :: jm2 :: (FB2 ++ inIds (.sl true [scA (y,ta)]) [(y,ta)])):=by
   refine ⟨_,[(y,ta)],jm2,FB2,⟨by rw [hS5,adv_h,st_same]; rfl,c2.bank.keep fun x hx=>g5 x fun e=>c2.pb (by rw [← e]; exact hx),by rw [g5 jm2 c2.ne.symm]; exact c2.made,.inr (.inl rfl),⟨hsc,trivial⟩,c2.ne,c2.pb,c2.jb,fun x hx=>?_⟩,rfl⟩
   simp only [inIds,idOf,List.nil_append,List.flatMap_cons,List.flatMap_nil,List.append_nil] at hx
   exact hyp x hx
  have hok5:StOk ps L0 [List.zip (d.ps.map (·.1)) a].flatten σ:=⟨hok.wf,by simp only [List.flatten_cons,List.flatten_nil,List.append_nil]; exact zip_in _ a ha,hok.mv⟩
  have hw5:=hL.wt d hdm
  obtain ⟨v,s6,t1,rfl,F6,t2⟩:=hT S5 p ib L0 k [List.zip (d.ps.map (·.1)) a] σ _ d.body r1 (B1,M1) f5 hmk5 hok5 hL (hL.fit d hdm) (by simp only [List.length_singleton]; omega) (by simp only [List.flatten_cons,List.flatten_nil,List.append_nil]; exact hrun)
  refine callWiF (by kernel_rfl) ⟨_,s6,t1,?_⟩
  obtain ⟨⟨xin6,vs6,jm6,FB6,c6,hF6⟩,e6,m6,_⟩:=t2
  have n6:=e6.nx
  have fr6:=e6.fr
  have hp6:p < s6.nx:=by omega
  simp only [ex0,ex1,wx,wy,Nat.reduceAdd,Nat.reduceEqDiff,reduceCtorEq]
  refine ⟨rfl,?_⟩
  rw [sto_c (c:=[.ptr ib 0,.sl false ((L0.take k).map Dc.av),xin6,.map jm6]) (by rw [adv_h]; exact c6.cell) (by simp) (by
   rcases c2.inx with ⟨rfl,_⟩ | rfl | ⟨_,_,rfl,_⟩ <;> rfl) (by rcases c2.inx with ⟨rfl,_⟩ | rfl | ⟨_,_,rfl,_⟩ <;> rfl)]
  simp only [List.set_cons_succ,List.set_cons_zero,wx,wy,Nat.reduceAdd,Nat.reduceEqDiff,reduceCtorEq]
  refine ⟨rfl,?_⟩
  rw [sto_c (c:=[.ptr ib 0,.sl false ((L0.take k).map Dc.av),xin2,.map jm6]) (by rw [adv_h,st_same]) (by simp) rfl rfl]
  simp only [List.set_cons_succ,List.set_cons_zero,wx,wy,Nat.reduceAdd,Nat.reduceEqDiff,reduceCtorEq]
  obtain ⟨S8,hS8⟩:∃ S8,S8 = Ai.adv (s6.set p (some (.cells [.ptr ib 0,.sl false ((L0.take j).map Dc.av),xin2,.map jm6] 124 true true))) 10:=⟨_,rfl⟩
  have g8:∀ x,x≠p→S8.h x = s6.h x:=fun x hx=>by rw [hS8,adv_h,st_other hx]
  have n8:S8.nx = s6.nx + 10:=by rw [hS8]; rfl
  have f8:Fresh S8:=by rw [hS8]; exact fresh_set fr6 10 (by omega)
  have old:∀ x,x < s3.nx→x≠p→x≠jm2→x ∉ FB2→x ∉ idOf y→S8.h x = s3.h x:=fun x h1 h2 h3 h4 h5=>by
   rw [g8 x h2,e6.h x (by omega) (by simp only [inIds,idOf,List.nil_append,List.flatMap_cons,List.flatMap_nil,List.append_nil,List.mem_cons,List.mem_append,not_or]; exact ⟨h2,h3,h4,h5⟩),g5 x h2]
  have hin2:∀ x∈inIds xin2 vs2,x < s0.nx∧x≠p∧x≠jm2∧x ∉ FB2∧x ∉ idOf y:=fun x hx=>by
   have:=hF x (by rw [hFe2]; simp [hx])
   obtain ⟨a1,a2,a3⟩:=c2.ii x hx
   exact ⟨this,a1,a2,a3,fun hm=>by have:=h4.yn x hm; omega⟩
  have nF6:∀ x,x < s3.nx→x≠p→x≠jm2→x ∉ FB2→x ∉ idOf y→x ∉ F6:=fun x h1 h2 h3 h4 h5 hm=>by
   rcases m6 x hm with h | h
   ·simp only [inIds,idOf,List.nil_append,List.flatMap_cons,List.flatMap_nil,List.append_nil,List.mem_cons,List.mem_append] at h
    rcases h with h | h | h | h
    ·exact h2 h
    ·exact h3 h
    ·exact h4 h
    ·exact h5 h
   ·omega
  have hmk8:MkC S8 p ib (L0.take j) scs (B1,M1) xin2 vs2 jm6 FB6:=by
   refine ⟨by rw [hS8,adv_h,st_same],c6.bank.keep fun x hx=>g8 x fun e=>c6.pb (by rw [← e]; exact hx),by rw [g8 jm6 c6.ne.symm]; exact c6.made,?_,?_,c6.ne,c6.pb,c6.jb,fun x hx=>?_⟩
   ·exact c2.inx.keep fun x hx=>by
     obtain ⟨a0,a1,a2,a3,a4⟩:=hin2 x (by simp [inIds,hx])
     exact old x (by omega) a1 a2 a3 a4
   ·exact c2.sco.keep fun x hx=>by
     obtain ⟨a0,a1,a2,a3,a4⟩:=hin2 x (by simp only [inIds,List.mem_append]; exact .inr hx)
     exact old x (by omega) a1 a2 a3 a4
   ·obtain ⟨a0,a1,a2,a3,a4⟩:=hin2 x hx
    have:=nF6 x (by omega) a1 a2 a3 a4
    rw [hF6] at this
    simp only [List.mem_cons,List.mem_append,not_or] at this
    exact ⟨a1,this.2.1,this.2.2.1⟩
  have ef8:EF F s0 S8:=by
   refine ⟨by omega,fun x hx hn=>?_,f8⟩
   rw [hFe2] at hn
   simp only [List.mem_cons,List.mem_append,not_or] at hn
   rw [old x (by omega) hn.1 hn.2.1 hn.2.2.1 (fun hm=>by have:=h4.yn x hm; omega)]
   exact h4.ef.h x hx (by simp)
  have hsub:∀ x∈p :: jm6 :: (FB6 ++ inIds xin2 vs2),x∈F∨s0.nx≤x:=fun x hx=>by
   simp only [List.mem_cons,List.mem_append] at hx
   have six:x∈F6→x∈F∨s0.nx≤x:=fun hm=>by
    rcases m6 x hm with h | h
    ·simp only [inIds,idOf,List.nil_append,List.flatMap_cons,List.flatMap_nil,List.append_nil,List.mem_cons,List.mem_append] at h
     rw [hFe2]
     rcases h with h | h | h | h
     ·exact .inl (by simp [h])
     ·exact .inl (by simp [h])
     ·exact .inl (by simp [h])
     ·exact .inr (h4.yn x h)
    ·exact .inr (by omega)
   rcases hx with rfl | rfl | hx | hx
   ·exact .inl hpF
   ·exact six (by rw [hF6]; simp)
   ·exact six (by rw [hF6]; simp [hx])
   ·rw [hFe2]; exact .inl (by simp [hx])
  have heq34:∀ u v:Int,bn .eql 34 (.int .i64 u) (.int .i64 v) = some (.bool (u == v)):=fun _ _=>bin_eql
  have hns:∀ S:St,S.h p = some (.cells [.ptr ib 0,.sl false ((L0.take j).map Dc.av),xin2,.map jm6] 124 true true)→NS s0 S p:=fun S hS=>.inr (by
   have h0:s0.h p = some (.cells [.ptr ib 0,.sl false ((L0.take j).map Dc.av),xin2,.map jm2] 124 true true):=by rw [← h4.ef.h p hp0 (by simp)]; exact hcell
   simp only [slOf,hS,h0]
   rcases c2.inx with ⟨hx,_⟩ | hx | ⟨_,_,hx,_⟩ <;> rw [hx])
  have hq8:MkQ s0 p ib (L0.take j) scs F (B1,M1) S8 (p :: jm6 :: (FB6 ++ inIds xin2 vs2)):=⟨⟨xin2,vs2,jm6,FB6,hmk8,rfl⟩,ef8,hsub,hns _ hmk8.cell⟩
  cases hr:(r1.2 == 0) with
  | false =>
   rw [hr,cond_false] at hQ
   simp only [heq34,hr,f178j2,wx,wy,Nat.reduceAdd,Nat.reduceEqDiff,reduceCtorEq]
   have:=hQ (Ai.adv S8 6) _ hq8.adv
   rw [hS8] at this
   exact this
  | true =>
   rw [hr,cond_true] at hQ
   have hW:∀ x∈FW2,x < s3.nx∧x≠p∧x≠jm2∧x ∉ FB2∧x ∉ idOf y:=fun x hx=>by
    have a0:=h4.bu.lt fr3 x hx
    have a1:=(h4.wn x hx).1
    exact ⟨a0,by omega,by omega,fun hm=>by have:=hF x (by rw [hFe2]; simp [hm]); omega,(h4.wn x hx).2⟩
   have bu8:Bu S8 w0 (ckey k a) false FW2:=h4.bu.keep fun x hx=>by
    obtain ⟨a0,a1,a2,a3,a4⟩:=hW x hx
    exact old x a0 a1 a2 a3 a4
   simp only [heq34,hr,wx,wy,Nat.reduceAdd,Nat.reduceEqDiff,reduceCtorEq]
   have bu9:Bu (Ai.adv (s6.set p (some (.cells [.ptr ib 0,.sl false ((L0.take j).map Dc.av),xin2,.map jm6] 124 true true))) 19) w0 (ckey k a) false FW2:=bu8.keep fun x _=>by rw [hS8]; rfl
   refine ⟨rfl,?_⟩
   refine ⟨hcl _ FW2 _ false bu9 (by show p < s6.nx + 19; omega) hpW,?_⟩
   refine callStrD bu9 (fresh_set fr6 19 (by omega)) hkn hkl2 rfl fun s9 k1 k2=>?_
   have n9:=k2.nx
   simp only [adv_nx,set_nx] at n9
   have hWF:∀ x∈p :: jm6 :: (FB6 ++ inIds xin2 vs2),x ∉ FW2:=fun x hx hm=>by
    obtain ⟨a0,a1,a2,a3,a4⟩:=hW x hm
    have a5:=(h4.wn x hm).1
    simp only [List.mem_cons,List.mem_append] at hx
    have h6:=nF6 x a0 a1 a2 a3 a4
    rcases hx with hx | hx | hx | hx
    ·exact a1 hx
    ·exact h6 (by rw [hF6,hx]; simp)
    ·exact h6 (by rw [hF6]; simp [hx])
    ·have:=(hin2 x hx).1; omega
   have g9:∀ x∈p :: jm6 :: (FB6 ++ inIds xin2 vs2),s9.h x = S8.h x:=fun x hx=>by
    have hlt:=hq8.1.lt f8 x hx
    rw [k2.h x (by simp only [adv_nx,set_nx]; omega) (hWF x hx),hS8]; rfl
   have mk9:MkC s9 p ib (L0.take j) scs (B1,M1) xin2 vs2 jm6 FB6:=by
    obtain ⟨q1,q2,q3,q4,q5,q6,q7,q8,q9⟩:=hmk8
    exact ⟨by rw [g9 p (by simp)]; exact q1,q2.keep fun x hx=>g9 x (by simp [hx]),by rw [g9 jm6 (by simp)]; exact q3,q4.keep fun x hx=>g9 x (by simp [inIds,hx]),q5.keep fun x hx=>g9 x (by simp only [List.mem_cons,List.mem_append,inIds]; exact .inr (.inr (.inr (.inr hx)))),q6,q7,q8,q9⟩
   have ef9:EF F s0 s9:=by
    refine ⟨by omega,fun x hx hn=>?_,k2.fr⟩
    rw [k2.h x (by simp only [adv_nx,set_nx]; omega) (fun hm=>by have:=(h4.wn x hm).1; omega)]
    have:=ef8.h x hx hn
    rw [hS8] at this
    exact this
   have hnone:s9.h (s6.nx + 18) = none:=by
    rw [k2.h (s6.nx + 18) (by simp only [adv_nx,set_nx]; omega) (fun hm=>by have:=(hW _ hm).1; omega),adv_h,st_other (by omega)]
    exact fr6 _ (by omega)
   refine ⟨hnone,?_⟩
   rw [updM mk9.made (ckey k a) r1.1]
   simp only [f178j2,wx,wy,Nat.reduceAdd,Nat.reduceEqDiff,reduceCtorEq]
   have hjm9:=k2.fr.lt mk9.made
   refine hQ _ (p :: jm6 :: (FB6 ++ inIds xin2 vs2)) ⟨⟨xin2,vs2,jm6,FB6,?_,rfl⟩,?_,hsub,hns _ (by rw [adv_h,st_other mk9.ne]; exact mk9.cell)⟩
   ·obtain ⟨q1,q2,q3,q4,q5,q6,q7,q8,q9⟩:=mk9
    refine ⟨by rw [adv_h,st_other q6]; exact q1,q2.keep fun x hx=>?_,by rw [adv_h,st_same],q4.keep fun x hx=>?_,q5.keep fun x hx=>?_,q6,q7,q8,q9⟩
    ·rw [adv_h,st_other fun e=>q8 (by rw [← e]; exact hx)]
    ·rw [adv_h,st_other (q9 x (by simp [inIds,hx])).2.1]
    ·rw [adv_h,st_other (q9 x (by simp only [inIds,List.mem_append]; exact .inr hx)).2.1]
   ·exact (ef9.set hjm9 (hsub jm6 (by simp)).symm).adv
theorem em_len {ta:AV} {a:List Int} (h:Em ta (a.map inA)) (id:Nat) (S:St):bt .len #[72] [ta] id S = some (.int .i64 a.length,S):=by
 rcases h with rfl | ⟨rfl,h⟩
 ·exact ln72m a id S
 ·have:a = []:=by simpa using h
  subst this
  exact ln72n id S
theorem fz178:Tryz.env.fz 178 = false:=by kernel_rfl
theorem call_c (hT:TermC ps n) (hL:DcOk L0) (fr:Fresh s) (hR:MkR s p ib (L0.take j) scs σ F) (hok:StOk ps L0 scs.flatten σ) (a:List Int) (ta:AV) (hta:Em ta (a.map inA)) (ha:∀ i∈a,inB σ.1 i) (k:Nat) {r:Int × Int} (hc:callM true (T ps true n) (L0.take j) k a σ = some (r,σ')) :
  ∃ v s',WideC Tryz.env 178 [.ptr p 0,.int .i64 k,ta] s v s'∧v = res r∧∃ F',MkQ s p ib (L0.take j) scs F σ' s' F':=by
 have hF:=hR.lt fr
 have hc0:=hc
 unfold callM at hc0
 cases hd:(L0.take j)[k]? with
 | none=>rw [hd] at hc0; cases hc0
 | some d =>
 obtain ⟨hd0,htk⟩:=take_get hd
 have hdm:=List.mem_of_getElem? hd0
 have hps:=hL.ps d hdm
 obtain ⟨xin,vs,jm,FB,c,hFe⟩:=hR
 have hR:MkR s p ib (L0.take j) scs σ F:=⟨xin,vs,jm,FB,c,hFe⟩
 refine f178_run _ _ _ _ ?_
 unfold f178
 refine ⟨rfl,?_⟩
 have hix:=ix_map encDc false hd .i64
 have hdp:Ai.part 10 true 0 d.av.cells = some d.av:=dc_part d
 have hp:p < s.nx:=hF p (by rw [hFe]; simp)
 have hz10:∀ (C:List AV) (q:St) (k c:Nat),C.length = 10→sto 10 (.ptr k 0) d.av (Ai.adv (q.set k (some (.cells C 67 true true))) c) = some (Ai.adv (q.set k (some (.cells d.av.cells 67 true true))) c):=fun C q k c hC=>by
  rw [sto_all (z:=10) (by rw [adv_h,st_same]) hC (dc_len d) (dc_ones d),adv_set,set_set]
 have hl65:∀ id S,bt .len #[65] [.sl false (d.ps.map pmA)] id S = some (.int .i64 d.ps.length,S):=fun id S=>by rw [ln65s,List.length_map]
 have hne3:∀ u v:Int,bn .neq 3 (.int .i64 u) (.int .i64 v) = some (.bool (u != v)):=fun _ _=>bin_neq
 have e0:∀ (C:Option Blk) (k:Nat),9 < k→EF [] s (Ai.adv (s.set (s.nx + 9) C) k):=fun C k hk=>⟨by simp only [adv_nx,set_nx]; omega,fun b hb _=>by rw [adv_h,st_other (by omega)],fresh_set fr k (by omega)⟩
 have hne:¬ (p = s.nx + 9):=by omega
 simp only [c.cell,hix,hdp,zf67,wx,wy,Nat.reduceAdd,Nat.reduceEqDiff,reduceCtorEq]
 rw [hz10 _ _ _ _ rfl]
 simp only [em_len hta,dc3,hl65,hne3,wx,wy,Nat.reduceAdd,Nat.reduceEqDiff,reduceCtorEq]
 rw [hd] at hc0
 by_cases hlen:a.length = d.ps.length
 ·have hb:(((a.length:Nat):Int) != ((d.ps.length:Nat):Int)) = false:=by simp [hlen]
  have bf163e:bld 163 [] = some (.agg [.nilp,.nils]):=by rw [bf163]; rfl
  have bf254e:bld 254 [(1,ta)] = some (.agg [.nils,ta]):=by
   rw [bf254]
   rcases hta with rfl | ⟨rfl,_⟩ <;> rfl
  have s163:∀ (q:St) (k c:Nat),sto 2 (.ptr k 0) (.agg [.nilp,.nils]) (Ai.adv (q.set k (some (.cells (AV.agg [.nilp,.nils]).cells 163 true true))) c) = some (Ai.adv (q.set k (some (.cells [.nilp,.nils] 163 true true))) c):=fun q k c=>by
   rw [sto_all (z:=2) (by rw [adv_h,st_same]) rfl rfl rfl,adv_set,set_set]; rfl
  have s254:∀ (q:St) (k c:Nat),sto 2 (.ptr k 0) (.agg [.nils,ta]) (Ai.adv (q.set k (some (.cells (AV.agg [.nils,.nils]).cells 254 true true))) c) = some (Ai.adv (q.set k (some (.cells [.nils,ta] 254 true true))) c):=fun q k c=>by
   rw [sto_all (z:=2) (by rw [adv_h,st_same]) rfl rfl (by show ([.nils,ta]:List AV).all AV.one = true; simp only [List.all_cons,(em_one hta).1,List.all_nil,Bool.and_true]; rfl),adv_set,set_set]; rfl
  simp only [hb,bf163e,zf163,s163,bf254e,zf254,wx,wy,Nat.reduceAdd,Nat.reduceEqDiff,reduceCtorEq]
  rw [s254]
  simp only [dc3,hl65,wx,wy,Nat.reduceAdd,Nat.reduceEqDiff,reduceCtorEq]
  obtain ⟨S,hS⟩:∃ S,S = Ai.adv (((s.set (s.nx + 9) (some (.cells d.av.cells 67 true true))).set (s.nx + 18) (some (.cells [.nilp,.nils] 163 true true))).set (s.nx + 22) (some (.cells [.nils,ta] 254 true true))) 28:=⟨_,rfl⟩
  rw [← hS]
  have gS:∀ x,x < s.nx→S.h x = s.h x:=fun x hx=>by rw [hS,adv_h,st_other (by omega),st_other (by omega),st_other (by omega)]
  have eS:EF [] s S:=by
   refine ⟨by rw [hS]; simp only [adv_nx,set_nx]; omega,fun x hx _=>gS x hx,fun x hx=>?_⟩
   rw [hS] at hx ⊢
   have hx:s.nx + 28≤x:=hx
   rw [adv_h,st_other (by omega),st_other (by omega),st_other (by omega)]
   exact fr x (by omega)
  have h0:CaR s S p ib (L0.take j) scs σ F d ta (s.nx + 9) (s.nx + 18) (s.nx + 22) [] [] [s.nx + 18] .nils:=by
   refine ⟨hR.ext fr eS,eS,⟨.nilp,.nils,.inl rfl,by rw [hS,adv_h,st_other (by omega),st_same],.inl ⟨rfl,rfl,rfl⟩⟩,by rw [hS,adv_h,st_other (by omega),st_other (by omega),st_same],by rw [hS,adv_h,st_same],gw_nil,⟨by omega,by simp,by omega,fun h=>by cases h⟩,⟨by omega,by simp,fun h=>by cases h⟩,fun x hx=>?_,fun x hx=>by cases hx⟩
   rw [List.mem_singleton.1 hx]
   exact ⟨by omega,fun h=>by cases h⟩
  refine ⟨_,l178 hL s d a ta hta hlen hps hok.wf ha hF k (s.nx + 9) (s.nx + 18) (s.nx + 22) _ (fun s' hso e hm=>?_) (fun s' FW y hso h=>?_) d.ps.length 0 S [s.nx + 18] .nils (by omega) rfl h0⟩
  ·simp only [hlen,beq_self_eq_true,cond_true,hso,cond_false,Option.some.injEq,Prod.mk.injEq] at hc0
   obtain ⟨rfl,rfl⟩:=hc0
   exact ⟨rfl,F,hm,e.sub fun x hx=>(by cases hx),fun x hx=>.inl hx,NS.of (e.h p hp (by simp))⟩
  ·exact j178 hT hL s hok d a ta hta hlen ha hF k hd (s.nx + 9) (s.nx + 18) (s.nx + 22) FW y s' h hso hc _ fun s' F' hq=>⟨rfl,F',hq⟩
 ·have hb:(((a.length:Nat):Int) != ((d.ps.length:Nat):Int)) = true:=by simp; omega
  have hb2:(a.length == d.ps.length) = false:=by simpa using hlen
  simp only [hb2,cond_false,Option.some.injEq,Prod.mk.injEq] at hc0
  obtain ⟨rfl,rfl⟩:=hc0
  simp only [hb,wx,wy,Nat.reduceAdd,Nat.reduceEqDiff,reduceCtorEq]
  exact ⟨rfl,F,MkQ.same hR fr (e0 _ _ (by omega))⟩
end
end
noncomputable section
section
variable {s s':St} {p ib:Nat} {L:List Dc} {scs:List Ev} {σ:Sg} {F:List Nat} {K:AV→St→Prop} {ps:List UInt8→List Nat × Int} {L0:List Dc} {n j:Nat} {σ':Sg}
theorem MkC.ext {xin:AV} {vs:List (AV × AV)} {jm:Nat} {FB:List Nat} (c:MkC s p ib L scs σ xin vs jm FB) (fr:Fresh s) (e:EF [] s s'):MkC s' p ib L scs σ xin vs jm FB:=by
 have hR:MkR s p ib L scs σ (p :: jm :: (FB ++ inIds xin vs)):=⟨xin,vs,jm,FB,c,rfl⟩
 have hlt:=hR.lt fr
 have k:∀ x∈p :: jm :: (FB ++ inIds xin vs),s'.h x = s.h x:=fun x hx=>e.h x (hlt x hx) (by simp)
 exact ⟨by rw [k p (by simp)]; exact c.cell,c.bank.keep fun x hx=>k x (by simp [hx]),by rw [k jm (by simp)]; exact c.made,c.inx.keep fun x hx=>k x (by simp [inIds,hx]),c.sco.keep fun x hx=>k x (by simp only [List.mem_cons,List.mem_append,inIds]; exact .inr (.inr (.inr (.inr hx)))),c.ne,c.pb,c.jb,c.ii⟩
theorem bank_in {xin:AV} {vs:List (AV × AV)} {jm:Nat} {FB:List Nat} {S:St} (c:MkC s p ib L scs σ xin vs jm FB) (fr:Fresh s) (e:EF [] s S) {B':Bk} (h:BkQ S ib FB B' s'):∃ F',MkQ s p ib L scs (p :: jm :: (FB ++ inIds xin vs)) (B',σ.2) s' F':=by
 obtain ⟨F',h1⟩:=MkQ.bank (c.ext fr e) e.fr h
 exact ⟨F',h1.from e (fr.lt c.cell)⟩
theorem fz78:Tryz.env.fz 78 = false:=by kernel_rfl
theorem fz77:Tryz.env.fz 77 = false:=by kernel_rfl
theorem fz79:Tryz.env.fz 79 = false:=by kernel_rfl
theorem fz80:Tryz.env.fz 80 = false:=by kernel_rfl
theorem fz81:Tryz.env.fz 81 = false:=by kernel_rfl
theorem fz130:Tryz.env.fz 130 = false:=by kernel_rfl
theorem fz126:Tryz.env.fz 126 = false:=by kernel_rfl
theorem fz176:Tryz.env.fz 176 = false:=by kernel_rfl
theorem ef0 (fr:Fresh s) (k:Nat):EF [] s (Ai.adv s k):=(EF.refl _ fr).adv
theorem bE0 (o:Option Int):extr (bRes o) 0 = some (.int .i64 (o.getD 0)):=rfl
theorem bE1 (o:Option Int):extr (bRes o) 1 = some (.bool o.isSome):=rfl
theorem vs_le {xin:AV} {vs:List (AV × AV)} {jm:Nat} {FB:List Nat} (c:MkC s p ib L scs σ xin vs jm FB) (h:scs.length≤2 ^ 30):vs.length≤2 ^ 30:=by rw [c.sco.len]; exact h
theorem name_c (hT:TermC ps n) (hL:DcOk L0) (fr:Fresh s) (hR:MkR s p ib (L0.take j) scs σ F) (hok:StOk ps L0 scs.flatten σ) (hsl:scs.length≤2 ^ 30) (nm:List UInt8) {r:Int × Int} (hc:nameM true (T ps true n) (L0.take j) scs.flatten nm σ = some (r,σ')) :
  ∃ v s',WideC Tryz.env 130 [.ptr p 0,.str nm] s v s'∧v = res r∧∃ F',MkQ s p ib (L0.take j) scs F σ' s' F':=by
 obtain ⟨xin,vs,jm,FB,c,rfl⟩:=hR
 have hR:MkR s p ib (L0.take j) scs σ (p :: jm :: (FB ++ inIds xin vs)):=⟨xin,vs,jm,FB,c,rfl⟩
 have hLl:(L0.take j).length≤2 ^ 30:=by have:=hL.len; simp only [List.length_take]; omega
 refine f130_run _ _ _ ?_
 unfold f130
 unfold nameM at hc
 have same:∀ (S:St) (r0:Int × Int),EF [] s S→(some (r0,σ):Rt) = some (r,σ')→(res r0 = res r∧∃ F',MkQ s p ib (L0.take j) scs (p :: jm :: (FB ++ inIds xin vs)) σ' S F'):=fun S r0 e h=>by
  simp only [Option.some.injEq,Prod.mk.injEq] at h
  obtain ⟨rfl,rfl⟩:=h
  exact ⟨rfl,_,MkQ.same hR fr e⟩
 have bank:∀ (S s':St) (q:(Int × Int) × Bk),EF [] s S→bkS q σ.2 = some (r,σ')→BkQ S ib FB q.2 s'→(res q.1 = res r∧∃ F',MkQ s p ib (L0.take j) scs (p :: jm :: (FB ++ inIds xin vs)) σ' s' F'):=fun S s' q e h hb=>by
  simp only [bkS,Option.some.injEq,Prod.mk.injEq] at h
  obtain ⟨rfl,rfl⟩:=h
  exact ⟨rfl,bank_in c fr e hb⟩
 have wt:∀ b:Bool,(b == false) = !b:=fun b=>by cases b <;> rfl
 by_cases htf:(nm == trueW || nm == falseW) = true
 ·rw [htf,cond_true] at hc
  have go:∀ k:Nat,CallWi Tryz.env 78 [.ptr ib 0,.bool (nm == trueW)] (Ai.adv s k) fun t21 s3=>Bnd (extr t21 0) fun t22=>Bnd (extr t21 1) fun t23=>.tup [t22,t23] = res r∧∃ F',MkQ s p ib (L0.take j) scs (p :: jm :: (FB ++ inIds xin vs)) σ' s3 F':=fun k=>by
   refine (truth_w fr.adv (c.bank.adv) (nm == trueW)).call fz78 fun s3 hs=>?_
   simp only [ex0,ex1,wx,wy,Nat.reduceAdd,Nat.reduceEqDiff,reduceCtorEq]
   exact bank _ _ _ (ef0 fr k) hc hs
  cases h1:(nm == [116,114,117,101]) with
  | true =>
   simp only [eq9,h1,wx,wy,Nat.reduceAdd,Nat.reduceEqDiff,reduceCtorEq]
   refine ⟨rfl,?_⟩
   simp only [c.cell,eq9,h1,wx,wy,Nat.reduceAdd,Nat.reduceEqDiff,reduceCtorEq]
   have:=go 19
   rw [show (nm == trueW) = true from h1] at this
   exact this
  | false =>
   have h2:(nm == [102,97,108,115,101]) = true:=by
    have h1':(nm == trueW) = false:=h1
    rw [h1',Bool.false_or] at htf
    exact htf
   simp only [eq9,h1,h2,wx,wy,Nat.reduceAdd,Nat.reduceEqDiff,reduceCtorEq]
   refine ⟨rfl,?_⟩
   simp only [c.cell,eq9,h1,wx,wy,Nat.reduceAdd,Nat.reduceEqDiff,reduceCtorEq]
   have:=go 19
   rw [show (nm == trueW) = false from h1] at this
   exact this
 ·have htf:(nm == trueW || nm == falseW) = false:=by simpa using htf
  rw [htf,cond_false] at hc
  simp only [Bool.or_eq_false_iff] at htf
  have h1:(nm == [116,114,117,101]) = false:=htf.1
  have h2:(nm == [102,97,108,115,101]) = false:=htf.2
  simp only [eq9,h1,h2,wx,wy,Nat.reduceAdd,Nat.reduceEqDiff,reduceCtorEq]
  refine callPu (c24 nm) (by simp [AV.closed]) ?_
  have hrs:reservedM nm = ((hit resN nm).isSome || (opN nm != 0) || pre [115,116,114,46] nm || pre [114,101,46] nm):=rfl
  rw [← hrs]
  cases h3:reservedM nm with
  | true =>
   rw [h3,cond_true] at hc
   simp only [wx,wy,Nat.reduceAdd,Nat.reduceEqDiff,reduceCtorEq]
   exact same _ _ (ef0 fr _) hc
  | false =>
  rw [h3,cond_false] at hc
  simp only [wx,wy,Nat.reduceAdd,Nat.reduceEqDiff,reduceCtorEq]
  refine (bound_c (ef0 fr 18).fr nm (vs_le c hsl) ⟨_,_,_,_,_,_,c.cell⟩ (c.inx.keep fun _ _=>rfl) (c.sco.keep fun _ _=>rfl)).call fz175 fun s5 e5=>?_
  have f5:=(ef0 fr 18).nil_trans e5
  have c5:=c.ext fr f5
  cases hb:boundM scs.flatten nm with
  | some id =>
   rw [hb] at hc
   simp only [bE0,bE1,Option.isSome_some,Option.getD_some,wx,wy,Nat.reduceAdd,Nat.reduceEqDiff,reduceCtorEq]
   exact same _ (id,0) f5.adv hc
  | none =>
  rw [hb] at hc
  simp only at hc
  simp only [bE0,bE1,Option.isSome_none,Option.getD_none,wx,wy,Nat.reduceAdd,Nat.reduceEqDiff,reduceCtorEq]
  refine (decl_c (ef0 f5.fr 5).fr nm (L0.take j) (by omega) ⟨_,_,_,_,_,_,c5.cell⟩).call fz174 fun s6 e6=>?_
  have f6:=f5.adv.nil_trans e6
  have c6:=c.ext fr f6
  have hls:∀ u v:Int,bn .lss 3 (.int .i64 u) (.int .i64 v) = some (.bool (decide (u < v))):=fun _ _=>bin_lss
  cases hd:declM (L0.take j) nm with
  | none =>
   rw [hd] at hc
   simp only [dNum,hls,show decide ((-1:Int) < 0) = true from rfl,wx,wy,Nat.reduceAdd,Nat.reduceEqDiff,reduceCtorEq]
   exact same _ (0,100) f6.adv hc
  | some k =>
  rw [hd] at hc
  have hkn:decide (((k:Nat):Int) < 0) = false:=by simp
  cases hdk:(L0.take j)[k]? with
  | none=>simp only [hdk] at hc; cases hc
  | some d =>
  simp only [hdk] at hc
  have hix:=ix_map encDc false hdk .i64
  simp only [dNum,hls,hkn,wx,wy,Nat.reduceAdd,Nat.reduceEqDiff,reduceCtorEq]
  refine ⟨rfl,?_⟩
  simp only [c6.cell,hix,dc2,wx,wy,Nat.reduceAdd,Nat.reduceEqDiff,reduceCtorEq]
  cases hm:d.mac with
  | false =>
   rw [hm,cond_false] at hc
   simp only [Bool.not_false,c6.cell,hix,dc1,wx,wy,Nat.reduceAdd,Nat.reduceEqDiff,reduceCtorEq]
   refine ⟨rfl,rfl,?_⟩
   refine BkW.callD fz77 f6.adv.fr (c.ext fr f6.adv).bank rfl rfl (fun S fS hS=>const_w fS hS nm d.so) fun s7 hs=>?_
   simp only [ex0,ex1,wx,wy,Nat.reduceAdd,Nat.reduceEqDiff,reduceCtorEq]
   exact bank _ _ _ f6.adv hc hs
  | true =>
   rw [hm,cond_true] at hc
   have hl65:∀ id S,bt .len #[65] [.sl false (d.ps.map pmA)] id S = some (.int .i64 d.ps.length,S):=fun id S=>by rw [ln65s,List.length_map]
   have hg:∀ u v:Int,bn .gtr 3 (.int .i64 u) (.int .i64 v) = some (.bool (decide (u > v))):=fun _ _=>bin_gtr
   simp only [Bool.not_true,wx,wy,Nat.reduceAdd,Nat.reduceEqDiff,reduceCtorEq]
   refine ⟨rfl,?_⟩
   simp only [c6.cell,hix,dc3,hl65,hg,wx,wy,Nat.reduceAdd,Nat.reduceEqDiff,reduceCtorEq]
   cases hp:(d.ps.length == 0) with
   | false =>
    rw [hp,cond_false] at hc
    have:decide (((d.ps.length:Nat):Int) > 0) = true:=decide_eq_true (by have:=beq_eq_false_iff_ne.1 hp; omega)
    simp only [this,wx,wy,Nat.reduceAdd,Nat.reduceEqDiff,reduceCtorEq]
    exact same _ (0,1) f6.adv hc
   | true =>
    rw [hp,cond_true] at hc
    have:decide (((d.ps.length:Nat):Int) > 0) = false:=decide_eq_false (by have:=beq_iff_eq.1 hp; omega)
    simp only [this,f130j1,wx,wy,Nat.reduceAdd,Nat.reduceEqDiff,reduceCtorEq]
    obtain ⟨v,s7,g1,rfl,F7,g2⟩:=call_c hT hL f6.adv.fr (hR.ext fr f6.adv) hok [] .nils em_nil (fun i hi=>by cases hi) k hc
    refine callWiF fz178 ⟨_,s7,g1,?_⟩
    simp only [ex0,ex1,wx,wy,Nat.reduceAdd,Nat.reduceEqDiff,reduceCtorEq]
    exact ⟨rfl,F7,g2.from f6.adv (fr.lt c.cell)⟩
end
end
noncomputable section
section
variable {s s':St} {p ib:Nat} {L:List Dc} {scs:List Ev} {σ:Sg} {F:List Nat} {K:AV→St→Prop} {ps:List UInt8→List Nat × Int} {L0:List Dc} {n j:Nat} {σ':Sg}
theorem app_unf (e:TypeId) (z b:Nat) (x:AV) (news:List AV) (nid:Nat) (S:St) (h1:news.isEmpty = false) (h2:news.all AV.one = true):appendA e z b x news nid S = match x with
  | .nils=>grown e z b news nid S
  | .sl true l=>if l.all (fun v=>v.cells.length == z) then grown e z b (l.flatMap AV.cells ++ news) nid S else none
  | .ref id off n cap e1=>match S.h id with
   | some (.cells c e' ex true) =>
    if off + n * z≤c.length∧e1 = e then
     match cap with
     | some k =>
      if n + news.length / z≤k then
       (if off + n * z + news.length≤c.length then some (.ref id off (n + news.length / z) cap e,S.set id (some (.cells (setMany c (off + n * z) news) e' ex true))) else none)
      else grown e z b ((c.take (off + n * z)).drop off ++ news) nid S
     | none =>
      if off + n * z + news.length≤c.length then some (.ref id off (n + news.length / z) none e,S.set id (some (.cells (setMany c (off + n * z) news) e' ex true)))
      else if off + n * z = c.length∧off = 0∧e' = e then grown e z b (c ++ news) nid (S.set id none)
      else none
    else none
   | _=>none
  | _=>none:=by
 unfold appendA
 rw [h1,h2]
 rfl
theorem inx_app {x:AV} {vs:List (AV × AV)} {S:St} (h:InX S x vs) (v:AV × AV) (h1:v.1.one = true) (h2:v.2.one = true) (hn:vs.length≤2 ^ 30) (id:Nat) (hid:S.h id = none):∃ x' S',bt .append #[122,122] [x,.sl true [scA v]] id S = some (x',S')∧InX S' x' (vs ++ [v])∧S'.nx = S.nx ∧
  (∀ y,y≠id→y ∉ idOf x→S'.h y = S.h y)∧(∃ k,x' = .ref k 0 (vs.length + 1) none 254∧(k = id∨k∈idOf x))∧(∀ y,y ∉ idOf x→y = id→x'≠.ref id 0 (vs.length + 1) none 254→S'.h y = S.h y):=by
 have hall:([v.1,v.2]:List AV).all AV.one = true:=by simp only [List.all_cons,h1,h2,List.all_nil,Bool.and_self]
 have hsrc:bt .append #[122,122] [x,.sl true [scA v]] id S = appendA 254 2 48 x [v.1,v.2] id S:=by
  rw [app_any tf122]; rfl
 rw [hsrc,app_unf _ _ _ _ _ _ _ rfl hall]
 have hfit:∀ k:Nat,k≤2 ^ 30 + 1→fitsA k 48 = true:=fun k hk=>fits_of (by omega) (by omega)
 rcases h with ⟨rfl,rfl⟩ | rfl | ⟨i,c,rfl,g1,g2,g3,k,g4⟩
 ·have hd1:([v.1,v.2]:List AV).length / 2 = 1:=by simp
  simp only [grown,hd1,hfit 1 (by omega),if_true,newSl]
  refine ⟨_,_,rfl,.inr (.inr ⟨id,[v.1,v.2],rfl,st_same,rfl,Nat.le_refl _,1,rfl⟩),rfl,fun y hy _=>st_other hy,⟨id,rfl,.inl rfl⟩,fun y _ _ h=>absurd rfl h⟩
 ·have ha:(vs.map scA).all (fun v=>v.cells.length == 2) = true:=List.all_eq_true.2 fun w hw=>by obtain ⟨q,_,rfl⟩:=List.mem_map.1 hw; rfl
  have hl:((vs.map scA).flatMap AV.cells ++ [v.1,v.2]).length = (vs.length + 1) * 2:=by rw [List.length_append,scs_len]; simp only [List.length_cons,List.length_nil]; omega
  have hd:((vs.map scA).flatMap AV.cells ++ [v.1,v.2]).length / 2 = vs.length + 1:=by rw [hl]; omega
  simp only [ha,if_true,grown,hd,hfit _ (show vs.length + 1≤2 ^ 30 + 1 by omega),newSl]
  have hf:((vs ++ [v]).map scA).flatMap AV.cells = (vs.map scA).flatMap AV.cells ++ [v.1,v.2]:=by simp [scA,AV.cells]
  refine ⟨_,_,rfl,.inr (.inr ⟨id,_,by simp,st_same,?_,?_,vs.length + 1,hl⟩),rfl,fun y hy _=>st_other hy,⟨id,rfl,.inl rfl⟩,fun y _ _ h=>absurd rfl h⟩
  ·rw [hf]; exact List.take_of_length_le (by rw [hl]; simp)
  ·rw [hl]; simp
 ·have hne:i≠id:=fun e=>by rw [e,hid] at g1; cases g1
  have hf:((vs ++ [v]).map scA).flatMap AV.cells = (vs.map scA).flatMap AV.cells ++ [v.1,v.2]:=by simp [scA,AV.cells]
  dsimp only
  rw [g1]
  simp only [Nat.zero_add,g3,and_true,if_true]
  by_cases hroom:vs.length * 2 + 2≤c.length
  ·have hl2:([v.1,v.2]:List AV).length = 2:=rfl
   rw [hl2,if_pos hroom]
   have hset:setMany c (vs.length * 2) [v.1,v.2] = (c.set (vs.length * 2) v.1).set (vs.length * 2 + 1) v.2:=rfl
   refine ⟨_,_,rfl,.inr (.inr ⟨i,_,by simp,st_same,?_,?_,k,?_⟩),rfl,fun y _ hy=>st_other fun e=>hy (by simp [idOf,e]),⟨i,rfl,.inr (by simp [idOf])⟩,fun y hy _ _=>st_other fun e=>hy (by simp [idOf,e])⟩
   ·rw [hset,hf,← g2]
    apply List.ext_getElem?
    intro q
    by_cases hq:q < (vs ++ [v]).length * 2
    ·rw [List.getElem?_take_of_lt hq]
     simp only [List.length_append,List.length_singleton] at hq
     by_cases q1:q < vs.length * 2
     ·rw [List.getElem?_append_left (by simp only [List.length_take]; omega),List.getElem?_take_of_lt q1,List.getElem?_set_ne (by omega),List.getElem?_set_ne (by omega)]
     ·rw [List.getElem?_append_right (by simp only [List.length_take]; omega)]
      simp only [List.length_take,Nat.min_eq_left g3]
      by_cases q2:q = vs.length * 2
      ·subst q2
       rw [List.getElem?_set_ne (by omega),List.getElem?_set_self (by omega),Nat.sub_self]; rfl
      ·have:q = vs.length * 2 + 1:=by omega
       subst this
       rw [List.getElem?_set_self (by simp only [List.length_set]; omega),show vs.length * 2 + 1 - vs.length * 2 = 1 by omega]; rfl
    ·rw [List.getElem?_take_eq_none (by omega),List.getElem?_eq_none]
     simp only [List.length_append,List.length_singleton,List.length_take,List.length_cons,List.length_nil] at hq ⊢
     omega
   ·rw [hset]; simp only [List.length_set,List.length_append,List.length_singleton]; omega
   ·rw [hset]; simp only [List.length_set]; exact g4
  ·have hceq:vs.length * 2 = c.length:=by omega
   have hl2:([v.1,v.2]:List AV).length = 2:=rfl
   rw [hl2,if_neg hroom,if_pos hceq]
   have hl:(c ++ [v.1,v.2]).length = (vs.length + 1) * 2:=by rw [List.length_append]; simp only [List.length_cons,List.length_nil]; omega
   have hd:(c ++ [v.1,v.2]).length / 2 = vs.length + 1:=by rw [hl]; omega
   simp only [grown,hd,hfit _ (show vs.length + 1≤2 ^ 30 + 1 by omega),if_true,newSl]
   refine ⟨_,_,rfl,.inr (.inr ⟨id,_,by simp,st_same,?_,by rw [hl]; simp,vs.length + 1,hl⟩),rfl,fun y hy hyi=>by rw [st_other hy,st_other fun e=>hyi (by simp [idOf,e])],⟨id,rfl,.inl rfl⟩,fun y _ _ h=>absurd rfl h⟩
   rw [hf,← g2,List.take_of_length_le (by rw [hl]; simp),List.take_of_length_le (by omega)]
theorem inx_pop {x:AV} {vs:List (AV × AV)} {v:AV × AV} {S:St} (h:InX S x (vs ++ [v])) (hsl:∀ l,x≠.sl true l):∃ x',slc 122 x none (some (.int .i64 (vs.length:Int))) none S = some x'∧InX S x' vs∧idOf x' = idOf x∧(∀ l,x'≠.sl true l):=by
 rcases h with ⟨rfl,h⟩ | rfl | ⟨i,c,rfl,g1,g2,g3,k,g4⟩
 ·exact absurd h (by simp)
 ·exact absurd rfl (hsl _)
 ·simp only [List.length_append,List.length_singleton] at g2 g3 ⊢
  refine ⟨.ref i 0 vs.length none 254,slc_ref0 tf122 g1 (by omega) (by omega) .i64,.inr (.inr ⟨i,c,rfl,g1,?_,by omega,k,g4⟩),rfl,fun l h=>by cases h⟩
  have:=congrArg (List.take (vs.length * 2)) g2
  rw [List.take_take,Nat.min_eq_left (by omega)] at this
  rw [this,List.map_append,List.flatMap_append,List.take_append_of_le_length (by rw [scs_len]; omega),List.take_of_length_le (by rw [scs_len]; omega)]
end
end
noncomputable section
theorem sxc0 (x:Sx):x.av.cells[0]? = some (.bool x.lst):=by cases x; rfl
theorem sxc1 (x:Sx):x.av.cells[1]? = some (.int .i64 x.kind):=by cases x; rfl
theorem sxc2 (x:Sx):x.av.cells[2]? = some (.str x.txt):=by cases x; rfl
theorem sxc5 (x:Sx):x.av.cells[5]? = some (.sl false (x.its.map Sx.av)):=by
 cases x with
 | mk l k t p a items=>show some (AV.sl false (Sx.avs items)) = _; rw [Sx.avs_eq]; rfl
theorem ln31m (l:List Sx) (id:Nat) (s:St):bt .len #[31] [.sl false (l.map Sx.av)] id s = some (.int .i64 l.length,s):=by rw [ln31s,List.length_map]
section
variable {s s':St} {p ib:Nat} {L:List Dc} {scs:List Ev} {σ:Sg} {F:List Nat} {K:AV→St→Prop} {ps:List UInt8→List Nat × Int} {L0:List Dc} {n j:Nat} {σ':Sg}
structure LtR (s0 s:St) (p ib:Nat) (L:List Dc) (scs:List Ev) (σ:Sg) (F:List Nat) (v0:Nat) (y ty:AV) (ns:List (List UInt8)) (ts:List Sx):Prop where
 mr:MkR s p ib L scs σ F
 ef:EF [] s0 s
 vh:s.h v0 = some (.cells [y,.nils] 254 true true)
 gy:Gw 9 1 0 s y (ns.map stA)
 gt:Gw 33 6 0 s ty (ts.map Sx.av)
 vn:s0.nx≤v0∧v0 ∉ idOf y∧v0 ∉ idOf ty
 yn:∀ x∈idOf y,s0.nx≤x∧x ∉ idOf ty
 tn:∀ x∈idOf ty,s0.nx≤x
theorem LtR.ext {s0:St} {v0:Nat} {y ty:AV} {ns:List (List UInt8)} {ts:List Sx} (h:LtR s0 s p ib L scs σ F v0 y ty ns ts) (e:EF [] s s'):LtR s0 s' p ib L scs σ F v0 y ty ns ts:=by
 have fr:=h.ef.fr
 exact ⟨h.mr.ext fr e,h.ef.nil_trans e,by rw [e.h v0 (fr.lt h.vh) (by simp)]; exact h.vh,h.gy.keep fun x hx=>e.h x (fr.lt (h.gy.has x hx)) (by simp),h.gt.keep fun x hx=>e.h x (fr.lt (h.gt.has x hx)) (by simp),h.vn,h.yn,h.tn⟩
theorem l176 (s0:St) (its:List Sx) (hits:its.length≤2 ^ 20) (hF:∀ x∈F,x < s0.nx) (v0:Nat) (rx:AV) (Q:AV→St→Prop)
  (hQ1:∀ s',pairsM its = none→EF [] s0 s'→MkR s' p ib L scs σ F→Q (res (0,1)) s')
  (hQ2:∀ s' y ty ns ts,pairsM its = some (ns,ts)→LtR s0 s' p ib L scs σ F v0 y ty ns ts→f176j1 Q (.ptr v0 0) ty (.ptr p 0) rx s') :
  ∀ (m i:Nat) (s:St) (y ty:AV) (ns:List (List UInt8)) (ts:List Sx),i + m = its.length→ns.length≤i→ts.length≤i→pairsM its = (pairsM (its.drop i)).map (fun q=>(ns ++ q.1,ts ++ q.2))→LtR s0 s p ib L scs σ F v0 y ty ns ts →
   f176l1 Q (m + 1) (.ptr p 0) rx (.ptr v0 0) ty (.sl false (its.map Sx.av)) (.int .i64 its.length) (.int .i64 i) s:=by
 intro m
 induction m with
 | zero =>
  intro i s y ty ns ts hi hns hts hp h
  show f176l1s Q (f176l1 Q 0) _ _ _ _ _ _ _ s
  have c1:decide ((i:Int) < (its.length:Int)) = false:=by simp; omega
  rw [List.drop_of_length_le (by omega)] at hp
  simp only [pairsM,Option.map_some,List.append_nil] at hp
  simp only [f176l1s,c1,wx,wy,Nat.reduceAdd,Nat.reduceEqDiff,reduceCtorEq]
  exact hQ2 _ y ty ns ts hp (h.ext (ef0 h.ef.fr 1))
 | succ m ih =>
  intro i s y ty ns ts hi hns hts hp h
  show f176l1s Q (f176l1 Q (m + 1)) _ _ _ _ _ _ _ s
  have c1:decide ((i:Int) < (its.length:Int)) = true:=by simp; omega
  obtain ⟨q,hq⟩:∃ q,its[i]? = some q:=⟨_,List.getElem?_eq_getElem (by omega)⟩
  rw [get_drop its i q hq] at hp
  have fr:=h.ef.fr
  have hix:=ix_map encSx false hq .i64
  have w1:=wrap_i (i:=i) (n:=its.length) (by omega) (by omega)
  have hC6:((AV.agg [.bool false,.int .i64 0,.str [],.int .i64 0,.int .i64 0,.nils]).cells).length = 6:=rfl
  have e0:∀ (k:Nat),3 < k→EF [] s (Ai.adv (s.set (s.nx + 3) (some (.cells q.av.cells 33 true true))) k):=fun k hk=>⟨by simp only [adv_nx,set_nx]; omega,fun b hb _=>by rw [adv_h,st_other (by omega)],fresh_set fr k (by omega)⟩
  have hne3:∀ u v:Int,bn .neq 3 (.int .i64 u) (.int .i64 v) = some (.bool (u != v)):=fun _ _=>bin_neq
  have bad:pairsM (q :: its.drop (i + 1)) = none→pairsM its = none:=fun hb=>by rw [hp,hb]; rfl
  have fin:∀ k,3 < k→pairsM (q :: its.drop (i + 1)) = none→Q (res (0,1)) (Ai.adv (s.set (s.nx + 3) (some (.cells q.av.cells 33 true true))) k):=fun k hk hb=>hQ1 _ (bad hb) (h.ef.nil_trans (e0 k hk)) (h.mr.ext fr (e0 k hk))
  simp only [f176l1s,c1,hix,sx_part,zf33,sto_sx33 q _ hC6,sxc0,wx,wy,Nat.reduceAdd,Nat.reduceEqDiff,reduceCtorEq]
  cases hl:q.lst with
  | false =>
   simp only [Bool.not_false,wx,wy,Nat.reduceAdd,Nat.reduceEqDiff,reduceCtorEq]
   exact fin _ (by omega) (by unfold pairsM; simp only [hl])
  | true =>
   simp only [Bool.not_true,sxc5,ln31m,hne3,wx,wy,Nat.reduceAdd,Nat.reduceEqDiff,reduceCtorEq]
   by_cases h2:q.its.length = 2
   ·obtain ⟨x,z,hxz⟩:∃ x z,q.its = [x,z]:=by
     match hh:q.its,h2 with
     | [x,z],_=>exact ⟨x,z,rfl⟩
    have hn2:(((q.its.length:Nat):Int) != 2) = false:=by simp [h2]
    have ix0:ixS 6 (.sl false (q.its.map Sx.av)) (.int .i64 0) = some (.pel x.av.cells 0):=ix_map encSx false (l:=q.its) (i:=0) (a:=x) (by rw [hxz]; rfl) .i64
    have ix1:ixS 6 (.sl false (q.its.map Sx.av)) (.int .i64 1) = some (.pel z.av.cells 0):=ix_map encSx false (l:=q.its) (i:=1) (a:=z) (by rw [hxz]; rfl) .i64
    simp only [hn2,sxc5,ix0,sxc0,wx,wy,Nat.reduceAdd,Nat.reduceEqDiff,reduceCtorEq]
    cases hxl:x.lst with
    | true =>
     simp only [wx,wy,Nat.reduceAdd,Nat.reduceEqDiff,reduceCtorEq]
     exact fin _ (by omega) (by unfold pairsM; simp only [hl,hxz,Sx.isN,hxl,Bool.not_true,Bool.false_and,cond_false])
    | false =>
     simp only [sxc5,ix0,sxc1,hne3,wx,wy,Nat.reduceAdd,Nat.reduceEqDiff,reduceCtorEq]
     cases hk:(x.kind == 3) with
     | false =>
      have:(x.kind != 3) = true:=by simp only [bne,hk]; rfl
      simp only [this,wx,wy,Nat.reduceAdd,Nat.reduceEqDiff,reduceCtorEq]
      exact fin _ (by omega) (by unfold pairsM; simp only [hl,hxz,Sx.isN,hxl,hk,Bool.not_false,Bool.and_false,cond_false])
     | true =>
      have hk2:(x.kind != 3) = false:=by simp only [bne,hk]; rfl
      have hpq:pairsM its = (pairsM (its.drop (i + 1))).map (fun q=>((ns ++ [x.txt]) ++ q.1,(ts ++ [z]) ++ q.2)):=by
       rw [hp]
       have:pairsM (q :: its.drop (i + 1)) = (pairsM (its.drop (i + 1))).map fun w=>(x.txt :: w.1,z :: w.2):=by
        conv=>lhs; unfold pairsM
        simp only [hl,hxz,Sx.isN,hxl,hk,Bool.not_false,Bool.and_self,cond_true]
       rw [this,Option.map_map]
       congr 1
       funext w
       simp
      have hv0:=fr.lt h.vh
      have hvn3:¬ (v0 = s.nx + 3):=by omega
      have bs52:bsl 52 1 [(0,.str x.txt)] = some (.sl true [stA x.txt]):=bsl_one tf52 (by decide) rfl rfl
      have bs31:bsl 31 1 [(0,z.av)] = some (.sl true [z.av]):=bsl_one tf31 (by decide) (sx_len z) (sx_ones z)
      have h1:=h.ext (e0 40 (by omega))
      have hgy:∀ k,Gw 9 1 0 (Ai.adv (s.set (s.nx + 3) (some (.cells q.av.cells 33 true true))) k) y (ns.map stA):=fun k=>h.gy.keep fun a ha=>by rw [adv_h,st_other (by have:=fr.lt (h.gy.has a ha); omega)]
      have hap1:=fun k id=>app_map tf52 encSt (hgy k) (a:=x.txt) (by omega) (by omega) true id
      simp only [hk2,h.vh,hvn3,sxc5,ix0,sxc2,bs52,hap1,if_false,wx,wy,Nat.reduceAdd,Nat.reduceEqDiff,reduceCtorEq]
      have hyl:∀ a∈idOf y,a < s.nx:=fun a ha=>fr.lt (h.gy.has a ha)
      have htl:∀ a∈idOf ty,a < s.nx:=fun a ha=>fr.lt (h.gt.has a ha)
      have hs0:=h.ef.nx
      refine ⟨fr _ (by omega),?_,?_⟩
      ·split
       ·rfl
       ·exact fr _ (by omega)
      obtain ⟨C,hC⟩:∃ C,C = (some (Blk.cells (((ns ++ [x.txt]).map stA).flatMap AV.cells) 9 false true):Option Blk):=⟨_,rfl⟩
      rw [← hC]
      rw [sto_c (c:=[y,.nils]) (by rw [adv_h,get_set,if_neg (by omega),get_drop',if_neg h.vn.2.1,get_set,if_neg hvn3]; exact h.vh) (by simp) rfl rfl]
      simp only [List.set_cons_zero,Bnd_some]
      obtain ⟨S,hS⟩:∃ S,S = (Ai.adv (((s.set (s.nx + 3) (some (.cells q.av.cells 33 true true))).drop (idOf y)).set (s.nx + 39) C) 42).set v0 (some (.cells [.ref (s.nx + 39) 0 (ns.length + 1) none 9,.nils] 254 true true)):=⟨_,rfl⟩
      rw [← hS]
      have nS:S.nx = s.nx + 42:=by rw [hS]; simp only [set_nx,adv_nx,nx_drop]
      have gS:∀ a,a≠v0→a≠s.nx + 39→a ∉ idOf y→a≠s.nx + 3→S.h a = s.h a:=fun a a1 a2 a3 a4=>by
       rw [hS,get_set,if_neg a1,adv_h,get_set,if_neg a2,get_drop',if_neg a3,get_set,if_neg a4]
      have g3:S.h (s.nx + 3) = some (.cells q.av.cells 33 true true):=by
       rw [hS,get_set,if_neg (by omega),adv_h,get_set,if_neg (by omega),get_drop',if_neg (fun hh=>by have:=hyl _ hh; omega),st_same]
      have g39:S.h (s.nx + 39) = C:=by rw [hS,get_set,if_neg (by omega),adv_h,st_same]
      have gv:S.h v0 = some (.cells [.ref (s.nx + 39) 0 (ns.length + 1) none 9,.nils] 254 true true):=by rw [hS,st_same]
      have fS:Fresh S:=fun a ha=>by
       rw [nS] at ha
       rw [hS,get_set,if_neg (by omega),adv_h,get_set,if_neg (by omega),get_drop']
       split
       ·rfl
       ·rw [get_set,if_neg (by omega)]; exact fr a (by omega)
      have hgt:Gw 33 6 0 S ty (ts.map Sx.av):=h.gt.keep fun a ha=>gS a (fun e=>h.vn.2.2 (by rw [← e]; exact ha)) (by have:=htl a ha; omega) (fun hh=>(h.yn a hh).2 ha) (by have:=htl a ha; omega)
      have hap2:=app_map tf31 encSx (hgt.adv (n:=8)) (a:=z) (by omega) (by omega) true (S.nx + 6)
      simp only [g3,sxc5,ix1,sx_part,bs31,hap2,f176j2,w1,wx,wy,Nat.reduceAdd,Nat.reduceEqDiff,reduceCtorEq]
      have hold:∀ a,a < s0.nx→a≠v0∧a≠s.nx + 39∧a ∉ idOf y∧a≠s.nx + 3∧a ∉ idOf ty∧a≠S.nx + 6:=fun a ha=>⟨fun e=>by have:=h.vn.1; omega,by omega,fun e=>by have:=(h.yn a e).1; omega,by omega,fun e=>by have:=h.tn a e; omega,by omega⟩
      obtain ⟨D,hD⟩:∃ D,D = (some (Blk.cells (((ts ++ [z]).map Sx.av).flatMap AV.cells) 33 false true):Option Blk):=⟨_,rfl⟩
      rw [← hD]
      have gT:∀ a k,a ∉ idOf ty→a≠S.nx + 6→(Ai.adv ((S.drop (idOf ty)).set (S.nx + 6) D) k).h a = S.h a:=fun a k a1 a2=>by rw [adv_h,get_set,if_neg a2,get_drop',if_neg a1]
      refine ih (i + 1) _ (.ref (s.nx + 39) 0 (ns.length + 1) none 9) (.ref (S.nx + 6) 0 (ts.length + 1) none 33) (ns ++ [x.txt]) (ts ++ [z]) (by omega) (by simp only [List.length_append,List.length_singleton]; omega) (by simp only [List.length_append,List.length_singleton]; omega) hpq ?_
      refine ⟨h.mr.keep fun a ha=>?_,⟨?_,fun a ha _=>?_,fun a ha=>?_⟩,?_,?_,?_,⟨h.vn.1,by simp only [idOf,List.mem_singleton]; omega,by simp only [idOf,List.mem_singleton]; omega⟩,fun a ha=>?_,fun a ha=>?_⟩
      ·obtain ⟨a1,a2,a3,a4,a5,a6⟩:=hold a (hF a ha)
       rw [gT a _ a5 a6,gS a a1 a2 a3 a4]
      ·simp only [adv_nx,set_nx,nx_drop]; omega
      ·obtain ⟨a1,a2,a3,a4,a5,a6⟩:=hold a ha
       rw [gT a _ a5 a6,gS a a1 a2 a3 a4]; exact h.ef.h a ha (by simp)
      ·simp only [adv_nx,set_nx,nx_drop] at ha
       rw [adv_h,get_set,if_neg (by omega),get_drop']
       split
       ·rfl
       ·exact fS a (by omega)
      ·rw [gT v0 _ h.vn.2.2 (by omega)]; exact gv
      ·have:=gw_map1 (l:=ns) (a:=x.txt) encSt (e:=9) (id:=s.nx + 39) (n:=0) (s0:=s)
       exact this.keep fun a ha=>by
        simp only [idOf,List.mem_singleton] at ha; subst ha
        rw [gT _ _ (fun hh=>by have:=htl _ hh; omega) (by omega),g39,adv_h,st_same,hC]
      ·have:=gw_map1 (l:=ts) (a:=z) encSx (e:=33) (id:=S.nx + 6) (n:=0) (s0:=S)
       exact this.keep fun a ha=>by
        simp only [idOf,List.mem_singleton] at ha; subst ha
        rw [adv_h,st_same,adv_h,st_same,hD]
      ·simp only [idOf,List.mem_singleton] at ha ⊢; omega
      ·simp only [idOf,List.mem_singleton] at ha; omega
   ·have hn2:(((q.its.length:Nat):Int) != 2) = true:=by simp; omega
    simp only [hn2,wx,wy,Nat.reduceAdd,Nat.reduceEqDiff,reduceCtorEq]
    refine fin _ (by omega) ?_
    unfold pairsM
    simp only [hl]
    split
    ·rename_i x z h3 h4
     rw [h4] at h2; simp at h2
    ·rfl
end
end
noncomputable section
section
variable {s s':St} {p ib:Nat} {L:List Dc} {scs:List Ev} {σ:Sg} {F:List Nat} {K:AV→St→Prop} {ps:List UInt8→List Nat × Int} {L0:List Dc} {n j:Nat} {σ':Sg}
theorem InX.ty {x:AV} {vs:List (AV × AV)} (h:InX s x vs):∀ j∈idOf x,∃ c,s.h j = some (.cells c 254 false true):=by
 rcases h with ⟨rfl,_⟩ | rfl | ⟨id,c,rfl,h1,h2⟩
 ·intro j hj; cases hj
 ·intro j hj; cases hj
 ·intro j hj; simp only [idOf,List.mem_singleton] at hj; subst hj; exact ⟨_,h1⟩
theorem ScsR.ty:∀ {vs:List (AV × AV)} {scs:List Ev},ScsR s vs scs→∀ j∈vs.flatMap (fun v=>idOf v.1),∃ c,s.h j = some (.cells c 9 false true):=by
 intro vs
 induction vs with
 | nil=>intro scs _ j h; simp at h
 | cons w vs ih =>
  intro scs h j hj
  cases scs with
  | nil=>exact h.elim
  | cons sc scs =>
   simp only [List.flatMap_cons,List.mem_append] at hj
   rcases hj with hj | hj
   ·exact ⟨_,h.1.1.has j hj⟩
   ·exact ih h.2 j hj
theorem ScsR.snoc {v:AV × AV} {sc:Ev} (hv:ScR s v sc):∀ {vs:List (AV × AV)} {scs:List Ev},ScsR s vs scs→ScsR s (vs ++ [v]) (scs ++ [sc]):=by
 intro vs
 induction vs with
 | nil=>intro scs h; cases scs with
  | nil=>exact ⟨hv,trivial⟩
  | cons a b=>exact h.elim
 | cons w vs ih =>
  intro scs h
  cases scs with
  | nil=>exact h.elim
  | cons sc scs=>exact ⟨h.1,ih h.2⟩
theorem ScsR.pop {v:AV × AV} {sc:Ev}:∀ {vs:List (AV × AV)} {scs:List Ev},ScsR s (vs ++ [v]) (scs ++ [sc])→ScsR s vs scs:=by
 intro vs
 induction vs with
 | nil =>
  intro scs h
  cases scs with
  | nil=>trivial
  | cons a b=>cases b <;> exact h.2.elim
 | cons w vs ih =>
  intro scs h
  cases scs with
  | nil =>
   have:=h.2
   cases vs <;> exact this.elim
  | cons sc scs=>exact ⟨h.1,ih h.2⟩
theorem ScsR.split {sc:Ev} {vs:List (AV × AV)} (h:ScsR s vs (scs ++ [sc])):∃ ws w,vs = ws ++ [w]∧ScsR s ws scs:=by
 have hlen:=h.len
 simp only [List.length_append,List.length_singleton] at hlen
 obtain ⟨ws,w,rfl⟩:∃ ws w,vs = ws ++ [w]:=by
  rcases List.eq_nil_or_concat vs with rfl | ⟨ws,w,rfl⟩
  ·simp at hlen
  ·exact ⟨ws,w,by simp⟩
 exact ⟨ws,w,rfl,h.pop⟩
theorem j176 (hT:TermC ps n) (hL:DcOk L0) (s0:St) (fr0:Fresh s0) (hR0:MkR s0 p ib (L0.take j) scs σ F) (hok:StOk ps L0 scs.flatten σ) (h z:Sx) (hh:h.lst = true) (hz:z.fit) (hw:scs.length + 1 + h.wt + z.wt≤2 ^ 30) (hhf:h.fit) (v0:Nat) (y ty:AV) (ns:List (List UInt8)) (ts:List Sx) (hp:pairsM h.its = some (ns,ts))
  (hns:ns.length = ts.length) (hnl:ns.length≤2 ^ 20) (s:St) (hl:LtR s0 s p ib (L0.take j) scs σ F v0 y ty ns ts) {r:Int × Int} (hc:letM (T ps true n) (L0.take j) scs.flatten [h,z] σ = some (r,σ')) (Q:AV→St→Prop) (hQ:∀ s' F',MkQ s0 p ib (L0.take j) scs F σ' s' F'→Q (res r) s') :
  f176j1 Q (.ptr v0 0) ty (.ptr p 0) (.sl false ([h,z].map Sx.av)) s:=by
 have fr:=hl.ef.fr
 have hF:∀ a∈F,a < s0.nx:=hR0.lt fr0
 have hpp:=hF p hR0.pin
 have hs0:=hl.ef.nx
 unfold letM at hc
 simp only [hh,cond_true,hp] at hc
 have same:∀ (S:St) (r0:Int × Int),EF [] s S→(some (r0,σ):Rt) = some (r,σ')→Q (res r0) S:=fun S r0 e h=>by
  simp only [Option.some.injEq,Prod.mk.injEq] at h
  obtain ⟨rfl,rfl⟩:=h
  exact hQ S F (MkQ.same hR0 fr0 (hl.ef.nil_trans e))
 unfold f176j1
 simp only [hl.vh,wx,wy,Nat.reduceAdd,Nat.reduceEqDiff,reduceCtorEq]
 refine (c193 (ef0 fr 3).fr hl.gy.adv (by omega)).call fz193 fun s1 e1=>?_
 have f1:=(ef0 fr 3).nil_trans e1
 have l1:=hl.ext f1
 cases h1:ns.any reservedM with
 | true =>
  rw [h1,cond_true] at hc
  simp only [wx,wy,Nat.reduceAdd,Nat.reduceEqDiff,reduceCtorEq]
  exact same _ (0,101) f1.adv hc
 | false =>
 rw [h1,cond_false] at hc
 simp only [l1.vh,wx,wy,Nat.reduceAdd,Nat.reduceEqDiff,reduceCtorEq]
 obtain ⟨ids,p1,p2⟩:=pur_map1 tf52 (l1.gy.adv (n:=3)) (fun _ _=>rfl) (fun _ _=>rfl) 11
 have hpl:purL (pur Tryz.env.P (Ai.adv s1 3) 12) [y] = some ([.sl false (ns.map stA)],ids):=by simp only [purL,p1,List.append_nil]
 refine callPuF hpl (c192 ns (by omega)) rfl ?_
 cases h2:dbl ns with
 | true =>
  rw [h2,cond_true] at hc
  simp only [wx,wy,Nat.reduceAdd,Nat.reduceEqDiff,reduceCtorEq]
  exact same _ (0,4) f1.adv hc
 | false =>
 rw [h2,cond_false] at hc
 simp only [Option.bind_eq_some_iff] at hc
 obtain ⟨⟨q,σ1⟩,hev,hc⟩:=hc
 simp only [wx,wy,Nat.reduceAdd,Nat.reduceEqDiff,reduceCtorEq]
 have f2:EF [] s (Ai.adv s1 14):=f1.adv
 have l2:=hl.ext f2
 have htlt:∀ a∈idOf ty,a < (Ai.adv s1 14).nx:=fun a ha=>f2.fr.lt (l2.gt.has a ha)
 have hylt:∀ a∈idOf y,a < (Ai.adv s1 14).nx:=fun a ha=>f2.fr.lt (l2.gy.has a ha)
 have hvlt:=f2.fr.lt l2.vh
 have nF:∀ a,s0.nx≤a→a ∉ F:=fun a ha hm=>by have:=hF a hm; omega
 have hts:∀ t∈ts,t.fit∧t.wt < h.wt:=fun t ht=>by
  obtain ⟨q,q1,q2⟩:=pairs_mem hp t ht
  have a1:=its_wt q1
  have a2:=its_wt q2
  exact ⟨(fit_its ((fit_its hhf).2 q q1)).2 t q2,by omega⟩
 obtain ⟨hok1,hext,hin,hne⟩:=each_inv (by have:=hL.len; omega) hok hev
 refine each_c hT hL (by omega) (fun t ht=>(hts t ht).1) (fun t ht=>by have:=(hts t ht).2; omega) f2.fr l2.mr hok (.inr l2.gt) (fun a ha=>⟨htlt a ha,nF a (hl.tn a ha)⟩) hev fun s3 F3 k3=>?_
 have k3':=k3.from (hl.ef.nil_trans f2) hpp
 obtain ⟨⟨xin,vs,jm,FB,c,hF3⟩,e3,m3,ns3⟩:=k3
 have n3:=e3.nx
 have nF3:∀ a,s0.nx≤a→a < (Ai.adv s1 14).nx→a ∉ F3:=fun a ha hb hm=>by
  rcases m3 a hm with h | h
  ·exact nF a ha h
  ·omega
 have hv3:s3.h v0 = some (.cells [y,.nils] 254 true true):=by rw [e3.h v0 hvlt (nF v0 hl.vn.1)]; exact l2.vh
 have hy3:Gw 9 1 0 s3 y (ns.map stA):=l2.gy.keep fun a ha=>e3.h a (hylt a ha) (nF a (hl.yn a ha).1)
 have x0:extr (.tup [.sl false (q.1.map inA),.int .i64 q.2]) 0 = some (.sl false (q.1.map inA)):=rfl
 have x1:extr (.tup [.sl false (q.1.map inA),.int .i64 q.2]) 1 = some (.int .i64 q.2):=rfl
 have hne34:∀ u v:Int,bn .neq 34 (.int .i64 u) (.int .i64 v) = some (.bool (u != v)):=fun _ _=>bin_neq
 simp only [x0,x1,wx,wy,Nat.reduceAdd,Nat.reduceEqDiff,reduceCtorEq]
 rw [sto_c (c:=[y,.nils]) hv3 (by simp) rfl rfl]
 simp only [List.set_cons_succ,List.set_cons_zero,Bnd_some]
 have hv3n:=e3.fr.lt hv3
 obtain ⟨S4,hS4⟩:∃ S4,S4 = s3.set v0 (some (.cells [y,.sl false (q.1.map inA)] 254 true true)):=⟨_,rfl⟩
 have hF3lt:∀ a∈F3,a < s3.nx:=fun a ha=>k3'.1.lt e3.fr a ha
 have hv0F3:v0 ∉ F3:=nF3 v0 hl.vn.1 hvlt
 have g4:∀ a,a≠v0→S4.h a = s3.h a:=fun a ha=>by rw [hS4,st_other ha]
 have f4:Fresh S4:=by rw [hS4]; exact e3.fr.set hv3n
 have n4:S4.nx = s3.nx:=by rw [hS4,set_nx]
 have k4:MkQ s0 p ib (L0.take j) scs F σ1 S4 F3:=by
  obtain ⟨a1,a2,a3,a4⟩:=k3'
  refine ⟨a1.keep fun a ha=>g4 a fun e=>hv0F3 (by rw [← e]; exact ha),?_,a3,a4.trans (NS.of (g4 p fun e=>hv0F3 (by rw [← e]; exact a1.pin)))⟩
  rw [hS4]; exact a2.set hv3n (.inl hl.vn.1)
 rw [← hS4]
 cases hq0:(q.2 == 0) with
 | false =>
  rw [hq0,cond_false] at hc
  simp only [Option.some.injEq,Prod.mk.injEq] at hc
  obtain ⟨rfl,rfl⟩:=hc
  have:(q.2 != 0) = true:=by simp only [bne,hq0]; rfl
  simp only [hne34,this,wx,wy,Nat.reduceAdd,Nat.reduceEqDiff,reduceCtorEq]
  exact hQ _ F3 k4.adv
 | true =>
 rw [hq0,cond_true] at hc
 have hq1:(q.2 != 0) = false:=by simp only [bne,hq0]; rfl
 have hq00:q.2 = 0:=by simpa using hq0
 obtain ⟨hql,hqin⟩:=hin hq00
 have c4:MkC S4 p ib (L0.take j) scs σ1 xin vs jm FB:=by
  have kk:∀ a∈F3,S4.h a = s3.h a:=fun a ha=>g4 a fun e=>hv0F3 (by rw [← e]; exact ha)
  rw [hF3] at kk
  exact ⟨by rw [kk p (by simp)]; exact c.cell,c.bank.keep fun x hx=>kk x (by simp [hx]),by rw [kk jm (by simp)]; exact c.made,c.inx.keep fun x hx=>kk x (by simp [inIds,hx]),c.sco.keep fun x hx=>kk x (by simp only [List.mem_cons,List.mem_append,inIds]; exact .inr (.inr (.inr (.inr hx)))),c.ne,c.pb,c.jb,c.ii⟩
 have hvs:vs.length≤2 ^ 30:=vs_le c4 (by omega)
 have hyone:y.one = true:=by obtain ⟨_,⟨rfl,_⟩ | ⟨_,_,rfl,_⟩⟩:=hl.gy <;> rfl
 have hv4:S4.h v0 = some (.cells [y,.sl false (q.1.map inA)] 254 true true):=by rw [hS4,st_same]
 have hpart:Ai.part 2 true 0 [y,.sl false (q.1.map inA)] = some (scA (y,.sl false (q.1.map inA))):=rfl
 have hb122:bsl 122 1 [(0,scA (y,.sl false (q.1.map inA)))] = some (.sl true [scA (y,.sl false (q.1.map inA))]):=bsl_one tf122 (by decide) rfl (by
  show ([y,.sl false (q.1.map inA)]:List AV).all AV.one = true
  simp only [List.all_cons,hyone,List.all_nil,Bool.and_true]; rfl)
 simp only [hne34,hq1,wx,wy,Nat.reduceAdd,Nat.reduceEqDiff,reduceCtorEq]
 refine ⟨rfl,?_⟩
 simp only [c4.cell,hv4,hpart,hb122,wx,wy,Nat.reduceAdd,Nat.reduceEqDiff,reduceCtorEq]
 refine ⟨f4 _ (by omega),?_⟩
 obtain ⟨x',S5,a1,a2,a3,a4,⟨k,a5,a6⟩,a7⟩:=inx_app (S:=Ai.adv S4 13) (c4.inx.keep fun _ _=>rfl) (y,.sl false (q.1.map inA)) hyone rfl hvs (S4.nx + 9) (f4 _ (by show S4.nx≤S4.nx + 9; omega))
 rw [a1]
 simp only [wx,wy,Nat.reduceAdd,Nat.reduceEqDiff,reduceCtorEq]
 refine ⟨rfl,?_⟩
 have a3:S5.nx = S4.nx + 13:=a3
 have hxlt:∀ a∈idOf xin,a < S4.nx:=fun a ha=>by obtain ⟨b,hb⟩:=c4.inx.has a ha; exact f4.lt hb
 have f5:Fresh S5:=fun a ha=>by
  rw [a3] at ha
  rw [a4 a (by omega) (fun hh=>by have:=hxlt a hh; omega)]
  exact f4 a (by omega)
 have hpx:p ∉ idOf xin:=fun hh=>(c4.ii p (by simp [inIds,hh])).1 rfl
 have hp4:p < S4.nx:=f4.lt c4.cell
 have hcell5:S5.h p = some (.cells [.ptr ib 0,.sl false ((L0.take j).map Dc.av),xin,.map jm] 124 true true):=by rw [a4 p (by omega) hpx]; exact c4.cell
 refine ⟨by rw [a4 _ (by omega) (fun hh=>by have:=hxlt _ hh; omega)]; exact f4 _ (by show S4.nx≤S4.nx + 12; omega),?_⟩
 rw [sto_c (c:=[.ptr ib 0,.sl false ((L0.take j).map Dc.av),xin,.map jm]) hcell5 (by simp) (by rw [a5]; rfl) (by rw [a5]; rfl)]
 have ix1:ixS 6 (.sl false ([h,z].map Sx.av)) (.int .i64 1) = some (.pel z.av.cells 0):=ix_map encSx false (l:=[h,z]) (i:=1) (a:=z) rfl .i64
 simp only [List.set_cons_succ,List.set_cons_zero,ix1,sx_part,wx,wy,Nat.reduceAdd,Nat.reduceEqDiff,reduceCtorEq]
 obtain ⟨S6,hS6⟩:∃ S6,S6 = Ai.adv (S5.set p (some (.cells [.ptr ib 0,.sl false ((L0.take j).map Dc.av),x',.map jm] 124 true true))) 10:=⟨_,rfl⟩
 rw [← hS6]
 have n6:S6.nx = S4.nx + 23:=by rw [hS6]; show S5.nx + 10 = _; omega
 have f6:Fresh S6:=by rw [hS6]; exact fresh_set f5 10 (by omega)
 have g6:∀ a,a≠p→S6.h a = S5.h a:=fun a ha=>by rw [hS6,adv_h,st_other ha]
 have g56:∀ a,a≠p→a≠S4.nx + 9→a ∉ idOf xin→S6.h a = S4.h a:=fun a h1 h2 h3=>by rw [g6 a h1,a4 a h2 h3]; rfl
 have hyF3:∀ a∈idOf y,a ∉ F3:=fun a ha=>nF3 a (hl.yn a ha).1 (hylt a ha)
 have hy4:Gw 9 1 0 S4 y (ns.map stA):=hy3.keep fun a ha=>g4 a fun e=>hl.vn.2.1 (by rw [← e]; exact ha)
 have hy4lt:∀ a∈idOf y,a < S4.nx:=fun a ha=>f4.lt (hy4.has a ha)
 have nmx:∀ a,(∃ c,S4.h a = some (.cells c 9 false true))→a ∉ idOf xin:=fun a h hx=>by
  obtain ⟨c1,h1⟩:=h
  obtain ⟨c2,h2⟩:=c4.inx.ty a hx
  rw [h1] at h2
  simp only [Option.some.injEq,Blk.cells.injEq] at h2
  exact absurd h2.2.1 (by decide)
 have zipl:(List.zip ns q.1).map (·.1) = ns:=List.map_fst_zip (by omega)
 have zipr:(List.zip ns q.1).map (·.2) = q.1:=List.map_snd_zip (by omega)
 have hyFB:∀ a∈idOf y,a≠p∧a≠jm∧a ∉ FB:=fun a ha=>by
  have:=hyF3 a ha
  rw [hF3] at this
  simp only [List.mem_cons,List.mem_append,not_or] at this
  exact ⟨this.1,this.2.1,this.2.2.1⟩
 have hoth:∀ a,a < S4.nx→a≠p→a ∉ idOf xin→S6.h a = S4.h a:=fun a h1 h2 h3=>g56 a h2 (by omega) h3
 have hFBx:∀ a∈FB,a ∉ idOf xin:=fun a ha hx=>(c4.ii a (by simp [inIds,hx])).2.2 ha
 have hjx:jm ∉ idOf xin:=fun hx=>(c4.ii jm (by simp [inIds,hx])).2.1 rfl
 have hFB4:∀ a∈FB,a < S4.nx:=fun a ha=>c4.bank.lt f4 a ha
 have hjm4:jm < S4.nx:=f4.lt c4.made
 have hnm4:∀ a∈vs.flatMap (fun v=>idOf v.1),a < S4.nx:=fun a ha=>by obtain ⟨b,hb⟩:=c4.sco.has a ha; exact f4.lt hb
 have hkp:k≠p:=by
  rcases a6 with rfl | a6
  ·omega
  ·exact fun e=>hpx (by rw [← e]; exact a6)
 have hidx':idOf x' = [k]:=by rw [a5]; rfl
 have hmk6:MkC S6 p ib (L0.take j) (scs ++ [List.zip ns q.1]) σ1 x' (vs ++ [(y,.sl false (q.1.map inA))]) jm FB:=by
  refine ⟨by rw [hS6,adv_h,st_same],c4.bank.keep fun a ha=>hoth a (hFB4 a ha) (fun e=>c4.pb (by rw [← e]; exact ha)) (hFBx a ha),by rw [hoth jm hjm4 c4.ne.symm hjx]; exact c4.made,a2.keep fun a ha=>?_,ScsR.snoc ⟨?_,?_,?_⟩ (c4.sco.keep fun a ha=>?_),c4.ne,c4.pb,c4.jb,fun a ha=>?_⟩
  ·rw [hidx',List.mem_singleton] at ha
   exact g6 a (by rw [ha]; exact hkp)
  ·rw [zipl]
   exact hy4.keep fun a ha=>hoth a (hy4lt a ha) (hyFB a ha).1 (nmx a ⟨_,hy4.has a ha⟩)
  ·rw [zipr]; exact .inl rfl
  ·simp only [List.length_zip]; omega
  ·exact hoth a (hnm4 a ha) (c4.ii a (by simp only [inIds,List.mem_append]; exact .inr ha)).1 (nmx a (c4.sco.ty a ha))
  ·simp only [inIds,hidx',List.singleton_append,List.flatMap_append,List.flatMap_cons,List.flatMap_nil,List.append_nil,List.mem_cons,List.mem_append] at ha
   rcases ha with rfl | ha | ha
   ·rcases a6 with rfl | a6
    ·exact ⟨by omega,by omega,fun hm=>by have:=hFB4 _ hm; omega⟩
    ·exact c4.ii a (by simp [inIds,a6])
   ·exact c4.ii a (by simp only [inIds,List.mem_append]; exact .inr ha)
   ·exact hyFB a ha
 have henv:(scs ++ [List.zip ns q.1]).flatten = scs.flatten ++ List.zip ns q.1:=by simp
 have hok6:StOk ps L0 (scs ++ [List.zip ns q.1]).flatten σ1:=by
  refine ⟨hok1.wf,?_,hok1.mv⟩
  rw [henv]
  intro a ha
  rcases List.mem_append.1 ha with ha | ha
  ·exact hok1.env a ha
  ·exact zip_in ns q.1 hqin a ha
 obtain ⟨v,s7,t1,rfl,F7,t2⟩:=hT S6 p ib L0 j (scs ++ [List.zip ns q.1]) σ1 _ z r σ' f6 ⟨_,_,jm,FB,hmk6,rfl⟩ hok6 hL hz (by simp only [List.length_append,List.length_singleton]; omega) (by rw [henv]; exact hc)
 refine callWiF fz75 ⟨_,s7,t1,?_⟩
 obtain ⟨⟨xin7,vs7,jm7,FB7,c7,hF7⟩,e7,m7,ns7⟩:=t2
 obtain ⟨vs8,w8,rfl,sco8⟩:=c7.sco.split
 have n7:=e7.nx
 have hns6:slOf S6 p = none:=by simp only [slOf,hmk6.cell,a5]
 have hns7:slOf s7 p = none:=by
  rcases ns7 with h | h
  ·exact h
  ·rw [h]; exact hns6
 have hnsl:∀ l,xin7≠.sl true l:=fun l e=>by
  rw [slOf,c7.cell,e] at hns7
  simp only [reduceCtorEq] at hns7
 obtain ⟨x8,b1,b2,b3,b4⟩:=inx_pop c7.inx hnsl
 have hlen8:bt .len #[122] [xin7] (s7.nx + 9) (Ai.adv s7 15) = some (.int .i64 ((vs8.length + 1:Nat):Int),Ai.adv s7 15):=by
  have:=c7.inx.len (s7.nx + 9) 15
  rw [List.length_append,List.length_singleton] at this
  exact this
 have hvs8:vs8.length≤2 ^ 30:=by have:=sco8.len; omega
 have w8':IntKind.i64.wrap (((vs8.length + 1:Nat):Int) - 1) = (vs8.length:Int):=by rw [IntWalk.i64_in _ (by omega)]; omega
 have b1':slc 122 xin7 none (some (.int .i64 (vs8.length:Int))) none (Ai.adv s7 15) = some x8:=by
  obtain ⟨x9,d1,_⟩:=inx_pop (S:=Ai.adv s7 15) (c7.inx.keep fun _ _=>rfl) hnsl
  rcases c7.inx with ⟨h,_⟩ | h | ⟨i,cc,h,g1,_⟩
  ·subst h; rw [← b1]; rfl
  ·exact absurd h (hnsl _)
  ·subst h
   have:slc 122 (.ref i 0 (vs8 ++ [w8]).length none 254) none (some (.int .i64 (vs8.length:Int))) none (Ai.adv s7 15) = slc 122 (.ref i 0 (vs8 ++ [w8]).length none 254) none (some (.int .i64 (vs8.length:Int))) none s7:=rfl
   rw [this,b1]
 simp only [ex0,ex1,wx,wy,Nat.reduceAdd,Nat.reduceEqDiff,reduceCtorEq]
 refine ⟨rfl,?_⟩
 simp only [c7.cell,wx,wy,Nat.reduceAdd,Nat.reduceEqDiff,reduceCtorEq]
 refine ⟨rfl,?_⟩
 simp only [c7.cell,hlen8,w8',b1',wx,wy,Nat.reduceAdd,Nat.reduceEqDiff,reduceCtorEq]
 refine ⟨rfl,e7.fr _ (by omega),?_⟩
 have hx8:x8.cells = [x8]∧x8.one = true:=by rcases b2 with ⟨rfl,_⟩ | rfl | ⟨_,_,rfl,_⟩ <;> exact ⟨rfl,rfl⟩
 rw [sto_c (c:=[.ptr ib 0,.sl false ((L0.take j).map Dc.av),xin7,.map jm7]) (by rw [adv_h]; exact c7.cell) (by simp) hx8.1 hx8.2]
 simp only [List.set_cons_succ,List.set_cons_zero,wx,wy,Nat.reduceAdd,Nat.reduceEqDiff,reduceCtorEq]
 have hp7:p < s7.nx:=e7.fr.lt c7.cell
 have hF6sub:∀ a∈p :: jm :: (FB ++ inIds x' (vs ++ [(y,.sl false (q.1.map inA))])),a∈F∨s0.nx≤a:=fun a ha=>by
  have of3:a∈F3→a∈F∨s0.nx≤a:=fun hm=>k4.2.2.1 a hm
  simp only [inIds,hidx',List.singleton_append,List.flatMap_append,List.flatMap_cons,List.flatMap_nil,List.append_nil,List.mem_cons,List.mem_append] at ha
  rcases ha with rfl | rfl | ha | rfl | ha | ha
  ·exact of3 (by rw [hF3]; simp)
  ·exact of3 (by rw [hF3]; simp)
  ·exact of3 (by rw [hF3]; simp [ha])
  ·rcases a6 with rfl | a6
   ·have:=k4.2.1.nx; exact .inr (by omega)
   ·exact of3 (by rw [hF3]; simp [inIds,a6])
  ·exact of3 (by rw [hF3]; simp only [List.mem_cons,List.mem_append,inIds]; exact .inr (.inr (.inr (.inr ha))))
  ·exact .inr (hl.yn a ha).1
 have hnx6:s0.nx≤S6.nx:=by have:=k4.2.1.nx; omega
 have hF7sub:∀ a∈F7,a∈F∨s0.nx≤a:=fun a ha=>by
  rcases m7 a ha with h | h
  ·exact hF6sub a h
  ·exact .inr (by omega)
 have e46:EF F s0 S6:=by
  refine ⟨hnx6,fun a ha hn=>?_,f6⟩
  have h1:a ∉ F3:=fun hm=>by
   rcases k4.2.2.1 a hm with h | h
   ·exact hn h
   ·omega
  rw [hF3] at h1
  simp only [List.mem_cons,List.mem_append,inIds,not_or] at h1
  have h2:=k4.2.1.nx
  rw [hoth a (by omega) h1.1 h1.2.2.2.1]
  exact k4.2.1.h a ha hn
 refine hQ _ (p :: jm7 :: (FB7 ++ inIds x8 vs8)) ⟨⟨x8,vs8,jm7,FB7,⟨by rw [adv_h,st_same],c7.bank.keep fun a ha=>?_,by rw [adv_h,st_other c7.ne.symm]; exact c7.made,b2.keep fun a ha=>?_,sco8.keep fun a ha=>?_,c7.ne,c7.pb,c7.jb,fun a ha=>?_⟩,rfl⟩,?_,fun a ha=>?_,.inl ?_⟩
 ·rw [adv_h,st_other fun e=>c7.pb (by rw [← e]; exact ha)]
 ·rw [b3] at ha
  rw [adv_h,st_other (c7.ii a (by simp [inIds,ha])).1]
 ·rw [adv_h,st_other (c7.ii a (by simp only [inIds,List.flatMap_append,List.mem_append]; exact .inr (.inl ha))).1]
 ·refine c7.ii a ?_
  simp only [inIds,List.mem_append,b3,List.flatMap_append] at ha ⊢
  rcases ha with ha | ha
  ·exact .inl ha
  ·exact .inr (.inl ha)
 ·exact ((e46.trans e7 fun a ha=>(hF6sub a ha).symm).set hp7 (.inr hR0.pin)).adv
 ·refine hF7sub a ?_
  rw [hF7]
  simp only [inIds,List.mem_cons,List.mem_append,b3,List.flatMap_append] at ha ⊢
  rcases ha with ha | ha | ha | ha | ha
  ·exact .inl ha
  ·exact .inr (.inl ha)
  ·exact .inr (.inr (.inl ha))
  ·exact .inr (.inr (.inr (.inl ha)))
  ·exact .inr (.inr (.inr (.inr (.inl ha))))
 ·simp only [slOf,adv_h,st_same]
  rcases b2 with ⟨h,_⟩ | h | ⟨_,_,h,_⟩
  ·rw [h]
  ·exact absurd h (b4 _)
  ·rw [h]
end
end
end Go.Proofs.YtdehdahimkcakaaGreatDoor
