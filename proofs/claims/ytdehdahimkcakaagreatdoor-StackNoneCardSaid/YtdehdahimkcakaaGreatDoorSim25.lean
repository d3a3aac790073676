/- The orders of a region that draws; the soundness of the interpreter. -/
import Derived.Test.YtdehdahimkcakaaGreatDoorSim24
set_option linter.unusedVariables false
set_option linter.unusedSimpArgs false
namespace Go.Proofs.YtdehdahimkcakaaGreatDoor.Ai
open Go

section
theorem count_set : ∀ (l : List Bool) (i : Nat), l[i]? = some false → (l.set i true).count false + 1 = l.count false := by
  intro l
  induction l with
  | nil => intro i h; simp at h
  | cons b l ih =>
    intro i h
    cases i with
    | zero =>
      simp only [List.getElem?_cons_zero, Option.some.injEq] at h; subst h
      simp
    | succ i =>
      simp only [List.getElem?_cons_succ] at h
      simp only [List.set_cons_succ, List.count_cons]
      have := ih i h
      omega
theorem ready_mem {ops : Array Oper} {listed : Array Bool} {i : Nat} : i ∈ Region.ready .any ops listed ↔ i < ops.size ∧ listed.getD i true = false ∧ ∃ o, ops[i]? = some o ∧ ∀ e ∈ o.after.toList, Region.binds .any e = true → listed.getD e.on false = true := by
  unfold Region.ready
  rw [List.mem_filter, List.mem_range]
  constructor
  · rintro ⟨h1, h2⟩
    simp only [Bool.and_eq_true, Bool.not_eq_true'] at h2
    refine ⟨h1, h2.1, ?_⟩
    have ho : ops[i]? = some ops[i] := Array.getElem?_eq_getElem h1
    refine ⟨_, ho, fun e he hb => ?_⟩
    have h3 := h2.2
    rw [ho] at h3
    simp only [Option.map_some, Option.getD_some, Array.all_eq_true_iff_forall_mem] at h3
    have := h3 e (by simpa using he)
    simpa [hb] using this
  · rintro ⟨h1, h2, o, h3, h4⟩
    refine ⟨h1, ?_⟩
    simp only [h2, h3, Bool.not_false, Bool.true_and, Option.map_some, Option.getD_some, Array.all_eq_true_iff_forall_mem]
    intro e he
    cases hb : Region.binds .any e with
    | false => rfl
    | true => simpa using h4 e (by simpa using he) hb
theorem go_spec {ops : Array Oper} (hb : ∀ (i : Nat) x, ops[i]? = some x → ∀ e ∈ x.after.toList, Region.binds .any e = true → e.on < i) :
    ∀ (fuel t : Nat) (listed : Array Bool), listed.size = ops.size → listed.toList.count false ≤ fuel → ∀ L, L = Region.linearise.go .any ops fuel t listed [] →
    (∀ i ∈ L, i < ops.size ∧ listed[i]? = some false) ∧ L.Nodup ∧ (∀ i, i < ops.size → listed[i]? = some false → i ∈ L) ∧
      ∀ pre x post o, L = pre ++ x :: post → ops[x]? = some o → ∀ e ∈ o.after.toList, Region.binds .any e = true → listed[e.on]? = some true ∨ e.on ∈ pre := by
  intro fuel
  induction fuel with
  | zero =>
    intro t listed hs hc L hL
    simp only [Region.linearise.go, List.reverse_nil] at hL
    subst hL
    refine ⟨fun i h => (by cases h), List.nodup_nil, fun i hi h => ?_, fun pre x post o h => by simp at h⟩
    have h0 : listed.toList.count false = 0 := by omega
    rw [List.count_eq_zero] at h0
    exact absurd (List.mem_of_getElem? (by simpa using h)) h0
  | succ fuel ih =>
    intro t listed hs hc L hL
    simp only [Region.linearise.go] at hL
    change L = (match (Region.ready .any ops listed)[t % (Region.ready .any ops listed).length]? with
      | some i => Region.linearise.go .any ops fuel (t / (Region.ready .any ops listed).length) (listed.setIfInBounds i true) [i]
      | none => [].reverse) at hL
    cases hi : (Region.ready .any ops listed)[t % (Region.ready .any ops listed).length]? with
    | none =>
      have hnil : Region.ready .any ops listed = [] := by
        cases hr : Region.ready .any ops listed with
        | nil => rfl
        | cons x xs =>
          rw [hr] at hi
          have hlt : t % (x :: xs).length < (x :: xs).length := Nat.mod_lt _ (by simp)
          rw [List.getElem?_eq_getElem hlt] at hi
          cases hi
      rw [hi] at hL
      simp only [List.reverse_nil] at hL
      subst hL
      refine ⟨fun i h => (by cases h), List.nodup_nil, fun i hi h => ?_, fun pre x post o h => by simp at h⟩
      exfalso
      have key : ∀ i, i < ops.size → listed[i]? ≠ some false := by
        intro i
        induction i using Nat.strongRecOn with
        | ind i ihi =>
          intro hi hf
          have : i ∈ Region.ready .any ops listed := by
            refine ready_mem.2 ⟨hi, ?_, ops[i], Array.getElem?_eq_getElem hi, fun e he hbe => ?_⟩
            · simp [Array.getD_eq_getD_getElem?, hf]
            · have hlt := hb i _ (Array.getElem?_eq_getElem hi) e he hbe
              have hne := ihi e.on hlt (by omega)
              have hlt2 : e.on < listed.size := by omega
              rw [Array.getElem?_eq_getElem hlt2] at hne
              rw [Array.getD_eq_getD_getElem?, Array.getElem?_eq_getElem hlt2]
              cases hq : listed[e.on] with
              | true => rfl
              | false => rw [hq] at hne; exact absurd rfl hne
          rw [hnil] at this
          cases this
      exact key i hi h
    | some i =>
      rw [hi] at hL
      simp only at hL
      rw [linearise_go_acc, List.reverse_singleton, List.singleton_append] at hL
      obtain ⟨r1, r2, o, r3, r4⟩ := ready_mem.1 (List.mem_of_getElem? hi)
      have hlt : i < listed.size := by omega
      have hfi : listed[i]? = some false := by
        rw [Array.getD_eq_getD_getElem?, Array.getElem?_eq_getElem hlt] at r2
        rw [Array.getElem?_eq_getElem hlt]
        simpa using r2
      have hset : ∀ j, (listed.setIfInBounds i true)[j]? = if i = j then some true else listed[j]? := fun j => by
        rw [Array.getElem?_setIfInBounds]
        split
        · rename_i h; subst h; simp [hlt]
        · rfl
      generalize hL' : Region.linearise.go .any ops fuel (t / (Region.ready .any ops listed).length) (listed.setIfInBounds i true) [] = L' at hL
      obtain ⟨k1, k2, k3, k4⟩ := ih _ (listed.setIfInBounds i true) (by simpa using hs) (by
        have : (listed.setIfInBounds i true).toList = listed.toList.set i true := by simp
        rw [this]
        have := count_set listed.toList i (by simpa using hfi)
        omega) L' hL'.symm
      subst hL
      refine ⟨fun j hj => ?_, ?_, fun j hj hf => ?_, fun pre x post o' hsp ho' e he hbe => ?_⟩
      · rcases List.mem_cons.1 hj with rfl | hj
        · exact ⟨r1, hfi⟩
        · have := k1 j hj
          rw [hset] at this
          split at this
          · exact absurd this.2 (by simp)
          · exact this
      · rw [List.nodup_cons]
        refine ⟨fun hin => ?_, k2⟩
        have := (k1 i hin).2
        rw [hset, if_pos rfl] at this
        simp at this
      · by_cases hij : i = j
        · subst hij; exact List.mem_cons_self ..
        · exact List.mem_cons_of_mem _ (k3 j hj (by rw [hset, if_neg hij]; exact hf))
      · cases pre with
        | nil =>
          simp only [List.nil_append, List.cons.injEq] at hsp
          obtain ⟨rfl, rfl⟩ := hsp
          left
          rw [r3] at ho'
          simp only [Option.some.injEq] at ho'; subst ho'
          have := r4 e he hbe
          rw [Array.getD_eq_getD_getElem?] at this
          cases hq : listed[e.on]? with
          | none => rw [hq] at this; cases this
          | some b => rw [hq] at this; simp only [Option.getD_some] at this; rw [this]
        | cons p pre =>
          simp only [List.cons_append, List.cons.injEq] at hsp
          obtain ⟨rfl, hsp⟩ := hsp
          rcases k4 pre x post o' hsp ho' e he hbe with h | h
          · rw [hset] at h
            split at h
            · rename_i hie; right; rw [← hie]; exact List.mem_cons_self ..
            · exact .inl h
          · exact .inr (List.mem_cons_of_mem _ h)
theorem pairwise_split {α : Type} {R : α → α → Prop} : ∀ (L : List α), (∀ pre x post, L = pre ++ x :: post → ∀ a ∈ post, R x a) → L.Pairwise R := by
  intro L
  induction L with
  | nil => intro _; exact List.Pairwise.nil
  | cons x L ih =>
    intro h
    refine List.pairwise_cons.2 ⟨fun a ha => h [] x L rfl a ha, ih fun pre y post hp a ha => h (x :: pre) y post (by rw [hp]; rfl) a ha⟩
theorem perm_range {L : List Nat} {n : Nat} (h1 : ∀ i ∈ L, i < n) (h2 : L.Nodup) (h3 : ∀ i, i < n → i ∈ L) : L.Perm (List.range n) := by
  rw [List.perm_iff_count]
  intro a
  by_cases ha : a < n
  · rw [h2.count, List.nodup_range.count, if_pos (h3 a ha), if_pos (List.mem_range.2 ha)]
  · rw [h2.count, List.nodup_range.count, if_neg (fun h => ha (h1 a h)), if_neg (fun h => ha (List.mem_range.1 h))]

variable {P : Program} {F : Fz} {ρ : Rho} {s : St} {W : World}
theorem operD_ok {X : Cx} (hT : TyOk P X.P) (hE : EqOk P X.P X.eqOk) (hC : CallOk P X) (hp : CallPure X) (hR : R X.P F ρ s W) (hG : GlobOk X.P X.glob F) {id : Nat} (hid : ρ id = none) (hlt : id < s.nx) {tm : List AV} {a : Act} (hTM : TM X.P F ρ tm a.tmps) (hdf : a.defers = [])
    {o : Oper} {r : AV} {s' : St} (h : opD X id (ev X (gt tm)) o s = some (r, s')) {next : Act → World → Prop} {Q : Exit → Act → World → Prop}
    (hn : ∀ a' W' ρ' F', TM X.P F' ρ' (put tm o.dst r) a'.tmps → R X.P F' ρ' s' W' → Step s ρ F W s' ρ' F' W' → (∀ i, i < s.nx → i ≠ id → ρ' i = ρ i) → s.nx ≤ s'.nx → a'.defers = [] → next a' W') : o.wp P a W next Q := by
  obtain ⟨ts, ds⟩ := a
  simp only at hTM hdf
  subst hdf
  have hfin : ∀ v W', Good X.P id s ρ F W r s' v W' → next ((⟨ts, []⟩ : Act).put o.dst v) W' := by
    intro v W' ⟨ρ', F', h1, h2, h3, h4, h5⟩
    exact hn _ _ ρ' F' ((hTM.mono h3.fz h3.rho).put h1 o.dst []) h2 h3 h4 h5 (put_defers _ _ _)
  unfold Oper.wp
  rcases opD_ok hT hE hC hp hR hG hid hlt (fun x => ev_ok hG hTM [] x) h with ⟨v, W', h1, h2⟩ | ⟨W', h1, h2⟩ | ⟨f, args, h1, h2⟩
  · rw [h1, Oper.upon_value]; exact hfin _ _ h2
  · rw [h1, Oper.upon_skip]; exact hfin _ _ h2
  · rw [h1, Oper.upon_enter]
    refine h2.mono ?_
    intro e W' he
    cases e with
    | returned v => exact hfin _ _ he
    | panicked c => exact he.elim
    | outgrown => exact he.elim
theorem runM_ok {X : Cx} (hT : TyOk P X.P) (hE : EqOk P X.P X.eqOk) (hC : CallOk P X) (hp : CallPure X) {ops : Array Oper} {base : Nat} {Q : Exit → Act → World → Prop} {tm' : List AV} {s' : St} : ∀ (L : List Nat) (ml : List (Nat × Option Mark)) (tm : List AV) (s : St) (ρ : Rho) (F : Fz) (W : World) (a : Act),
    L.Nodup → (∀ i ∈ L, i < ops.size) → R X.P F ρ s W → GlobOk X.P X.glob F → TM X.P F ρ tm a.tmps → a.defers = [] → (∀ j ∈ L, ρ (base + j) = none) → base + ops.size ≤ s.nx → runM X base ops.toList L (tm, s) = some (ml, (tm', s')) →
    (∀ a' W' ρ' F', TM X.P F' ρ' tm' a'.tmps → R X.P F' ρ' s' W' → Step s ρ F W s' ρ' F' W' → (∀ k, k < base → ρ' k = ρ k) → s.nx ≤ s'.nx → a'.defers = [] → Q .normal a' W') →
    wpOps P ops Q L a W := by
  intro L
  induction L with
  | nil =>
    intro ml tm s ρ F W a _ _ hR hG hTM hdf _ _ h hq
    simp only [runM, Option.some.injEq, Prod.mk.injEq] at h; obtain ⟨rfl, rfl, rfl⟩ := h
    exact hq a W ρ F hTM hR (Step.refl _ _ _ _) (fun _ _ => rfl) (Nat.le_refl _) hdf
  | cons i L ih =>
    intro ml tm s ρ F W a hnd hlt hR hG hTM hdf hfree hnx h hq
    rw [List.nodup_cons] at hnd
    have hi : i < ops.size := hlt i (List.mem_cons_self ..)
    have hoi : ops[i]? = some ops[i] := Array.getElem?_eq_getElem hi
    obtain ⟨m, q1, ml1, h1, h2, rfl⟩ := runM_cons.1 h
    generalize ops[i] = o at hoi
    simp only [wpOps, hoi]
    simp only [stepM, Array.getElem?_toList, hoi] at h1
    cases hw : wantedA ops.toList (gt tm) o with
    | none => rw [hw] at h1; cases h1
    | some w =>
      rw [hw] at h1
      simp only [Option.bind_some] at h1
      rw [wanted_ok hTM hw]
      cases w with
      | true =>
        simp only [cond_true, if_true] at h1 ⊢
        cases ho : opD X (base + i) (ev X (gt tm)) o s with
        | none => rw [ho] at h1; cases h1
        | some r =>
          obtain ⟨r, s1⟩ := r
          rw [ho] at h1
          simp only [Option.map_some, Option.some.injEq, Prod.mk.injEq] at h1; obtain ⟨rfl, rfl⟩ := h1
          left
          refine operD_ok hT hE hC hp hR hG (hfree i (List.mem_cons_self ..)) (by omega) hTM hdf ho ?_
          intro a1 W1 ρ1 F1 k1 k2 k3 k4 k5 k6
          refine ih ml1 _ s1 ρ1 F1 W1 a1 hnd.2 (fun j hj => hlt j (List.mem_cons_of_mem _ hj)) k2 (hG.mono k3.fz) k1 k6 (fun j hj => ?_) (by omega) h2 ?_
          · have hji : j ≠ i := fun e => hnd.1 (e ▸ hj)
            have := hlt j (List.mem_cons_of_mem _ hj)
            rw [k4 _ (by omega) (by omega)]; exact hfree j (List.mem_cons_of_mem _ hj)
          · intro a2 W2 ρ2 F2 m1 m2 m3 m4 m5 m6
            exact hq a2 W2 ρ2 F2 m1 m2 (k3.trans m3) (fun k hk => (m4 k hk).trans (k4 k (by omega) (by omega))) (by omega) m6
      | false =>
        simp only [cond_false, Bool.false_eq_true, if_false] at h1 ⊢
        simp only [Option.some.injEq, Prod.mk.injEq] at h1; obtain ⟨rfl, rfl⟩ := h1
        obtain ⟨ts, ds⟩ := a
        refine ih ml1 _ s ρ F W _ hnd.2 (fun j hj => hlt j (List.mem_cons_of_mem _ hj)) hR hG (hTM.put (.tup [] #[] rfl (fun i h => by simp at h)) o.dst ds) (by rw [put_defers]; exact hdf) (fun j hj => hfree j (List.mem_cons_of_mem _ hj)) hnx h2 hq
theorem drawOk {X : Cx} (hT : TyOk P X.P) (hE : EqOk P X.P X.eqOk) (hC : CallOk P X) (hp : CallPure X) : DrawOk P X := by
  intro ops tm s ρ F W a base tm' s' hR hG hTM hdf hfree hnx h Q hQ t
  unfold drawn at h
  cases hm : mixOk (aheads [] ops.toList) ops.toList with
  | false => rw [hm] at h; cases h
  | true =>
  rw [hm] at h
  simp only [cond_true] at h
  obtain ⟨ml, g1, g2, g3⟩ := opsD_run (X := X) ops.toList 0 [] tm s (by simp) h
  have hmix := mixAll_spec ops.toList [] 0 rfl hm
  simp only [Nat.zero_add, List.nil_append] at hmix
  have hb : ∀ (i : Nat) x, ops[i]? = some x → ∀ e ∈ x.after.toList, Region.binds .any e = true → e.on < i := fun i x hx => (hmix i x (by simpa using hx)).1
  obtain ⟨L1, L2, L3, L4⟩ := go_spec hb ops.size t (Array.replicate ops.size false) (by simp) (by simp) _ rfl
  have hlist : ∀ i, i < ops.size → (Array.replicate ops.size false)[i]? = some false := fun i hi => by simp [hi]
  change wpOps P ops Q (Region.linearise.go .any ops ops.size t (Array.replicate ops.size false) []) a W
  generalize hLe : Region.linearise.go .any ops ops.size t (Array.replicate ops.size false) [] = L at L1 L2 L3 L4
  have hperm : L.Perm (List.range' 0 ops.toList.length) := by
    rw [← List.range_eq_range', Array.length_toList]
    exact perm_range (fun i hi => (L1 i hi).1) L2 (fun i hi => L3 i hi (hlist i hi))
  have hahead : ∀ x pre post, L = pre ++ x :: post → ∀ b, bitOf ((aheads [] ops.toList).getD x 0) b = true → b ∈ pre := by
    intro x
    induction x using Nat.strongRecOn with
    | ind x ihx =>
      intro pre post hsp b hbit
      have hx : x < ops.size := (L1 x (by rw [hsp]; simp)).1
      have hox : ops[x]? = some ops[x] := Array.getElem?_eq_getElem hx
      obtain ⟨pre0, p1, p2, p3⟩ := aheads_get ops.toList [] x ops[x] (by simp [hox])
      simp only [List.length_nil, Nat.zero_add] at p1 p2 p3
      rw [List.getD_eq_getElem?_getD, p1, Option.getD_some] at hbit
      rcases ahead_fold pre0 b _ _ hbit with h0 | ⟨e, he, hbe, h1⟩
      · simp [bitOf] at h0
      · have hin : e.on ∈ pre := by
          rcases L4 pre x post _ hsp hox e he hbe with h2 | h2
          · rw [Array.getElem?_replicate] at h2
            split at h2 <;> simp at h2
          · exact h2
        rcases h1 with h1 | h1
        · subst h1; exact hin
        · have hlt := hb x _ hox e he hbe
          rw [p3 e.on hlt] at h1
          obtain ⟨p1', p2', hpre⟩ := List.append_of_mem hin
          have := ihx e.on hlt p1' (p2' ++ x :: post) (by rw [hsp, hpre]; simp) b h1
          rw [hpre]; exact List.mem_append_left _ this
  have hpw : L.Pairwise (fun x b => bitOf ((aheads [] ops.toList).getD x 0) b = false) := by
    refine pairwise_split L fun pre x post hsp b hbm => ?_
    cases hbit : bitOf ((aheads [] ops.toList).getD x 0) b with
    | false => rfl
    | true =>
      have hin := hahead x pre post hsp b hbit
      rw [hsp, List.nodup_append] at L2
      exact absurd rfl (L2.2.2 b hin b (List.mem_cons_of_mem _ hbm))
  have hfst : ∀ p ∈ ml, p.1 < ops.size := by
    have hmap : ∀ (l : List Nat) (q : List AV × St) (ml : List (Nat × Option Mark)) (r : List AV × St), runM X base ops.toList l q = some (ml, r) → ml.map (·.1) = l := by
      intro l
      induction l with
      | nil => intro q ml r h; simp only [runM, Option.some.injEq, Prod.mk.injEq] at h; obtain ⟨rfl, _⟩ := h; rfl
      | cons i l ih => intro q ml r h; obtain ⟨m, q1, ml1, _, h2, rfl⟩ := runM_cons.1 h; simp [ih _ _ _ h2]
    intro p hpm
    have : p.1 ∈ List.range' 0 ops.toList.length := by rw [← hmap _ _ _ _ g1]; exact List.mem_map.2 ⟨p, hpm, rfl⟩
    rw [← List.range_eq_range', Array.length_toList, List.mem_range] at this
    exact this
  have happ : ml.Pairwise (Apt ops.toList (aheads [] ops.toList)) := by
    have : ml.Pairwise fun p k => p ∈ ml ∧ k ∈ ml ∧ (p.1 < k.1 ∧ (bitOf ((aheads [] ops.toList).getD k.1 0) p.1 = true ∨ ∀ u v, p.2 = some u → k.2 = some v → u.apart v = true)) :=
      List.Pairwise.imp_of_mem (fun {p k} hp hk h => ⟨hp, hk, h⟩) g3
    refine this.imp ?_
    rintro p k ⟨hpm, hkm, hlt, hor⟩
    have hpo : ops.toList[p.1]? = some (ops[p.1]'(hfst p hpm)) := by simp [Array.getElem?_eq_getElem (hfst p hpm)]
    have hko : ops.toList[k.1]? = some (ops[k.1]'(hfst k hkm)) := by simp [Array.getElem?_eq_getElem (hfst k hkm)]
    rcases hor with hor | hor
    · exact .inl hor
    · rcases (hmix k.1 _ hko).2 p.1 _ hlt hpo with hb' | hb'
      · exact .inl hb'
      · exact .inr ⟨⟨_, _, hpo, hko, hb'⟩, hor⟩
  obtain ⟨ml', hrun⟩ := perm_run hp L _ (tm, s) ml (tm', s') hperm g1 happ hpw
  exact runM_ok hT hE hC hp L ml' tm s ρ F W a L2 (fun i hi => (L1 i hi).1) hR hG hTM hdf (fun j hj => hfree j (L1 j hj).1) hnx hrun hQ
/-- What the interpreter answers, the program answers. -/
theorem callN_sound {E : Env} (hE : EnvOk P E) (n : Nat) : FunOk P E (callN E n) :=
  callN_ok hE (fun cl f hC => drawOk (X := cx E cl f) hE.ty hE.eq hC (mcall_pure E cl f)) n
end
end Go.Proofs.YtdehdahimkcakaaGreatDoor.Ai
