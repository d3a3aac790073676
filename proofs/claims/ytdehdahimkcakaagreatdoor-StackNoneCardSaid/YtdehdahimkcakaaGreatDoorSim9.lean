/- Lengths, append, copy. -/
import Derived.Test.YtdehdahimkcakaaGreatDoorSim8
import Derived.Deep.AppendSrc
set_option linter.unusedVariables false
set_option linter.unusedSimpArgs false
namespace Go.Proofs.YtdehdahimkcakaaGreatDoor.Ai
open Go

section
variable {P : Program} {T : Ty} {F : Fz} {ρ : Rho} {s : St} {W : World}

theorem At.src {c : List AV} {β b : Nat} (h : At T F ρ W c β b) : ∃ news : List Value, CR T F ρ c news ∧ ∀ j v, news[j]? = some v → W.cell? ((⟨β, b, none⟩ : Addr).add j) = some v := by
  obtain ⟨g, hg⟩ := h
  refine ⟨(List.range c.length).map g, ⟨by simp, fun i a b => by simpa using (hg i a).2⟩, fun j v hj => ?_⟩
  have hlt : j < c.length := by
    rcases Nat.lt_or_ge j c.length with h' | h'
    · exact h'
    · rw [List.getElem?_eq_none (by simpa using h')] at hj; cases hj
  rw [List.getElem?_map, List.getElem?_range hlt] at hj
  simp only [Option.map_some, Option.some.injEq] at hj; subst hj
  rw [Addr.add_lit]; exact (hg j hlt).1
theorem cr_one {c : List AV} {vs : List Value} (h : CR T F ρ c vs) (h1 : c.all AV.one = true) : ∀ u ∈ vs, u.oneCell' = true := by
  intro u hu
  obtain ⟨i, hi, rfl⟩ := List.getElem_of_mem hu
  have hi' : i < c.length := by rw [h.1]; exact hi
  exact one_ok (List.all_eq_true.1 h1 _ (List.getElem_mem hi')) (h.2 i hi' hi)
/-- What is copied from: so many elements, and their cells. -/
structure Gives (P : Program) (T : Ty) (F : Fz) (ρ : Rho) (W : World) (z : Nat) (c : List AV) (u : Value) (n : Nat) (news : List Value) : Prop where
  len : ∀ W', (Builtin.lenOf u).run P W' = .ok n W'
  size : c.length = n * z
  cr : CR T F ρ c news
  cells : ∀ k, k ≤ n → ∀ W', (∀ a v, W.cell? a = some v → W'.cell? a = some v) → (Builtin.firstCells z k u).run P W' = .ok (news.take (k * z)).toArray W'
theorem Gives.of_at {c : List AV} {β b z n cap : Nat} (h : At T F ρ W c β b) (hc : c.length = n * z) : ∃ news, Gives P T F ρ W z c (.slice (some ⟨β, b, none⟩) n cap) n news := by
  obtain ⟨news, h1, h2⟩ := h.src
  refine ⟨news, fun _ => rfl, hc, h1, fun k hk W' hW => run_firstCells_some W' z k _ n cap _ ?_ fun j v hj => ?_⟩
  · have := Nat.mul_le_mul_right z hk
    have := h1.1
    simp; omega
  · rw [List.getElem?_take] at hj
    split at hj
    · exact hW _ _ (h2 j v hj)
    · cases hj
theorem flatMap_len {l : List AV} {z : Nat} (h : ∀ i (h : i < l.length), l[i].cells.length = z) : (l.flatMap AV.cells).length = l.length * z := by
  induction l with
  | nil => simp
  | cons v l ih =>
    have := h 0 (by simp)
    simp only [List.getElem_cons_zero] at this
    rw [List.flatMap_cons, List.length_append, ih (fun i hi => h (i + 1) (by rw [List.length_cons]; omega)), this, List.length_cons, Nat.succ_mul]; omega
theorem src_ok (hR : R T F ρ s W) {z : Nat} (h0 : 0 < z) {x : AV} {c : List AV} (h : srcCells z x s = some c) {u : Value} (hu : VR T F ρ x u) : ∃ n news, Gives P T F ρ W z c u n news := by
  unfold srcCells at h
  split at h
  · simp only [Option.some.injEq] at h; subst h
    cases hu
    exact ⟨0, [], fun _ => rfl, by simp, CR.nil, fun k hk W' _ => by rw [Nat.le_zero.1 hk]; simpa using run_firstCells_none W' z 0 0 0⟩
  · simp only [Option.some.injEq] at h; subst h
    cases hu with
    | emp a c => exact ⟨0, [], fun _ => rfl, by simp, CR.nil, fun k hk W' _ => by rw [Nat.le_zero.1 hk]; simp [Builtin.firstCells, loadCells, loadCellsFrom]⟩
  · rename_i b
    split at h
    · rename_i hz1
      subst hz1
      simp only [Option.some.injEq] at h; subst h
      cases hu with
      | str _ bb hbb =>
        subst hbb
        have hbs : bb.data.toList.length = bb.size := by rw [Array.length_toList]; rfl
        refine ⟨bb.size, byteCells bb, fun _ => rfl, by rw [List.length_map, hbs, Nat.mul_one], ⟨by rw [List.length_map, hbs, byteCells_length], fun i a b => ?_⟩, fun k hk W' _ => ?_⟩
        · simp only [byteCells, List.getElem_map]; exact .int _ _
        · simp only [Builtin.firstCells, Sem.run_pure, Nat.mul_one]
          congr 1
          apply Array.ext'
          simp only [Array.toList_map, byteCells]
          rw [Lib.extract_data, List.drop_zero, Nat.sub_zero, List.map_take]
    · cases h
  · rename_i ex l
    split at h
    · rename_i hall
      simp only [Option.some.injEq] at h; subst h
      obtain ⟨a, cp, rfl, hc, hx, hne⟩ := sl_inv hu
      have hzl : ∀ i (h : i < l.length), l[i].cells.length = z := fun i hi => by
        have := List.all_eq_true.1 hall _ (List.getElem_mem hi)
        simpa using this
      by_cases hl : l = []
      · subst hl
        refine ⟨0, [], fun _ => rfl, by simp, CR.nil, fun k hk W' _ => ?_⟩
        rw [Nat.le_zero.1 hk]
        cases a with
        | none => simpa using run_firstCells_none W' z 0 0 cp
        | some a => simp [Builtin.firstCells, loadCells, loadCellsFrom]
      · obtain ⟨β, b, z', rfl, hz', w, hf, hv⟩ := hne hl
        have : z' = z := by
          have hp := List.length_pos_iff.2 hl
          rw [← hz' 0 hp, hzl 0 hp]
        subst this
        obtain ⟨news, hg⟩ := Gives.of_at (P := P) (cap := cp) (sl_at hR (ex := ex) hz' hf hv h0) (flatMap_len hz')
        exact ⟨_, news, hg⟩
    · cases h
  · rename_i id off n cap e
    cases hb : s.h id with
    | none => rw [hb] at h; cases h
    | some bk =>
      rw [hb] at h
      cases bk with
      | cells cc e0 ex wr =>
        simp only at h
        split at h
        · rename_i hle
          simp only [Option.some.injEq] at h; subst h
          cases hu with
          | ref _ _ _ _ _ β size cp z1 ag hρ hz1 hn hk hk2 =>
            obtain ⟨β', z', q1, q2⟩ := hR.at hb
            rw [hρ] at q1; cases q1
            have hat := q2.take off (n * z)
            rw [Nat.zero_add] at hat
            obtain ⟨news, hg⟩ := Gives.of_at (P := P) (cap := cp) hat (n := n) (z := z) (by simp; omega)
            exact ⟨_, news, hg⟩
        · cases h
      | _ => cases h
  · cases h

theorem Gives.all {z : Nat} {c : List AV} {u : Value} {n : Nat} {news : List Value} (h : Gives P T F ρ W z c u n news) {W' : World} (hW : ∀ a v, W.cell? a = some v → W'.cell? a = some v) :
    (Builtin.firstCells z n u).run P W' = .ok news.toArray W' := by
  have := h.cells n (Nat.le_refl _) W' hW
  rwa [List.take_of_length_le (by rw [← h.cr.1, h.size]; exact Nat.le_refl _)] at this
theorem drew_cells (W : World) : ∀ a v, W.cell? a = some v → W.drew.cell? a = some v := fun _ _ h => h

/-- What is appended. -/
structure Feed (P : Program) (T : Ty) (F : Fz) (ρ : Rho) (W : World) (e : TypeId) (i : TypeInfo) (ats : Array TypeId) (u : Value) (nc : List AV) (m : Nat) (news : List Value) : Prop where
  kind : ∃ tx d, ats[1]? = some tx ∧ P.underlying tx = some d ∧ ((((∃ e', d = .slice e') ∨ d = .string) ∧ (∀ W', (Builtin.lenOf u).run P W' = .ok m W') ∧ (Builtin.firstCells i.size m u).run P W = .ok news.toArray W ∧ (Builtin.firstCells i.size m u).run P W.drew = .ok news.toArray W.drew) ∨
    (∃ k, d = .int k) ∧ ∃ k j zr, u = .int k j ∧ 0 ≤ j ∧ j ≤ most ∧ j * i.bytes ≤ most ∧ m = j.toNat ∧ i.zero = some zr ∧ news = (Builtin.zeroCells zr.cells m).toList)
  cr : CR T F ρ nc news
  size : nc.length = m * i.size
  one : nc.all AV.one = true
theorem app_room {e : TypeId} {i : TypeInfo} {ats : Array TypeId} {u : Value} {nc : List AV} {m : Nat} {news : List Value} (hf : Feed P T F ρ W e i ats u nc m news) {t : TypeId} (hat : ats[0]? = some t) (ht : P.underlying t = some (.slice e)) (hi : P.info? e = some i) (h0 : 0 < i.size)
    {ty : TypeId} {b off sLen sCap : Nat} (hroom : sLen + m ≤ sCap) (hc : ∀ j, j < news.length → (W.cell? ⟨b, off + sLen * i.size + j, none⟩).isSome = true) (hfr : ∀ j, j < news.length → W.frozen? ⟨b, off + sLen * i.size + j, none⟩ = false) :
    (Builtin.append_ ats ty #[.slice (some ⟨b, off, none⟩) sLen sCap, u]).run P W = .ok (.slice (some ⟨b, off, none⟩) (sLen + m) sCap) (W.setCells b (off + sLen * i.size) news) := by
  have hst := run_storeCells_cells (P := P) b (off + sLen * i.size) news 0 W (by simpa using hc) (by simpa using hfr) (cr_one hf.cr hf.one)
  simp only [Nat.add_zero] at hst
  obtain ⟨tx, d, h1, h2, h3 | h3⟩ := hf.kind
  · obtain ⟨hd, hl, hn, _⟩ := h3
    rcases hd with ⟨e', rfl⟩ | rfl <;> simp [Builtin.append_, hat, h1, run_underlying ht, run_underlying h2, sizeOf, typeInfo, hi, hl, hroom, hn, Addr.add_lit, hst]
  · obtain ⟨⟨k, rfl⟩, k', j, zr, rfl, p0, p1, p2, rfl, hz, rfl⟩ := h3
    have hm : (most : Int) = 1099511627776 := by decide
    have hw : IntKind.i64.wrap j = j := IntWalk.i64_in j (by omega)
    have q0 : ¬ j < 0 := by omega
    have q1 : ¬ (281474976710656 < j * (i.bytes : Int)) := by omega
    by_cases hnz : j = 0
    · subst hnz
      simp only [Int.toNat_zero] at *
      have e0 : (Builtin.zeroCells zr.cells 0).toList = [] := by simp [Builtin.zeroCells]
      rw [e0] at hst ⊢
      have hr : sLen ≤ sCap := by omega
      simp [Builtin.append_, hat, h1, run_underlying ht, run_underlying h2, sizeOf, typeInfo, hi, asInt, asIntOf, hw, hr, hz, Addr.add_lit, zeroValue, storeCells, World.setCells]
    · have hj : j.toNat ≠ 0 := by omega
      have hs0 : i.size ≠ 0 := by omega
      simp [Builtin.append_, hat, h1, run_underlying ht, run_underlying h2, sizeOf, typeInfo, hi, asInt, asIntOf, hw, q0, q1, hroom, hz, Addr.add_lit, zeroValue, hst, hs0, p0]
      intro h'
      exfalso
      rcases Nat.mul_eq_zero.1 h' with h' | h' <;> omega
theorem app_grow {e : TypeId} {i : TypeInfo} {ats : Array TypeId} {u : Value} {nc : List AV} {m : Nat} {news : List Value} (hf : Feed P T F ρ W e i ats u nc m news) {t : TypeId} (hat : ats[0]? = some t) (ht : P.underlying t = some (.slice e)) (hi : P.info? e = some i) (h0 : 0 < i.size)
    {z : Value} (hz : i.zero = some z) {ty : TypeId} {base : Option Addr} {sLen sCap : Nat} {olds : List Value} (hold : (Builtin.firstCells i.size sLen (.slice base sLen sCap)).run P W.drew = .ok olds.toArray W.drew)
    (hg : sCap < sLen + m) (hb1 : (sLen + m) * i.bytes ≤ most) (hb2 : sLen + m ≤ most) :
    (Builtin.append_ ats ty #[.slice base sLen sCap, u]).run P W = .ok (.slice (some ⟨W.heap.size, 0, none⟩) (sLen + m) (grownCap W (sLen + m) sCap e))
        (W.drew.alloc (.cells ((olds ++ news).toArray ++ Builtin.zeroCells z.cells (grownCap W (sLen + m) sCap e - (sLen + m))) e)) := by
  have hm : most = 1099511627776 := by decide
  have hfit : Builtin.nextslicecap (sLen + m) sCap * i.bytes ≤ 281474976710656 := growslice_fits hg (by omega)
  have hn : ¬ (sLen + m ≤ sCap) := by omega
  have h63' : ¬ (9223372036854775807 < ((sLen : Int) + (m : Int))) := by omega
  have h48' : ¬ (281474976710656 < Builtin.nextslicecap (sLen + m) sCap * i.bytes) := by omega
  obtain ⟨tx, d, h1, h2, h3 | h3⟩ := hf.kind
  · obtain ⟨hd, hl, _, hcD⟩ := h3
    rcases hd with ⟨e', rfl⟩ | rfl <;>
      (simp [Builtin.append_, hat, h1, run_underlying ht, run_underlying h2, sizeOf, typeInfo, zeroValue, hi, hz, hl, hn, h63', h48', Question.forced, hcD, hold, newRow, grownCap]
       congr 2
       apply Array.ext'
       simp [List.append_assoc])
  · obtain ⟨⟨k, rfl⟩, k', j, zr, rfl, p0, p1, p2, rfl, hz2, rfl⟩ := h3
    rw [hz] at hz2; cases hz2
    have hm' : (most : Int) = 1099511627776 := by decide
    have hw : IntKind.i64.wrap j = j := IntWalk.i64_in j (by omega)
    have q0 : ¬ j < 0 := by omega
    have q1 : ¬ (281474976710656 < j * (i.bytes : Int)) := by omega
    have hs0 : i.size ≠ 0 := by omega
    have h63'' : ¬ (9223372036854775807 < ((sLen : Int) + max j 0)) := by
      have : max j 0 = j := by omega
      rw [this]; omega
    by_cases hnz : j = 0
    · subst hnz
      have e0 : (Builtin.zeroCells z.cells 0).toList = [] := by simp [Builtin.zeroCells]
      simp only [Int.toNat_zero] at *
      rw [e0]
      have hn' : ¬ (sLen ≤ sCap) := by omega
      have h63n : ¬ (9223372036854775807 < (sLen : Int)) := by omega
      have h48n : ¬ (281474976710656 < Builtin.nextslicecap sLen sCap * i.bytes) := by simpa using h48'
      simp [Builtin.append_, hat, h1, run_underlying ht, run_underlying h2, sizeOf, typeInfo, zeroValue, hi, hz, asInt, asIntOf, hw, hn', h63n, h48n, Question.forced, hold, newRow, grownCap]
    · have hj : ¬ j ≤ 0 := by omega
      simp [Builtin.append_, hat, h1, run_underlying ht, run_underlying h2, sizeOf, typeInfo, zeroValue, hi, hz, asInt, asIntOf, hw, q0, q1, hs0, hn, hj, h63', h63'', h48', Question.forced, hold, newRow, grownCap]
      have hjz : ¬ j.toNat * i.size = 0 := by
        intro h'
        rcases Nat.mul_eq_zero.1 h' with h' | h' <;> omega
      rw [if_neg hjz]
      congr 3
      apply Array.ext'
      simp [List.append_assoc]
/-- A block gets another number. -/
theorem R.renew (h : R T F ρ s W) {id nid β z : Nat} {b b' : Blk} {o' : Obj} (hb : s.h id = some b) (hr : ρ id = some (β, z)) (ho : OR T F ρ z b' o') (hnone : ρ nid = none) (hlt : nid < s.nx) :
    R T F (rset ρ nid (β, z)) ((s.set id none).set nid (some b')) (putObj W β o') ∧ Step s ρ F W ((s.set id none).set nid (some b')) (rset ρ nid (β, z)) F (putObj W β o') := by
  have hle := rset_le hnone (β, z)
  obtain ⟨β0, z0, o0, k1, k2, k3, k4⟩ := h.lt hb
  rw [hr] at k1; cases k1
  have hne : id ≠ nid := fun e => by rw [e, hnone] at hr; cases hr
  have hother : ∀ γ, γ ≠ β → (putObj W β o').heap[γ]? = W.heap[γ]? := fun γ hγ => by
    simp only [putObj]; rw [Array.getElem?_setIfInBounds]; rw [if_neg (Ne.symm hγ)]
  have hlive : ∀ i, i ≠ nid → ((s.set id none).set nid (some b')).h i ≠ none → s.h i ≠ none ∧ i ≠ id := fun i hi hl => by
    rw [set_ne _ _ hi] at hl
    by_cases hii : i = id
    · subst hii; simp at hl
    · rw [set_ne _ _ hii] at hl; exact ⟨hl, hii⟩
  refine ⟨⟨?_, ?_, ?_, ?_⟩, ⟨hle, FLe.refl _, rfl, rfl, rfl, by simp [putObj], fun γ hγ hl => hother γ fun e => hl ⟨id, z, by rw [hb]; simp, by rw [e]; exact hr⟩, ?_, fun _ _ h _ _ => h⟩⟩
  · intro i c hc
    by_cases hii : i = nid
    · subst hii
      rw [set_same] at hc; cases hc
      exact ⟨β, z, o', rset_same _ _, by simp only [putObj]; rw [Array.getElem?_setIfInBounds]; simp [k4], ho.mono (FLe.refl _) hle⟩
    · obtain ⟨hl, hni⟩ := hlive i hii (by rw [hc]; simp)
      rw [set_ne _ _ hii, set_ne _ _ hni] at hc
      obtain ⟨γ, z', o, h1, h2, h3, h4⟩ := h.lt hc
      refine ⟨γ, z', o, hle _ _ h1, ?_, h3.mono (FLe.refl _) hle⟩
      rw [hother γ]
      · exact h2
      · intro e; subst e
        exact hni (h.inj i id γ z' z hl (by rw [hb]; simp) h1 hr)
  · intro i j γ z1 z2 hi hj h1 h2
    by_cases hii : i = nid
    · by_cases hjj : j = nid
      · rw [hii, hjj]
      · subst hii
        rw [rset_same] at h1; cases h1
        rw [rset_ne hjj] at h2
        obtain ⟨hl, hni⟩ := hlive j hjj hj
        exact absurd (h.inj j id β z2 z hl (by rw [hb]; simp) h2 hr) hni
    · by_cases hjj : j = nid
      · subst hjj
        rw [rset_same] at h2; cases h2
        rw [rset_ne hii] at h1
        obtain ⟨hl, hni⟩ := hlive i hii hi
        exact absurd (h.inj i id β z1 z hl (by rw [hb]; simp) h1 hr) hni
      · rw [rset_ne hii] at h1
        rw [rset_ne hjj] at h2
        exact h.inj i j γ z1 z2 (hlive i hii hi).1 (hlive j hjj hj).1 h1 h2
  · intro a v ha
    obtain ⟨h1, h2⟩ := h.fz a v ha
    have hnb : a.block ≠ β := fun e => h2 id z (by rw [hb]; simp) (by rw [e]; exact hr)
    refine ⟨?_, fun i z' hi hc => ?_⟩
    · unfold World.cell? at h1 ⊢
      rw [hother _ hnb]; exact h1
    · by_cases hii : i = nid
      · subst hii
        rw [rset_same] at hc
        simp only [Option.some.injEq, Prod.mk.injEq] at hc
        exact hnb hc.1.symm
      · rw [rset_ne hii] at hc
        exact h2 i z' (hlive i hii hi).1 hc
  · intro i hi
    have hi2 : s.nx ≤ i := hi
    rw [rset_ne (by omega)]
    exact h.fresh i hi2
  · intro γ ⟨i, z', hi, hc⟩ hγ
    by_cases hii : i = nid
    · subst hii
      rw [rset_same] at hc; cases hc
      exact ⟨id, z, by rw [hb]; simp, hr⟩
    · rw [rset_ne hii] at hc
      exact ⟨i, z', (hlive i hii hi).1, hc⟩

/-- A row that has grown. -/
theorem grow_ok (hT : TyOk P T) (hR : R T F ρ s W) {e : TypeId} {z b : Nat} {ag : Bool} (hl : lay T e = some (z, ag)) (hbb : bytesOf T e = some b) {zv : AV} (hz : zero T e = some zv) (hzl : zv.cells.length = z) (h0 : 0 < z)
    {base : Option Addr} {sLen sCap m : Nat} {olds news : List Value} {oc nc : List AV} {i : TypeInfo} (hi : P.info? e = some i)
    (hold : (Builtin.firstCells i.size sLen (.slice base sLen sCap)).run P W.drew = .ok olds.toArray W.drew) (ho : CR T F ρ oc olds) (hol : oc.length = sLen * i.size)
    {ats : Array TypeId} {u : Value} (hf : Feed P T F ρ W e i ats u nc m news) {t ty : TypeId} (hat : ats[0]? = some t) (ht : P.underlying t = some (.slice e)) (hg : sCap < sLen + m) {id : Nat} (hid : ρ id = none) (hlt : id < s.nx) {r : AV} {s' : St} (h : grown e z b (oc ++ nc) id s = some (r, s')) :
    Does P T id s ρ F W r s' (Builtin.append_ ats ty #[.slice base sLen sCap, u]) := by
  unfold grown at h
  split at h
  · rename_i hfits
    simp only [newSl, Option.some.injEq, Prod.mk.injEq] at h
    obtain ⟨rfl, rfl⟩ := h
    obtain ⟨i1, d1, hi1, hs1, _, _⟩ := lay_ok hT hl
    rw [hi] at hi1; cases hi1
    obtain ⟨i2, hi2, hb2⟩ := run_bytes hT hbb
    rw [hi] at hi2; cases hi2
    obtain ⟨i3, zr, hi3, hz3, rfl⟩ := zero_ok hT hz
    rw [hi] at hi3; cases hi3
    have hlen : (oc ++ nc).length = (sLen + m) * z := by rw [List.length_append, hol, hf.size, hs1, Nat.add_mul]
    have hdiv : (oc ++ nc).length / z = sLen + m := by rw [hlen]; exact Nat.mul_div_cancel _ h0
    rw [hdiv] at hfits ⊢
    simp only [fitsA, Bool.and_eq_true, Nat.ble_eq] at hfits
    have hrun := app_grow (ty := ty) hf hat ht hi (by omega) hz3 hold hg (by rw [hb2]; exact hfits.1) hfits.2
    have hge := grownCap_ge W (sLen + m) sCap e
    generalize grownCap W (sLen + m) sCap e = cap at hrun hge
    have hzs : zr.cells.size = z := by
      have := (ofV_cells (T := T) (F := F) (ρ := ρ) zr).1
      simp at this; omega
    have hcr := ho.append hf.cr
    have hnl : (olds ++ news).length = (sLen + m) * z := by rw [← hcr.1]; exact hlen
    have hCs : (((olds ++ news).toArray ++ Builtin.zeroCells zr.cells (cap - (sLen + m))) : Array Value).size = cap * z := by
      rw [Array.size_append, size_zeroCells, List.size_toArray, hnl, hzs, ← Nat.add_mul, Nat.add_sub_cancel' hge]
    have hRd : R T F ρ s W.drew := ⟨hR.blk, hR.inj, hR.fz, hR.fresh⟩
    have hle : (sLen + m) * z ≤ cap * z := Nat.mul_le_mul_right z hge
    obtain ⟨r1, r2⟩ := hRd.born (s' := s.set id (some (.cells (oc ++ nc) e false true))) hid (.cells (oc ++ nc) e false true) (.cells ((olds ++ news).toArray ++ Builtin.zeroCells zr.cells (cap - (sLen + m))) e) (cap * z)
      ⟨rfl, hCs, by rw [hlen]; exact hle, (by intro h; cases h), fun j a b => by
        have hj : j < (olds ++ news).length := by rw [← hcr.1]; exact a
        rw [Array.getElem_append_left (by simpa using hj)]
        have := hcr.2 j a hj
        simpa using this, fun _ j _ hh => by simp at hh⟩ rfl (Nat.le_refl _) hlt
    refine ⟨_, _, _, F, hrun, VR.ref id 0 _ none e W.heap.size (cap * z) cap z ag (rset_same _ _) hl hge (fun k hk => by cases hk) (fun _ => by omega), r1, ⟨r2.rho, r2.fz, r2.os, r2.tape, r2.output, r2.size, r2.same, r2.born, r2.cold⟩, fun i _ hi => rset_ne hi _, Nat.le_refl _⟩
  · cases h
/-- After blocks are let go. -/
theorem Does.of_drop (hR : R T F ρ s W) {id0 d : Nat} {r : AV} {s' : St} {m : Sem Value} (h : Does P T id0 (s.set d none) ρ F W r s' m) : Does P T id0 s ρ F W r s' m := by
  obtain ⟨v, W', ρ', F', h1, h2, h3, h4, h5, h6⟩ := h
  exact ⟨v, W', ρ', F', h1, h2, h3, (hR.drop d).2.trans h4, h5, h6⟩
/-- Room in a block: cells are written. -/
theorem put_ok (hR : R T F ρ s W) {id β size off : Nat} {c xs : List AV} {vs : List Value} {e : TypeId} {ex : Bool} (hb : s.h id = some (.cells c e ex true)) (hρ : ρ id = some (β, size)) (hcr : CR T F ρ xs vs) (hle : off + xs.length ≤ c.length) :
    (∀ j, j < vs.length → (W.cell? ⟨β, off + j, none⟩).isSome = true) ∧ (∀ j, j < vs.length → W.frozen? ⟨β, off + j, none⟩ = false) ∧
    R T F ρ (s.set id (some (.cells (setMany c off xs) e ex true))) (W.setCells β off vs) ∧ Step s ρ F W (s.set id (some (.cells (setMany c off xs) e ex true))) ρ F (W.setCells β off vs) := by
  obtain ⟨β', z', o, k1, k2, k3, k4⟩ := hR.lt hb
  rw [hρ] at k1; cases k1
  cases o with
  | cells C e' fr =>
    obtain ⟨rfl, m2, m3, m4, m5, m6⟩ := k3
    have hlen := hcr.1
    refine ⟨fun j hj => ?_, fun j hj => ?_, ?_⟩
    · have : off + j < C.size := by omega
      simp [World.cell?, k2, this]
    · have := m6 rfl (off + j) (by omega)
      simp only [World.frozen?, k2]
      simpa using this
    · obtain ⟨l1, l2⟩ := setMany_cr vs xs c C off hcr (by omega) (by omega) m5
      have hor : OR T F ρ size (.cells (setMany c off xs) e' ex true) (.cells (setV C off vs) e' fr) := ⟨rfl, by rw [setV_size]; exact m2, by rw [l1]; exact m3, fun hx => by rw [l1]; exact m4 hx, fun j a b => l2 j a b, m6⟩
      have hput := hR.put (b' := .cells (setMany c off xs) e' ex true) (o' := .cells (setV C off vs) e' fr) hb hρ hor
      have hW : W.setCells β off vs = putObj W β (.cells (setV C off vs) e' fr) := by
        rw [setCells_put vs W β off C e' fr k2]
        split
        · rename_i hn
          subst hn
          have hw : W.heap[β] = .cells C e' fr := by rw [Array.getElem?_eq_getElem k4] at k2; simpa using k2
          cases W
          simp only [putObj, setV]
          congr 1
          apply Array.ext_getElem?
          intro i
          rw [Array.getElem?_setIfInBounds]
          split
          · rename_i e; subst e; simp at k4; simp [k4]; exact hw
          · rfl
        · rfl
      rw [hW]
      exact hput
  | _ => exact k3.elim
end
end Go.Proofs.YtdehdahimkcakaaGreatDoor.Ai
