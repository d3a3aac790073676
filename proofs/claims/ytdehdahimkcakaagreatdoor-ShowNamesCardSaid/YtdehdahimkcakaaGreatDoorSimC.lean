/- The interpreter is sound: parts 9 to 12. -/
import Derived.Test.YtdehdahimkcakaaGreatDoorSimB
import Derived.Deep.AppendSrc
import Derived.Lib.UnsafeStr
import Derived.MapKept
set_option linter.unusedVariables false
set_option linter.unusedSimpArgs false
/-! Lengths, append, copy. -/
namespace Go.Proofs.YtdehdahimkcakaaGreatDoor.Ai
open Go

section
variable {P : Program} {T : Ty} {F : Fz} {ρ : Rho} {s : St} {W : World}

theorem At.src {c : List AV} {β b : Nat} (h : At T F ρ W c β b) : ∃ news : List Value, CR T F ρ c news ∧ ∀ j v, news[j]? = some v → W.cell? ((⟨β, b, none⟩ : Addr).add j) = some v := by
  obtain ⟨g, hg⟩ := h
  refine ⟨(List.range c.length).map g, ⟨by simp, fun i a b => by simpa using (hg i a).2⟩, fun j v hj => ?_⟩
  have hlt : j < c.length := by
    rcases Nat.lt_or_ge j c.length with h' | h'
    · exact h'
    · rw [List.getElem?_eq_none (by simpa using h')] at hj; cases hj
  rw [List.getElem?_map, List.getElem?_range hlt] at hj
  simp only [Option.map_some, Option.some.injEq] at hj; subst hj
  rw [Addr.add_lit]; exact (hg j hlt).1
theorem cr_one {c : List AV} {vs : List Value} (h : CR T F ρ c vs) (h1 : c.all AV.one = true) : ∀ u ∈ vs, u.oneCell' = true := by
  intro u hu
  obtain ⟨i, hi, rfl⟩ := List.getElem_of_mem hu
  have hi' : i < c.length := by rw [h.1]; exact hi
  exact one_ok (List.all_eq_true.1 h1 _ (List.getElem_mem hi')) (h.2 i hi' hi)
/-- What is copied from: so many elements, and their cells. -/
structure Gives (P : Program) (T : Ty) (F : Fz) (ρ : Rho) (W : World) (z : Nat) (c : List AV) (u : Value) (n : Nat) (news : List Value) : Prop where
  len : ∀ W', (Builtin.lenOf u).run P W' = .ok n W'
  size : c.length = n * z
  cr : CR T F ρ c news
  cells : ∀ k, k ≤ n → ∀ W', (∀ a v, W.cell? a = some v → W'.cell? a = some v) → (Builtin.firstCells z k u).run P W' = .ok (news.take (k * z)).toArray W'
theorem Gives.of_at {c : List AV} {β b z n cap : Nat} (h : At T F ρ W c β b) (hc : c.length = n * z) : ∃ news, Gives P T F ρ W z c (.slice (some ⟨β, b, none⟩) n cap) n news := by
  obtain ⟨news, h1, h2⟩ := h.src
  refine ⟨news, fun _ => rfl, hc, h1, fun k hk W' hW => run_firstCells_some W' z k _ n cap _ ?_ fun j v hj => ?_⟩
  · have := Nat.mul_le_mul_right z hk
    have := h1.1
    simp; omega
  · rw [List.getElem?_take] at hj
    split at hj
    · exact hW _ _ (h2 j v hj)
    · cases hj
theorem flatMap_len {l : List AV} {z : Nat} (h : ∀ i (h : i < l.length), l[i].cells.length = z) : (l.flatMap AV.cells).length = l.length * z := by
  induction l with
  | nil => simp
  | cons v l ih =>
    have := h 0 (by simp)
    simp only [List.getElem_cons_zero] at this
    rw [List.flatMap_cons, List.length_append, ih (fun i hi => h (i + 1) (by rw [List.length_cons]; omega)), this, List.length_cons, Nat.succ_mul]; omega
theorem src_ok (hR : R T F ρ s W) {z : Nat} (h0 : 0 < z) {x : AV} {c : List AV} (h : srcCells z x s = some c) {u : Value} (hu : VR T F ρ x u) : ∃ n news, Gives P T F ρ W z c u n news := by
  unfold srcCells at h
  split at h
  · simp only [Option.some.injEq] at h; subst h
    cases hu
    exact ⟨0, [], fun _ => rfl, by simp, CR.nil, fun k hk W' _ => by rw [Nat.le_zero.1 hk]; simpa using run_firstCells_none W' z 0 0 0⟩
  · simp only [Option.some.injEq] at h; subst h
    cases hu with
    | emp a c => exact ⟨0, [], fun _ => rfl, by simp, CR.nil, fun k hk W' _ => by rw [Nat.le_zero.1 hk]; simp [Builtin.firstCells, loadCells, loadCellsFrom]⟩
  · rename_i b
    split at h
    · rename_i hz1
      subst hz1
      simp only [Option.some.injEq] at h; subst h
      cases hu with
      | str _ bb hbb =>
        subst hbb
        have hbs : bb.data.toList.length = bb.size := by rw [Array.length_toList]; rfl
        refine ⟨bb.size, byteCells bb, fun _ => rfl, by rw [List.length_map, hbs, Nat.mul_one], ⟨by rw [List.length_map, hbs, byteCells_length], fun i a b => ?_⟩, fun k hk W' _ => ?_⟩
        · simp only [byteCells, List.getElem_map]; exact .int _ _
        · simp only [Builtin.firstCells, Sem.run_pure, Nat.mul_one]
          congr 1
          apply Array.ext'
          simp only [Array.toList_map, byteCells]
          rw [Lib.extract_data, List.drop_zero, Nat.sub_zero, List.map_take]
    · cases h
  · rename_i ex l
    split at h
    · rename_i hall
      simp only [Option.some.injEq] at h; subst h
      obtain ⟨a, cp, rfl, hc, hx, hne⟩ := sl_inv hu
      have hzl : ∀ i (h : i < l.length), l[i].cells.length = z := fun i hi => by
        have := List.all_eq_true.1 hall _ (List.getElem_mem hi)
        simpa using this
      by_cases hl : l = []
      · subst hl
        refine ⟨0, [], fun _ => rfl, by simp, CR.nil, fun k hk W' _ => ?_⟩
        rw [Nat.le_zero.1 hk]
        cases a with
        | none => simpa using run_firstCells_none W' z 0 0 cp
        | some a => simp [Builtin.firstCells, loadCells, loadCellsFrom]
      · obtain ⟨β, b, z', rfl, hz', w, hf, hv⟩ := hne hl
        have : z' = z := by
          have hp := List.length_pos_iff.2 hl
          rw [← hz' 0 hp, hzl 0 hp]
        subst this
        obtain ⟨news, hg⟩ := Gives.of_at (P := P) (cap := cp) (sl_at hR (ex := ex) hz' hf hv h0) (flatMap_len hz')
        exact ⟨_, news, hg⟩
    · cases h
  · rename_i id off n cap e
    cases hb : s.h id with
    | none => rw [hb] at h; cases h
    | some bk =>
      rw [hb] at h
      cases bk with
      | cells cc e0 ex wr =>
        simp only at h
        split at h
        · rename_i hle
          simp only [Option.some.injEq] at h; subst h
          cases hu with
          | ref _ _ _ _ _ β size cp z1 ag hρ hz1 hn hk hk2 =>
            obtain ⟨β', z', q1, q2⟩ := hR.at hb
            rw [hρ] at q1; cases q1
            have hat := q2.take off (n * z)
            rw [Nat.zero_add] at hat
            obtain ⟨news, hg⟩ := Gives.of_at (P := P) (cap := cp) hat (n := n) (z := z) (by simp; omega)
            exact ⟨_, news, hg⟩
        · cases h
      | _ => cases h
  · cases h

theorem Gives.all {z : Nat} {c : List AV} {u : Value} {n : Nat} {news : List Value} (h : Gives P T F ρ W z c u n news) {W' : World} (hW : ∀ a v, W.cell? a = some v → W'.cell? a = some v) :
    (Builtin.firstCells z n u).run P W' = .ok news.toArray W' := by
  have := h.cells n (Nat.le_refl _) W' hW
  rwa [List.take_of_length_le (by rw [← h.cr.1, h.size]; exact Nat.le_refl _)] at this
theorem drew_cells (W : World) : ∀ a v, W.cell? a = some v → W.drew.cell? a = some v := fun _ _ h => h

/-- What is appended. -/
structure Feed (P : Program) (T : Ty) (F : Fz) (ρ : Rho) (W : World) (e : TypeId) (i : TypeInfo) (ats : Array TypeId) (u : Value) (nc : List AV) (m : Nat) (news : List Value) : Prop where
  kind : ∃ tx d, ats[1]? = some tx ∧ P.underlying tx = some d ∧ ((((∃ e', d = .slice e') ∨ d = .string) ∧ (∀ W', (Builtin.lenOf u).run P W' = .ok m W') ∧ (Builtin.firstCells i.size m u).run P W = .ok news.toArray W ∧ (Builtin.firstCells i.size m u).run P W.drew = .ok news.toArray W.drew) ∨
    (∃ k, d = .int k) ∧ ∃ k j zr, u = .int k j ∧ 0 ≤ j ∧ j ≤ most ∧ j * i.bytes ≤ most ∧ m = j.toNat ∧ i.zero = some zr ∧ news = (Builtin.zeroCells zr.cells m).toList)
  cr : CR T F ρ nc news
  size : nc.length = m * i.size
  one : nc.all AV.one = true
theorem app_room {e : TypeId} {i : TypeInfo} {ats : Array TypeId} {u : Value} {nc : List AV} {m : Nat} {news : List Value} (hf : Feed P T F ρ W e i ats u nc m news) {t : TypeId} (hat : ats[0]? = some t) (ht : P.underlying t = some (.slice e)) (hi : P.info? e = some i) (h0 : 0 < i.size)
    {ty : TypeId} {b off sLen sCap : Nat} (hroom : sLen + m ≤ sCap) (hc : ∀ j, j < news.length → (W.cell? ⟨b, off + sLen * i.size + j, none⟩).isSome = true) (hfr : ∀ j, j < news.length → W.frozen? ⟨b, off + sLen * i.size + j, none⟩ = false) :
    (Builtin.append_ ats ty #[.slice (some ⟨b, off, none⟩) sLen sCap, u]).run P W = .ok (.slice (some ⟨b, off, none⟩) (sLen + m) sCap) (W.setCells b (off + sLen * i.size) news) := by
  have hst := run_storeCells_cells (P := P) b (off + sLen * i.size) news 0 W (by simpa using hc) (by simpa using hfr) (cr_one hf.cr hf.one)
  simp only [Nat.add_zero] at hst
  obtain ⟨tx, d, h1, h2, h3 | h3⟩ := hf.kind
  · obtain ⟨hd, hl, hn, _⟩ := h3
    rcases hd with ⟨e', rfl⟩ | rfl <;> simp [Builtin.append_, hat, h1, run_underlying ht, run_underlying h2, sizeOf, typeInfo, hi, hl, hroom, hn, Addr.add_lit, hst]
  · obtain ⟨⟨k, rfl⟩, k', j, zr, rfl, p0, p1, p2, rfl, hz, rfl⟩ := h3
    have hm : (most : Int) = 1099511627776 := by decide
    have hw : IntKind.i64.wrap j = j := IntWalk.i64_in j (by omega)
    have q0 : ¬ j < 0 := by omega
    have q1 : ¬ (281474976710656 < j * (i.bytes : Int)) := by omega
    by_cases hnz : j = 0
    · subst hnz
      simp only [Int.toNat_zero] at *
      have e0 : (Builtin.zeroCells zr.cells 0).toList = [] := by simp [Builtin.zeroCells]
      rw [e0] at hst ⊢
      have hr : sLen ≤ sCap := by omega
      simp [Builtin.append_, hat, h1, run_underlying ht, run_underlying h2, sizeOf, typeInfo, hi, asInt, asIntOf, hw, hr, hz, Addr.add_lit, zeroValue, storeCells, World.setCells]
    · have hj : j.toNat ≠ 0 := by omega
      have hs0 : i.size ≠ 0 := by omega
      simp [Builtin.append_, hat, h1, run_underlying ht, run_underlying h2, sizeOf, typeInfo, hi, asInt, asIntOf, hw, q0, q1, hroom, hz, Addr.add_lit, zeroValue, hst, hs0, p0]
      intro h'
      exfalso
      rcases Nat.mul_eq_zero.1 h' with h' | h' <;> omega
theorem app_grow {e : TypeId} {i : TypeInfo} {ats : Array TypeId} {u : Value} {nc : List AV} {m : Nat} {news : List Value} (hf : Feed P T F ρ W e i ats u nc m news) {t : TypeId} (hat : ats[0]? = some t) (ht : P.underlying t = some (.slice e)) (hi : P.info? e = some i) (h0 : 0 < i.size)
    {z : Value} (hz : i.zero = some z) {ty : TypeId} {base : Option Addr} {sLen sCap : Nat} {olds : List Value} (hold : (Builtin.firstCells i.size sLen (.slice base sLen sCap)).run P W.drew = .ok olds.toArray W.drew)
    (hg : sCap < sLen + m) (hb1 : (sLen + m) * i.bytes ≤ most) (hb2 : sLen + m ≤ most) :
    (Builtin.append_ ats ty #[.slice base sLen sCap, u]).run P W = .ok (.slice (some ⟨W.heap.size, 0, none⟩) (sLen + m) (grownCap W (sLen + m) sCap e))
        (W.drew.alloc (.cells ((olds ++ news).toArray ++ Builtin.zeroCells z.cells (grownCap W (sLen + m) sCap e - (sLen + m))) e)) := by
  have hm : most = 1099511627776 := by decide
  have hfit : Builtin.nextslicecap (sLen + m) sCap * i.bytes ≤ 281474976710656 := growslice_fits hg (by omega)
  have hn : ¬ (sLen + m ≤ sCap) := by omega
  have h63' : ¬ (9223372036854775807 < ((sLen : Int) + (m : Int))) := by omega
  have h48' : ¬ (281474976710656 < Builtin.nextslicecap (sLen + m) sCap * i.bytes) := by omega
  obtain ⟨tx, d, h1, h2, h3 | h3⟩ := hf.kind
  · obtain ⟨hd, hl, _, hcD⟩ := h3
    rcases hd with ⟨e', rfl⟩ | rfl <;>
      (simp [Builtin.append_, hat, h1, run_underlying ht, run_underlying h2, sizeOf, typeInfo, zeroValue, hi, hz, hl, hn, h63', h48', Question.forced, hcD, hold, newRow, grownCap]
       congr 2
       apply Array.ext'
       simp [List.append_assoc])
  · obtain ⟨⟨k, rfl⟩, k', j, zr, rfl, p0, p1, p2, rfl, hz2, rfl⟩ := h3
    rw [hz] at hz2; cases hz2
    have hm' : (most : Int) = 1099511627776 := by decide
    have hw : IntKind.i64.wrap j = j := IntWalk.i64_in j (by omega)
    have q0 : ¬ j < 0 := by omega
    have q1 : ¬ (281474976710656 < j * (i.bytes : Int)) := by omega
    have hs0 : i.size ≠ 0 := by omega
    have h63'' : ¬ (9223372036854775807 < ((sLen : Int) + max j 0)) := by
      have : max j 0 = j := by omega
      rw [this]; omega
    by_cases hnz : j = 0
    · subst hnz
      have e0 : (Builtin.zeroCells z.cells 0).toList = [] := by simp [Builtin.zeroCells]
      simp only [Int.toNat_zero] at *
      rw [e0]
      have hn' : ¬ (sLen ≤ sCap) := by omega
      have h63n : ¬ (9223372036854775807 < (sLen : Int)) := by omega
      have h48n : ¬ (281474976710656 < Builtin.nextslicecap sLen sCap * i.bytes) := by simpa using h48'
      simp [Builtin.append_, hat, h1, run_underlying ht, run_underlying h2, sizeOf, typeInfo, zeroValue, hi, hz, asInt, asIntOf, hw, hn', h63n, h48n, Question.forced, hold, newRow, grownCap]
    · have hj : ¬ j ≤ 0 := by omega
      simp [Builtin.append_, hat, h1, run_underlying ht, run_underlying h2, sizeOf, typeInfo, zeroValue, hi, hz, asInt, asIntOf, hw, q0, q1, hs0, hn, hj, h63', h63'', h48', Question.forced, hold, newRow, grownCap]
      have hjz : ¬ j.toNat * i.size = 0 := by
        intro h'
        rcases Nat.mul_eq_zero.1 h' with h' | h' <;> omega
      rw [if_neg hjz]
      congr 3
      apply Array.ext'
      simp [List.append_assoc]
/-- A block gets another number. -/
theorem R.renew (h : R T F ρ s W) {id nid β z : Nat} {b b' : Blk} {o' : Obj} (hb : s.h id = some b) (hr : ρ id = some (β, z)) (ho : OR T F ρ z b' o') (hnone : ρ nid = none) (hlt : nid < s.nx) :
    R T F (rset ρ nid (β, z)) ((s.set id none).set nid (some b')) (putObj W β o') ∧ Step s ρ F W ((s.set id none).set nid (some b')) (rset ρ nid (β, z)) F (putObj W β o') := by
  have hle := rset_le hnone (β, z)
  obtain ⟨β0, z0, o0, k1, k2, k3, k4⟩ := h.lt hb
  rw [hr] at k1; cases k1
  have hne : id ≠ nid := fun e => by rw [e, hnone] at hr; cases hr
  have hother : ∀ γ, γ ≠ β → (putObj W β o').heap[γ]? = W.heap[γ]? := fun γ hγ => by
    simp only [putObj]; rw [Array.getElem?_setIfInBounds]; rw [if_neg (Ne.symm hγ)]
  have hlive : ∀ i, i ≠ nid → ((s.set id none).set nid (some b')).h i ≠ none → s.h i ≠ none ∧ i ≠ id := fun i hi hl => by
    rw [set_ne _ _ hi] at hl
    by_cases hii : i = id
    · subst hii; simp at hl
    · rw [set_ne _ _ hii] at hl; exact ⟨hl, hii⟩
  refine ⟨⟨?_, ?_, ?_, ?_⟩, ⟨hle, FLe.refl _, rfl, rfl, rfl, by simp [putObj], fun γ hγ hl => hother γ fun e => hl ⟨id, z, by rw [hb]; simp, by rw [e]; exact hr⟩, ?_, fun _ _ h _ _ => h⟩⟩
  · intro i c hc
    by_cases hii : i = nid
    · subst hii
      rw [set_same] at hc; cases hc
      exact ⟨β, z, o', rset_same _ _, by simp only [putObj]; rw [Array.getElem?_setIfInBounds]; simp [k4], ho.mono (FLe.refl _) hle⟩
    · obtain ⟨hl, hni⟩ := hlive i hii (by rw [hc]; simp)
      rw [set_ne _ _ hii, set_ne _ _ hni] at hc
      obtain ⟨γ, z', o, h1, h2, h3, h4⟩ := h.lt hc
      refine ⟨γ, z', o, hle _ _ h1, ?_, h3.mono (FLe.refl _) hle⟩
      rw [hother γ]
      · exact h2
      · intro e; subst e
        exact hni (h.inj i id γ z' z hl (by rw [hb]; simp) h1 hr)
  · intro i j γ z1 z2 hi hj h1 h2
    by_cases hii : i = nid
    · by_cases hjj : j = nid
      · rw [hii, hjj]
      · subst hii
        rw [rset_same] at h1; cases h1
        rw [rset_ne hjj] at h2
        obtain ⟨hl, hni⟩ := hlive j hjj hj
        exact absurd (h.inj j id β z2 z hl (by rw [hb]; simp) h2 hr) hni
    · by_cases hjj : j = nid
      · subst hjj
        rw [rset_same] at h2; cases h2
        rw [rset_ne hii] at h1
        obtain ⟨hl, hni⟩ := hlive i hii hi
        exact absurd (h.inj i id β z1 z hl (by rw [hb]; simp) h1 hr) hni
      · rw [rset_ne hii] at h1
        rw [rset_ne hjj] at h2
        exact h.inj i j γ z1 z2 (hlive i hii hi).1 (hlive j hjj hj).1 h1 h2
  · intro a v ha
    obtain ⟨h1, h2⟩ := h.fz a v ha
    have hnb : a.block ≠ β := fun e => h2 id z (by rw [hb]; simp) (by rw [e]; exact hr)
    refine ⟨?_, fun i z' hi hc => ?_⟩
    · unfold World.cell? at h1 ⊢
      rw [hother _ hnb]; exact h1
    · by_cases hii : i = nid
      · subst hii
        rw [rset_same] at hc
        simp only [Option.some.injEq, Prod.mk.injEq] at hc
        exact hnb hc.1.symm
      · rw [rset_ne hii] at hc
        exact h2 i z' (hlive i hii hi).1 hc
  · intro i hi
    have hi2 : s.nx ≤ i := hi
    rw [rset_ne (by omega)]
    exact h.fresh i hi2
  · intro γ ⟨i, z', hi, hc⟩ hγ
    by_cases hii : i = nid
    · subst hii
      rw [rset_same] at hc; cases hc
      exact ⟨id, z, by rw [hb]; simp, hr⟩
    · rw [rset_ne hii] at hc
      exact ⟨i, z', (hlive i hii hi).1, hc⟩

/-- A row that has grown. -/
theorem grow_ok (hT : TyOk P T) (hR : R T F ρ s W) {e : TypeId} {z b : Nat} {ag : Bool} (hl : lay T e = some (z, ag)) (hbb : bytesOf T e = some b) {zv : AV} (hz : zero T e = some zv) (hzl : zv.cells.length = z) (h0 : 0 < z)
    {base : Option Addr} {sLen sCap m : Nat} {olds news : List Value} {oc nc : List AV} {i : TypeInfo} (hi : P.info? e = some i)
    (hold : (Builtin.firstCells i.size sLen (.slice base sLen sCap)).run P W.drew = .ok olds.toArray W.drew) (ho : CR T F ρ oc olds) (hol : oc.length = sLen * i.size)
    {ats : Array TypeId} {u : Value} (hf : Feed P T F ρ W e i ats u nc m news) {t ty : TypeId} (hat : ats[0]? = some t) (ht : P.underlying t = some (.slice e)) (hg : sCap < sLen + m) {id : Nat} (hid : ρ id = none) (hlt : id < s.nx) {r : AV} {s' : St} (h : grown e z b (oc ++ nc) id s = some (r, s')) :
    Does P T id s ρ F W r s' (Builtin.append_ ats ty #[.slice base sLen sCap, u]) := by
  unfold grown at h
  split at h
  · rename_i hfits
    simp only [newSl, Option.some.injEq, Prod.mk.injEq] at h
    obtain ⟨rfl, rfl⟩ := h
    obtain ⟨i1, d1, hi1, hs1, _, _⟩ := lay_ok hT hl
    rw [hi] at hi1; cases hi1
    obtain ⟨i2, hi2, hb2⟩ := run_bytes hT hbb
    rw [hi] at hi2; cases hi2
    obtain ⟨i3, zr, hi3, hz3, rfl⟩ := zero_ok hT hz
    rw [hi] at hi3; cases hi3
    have hlen : (oc ++ nc).length = (sLen + m) * z := by rw [List.length_append, hol, hf.size, hs1, Nat.add_mul]
    have hdiv : (oc ++ nc).length / z = sLen + m := by rw [hlen]; exact Nat.mul_div_cancel _ h0
    rw [hdiv] at hfits ⊢
    simp only [fitsA, Bool.and_eq_true, Nat.ble_eq] at hfits
    have hrun := app_grow (ty := ty) hf hat ht hi (by omega) hz3 hold hg (by rw [hb2]; exact hfits.1) hfits.2
    have hge := grownCap_ge W (sLen + m) sCap e
    generalize grownCap W (sLen + m) sCap e = cap at hrun hge
    have hzs : zr.cells.size = z := by
      have := (ofV_cells (T := T) (F := F) (ρ := ρ) zr).1
      simp at this; omega
    have hcr := ho.append hf.cr
    have hnl : (olds ++ news).length = (sLen + m) * z := by rw [← hcr.1]; exact hlen
    have hCs : (((olds ++ news).toArray ++ Builtin.zeroCells zr.cells (cap - (sLen + m))) : Array Value).size = cap * z := by
      rw [Array.size_append, size_zeroCells, List.size_toArray, hnl, hzs, ← Nat.add_mul, Nat.add_sub_cancel' hge]
    have hRd : R T F ρ s W.drew := ⟨hR.blk, hR.inj, hR.fz, hR.fresh⟩
    have hle : (sLen + m) * z ≤ cap * z := Nat.mul_le_mul_right z hge
    obtain ⟨r1, r2⟩ := hRd.born (s' := s.set id (some (.cells (oc ++ nc) e false true))) hid (.cells (oc ++ nc) e false true) (.cells ((olds ++ news).toArray ++ Builtin.zeroCells zr.cells (cap - (sLen + m))) e) (cap * z)
      ⟨rfl, hCs, by rw [hlen]; exact hle, (by intro h; cases h), fun j a b => by
        have hj : j < (olds ++ news).length := by rw [← hcr.1]; exact a
        rw [Array.getElem_append_left (by simpa using hj)]
        have := hcr.2 j a hj
        simpa using this, fun _ j _ hh => by simp at hh⟩ rfl (Nat.le_refl _) hlt
    refine ⟨_, _, _, F, hrun, VR.ref id 0 _ none e W.heap.size (cap * z) cap z ag (rset_same _ _) hl hge (fun k hk => by cases hk) (fun _ => by omega), r1, ⟨r2.rho, r2.fz, r2.os, r2.tape, r2.output, r2.size, r2.same, r2.born, r2.cold⟩, fun i _ hi => rset_ne hi _, Nat.le_refl _⟩
  · cases h
/-- After blocks are let go. -/
theorem Does.of_drop (hR : R T F ρ s W) {id0 d : Nat} {r : AV} {s' : St} {m : Sem Value} (h : Does P T id0 (s.set d none) ρ F W r s' m) : Does P T id0 s ρ F W r s' m := by
  obtain ⟨v, W', ρ', F', h1, h2, h3, h4, h5, h6⟩ := h
  exact ⟨v, W', ρ', F', h1, h2, h3, (hR.drop d).2.trans h4, h5, h6⟩
/-- Room in a block: cells are written. -/
theorem put_ok (hR : R T F ρ s W) {id β size off : Nat} {c xs : List AV} {vs : List Value} {e : TypeId} {ex : Bool} (hb : s.h id = some (.cells c e ex true)) (hρ : ρ id = some (β, size)) (hcr : CR T F ρ xs vs) (hle : off + xs.length ≤ c.length) :
    (∀ j, j < vs.length → (W.cell? ⟨β, off + j, none⟩).isSome = true) ∧ (∀ j, j < vs.length → W.frozen? ⟨β, off + j, none⟩ = false) ∧
    R T F ρ (s.set id (some (.cells (setMany c off xs) e ex true))) (W.setCells β off vs) ∧ Step s ρ F W (s.set id (some (.cells (setMany c off xs) e ex true))) ρ F (W.setCells β off vs) := by
  obtain ⟨β', z', o, k1, k2, k3, k4⟩ := hR.lt hb
  rw [hρ] at k1; cases k1
  cases o with
  | cells C e' fr =>
    obtain ⟨rfl, m2, m3, m4, m5, m6⟩ := k3
    have hlen := hcr.1
    refine ⟨fun j hj => ?_, fun j hj => ?_, ?_⟩
    · have : off + j < C.size := by omega
      simp [World.cell?, k2, this]
    · have := m6 rfl (off + j) (by omega)
      simp only [World.frozen?, k2]
      simpa using this
    · obtain ⟨l1, l2⟩ := setMany_cr vs xs c C off hcr (by omega) (by omega) m5
      have hor : OR T F ρ size (.cells (setMany c off xs) e' ex true) (.cells (setV C off vs) e' fr) := ⟨rfl, by rw [setV_size]; exact m2, by rw [l1]; exact m3, fun hx => by rw [l1]; exact m4 hx, fun j a b => l2 j a b, m6⟩
      have hput := hR.put (b' := .cells (setMany c off xs) e' ex true) (o' := .cells (setV C off vs) e' fr) hb hρ hor
      have hW : W.setCells β off vs = putObj W β (.cells (setV C off vs) e' fr) := by
        rw [setCells_put vs W β off C e' fr k2]
        split
        · rename_i hn
          subst hn
          have hw : W.heap[β] = .cells C e' fr := by rw [Array.getElem?_eq_getElem k4] at k2; simpa using k2
          cases W
          simp only [putObj, setV]
          congr 1
          apply Array.ext_getElem?
          intro i
          rw [Array.getElem?_setIfInBounds]
          split
          · rename_i e; subst e; simp at k4; simp [k4]; exact hw
          · rfl
        · rfl
      rw [hW]
      exact hput
  | _ => exact k3.elim
end
end Go.Proofs.YtdehdahimkcakaaGreatDoor.Ai
/-! append and copy. -/
namespace Go.Proofs.YtdehdahimkcakaaGreatDoor.Ai
open Go

section
variable {P : Program} {T : Ty} {F : Fz} {ρ : Rho} {s : St} {W : World}

theorem app_nothing {e : TypeId} {i : TypeInfo} {ats : Array TypeId} {u : Value} {m : Nat} {news : List Value} (hf : Feed P T F ρ W e i ats u [] m news) {t : TypeId} (hat : ats[0]? = some t) (ht : P.underlying t = some (.slice e)) (hi : P.info? e = some i) (h0 : 0 < i.size)
    {ty : TypeId} {base : Option Addr} {n cap : Nat} (hle : n ≤ cap) : (Builtin.append_ ats ty #[.slice base n cap, u]).run P W = .ok (.slice base n cap) W := by
  have hm0 : m = 0 := by
    have := hf.size
    simp only [List.length_nil] at this
    rcases Nat.mul_eq_zero.1 this.symm with h | h <;> omega
  have hnews : news = [] := List.eq_nil_of_length_eq_zero (by rw [← hf.cr.1]; rfl)
  subst hm0 hnews
  obtain ⟨tx, d, h1, h2, h3 | h3⟩ := hf.kind
  · obtain ⟨hd, hl, hn, _⟩ := h3
    rcases hd with ⟨e', rfl⟩ | rfl <;> cases base <;> simp [Builtin.append_, hat, h1, run_underlying ht, run_underlying h2, sizeOf, typeInfo, hi, hl, hle, hn, storeCells]
  · obtain ⟨⟨k, rfl⟩, k', j, zr, rfl, p0, p1, p2, hj, hz, hzc⟩ := h3
    have hj0 : j = 0 := by omega
    subst hj0
    have hw : IntKind.i64.wrap 0 = 0 := by decide
    cases base <;> simp [Builtin.append_, hat, h1, run_underlying ht, run_underlying h2, sizeOf, typeInfo, hi, asInt, asIntOf, hw, hle, hz, zeroValue, storeCells]

theorem appendA_ok (hT : TyOk P T) (hR : R T F ρ s W) {e : TypeId} {z b : Nat} {ag : Bool} (hl : lay T e = some (z, ag)) (hbb : bytesOf T e = some b) {zv : AV} (hz : zero T e = some zv) (hzl : zv.cells.length = z) (h0 : 0 < z)
    {i : TypeInfo} (hi : P.info? e = some i) {ats : Array TypeId} {u : Value} {nc : List AV} {m : Nat} {news : List Value} (hf : (nc.all AV.one = true) → Feed P T F ρ W e i ats u nc m news) {t ty : TypeId} (hat : ats[0]? = some t) (ht : P.underlying t = some (.slice e))
    {x : AV} {v : Value} (hv : VR T F ρ x v) {id0 : Nat} (hid : ρ id0 = none) (hlt : id0 < s.nx) {r : AV} {s' : St} (h : appendA e z b x nc id0 s = some (r, s')) : Does P T id0 s ρ F W r s' (Builtin.append_ ats ty #[v, u]) := by
  obtain ⟨i1, d1, hi1, hs1, _, _⟩ := lay_ok hT hl
  rw [hi] at hi1; cases hi1
  have h0i : 0 < i.size := by omega
  unfold appendA at h
  split at h
  · rename_i hemp
    have hnil : nc = [] := by simpa using hemp
    subst hnil
    have hf := hf rfl
    split at h
    · simp only [Option.some.injEq, Prod.mk.injEq] at h; obtain ⟨rfl, rfl⟩ := h
      cases hv
      exact Says.does hR id0 ⟨_, app_nothing hf hat ht hi h0i (Nat.le_refl _), .nils⟩
    · simp only [Option.some.injEq, Prod.mk.injEq] at h; obtain ⟨rfl, rfl⟩ := h
      obtain ⟨a, c, rfl, hc, hx, hne⟩ := sl_inv hv
      exact Says.does hR id0 ⟨_, app_nothing hf hat ht hi h0i hc, hv⟩
    · simp only [Option.some.injEq, Prod.mk.injEq] at h; obtain ⟨rfl, rfl⟩ := h
      have hv' := hv
      cases hv with
      | ref _ _ _ _ _ β size c z' ag' hρ hz' hn hk hk2 => exact Says.does hR id0 ⟨_, app_nothing hf hat ht hi h0i hn, hv'⟩
    · cases h
  · rename_i hemp
    split at h
    · cases h
    · rename_i hone
      have hone' : nc.all AV.one = true := by simpa using hone
      have hf := hf hone'
      have hsz : nc.length = m * z := by rw [hf.size, hs1]
      have hdiv : nc.length / z = m := by rw [hsz]; exact Nat.mul_div_cancel _ h0
      have hm0 : 0 < m := by
        rcases Nat.eq_zero_or_pos m with h' | h'
        · subst h'; rw [Nat.zero_mul] at hsz
          exact absurd (List.eq_nil_of_length_eq_zero hsz) (by simpa using hemp)
        · exact h'
      split at h
      · cases hv
        refine grow_ok (base := none) (sLen := 0) (sCap := 0) (olds := []) (oc := []) hT hR hl hbb hz hzl h0 hi (run_firstCells_none W.drew i.size 0 0 0) CR.nil (by simp) hf hat ht (by omega) hid hlt ?_
        rw [List.nil_append]; exact h
      · rename_i l
        split at h
        · rename_i hall
          have hv' := hv
          obtain ⟨a, c, rfl, hc, hx, hne⟩ := sl_inv hv
          obtain ⟨n, olds, hg⟩ := src_ok (P := P) hR h0 (x := .sl true l) (c := l.flatMap AV.cells) (by simp only [srcCells]; rw [if_pos hall]) hv'
          have hn : n = l.length := by
            have h1 := hg.len W
            simp only [Builtin.lenOf, Sem.run_pure, Result.ok.injEq] at h1
            exact h1.1.symm
          subst hn
          have := hg.all (drew_cells W)
          rw [← hs1] at this
          refine grow_ok (olds := olds) (oc := l.flatMap AV.cells) hT hR hl hbb hz hzl h0 hi this hg.cr (by rw [hg.size, hs1]) hf hat ht (by have := hx rfl; omega) hid hlt h
        · cases h
      · rename_i id off n cap e1
        cases hb : s.h id with
        | none => rw [hb] at h; simp at h
        | some bk =>
          rw [hb] at h
          cases bk with
          | cells c e' ex wr =>
            cases wr with
            | false => simp at h
            | true =>
              simp only at h
              split at h
              · rename_i hc0
                obtain ⟨hle, rfl⟩ := hc0
                cases hv with
                | ref _ _ _ _ _ β size cp z' ag' hρ hz' hn hk hk2 =>
                  rw [hl] at hz'; cases hz'
                  obtain ⟨hsh, hcs⟩ := shape_ok hR hb hρ
                  obtain ⟨β', z', q1, q2⟩ := hR.at hb
                  rw [hρ] at q1; cases q1
                  have hat0 := q2.take off (n * z)
                  rw [Nat.zero_add] at hat0
                  obtain ⟨olds, hg⟩ := Gives.of_at (P := P) (cap := cp) hat0 (n := n) (z := z) (by simp; omega)
                  have hold := hg.all (drew_cells W)
                  rw [← hs1] at hold
                  have hinplace : n + m ≤ cp → off + n * z + nc.length ≤ c.length → Does P T id0 s ρ F W (.ref id off (n + m) cap e1) (s.set id (some (.cells (setMany c (off + n * z) nc) e' ex true))) (Builtin.append_ ats ty #[.slice (some ⟨β, off, none⟩) n cp, u]) := by
                    intro hcap hfit
                    obtain ⟨p1, p2, p3, p4⟩ := put_ok (vs := news) hR hb hρ hf.cr hfit
                    refine ⟨_, _, ρ, F, app_room hf hat ht hi h0i hcap (by rw [hs1]; exact p1) (by rw [hs1]; exact p2), .ref _ _ _ _ _ β size cp z ag hρ hl hcap hk hk2, by rw [hs1]; exact p3, by rw [hs1]; exact p4, fun _ _ _ => rfl, Nat.le_refl _⟩
                  split at h
                  · rename_i k
                    obtain ⟨hck, hks⟩ := hk k rfl
                    rw [hdiv] at h
                    split at h
                    · rename_i hroom
                      split at h
                      · rename_i hfit
                        simp only [Option.some.injEq, Prod.mk.injEq] at h; obtain ⟨rfl, rfl⟩ := h
                        exact hinplace (by omega) hfit
                      · cases h
                    · rename_i hroom
                      have e1' : (c.take (off + n * z)).drop off = (c.drop off).take (n * z) := by rw [List.drop_take]; congr 1; omega
                      rw [e1'] at h
                      exact grow_ok hT hR hl hbb hz hzl h0 hi hold hg.cr (by rw [hg.size, hs1]) hf hat ht (by omega) hid hlt h
                  · have hsize := hk2 rfl
                    rw [hdiv] at h
                    split at h
                    · rename_i hfit
                      simp only [Option.some.injEq, Prod.mk.injEq] at h; obtain ⟨rfl, rfl⟩ := h
                      refine hinplace ?_ hfit
                      have h2 : (n + m) * z ≤ cp * z := by rw [Nat.add_mul]; omega
                      exact Nat.le_of_mul_le_mul_right h2 h0
                    · rename_i hfit
                      split at h
                      · rename_i hc1
                        obtain ⟨hend, rfl, rfl⟩ := hc1
                        rw [Nat.zero_add] at hend hsize
                        have hcc : (c.drop 0).take (n * z) = c := by rw [List.drop_zero, hend]; exact List.take_length
                        rw [hcc] at hg
                        by_cases hroom : n + m ≤ cp
                        · -- the real row has room
                          unfold grown at h
                          split at h
                          · simp only [newSl, Option.some.injEq, Prod.mk.injEq] at h
                            obtain ⟨rfl, rfl⟩ := h
                            obtain ⟨β', z', o, k1, k2, k3, k4⟩ := hR.lt hb
                            rw [hρ] at k1; cases k1
                            cases o with
                            | cells C e'' fr =>
                              obtain ⟨rfl, m2, m3, m4, m5, m6⟩ := k3
                              have hnl : news.length = m * z := by rw [← hf.cr.1]; exact hsz
                              have hfits : n * z + m * z ≤ size := by rw [← Nat.add_mul, ← hsize]; exact Nat.mul_le_mul_right z hroom
                              have hlen2 : (c ++ nc).length = (n + m) * z := by rw [List.length_append, ← hend, hsz, Nat.add_mul]
                              have hd2 : (c ++ nc).length / z = n + m := by rw [hlen2]; exact Nat.mul_div_cancel _ h0
                              have hor : OR T F ρ size (.cells (c ++ nc) e'' false true) (.cells (setV C (n * z) news) e'' fr) := by
                                refine ⟨rfl, by rw [setV_size]; exact m2, by rw [hlen2, Nat.add_mul]; exact hfits, (by intro h; cases h), fun j a b => ?_, m6⟩
                                have hg2 := setV_get news C (n * z) j (by rw [m2, hnl]; exact hfits)
                                rw [Array.getElem?_eq_getElem b] at hg2
                                rw [List.length_append] at a
                                by_cases hj : j < c.length
                                · rw [if_neg (by omega), Array.getElem?_eq_getElem (by omega)] at hg2
                                  simp only [Option.some.injEq] at hg2
                                  rw [hg2, List.getElem_append_left hj]
                                  exact m5 j hj (by omega)
                                · have hjn : j - n * z < news.length := by omega
                                  rw [if_pos ⟨by omega, by omega⟩, List.getElem?_eq_getElem hjn] at hg2
                                  simp only [Option.some.injEq] at hg2
                                  rw [hg2, List.getElem_append_right (by omega)]
                                  have := hf.cr.2 (j - n * z) (by omega) hjn
                                  simp only [← hend]
                                  exact this
                              obtain ⟨r1, r2⟩ := hR.renew (b' := .cells (c ++ nc) e'' false true) hb hρ hor hid hlt
                              have hW : W.setCells β (0 + n * i.size) news = putObj W β (.cells (setV C (n * z) news) e'' fr) := by
                                rw [hs1, Nat.zero_add, setCells_put news W β (n * z) C e'' fr k2, if_neg]
                                intro hn0
                                rw [hn0, List.length_nil] at hnl
                                rcases Nat.mul_eq_zero.1 hnl.symm with h' | h' <;> omega
                              have hrun := app_room (ty := ty) (b := β) (off := 0) (sLen := n) (sCap := cp) hf hat ht hi h0i hroom (fun j hj => by
                                have : 0 + n * i.size + j < C.size := by rw [hs1, m2]; omega
                                simp only [World.cell?, k2]
                                simp; omega) (fun j hj => by
                                have := m6 rfl (0 + n * i.size + j) (by rw [hs1]; omega)
                                simp only [World.frozen?, k2]
                                simpa using this)
                              rw [hW] at hrun
                              rw [hd2]
                              refine ⟨_, _, _, F, hrun, VR.ref id0 0 _ none e'' β size cp z ag (rset_same _ _) hl hroom (fun k hk => by cases hk) (fun _ => by omega), r1, r2, fun i _ hi => rset_ne hi _, Nat.le_refl _⟩
                            | _ => exact k3.elim
                          · cases h
                        · refine Does.of_drop hR (d := id) ?_
                          exact grow_ok hT (hR.drop id).1 hl hbb hz hzl h0 hi hold hg.cr (by rw [hg.size, hs1]) hf hat ht (by omega) hid hlt h
                      · cases h
              · cases h
          | _ => simp at h
      · cases h
end
end Go.Proofs.YtdehdahimkcakaaGreatDoor.Ai
/-! The built-in functions. -/
namespace Go.Proofs.YtdehdahimkcakaaGreatDoor.Ai
open Go

section
variable {P : Program} {T : Ty} {F : Fz} {ρ : Rho} {s : St} {W : World}

theorem copyA_ok (hT : TyOk P T) (hR : R T F ρ s W) {e : TypeId} {z : Nat} {ag : Bool} (hl : lay T e = some (z, ag)) (h0 : 0 < z) {ats : Array TypeId} {t ty : TypeId} (hat : ats[0]? = some t) (ht : P.underlying t = some (.slice e))
    {u v : Value} {c : List AV} {m : Nat} {news : List Value} (hg : Gives P T F ρ W z c u m news) {x : AV} (hv : VR T F ρ x v) {r : AV} {s' : St} (h : copyA z x c s = some (r, s')) (id0 : Nat) : Does P T id0 s ρ F W r s' (Builtin.copy_ ats ty #[v, u]) := by
  have h00 : ∀ a c, (Builtin.copy_ ats ty #[.slice a 0 c, u]).run P W = .ok (.int .i64 0) W := fun a c => by
    have hc := hg.cells 0 (Nat.zero_le _) W (fun _ _ h => h)
    rw [Nat.zero_mul, List.take_zero] at hc
    cases a <;> simp [Builtin.copy_, hat, run_underlying ht, hg.len, run_sizeOf_lay hT hl, hc, storeCells, goInt]
  unfold copyA at h
  split at h
  · simp only [Option.some.injEq, Prod.mk.injEq] at h; obtain ⟨rfl, rfl⟩ := h
    cases hv
    exact Says.does hR id0 ⟨_, h00 _ _, .int _ _⟩
  · simp only [Option.some.injEq, Prod.mk.injEq] at h; obtain ⟨rfl, rfl⟩ := h
    cases hv
    exact Says.does hR id0 ⟨_, h00 _ _, .int _ _⟩
  · simp only [Option.some.injEq, Prod.mk.injEq] at h; obtain ⟨rfl, rfl⟩ := h
    obtain ⟨a, c', rfl, _, _, _⟩ := sl_inv hv
    exact Says.does hR id0 ⟨_, h00 _ _, .int _ _⟩
  · rename_i id off n cap e1
    simp only at h
    have hdiv : c.length / z = m := by rw [hg.size]; exact Nat.mul_div_cancel _ h0
    rw [hdiv] at h
    cases hb : s.h id with
    | none => rw [hb] at h; simp at h
    | some bk =>
      rw [hb] at h
      cases bk with
      | cells cc e' ex wr =>
        cases wr with
        | false => simp at h
        | true =>
          simp only at h
          split at h
          · rename_i hc
            obtain ⟨hle, hone⟩ := hc
            simp only [Option.some.injEq, Prod.mk.injEq] at h; obtain ⟨rfl, rfl⟩ := h
            cases hv with
            | ref _ _ _ _ _ β size cp z' ag' hρ hz' hn hk hk2 =>
              have hk1 : min m n * z ≤ m * z := Nat.mul_le_mul_right z (Nat.min_le_left _ _)
              have hcr : CR T F ρ (c.take (min m n * z)) (news.take (min m n * z)) := hg.cr.take _
              have hlen : (c.take (min m n * z)).length = min m n * z := by rw [List.length_take, hg.size]; omega
              obtain ⟨p1, p2, p3, p4⟩ := put_ok hR hb hρ hcr (by rw [hlen]; exact hle)
              have hst := run_storeCells_cells (P := P) β off (news.take (min m n * z)) 0 W (by simpa using p1) (by simpa using p2) (cr_one hcr hone)
              simp only [Nat.add_zero] at hst
              have hc := hg.cells (min m n) (Nat.min_le_left _ _) W (fun _ _ h => h)
              refine ⟨_, _, ρ, F, ?_, .int _ _, p3, p4, fun _ _ _ => rfl, Nat.le_refl _⟩
              have hmin : Nat.min m n = min m n := rfl
              simp [Builtin.copy_, hat, run_underlying ht, hg.len, run_sizeOf_lay hT hl, hmin, hc, hst, goInt]
          · cases h
      | _ => simp at h
  · cases h
theorem len_ok (hT : TyOk P T) (hR : R T F ρ s W) {ats : Array TypeId} {t ty : TypeId} (hat : ats[0]? = some t) {d : TypeDesc} (ht : P.underlying t = some d) {x : AV} (hd : lenD d x = true) {n : Int} (h : lenA x s = some n) {v : Value} (hv : VR T F ρ x v) : Says P T F ρ W (.int .i64 n) (Builtin.len_ ats ty #[v]) := by
  unfold lenD at hd
  unfold lenA at h
  split at hd
  · simp only [Option.some.injEq] at h; subst h
    cases hv with
    | str _ b hb =>
      refine ⟨.int .i64 b.size, by simp [Builtin.len_, hat, run_underlying ht, goInt], ?_⟩
      subst hb
      rw [Array.length_toList]
      exact .int _ _
  · simp only [Option.some.injEq] at h; subst h
    cases hv
    exact ⟨_, by simp [Builtin.len_, hat, run_underlying ht, goInt], .int _ _⟩
  · simp only [Option.some.injEq] at h; subst h
    cases hv
    exact ⟨_, by simp [Builtin.len_, hat, run_underlying ht, goInt], .int _ _⟩
  · simp only [Option.some.injEq] at h; subst h
    obtain ⟨a, c, rfl, _, _, _⟩ := sl_inv hv
    exact ⟨_, by simp [Builtin.len_, hat, run_underlying ht, goInt], .int _ _⟩
  · simp only [Option.some.injEq] at h; subst h
    cases hv
    exact ⟨_, by simp [Builtin.len_, hat, run_underlying ht, goInt], .int _ _⟩
  · simp only [Option.some.injEq] at h; subst h
    cases hv
    exact ⟨_, by simp [Builtin.len_, hat, run_underlying ht, goInt], .int _ _⟩
  · rename_i id
    simp only at h
    cases hb : s.h id with
    | none => rw [hb] at h; simp at h
    | some bk =>
      rw [hb] at h
      cases bk with
      | map m =>
        simp only [Option.some.injEq] at h; subst h
        cases hv with
        | map _ β z hρ =>
          obtain ⟨β', z', o, k1, k2, k3, k4⟩ := hR.lt hb
          rw [hρ] at k1; cases k1
          cases o with
          | map es cl =>
            refine ⟨.int .i64 es.size, ?_, by rw [k3.1]; exact .int _ _⟩
            have hget : (getObj β).run P W = .ok (.map es cl) W := by simp [getObj, Sem.run, k2]
            simp [Builtin.len_, hat, run_underlying ht, goInt, hget]
          | _ => exact k3.elim
      | _ => simp at h
  · cases hd
theorem cap_ok (hT : TyOk P T) {ats : Array TypeId} {t e ty : TypeId} (hat : ats[0]? = some t) (ht : P.underlying t = some (.slice e)) {x : AV} {n : Int} (h : capA x = some n) {v : Value} (hv : VR T F ρ x v) : Says P T F ρ W (.int .i64 n) (Builtin.cap_ ats ty #[v]) := by
  unfold capA at h
  split at h
  · simp only [Option.some.injEq] at h; subst h
    cases hv
    exact ⟨_, by simp [Builtin.cap_, hat, run_underlying ht, goInt], .int _ _⟩
  · simp only [Option.some.injEq] at h; subst h
    obtain ⟨a, c, rfl, _, hx, _⟩ := sl_inv hv
    exact ⟨.int .i64 c, by simp [Builtin.cap_, hat, run_underlying ht, goInt], by rw [hx rfl]; exact .int _ _⟩
  · simp only [Option.some.injEq] at h; subst h
    cases hv with
    | ref _ _ _ _ _ β size c z ag hρ hz hn hk hk2 =>
      rename_i k
      exact ⟨.int .i64 c, by simp [Builtin.cap_, hat, run_underlying ht, goInt], by rw [(hk _ rfl).1]; exact .int _ _⟩
  · cases h
theorem sliceData_ok (hR : R T F ρ s W) {ats : Array TypeId} {ty : TypeId} {v : Value} {id off n : Nat} {e e' : TypeId} {c : List AV} {ex wr : Bool} (hb : s.h id = some (.cells c e' ex wr)) (ho : off < c.length) (hv : VR T F ρ (.ref id off n none e) v) :
    Says P T F ρ W (.ptr id off) (Builtin.unsafeSliceData_ ats ty #[v]) := by
  cases hv with
  | ref _ _ _ _ _ β size cp z ag hρ hz hn hk hk2 =>
    obtain ⟨hsh, hle⟩ := shape_ok hR hb hρ
    have hc : cp ≠ 0 := by
      intro h
      have := hk2 rfl
      rw [h, Nat.zero_mul] at this; omega
    exact ⟨_, Lib.run_unsafeSliceData_row W ats ty _ n cp hc, .ptr _ _ _ _ hρ⟩
theorem unsafeString_ok (hT : TyOk P T) (hR : R T F ρ s W) {pt it ty : TypeId} {e : TypeId} (hp : P.underlying pt = some (.pointer e)) {id : Nat} {c : List AV} {ex wr : Bool} (hb : s.h id = some (.cells c e ex wr)) {ag : Bool} (hl : lay T e = some (1, ag))
    {n : Int} (h0 : 0 < n) (h1 : n.toNat ≤ c.length) (h2 : n ≤ most) {ns : List Int} (hns : asU8s (c.take n.toNat) = some ns) (hall : ns.all (fun n => decide (0 ≤ n) && decide (n < 256)) = true) {v : Value} (hv : VR T F ρ (.ptr id 0) v) (id0 : Nat) :
    Does P T id0 s ρ F W (.str (ns.map fun n => UInt8.ofNat n.toNat)) (s.set id (some (.cells c e ex false))) (Builtin.unsafeString_ #[pt, it] ty #[v, .int .i64 n]) := by
  cases hv with
  | ptr _ _ β z hρ =>
    obtain ⟨hsh, hle⟩ := shape_ok hR hb hρ
    obtain ⟨i, d, hi, hs, _, _⟩ := lay_ok hT hl
    have hc1 : P.cellsOf e = 1 := by simp [Program.cellsOf, hi, hs]
    obtain ⟨β', z', q1, q2⟩ := hR.at hb
    rw [hρ] at q1; cases q1
    have hm' : (most : Int) = 1099511627776 := by decide
    have hlen : (c.take n.toNat).length = n.toNat := by rw [List.length_take]; omega
    have hnl := asU8s_len _ _ hns
    rw [hlen] at hnl
    let l : List UInt8 := ns.map fun n => UInt8.ofNat n.toNat
    have hll : l.length = n.toNat := by simp [l, hnl]
    have hlz : (l.length : Int) = n := by rw [hll]; omega
    obtain ⟨g, hg⟩ := q2
    have hrun := Lib.run_unsafeString_row (P := P) W pt it ty e hp hc1 β z hsh l (by intro h; rw [h] at hll; simp at hll; omega) (by rw [hll]; omega) (by omega) (fun j x hx => by
      have hj : j < n.toNat := by
        rcases Nat.lt_or_ge j l.length with h | h
        · omega
        · rw [List.getElem?_eq_none h] at hx; cases hx
      have hjn : j < ns.length := by omega
      have hjc : j < c.length := by omega
      rw [List.getElem?_map, List.getElem?_eq_getElem hjn] at hx
      simp only [Option.map_some, Option.some.injEq] at hx
      obtain ⟨k1, k2⟩ := hg j hjc
      have k3 := asU8s_get _ _ hns j (by rw [hlen]; exact hj)
      simp only [List.getElem_take] at k3
      have k4 := asU8_ok k3 k2
      have k5 : ns.getD j 0 = ns[j] := by simp [List.getD, List.getElem?_eq_getElem hjn]
      rw [Addr.add_lit, k1, k4, k5, ← hx]
      have k6 := List.all_eq_true.1 hall _ (List.getElem_mem hjn)
      simp only [Bool.and_eq_true, decide_eq_true_eq] at k6
      congr 2
      rw [UInt8.toNat_ofNat']
      omega)
    rw [hlz] at hrun
    obtain ⟨β', z', o, k1, k2, k3, k4⟩ := hR.lt hb
    rw [hρ] at k1; cases k1
    cases o with
    | cells C e' fr =>
      obtain ⟨rfl, m2, m3, m4, m5, m6⟩ := k3
      obtain ⟨fr', hfr⟩ : ∃ fr', W.freeze ⟨β, 0, none⟩ l.length = putObj W β (.cells C e' fr') := by
        refine ⟨if fr.1 == fr.2 then (0, 0 + l.length) else (min fr.1 0, max fr.2 (0 + l.length)), ?_⟩
        unfold World.freeze putObj
        rw [if_neg (by omega)]
        congr 1
        apply Array.ext_getElem?
        intro j
        rw [Array.getElem?_modify, Array.getElem?_setIfInBounds]
        by_cases hj : β = j
        · subst hj
          have hw : W.heap[β] = .cells C e' fr := by rw [Array.getElem?_eq_getElem k4] at k2; simpa using k2
          simp [k4, hw]
        · rw [if_neg hj, if_neg hj]
      have hor : OR T F ρ z (.cells c e' ex false) (.cells C e' fr') := ⟨rfl, m2, m3, m4, m5, by intro h; cases h⟩
      obtain ⟨r1, r2⟩ := hR.put (b' := .cells c e' ex false) hb hρ hor
      exact ⟨_, _, ρ, F, hrun.trans (by rw [hfr]), .str _ _ rfl, r1, r2, fun _ _ _ => rfl, Nat.le_refl _⟩
    | _ => exact k3.elim
theorem min_ok {f : Int → Int → Bool} {m2 : Value → Value → Sem Value} (hf : ∀ k a k' b, (m2 (.int k a) (.int k' b)).run P W = .ok (.int k (if f b a then b else a)) W) {args : List AV} {r : AV} (h : minI f args = some r) {us : Array Value} (hcr : CR T F ρ args us.toList) :
    ∃ x y, us = #[x, y] ∧ Says P T F ρ W r ([y].foldlM m2 x) := by
  unfold minI at h
  split at h
  · rename_i k a k' b
    split at h
    · rename_i hk
      subst hk
      simp only [Option.some.injEq] at h; subst h
      obtain ⟨us⟩ := us
      simp only at hcr ⊢
      match us, hcr with
      | [u, v], hcr =>
        have h1 := hcr.2 0 (by simp) (by simp)
        have h2 := hcr.2 1 (by simp) (by simp)
        simp only [List.getElem_cons_zero, List.getElem_cons_succ] at h1 h2
        cases h1; cases h2
        refine ⟨_, _, rfl, _, ?_, .int _ _⟩
        simp only [List.foldlM_cons, List.foldlM_nil, Sem.run_bind, hf, Result.andThen_ok, Sem.run_pure]
      | [], hcr => exact absurd hcr.1 (by simp)
      | [_], hcr => exact absurd hcr.1 (by simp)
      | _ :: _ :: _ :: _, hcr => exact absurd hcr.1 (by simp)
    · cases h
  · cases h
end
end Go.Proofs.YtdehdahimkcakaaGreatDoor.Ai
/-! Maps. -/
namespace Go.Proofs.YtdehdahimkcakaaGreatDoor.Ai
open Go Go.MapKept

section
variable {P : Program} {T : Ty} {F : Fz} {ρ : Rho} {s : St} {W : World}

theorem key_ok {kd : TypeDesc} {k : AV} (h : keyD kd k = true) {u : Value} (hu : VR T F ρ k u) : IsKey kd u := by
  unfold keyD at h
  split at h
  · cases hu; simpa [IsKey] using h
  · cases hu; trivial
  · cases h
theorem same_ok {kd : TypeDesc} {k a : AV} {b : Bool} (hk : keyD kd k = true) (h : cellEq k a = some b) {u v : Value} (hu : VR T F ρ k u) (hv : VR T F ρ a v) : Instr.sameNow kd u v = some b ∧ (b = true → u = v) := by
  unfold keyD at hk
  split at hk
  · rename_i k1 k2 n
    unfold cellEq at h
    split at h
    · rename_i j a' j' b' e1
      cases e1
      split at h
      · rename_i hkk
        subst hkk
        simp only [Option.some.injEq] at h; subst h
        cases hu; cases hv
        refine ⟨by simp [Instr.sameNow], fun h => by simp at h; rw [h]⟩
      · cases h
    · rename_i e1; cases e1
    · rename_i e1; cases e1
    · cases h
  · rename_i x
    unfold cellEq at h
    split at h
    all_goals (first | cases h | skip)
    all_goals (first | (rename_i e1; cases e1; done) | skip)
    rename_i x' y e1
    cases e1
    cases hu with
    | str _ c hc => cases hv with
      | str _ d hd =>
        have hiff : (c == d) = (x == y) := by
          rw [Bool.eq_iff_iff, bytes_beq, beq_iff_eq, ← hc, ← hd]
          constructor
          · intro h; rw [h]
          · intro h
            apply ByteArray.ext
            apply Array.ext'
            exact h
        refine ⟨by simp only [Instr.sameNow, hiff], fun h => ?_⟩
        have h' : (x == y) = true := h
        rw [← hiff, bytes_beq] at h'
        rw [h']
  · cases hk
def MR (T : Ty) (F : Fz) (ρ : Rho) (m : List (AV × AV)) (es : List MapEntry) : Prop :=
  m.length = es.length ∧ ∀ j (h : j < m.length) (h' : j < es.length), keyOk m[j].1 = true ∧ VR T F ρ m[j].1 es[j].key ∧ VR T F ρ m[j].2 es[j].val
theorem MR.tail {p : AV × AV} {e : MapEntry} {m : List (AV × AV)} {es : List MapEntry} (h : MR T F ρ (p :: m) (e :: es)) : VR T F ρ p.1 e.key ∧ VR T F ρ p.2 e.val ∧ MR T F ρ m es :=
  ⟨(h.2 0 (by simp) (by simp)).2.1, (h.2 0 (by simp) (by simp)).2.2, by have := h.1; simpa using this, fun j a b => h.2 (j + 1) (by simp; omega) (by simp; omega)⟩
theorem find_none {kd : TypeDesc} {k : AV} (hk : keyD kd k = true) {u : Value} (hu : VR T F ρ k u) : ∀ (m : List (AV × AV)) (es : List MapEntry) (i : Nat), MR T F ρ m es → find k m = some none → Instr.findNow kd u es i = some none ∧ ∀ x, mapSet k x m = m ++ [(k, x)] := by
  intro m
  induction m with
  | nil =>
    intro es i hm h
    have : es = [] := List.eq_nil_of_length_eq_zero (by rw [← hm.1]; rfl)
    subst this
    exact ⟨rfl, fun _ => rfl⟩
  | cons p m ih =>
    intro es i hm h
    cases es with
    | nil => exact absurd hm.1 (by simp)
    | cons e es =>
      obtain ⟨a, v⟩ := p
      obtain ⟨h1, h2, h3⟩ := hm.tail
      simp only [find] at h
      cases hc : cellEq k a with
      | none => rw [hc] at h; cases h
      | some b =>
        rw [hc] at h
        cases b with
        | true => simp at h
        | false =>
          obtain ⟨g1, g2⟩ := ih es (i + 1) h3 h
          obtain ⟨q1, _⟩ := same_ok hk hc hu h1
          refine ⟨by simp [Instr.findNow, q1, g1], fun x => ?_⟩
          simp only [mapSet, hc]
          simp [g2 x]
theorem find_some {kd : TypeDesc} {k : AV} (hk : keyD kd k = true) {u : Value} (hu : VR T F ρ k u) {v : AV} : ∀ (m : List (AV × AV)) (es : List MapEntry) (i : Nat), MR T F ρ m es → find k m = some (some v) →
    ∃ j e, es[j]? = some e ∧ j < m.length ∧ Instr.findNow kd u es i = some (some (i + j, e.val)) ∧ VR T F ρ v e.val ∧ e.key = u ∧ ∀ x, mapSet k x m = m.set j (k, x) := by
  intro m
  induction m with
  | nil => intro es i hm h; cases h
  | cons p m ih =>
    intro es i hm h
    cases es with
    | nil => exact absurd hm.1 (by simp)
    | cons e es =>
      obtain ⟨a, v'⟩ := p
      obtain ⟨h1, h2, h3⟩ := hm.tail
      simp only [find] at h
      cases hc : cellEq k a with
      | none => rw [hc] at h; cases h
      | some b =>
        rw [hc] at h
        obtain ⟨q1, q2⟩ := same_ok hk hc hu h1
        cases b with
        | true =>
          simp only [Option.some.injEq] at h; subst h
          refine ⟨0, e, rfl, by simp, by simp [Instr.findNow, q1], h2, (q2 rfl).symm, fun x => ?_⟩
          simp [mapSet, hc]
        | false =>
          obtain ⟨j, e', g1, g2, g3, g4, g5, g6⟩ := ih es (i + 1) h3 h
          refine ⟨j + 1, e', by simpa using g1, by simp; omega, by simp [Instr.findNow, q1, g3]; omega, g4, g5, fun x => ?_⟩
          simp only [mapSet, hc]
          simp [g6 x]
theorem map_at (hR : R T F ρ s W) {id : Nat} {m : List (AV × AV)} (hb : s.h id = some (.map m)) : ∃ β z es cl, ρ id = some (β, z) ∧ W.heap[β]? = some (.map es cl) ∧ MR T F ρ m es.toList := by
  obtain ⟨β, z, o, k1, k2, k3, k4⟩ := hR.lt hb
  cases o with
  | map es cl =>
    refine ⟨β, z, es, cl, k1, k2, by simpa using k3.1, fun j a b => ?_⟩
    have := k3.2 j a (by simpa using b)
    simpa using this
  | _ => exact k3.elim
theorem lookup_ok (hT : TyOk P T) (hR : R T F ρ s W) {t : TypeId} {m k r : AV} {ok : Bool} (h : lookupA T t m k ok s = some r) {u v : Value} (hu : VR T F ρ m u) (hv : VR T F ρ k v) : Says P T F ρ W r (Instr.lookup t u v ok) := by
  unfold lookupA at h
  cases hd : und T t with
  | none => rw [hd] at h; cases h
  | some d =>
    rw [hd] at h
    cases d with
    | map kt e =>
      simp only at h
      cases hkd : und T kt with
      | none => rw [hkd] at h; cases h
      | some kd =>
        rw [hkd] at h
        simp only [Option.bind_some] at h
        split at h
        · rename_i hk
          cases hz : zero T e with
          | none => rw [hz] at h; cases h
          | some zv =>
            rw [hz] at h
            simp only [Option.bind_some] at h
            obtain ⟨zr, hzr, rfl⟩ := run_zero hT hz
            cases he : entryA m k s with
            | none => rw [he] at h; cases h
            | some res =>
              rw [he] at h
              simp only [Option.map_some, Option.some.injEq] at h
              -- what the entries are
              have key : ∃ es : Array MapEntry, (∃ M, MR T F ρ M es.toList ∧ find k M = some res) ∧
                  ((u = .map none ∧ es = #[]) ∨ ∃ β cl, u = .map (some β) ∧ W.heap[β]? = some (.map es cl)) := by
                unfold entryA at he
                split at he
                · simp only [Option.some.injEq] at he; subst he
                  cases hu
                  exact ⟨#[], ⟨[], ⟨rfl, fun j h => by simp at h⟩, rfl⟩, .inl ⟨rfl, rfl⟩⟩
                · rename_i id
                  cases hb : s.h id with
                  | none => rw [hb] at he; cases he
                  | some bk =>
                    rw [hb] at he
                    cases bk with
                    | map M =>
                      simp only at he
                      cases hu with
                      | map _ β z hρ =>
                        obtain ⟨β', z', es, cl, k1, k2, k3⟩ := map_at hR hb
                        rw [hρ] at k1; cases k1
                        exact ⟨es, ⟨M, k3, he⟩, .inr ⟨β, cl, rfl, k2⟩⟩
                    | _ => cases he
                · cases he
              obtain ⟨es, ⟨M, hM, hfind⟩, hes⟩ := key
              have hck := run_checkKey (P := P) (w := W) (und_ok hT hkd) (key_ok hk hv) es.isEmpty 9999
              have hfk : ∃ a, (Instr.findKey kt v es.toList).run P W = .ok a W ∧ ((res = none ∧ a = none) ∨ ∃ x j w, res = some x ∧ a = some (j, w) ∧ VR T F ρ x w) := by
                cases res with
                | none =>
                  obtain ⟨g1, _⟩ := find_none hk hv M es.toList 0 hM hfind
                  exact ⟨none, run_findKey (und_ok hT hkd) g1, .inl ⟨rfl, rfl⟩⟩
                | some x =>
                  obtain ⟨j, e', g1, g2, g3, g4, g5, g6⟩ := find_some hk hv M es.toList 0 hM hfind
                  exact ⟨_, run_findKey (und_ok hT hkd) g3, .inr ⟨x, _, _, rfl, rfl, g4⟩⟩
              obtain ⟨a, ha, hcase⟩ := hfk
              have hbool : ∀ (x : AV) (w : Value), VR T F ρ x w → ∀ b, VR T F ρ (.tup [x, .bool b]) (.tuple #[w, .bool b]) := fun x w hx b => by
                refine .tup _ _ rfl fun i h h' => ?_
                match i, h with
                | 0, _ => exact hx
                | 1, _ => exact .bool b
              rcases hcase with ⟨rfl, rfl⟩ | ⟨x, j, w, rfl, rfl, hxw⟩
              · refine ⟨if ok then .tuple #[zr, .bool false] else zr, ?_, ?_⟩
                · rcases hes with ⟨rfl, rfl⟩ | ⟨β, cl, rfl, k2⟩
                  · simp only [Instr.lookup, Sem.run_bind, run_underlying (und_ok hT hd), Result.andThen_ok, Sem.run_pure, hck, ha, hzr]
                  · simp only [Instr.lookup, Sem.run_bind, run_underlying (und_ok hT hd), Result.andThen_ok, MapKept.run_getObj_map k2, Sem.run_pure, hck, ha, hzr]
                · subst h
                  cases ok
                  · exact ofV_ok zr
                  · exact hbool _ _ (ofV_ok zr) false
              · refine ⟨if ok then .tuple #[w, .bool true] else w, ?_, ?_⟩
                · rcases hes with ⟨rfl, rfl⟩ | ⟨β, cl, rfl, k2⟩
                  · simp only [Instr.lookup, Sem.run_bind, run_underlying (und_ok hT hd), Result.andThen_ok, Sem.run_pure, hck, ha]
                  · simp only [Instr.lookup, Sem.run_bind, run_underlying (und_ok hT hd), Result.andThen_ok, MapKept.run_getObj_map k2, Sem.run_pure, hck, ha]
                · subst h
                  cases ok
                  · exact hxw
                  · exact hbool _ _ hxw true
        · cases h
    | _ => cases h
theorem mapUpd_ok (hT : TyOk P T) (hR : R T F ρ s W) {t : TypeId} {m k x : AV} {s' : St} (h : mapUpd T t m k x s = some s') {u v w : Value} (hu : VR T F ρ m u) (hv : VR T F ρ k v) (hw : VR T F ρ x w) (id0 : Nat) : DoesU P T id0 s ρ F W s' (Instr.mapUpdate t u v w) := by
  unfold mapUpd at h
  cases hd : und T t with
  | none => rw [hd] at h; cases h
  | some d =>
    rw [hd] at h
    cases d with
    | map kt e =>
      simp only at h
      cases hkd : und T kt with
      | none => rw [hkd] at h; cases h
      | some kd =>
        rw [hkd] at h
        simp only [Option.bind_some] at h
        split at h
        · rename_i id
          cases hb : s.h id with
          | none => rw [hb] at h; cases h
          | some bk =>
            rw [hb] at h
            cases bk with
            | map M =>
              simp only at h
              split at h
              · rename_i hk
                cases hu with
                | map _ β z hρ =>
                  obtain ⟨β', z', es, cl, k1, k2, k3⟩ := map_at hR hb
                  rw [hρ] at k1; cases k1
                  have hck := run_checkKey (P := P) (w := W) (und_ok hT hkd) (key_ok hk hv) false 9999
                  have hok : keyOk k = true := by
                    unfold keyD at hk
                    split at hk <;> first | rfl | cases hk
                  cases hf : find k M with
                  | none => rw [hf] at h; cases h
                  | some res =>
                    rw [hf] at h
                    simp only [Option.map_some, Option.some.injEq] at h; subst h
                    cases res with
                    | none =>
                      obtain ⟨g1, g2⟩ := find_none hk hv M es.toList 0 k3 hf
                      have hfk := run_findKey (P := P) (w := W) (und_ok hT hkd) g1
                      have hor : OR T F ρ z (.map (mapSet k x M)) (.map (es.push { key := v, val := w, born := cl }) (cl + 1)) := by
                        rw [g2 x]
                        have hl := k3.1
                        simp only [Array.length_toList] at hl
                        refine ⟨by simp [hl], fun j a b => ?_⟩
                        rw [List.length_append] at a
                        by_cases hj : j < M.length
                        · rw [List.getElem_append_left hj, Array.getElem_push_lt (by omega)]
                          have := k3.2 j hj (by simp; omega)
                          simpa using this
                        · have hje : j = M.length := by simp at a; omega
                          subst hje
                          have e1 : (M ++ [(k, x)])[M.length] = (k, x) := by simp
                          have e2 : (es.push { key := v, val := w, born := cl })[M.length] = { key := v, val := w, born := cl } := by simp [hl]
                          rw [e1, e2]
                          exact ⟨hok, hv, hw⟩
                      obtain ⟨r1, r2⟩ := hR.put (b' := .map (mapSet k x M)) hb hρ hor
                      refine ⟨_, ρ, F, ?_, r1, r2, fun _ _ _ => rfl, Nat.le_refl _⟩
                      simp only [Instr.mapUpdate, Sem.run_bind, run_underlying (und_ok hT hd), Result.andThen_ok, MapKept.run_getObj_map k2, hck, hfk, MapKept.run_setObj_map _ k2]
                      rfl
                    | some y =>
                      obtain ⟨j, e', g1, g2, g3, g4, g5, g6⟩ := find_some hk hv M es.toList 0 k3 hf
                      have hfk := run_findKey (P := P) (w := W) (und_ok hT hkd) g3
                      rw [Nat.zero_add] at hfk
                      have hge : es[j]? = some e' := by simpa using g1
                      have hor : OR T F ρ z (.map (mapSet k x M)) (.map (es.modify j fun e => { e with key := v, val := w }) cl) := by
                        rw [g6 x]
                        have hl := k3.1
                        simp only [Array.length_toList] at hl
                        refine ⟨by simp [hl], fun i a b => ?_⟩
                        rw [List.length_set] at a
                        rw [List.getElem_set, Array.getElem_modify]
                        split
                        · exact ⟨hok, hv, hw⟩
                        · have := k3.2 i a (by simp; omega)
                          simpa using this
                      obtain ⟨r1, r2⟩ := hR.put (b' := .map (mapSet k x M)) hb hρ hor
                      refine ⟨_, ρ, F, ?_, r1, r2, fun _ _ _ => rfl, Nat.le_refl _⟩
                      have hst := run_keyThatStays (P := P) (w := W) (key_ok hk hv)
                      simp only [Instr.mapUpdate, Sem.run_bind, run_underlying (und_ok hT hd), Result.andThen_ok, MapKept.run_getObj_map k2, hck, hfk, hge, Option.map_some, Option.getD_some, g5, hst, MapKept.run_setObj_map _ k2]
                      rfl
              · cases h
            | _ => cases h
        · cases h
    | _ => cases h
theorem makeMap_ok (hR : R T F ρ s W) (t : TypeId) {id : Nat} (hid : ρ id = none) (hlt : id < s.nx) : Does P T id s ρ F W (.map id) (s.set id (some (.map []))) (Instr.makeMap t none) := by
  obtain ⟨r1, r2⟩ := hR.born (s' := s.set id (some (.map []))) hid (.map []) (.map #[] 0) 0 ⟨rfl, fun j h => by simp at h⟩ rfl (Nat.le_refl _) hlt
  refine ⟨.map (some W.heap.size), _, _, F, ?_, .map _ _ _ (rset_same _ _), r1, r2, fun i _ hi => rset_ne hi _, Nat.le_refl _⟩
  simp only [Instr.makeMap, Sem.run_bind, run_newObj_alloc, Result.andThen_ok, Sem.run_pure]
end
end Go.Proofs.YtdehdahimkcakaaGreatDoor.Ai
