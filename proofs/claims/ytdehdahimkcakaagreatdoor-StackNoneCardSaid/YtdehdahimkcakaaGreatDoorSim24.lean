/- A region that draws its order is sound. -/
import Derived.Test.YtdehdahimkcakaaGreatDoorSim23
import Derived.Orders
set_option linter.unusedVariables false
set_option linter.unusedSimpArgs false
namespace Go.Proofs.YtdehdahimkcakaaGreatDoor.Ai
open Go

section
variable {X : Cx} {s s' : St}

/-! ### Orders -/
def runM (X : Cx) (base : Nat) (all : List Oper) : List Nat → List AV × St → Option (List (Nat × Option Mark) × (List AV × St))
  | [], q => some ([], q)
  | i :: l, q => (stepM X base all i q).bind fun r => (runM X base all l r.2).map fun z => ((i, r.1) :: z.1, z.2)
/-- Two that may come in either order. -/
def Free (all : List Oper) (p k : Nat × Option Mark) : Prop := (∃ oa ox, all[p.1]? = some oa ∧ all[k.1]? = some ox ∧ apartD all oa ox = true) ∧ ∀ u v, p.2 = some u → k.2 = some v → u.apart v = true
def Apt (all : List Oper) (ms : List Nat) (p k : Nat × Option Mark) : Prop := bitOf (ms.getD k.1 0) p.1 = true ∨ Free all p k

theorem runM_cons {base : Nat} {all : List Oper} {i : Nat} {l : List Nat} {q : List AV × St} {ml : List (Nat × Option Mark)} {r : List AV × St} :
    runM X base all (i :: l) q = some (ml, r) ↔ ∃ m q1 ml1, stepM X base all i q = some (m, q1) ∧ runM X base all l q1 = some (ml1, r) ∧ ml = (i, m) :: ml1 := by
  constructor
  · intro h
    simp only [runM] at h
    cases h1 : stepM X base all i q with
    | none => rw [h1] at h; cases h
    | some mq =>
      obtain ⟨m, q1⟩ := mq
      rw [h1] at h
      simp only [Option.bind_some] at h
      cases h2 : runM X base all l q1 with
      | none => rw [h2] at h; cases h
      | some z =>
        obtain ⟨ml1, r1⟩ := z
        rw [h2] at h
        simp only [Option.map_some, Option.some.injEq, Prod.mk.injEq] at h; obtain ⟨rfl, rfl⟩ := h
        exact ⟨m, q1, ml1, rfl, h2, rfl⟩
  · rintro ⟨m, q1, ml1, h1, h2, rfl⟩
    simp only [runM, h1, Option.bind_some, h2, Option.map_some]
theorem front (hp : CallPure X) {base : Nat} {all : List Oper} (x : Nat) (B : List Nat) : ∀ (A : List Nat) (q : List AV × St) (ml : List (Nat × Option Mark)) (r : List AV × St), runM X base all (A ++ x :: B) q = some (ml, r) →
    ∃ mlA mx mlB, ml = mlA ++ (x, mx) :: mlB ∧ mlA.map (·.1) = A ∧ ((∀ p ∈ mlA, Free all p (x, mx)) → runM X base all (x :: (A ++ B)) q = some ((x, mx) :: (mlA ++ mlB), r)) := by
  intro A
  induction A with
  | nil =>
    intro q ml r h
    obtain ⟨m, q1, ml1, h1, h2, rfl⟩ := runM_cons.1 h
    exact ⟨[], m, ml1, rfl, rfl, fun _ => h⟩
  | cons a A ih =>
    intro q ml r h
    obtain ⟨m, q1, ml1, h1, h2, rfl⟩ := runM_cons.1 h
    obtain ⟨mlA, mx, mlB, rfl, rfl, k⟩ := ih q1 ml1 r h2
    refine ⟨(a, m) :: mlA, mx, mlB, rfl, rfl, fun hf => ?_⟩
    obtain ⟨mx', q2, ml2, k1, k2, k3⟩ := runM_cons.1 (k fun p hp => hf p (List.mem_cons_of_mem _ hp))
    simp only [List.cons.injEq, Prod.mk.injEq, true_and] at k3; obtain ⟨rfl, rfl⟩ := k3
    obtain ⟨⟨oa, ox, e1, e2, e3⟩, e4⟩ := hf (a, m) (List.mem_cons_self ..)
    obtain ⟨q1', s1, s2⟩ := swap hp e1 e2 e3 h1 k1 e4
    exact runM_cons.2 ⟨mx, q1', _, s1, runM_cons.2 ⟨m, q2, _, s2, k2, rfl⟩, rfl⟩
theorem perm_run (hp : CallPure X) {base : Nat} {all : List Oper} {ms : List Nat} : ∀ (L M : List Nat) (q : List AV × St) (ml : List (Nat × Option Mark)) (r : List AV × St), L.Perm M → runM X base all M q = some (ml, r) →
    ml.Pairwise (Apt all ms) → L.Pairwise (fun x a => bitOf (ms.getD x 0) a = false) → ∃ ml', runM X base all L q = some (ml', r) := by
  intro L
  induction L with
  | nil =>
    intro M q ml r hL h _ _
    have := hL.symm.eq_nil
    subst this
    exact ⟨ml, h⟩
  | cons x L ih =>
    intro M q ml r hL h hw ho
    have hx : x ∈ M := hL.subset (List.mem_cons_self ..)
    obtain ⟨A, B, rfl⟩ := List.append_of_mem hx
    have hLp : L.Perm (A ++ B) := List.Perm.cons_inv (hL.trans List.perm_middle)
    obtain ⟨mlA, mx, mlB, rfl, rfl, k⟩ := front hp x B A q ml r h
    rw [List.pairwise_cons] at ho
    rw [List.pairwise_append] at hw
    obtain ⟨w1, w2, w3⟩ := hw
    rw [List.pairwise_cons] at w2
    have hfree : ∀ p ∈ mlA, Free all p (x, mx) := fun p hpm => by
      rcases w3 p hpm (x, mx) (List.mem_cons_self ..) with hb | hb
      · have hin : p.1 ∈ L := hLp.symm.subset (List.mem_append_left _ (List.mem_map.2 ⟨p, hpm, rfl⟩))
        have := ho.1 p.1 hin
        simp only at hb
        rw [this] at hb; cases hb
      · exact hb
    obtain ⟨m, q1, ml1, k1, k2, k3⟩ := runM_cons.1 (k hfree)
    simp only [List.cons.injEq, Prod.mk.injEq, true_and] at k3; obtain ⟨rfl, rfl⟩ := k3
    obtain ⟨ml', k4⟩ := ih (mlA.map (·.1) ++ B) q1 (mlA ++ mlB) r hLp k2 (List.pairwise_append.2 ⟨w1, w2.2, fun a ha b hb => w3 a ha b (List.mem_cons_of_mem _ hb)⟩) ho.2
    exact ⟨_, runM_cons.2 ⟨mx, q1, ml', k1, k4, rfl⟩⟩

/-! ### What 'drawn' checks -/
theorem bitOf_or (m n k : Nat) : bitOf (m ||| n) k = (bitOf m k || bitOf n k) := by
  have e : ∀ m k, bitOf m k = m.testBit k := fun m k => by
    simp only [bitOf, Nat.testBit_eq_decide_div_mod_eq, Nat.shiftRight_eq_div_pow]
    by_cases h : m / 2 ^ k % 2 = 1
    · rw [h]; rfl
    · rw [decide_eq_false h]
      cases hb : Nat.beq (m / 2 ^ k % 2) 1 with
      | false => rfl
      | true => exact absurd (Nat.eq_of_beq_eq_true hb) h
  simp only [e, Nat.testBit_or]
theorem bitOf_one (j k : Nat) : bitOf (1 <<< j) k = true → k = j := by
  intro h
  simp only [bitOf, Nat.shiftLeft_eq, Nat.one_mul, Nat.shiftRight_eq_div_pow] at h
  have h := Nat.eq_of_beq_eq_true h
  rcases Nat.lt_trichotomy k j with hl | he | hg
  · have : 2 ^ j / 2 ^ k = 2 ^ (j - k) := Nat.pow_div (Nat.le_of_lt hl) (by decide)
    rw [this] at h
    have h2 : 2 ^ (j - k) = 2 * 2 ^ (j - k - 1) := by
      rw [← Nat.pow_succ']; congr 1; omega
    omega
  · exact he
  · have : 2 ^ j / 2 ^ k = 0 := Nat.div_eq_of_lt (Nat.pow_lt_pow_right (by decide) hg)
    rw [this] at h; cases h
theorem ahead_fold (ms : List Nat) (a : Nat) : ∀ (l : List Edge) (m0 : Nat), bitOf (l.foldl (fun m e => cond (Region.binds .any e) (m ||| ((1 <<< e.on) ||| ms.getD e.on 0)) m) m0) a = true →
    bitOf m0 a = true ∨ ∃ e ∈ l, Region.binds .any e = true ∧ (a = e.on ∨ bitOf (ms.getD e.on 0) a = true) := by
  intro l
  induction l with
  | nil => intro m0 h; exact .inl h
  | cons e l ih =>
    intro m0 h
    simp only [List.foldl_cons] at h
    rcases ih _ h with h1 | ⟨e', h2, h3, h4⟩
    · cases hb : Region.binds .any e with
      | false => rw [hb] at h1; exact .inl h1
      | true =>
        rw [hb] at h1
        simp only [cond_true, bitOf_or, Bool.or_eq_true] at h1
        rcases h1 with h1 | h1 | h1
        · exact .inl h1
        · exact .inr ⟨e, List.mem_cons_self .., hb, .inl (bitOf_one _ _ h1)⟩
        · exact .inr ⟨e, List.mem_cons_self .., hb, .inr h1⟩
    · exact .inr ⟨e', List.mem_cons_of_mem _ h2, h3, h4⟩
theorem aheads_len : ∀ (l : List Oper) (ms : List Nat), (aheads ms l).length = ms.length + l.length := by
  intro l
  induction l with
  | nil => intro ms; simp [aheads]
  | cons o l ih => intro ms; simp only [aheads, ih, List.length_append, List.length_cons, List.length_nil]; omega
theorem aheads_pre : ∀ (l : List Oper) (ms : List Nat), ∃ r, aheads ms l = ms ++ r := by
  intro l
  induction l with
  | nil => intro ms; exact ⟨[], by simp [aheads]⟩
  | cons o l ih => intro ms; obtain ⟨r, hr⟩ := ih (ms ++ [aheadOf o ms]); exact ⟨aheadOf o ms :: r, by simp [aheads, hr]⟩
theorem aheads_get : ∀ (l : List Oper) (ms : List Nat) (j : Nat) (o : Oper), l[j]? = some o → ∃ pre, (aheads ms l)[ms.length + j]? = some (aheadOf o pre) ∧ pre.length = ms.length + j ∧ ∀ i, i < ms.length + j → pre.getD i 0 = (aheads ms l).getD i 0 := by
  intro l
  induction l with
  | nil => intro ms j o h; simp at h
  | cons p l ih =>
    intro ms j o h
    cases j with
    | zero =>
      simp only [List.getElem?_cons_zero, Option.some.injEq] at h; subst h
      obtain ⟨r, hr⟩ := aheads_pre l (ms ++ [aheadOf p ms])
      refine ⟨ms, ?_, by simp, fun i hi => ?_⟩
      · simp [aheads, hr]
      · simp only [aheads, hr, List.getD_eq_getElem?_getD, List.append_assoc]
        rw [List.getElem?_append_left (by omega)]
    | succ j =>
      simp only [List.getElem?_cons_succ] at h
      obtain ⟨pre, h1, h2, h3⟩ := ih (ms ++ [aheadOf p ms]) j o h
      simp only [List.length_append, List.length_cons, List.length_nil] at h1 h2 h3
      exact ⟨pre, by simp only [aheads]; rw [← h1]; congr 1; omega, by omega, fun i hi => by simp only [aheads]; exact h3 i (by omega)⟩
theorem mixRow_spec {all : List Oper} {m : Nat} {x : Oper} : ∀ (l : List Oper) (a : Nat), mixRow all m x a l = true → ∀ j o, l[j]? = some o → bitOf m (a + j) = true ∨ apartD all o x = true := by
  intro l
  induction l with
  | nil => intro a _ j o h; simp at h
  | cons p l ih =>
    intro a h j o ho
    simp only [mixRow, Bool.and_eq_true, Bool.or_eq_true] at h
    cases j with
    | zero => simp only [List.getElem?_cons_zero, Option.some.injEq] at ho; subst ho; exact h.1
    | succ j =>
      simp only [List.getElem?_cons_succ] at ho
      have := ih (a + 1) h.2 j o ho
      rwa [show a + 1 + j = a + (j + 1) by omega] at this
theorem mixAll_spec {all : List Oper} {ms : List Nat} : ∀ (l pre : List Oper) (i : Nat), pre.length = i → mixAll all ms pre i l = true → ∀ j x, l[j]? = some x →
    (∀ e ∈ x.after.toList, Region.binds .any e = true → e.on < i + j) ∧ ∀ a o, a < i + j → (pre ++ l)[a]? = some o → bitOf (ms.getD (i + j) 0) a = true ∨ apartD all o x = true := by
  intro l
  induction l with
  | nil => intro pre i _ _ j x h; simp at h
  | cons p l ih =>
    intro pre i hi h j x hx
    simp only [mixAll, Bool.and_eq_true] at h
    obtain ⟨⟨h1, h2⟩, h3⟩ := h
    cases j with
    | zero =>
      simp only [List.getElem?_cons_zero, Option.some.injEq] at hx; subst hx
      refine ⟨fun e he hb => ?_, fun a o ha ho => ?_⟩
      · have := List.all_eq_true.1 h1 e he
        rw [hb] at this
        simpa [Nat.blt_eq] using this
      · rw [List.getElem?_append_left (by omega)] at ho
        have := mixRow_spec pre 0 h2 a o ho
        rwa [Nat.zero_add] at this
    | succ j =>
      simp only [List.getElem?_cons_succ] at hx
      have := ih (pre ++ [p]) (i + 1) (by simp [hi]) h3 j x hx
      rw [show i + 1 + j = i + (j + 1) by omega] at this
      refine ⟨this.1, fun a o ha ho => this.2 a o ha ?_⟩
      simpa using ho
theorem opsD_nil (X : Cx) (base : Nat) (all : List Oper) (ms : List Nat) (i : Nat) (lg : List Mark) (tm : List AV) (s : St) : opsD X base all ms [] i lg tm s = some (tm, s) := rfl
theorem opsD_cons (X : Cx) (base : Nat) (all : List Oper) (ms : List Nat) (o : Oper) (l : List Oper) (i : Nat) (lg : List Mark) (tm : List AV) (s : St) : opsD X base all ms (o :: l) i lg tm s =
    (wantedA all (gt tm) o).bind fun w => cond w
      (cond (clear (ms.getD i 0) (markOf X i (base + i) (ev X (gt tm)) o.op s) lg)
        ((opD X (base + i) (ev X (gt tm)) o s).bind fun r => opsD X base all ms l (i + 1) (markOf X i (base + i) (ev X (gt tm)) o.op s :: lg) (put tm o.dst r.1) r.2) none)
      (opsD X base all ms l (i + 1) lg (put tm o.dst (.tup [])) s) := rfl
theorem markOf_i (X : Cx) (i id : Nat) (e : Operand → AV) (o : Op) (s : St) : (markOf X i id e o s).i = i := by
  unfold markOf
  cases wide X e o <;> rfl
theorem opsD_run {base : Nat} {all : List Oper} {ms : List Nat} {tm' : List AV} {s' : St} : ∀ (l : List Oper) (i : Nat) (lg : List Mark) (tm : List AV) (s : St), all.drop i = l → opsD X base all ms l i lg tm s = some (tm', s') →
    ∃ ml, runM X base all (List.range' i l.length) (tm, s) = some (ml, (tm', s')) ∧ (∀ p ∈ ml, i ≤ p.1 ∧ ∀ k, p.2 = some k → k.i = p.1 ∧ ∀ g ∈ lg, bitOf (ms.getD p.1 0) g.i = true ∨ g.apart k = true) ∧
      ml.Pairwise fun p k => p.1 < k.1 ∧ (bitOf (ms.getD k.1 0) p.1 = true ∨ ∀ u v, p.2 = some u → k.2 = some v → u.apart v = true) := by
  intro l
  induction l with
  | nil =>
    intro i lg tm s hl h
    rw [opsD_nil] at h
    simp only [Option.some.injEq, Prod.mk.injEq] at h; obtain ⟨rfl, rfl⟩ := h
    exact ⟨[], rfl, fun p hp => (by cases hp), List.Pairwise.nil⟩
  | cons o l ih =>
    intro i lg tm s hl h
    have hoi : all[i]? = some o := by
      have := congrArg (·[0]?) hl
      simpa using this
    have hl' : all.drop (i + 1) = l := by
      have : (all.drop i).drop 1 = l := by rw [hl]; rfl
      rwa [List.drop_drop] at this
    rw [opsD_cons] at h
    cases hw : wantedA all (gt tm) o with
    | none => rw [hw] at h; cases h
    | some w =>
      rw [hw] at h
      simp only [Option.bind_some] at h
      rw [List.length_cons, List.range'_succ]
      cases w with
      | false =>
        simp only [cond_false] at h
        obtain ⟨ml, h1, h2, h3⟩ := ih (i + 1) lg _ s hl' h
        refine ⟨(i, none) :: ml, runM_cons.2 ⟨none, _, ml, ?_, h1, rfl⟩, fun p hp => ?_, List.pairwise_cons.2 ⟨fun p hp => ⟨(h2 p hp).1, .inr fun u v hu => nomatch hu⟩, h3⟩⟩
        · simp only [stepM, hoi, hw, Option.bind_some, cond_false]
        · rcases List.mem_cons.1 hp with rfl | hp
          · exact ⟨Nat.le_refl _, fun k hk => nomatch hk⟩
          · exact ⟨by have := (h2 p hp).1; omega, (h2 p hp).2⟩
      | true =>
        simp only [cond_true] at h
        cases hc : clear (ms.getD i 0) (markOf X i (base + i) (ev X (gt tm)) o.op s) lg with
        | false => rw [hc] at h; cases h
        | true =>
          rw [hc] at h
          simp only [cond_true] at h
          cases ho : opD X (base + i) (ev X (gt tm)) o s with
          | none => rw [ho] at h; cases h
          | some r =>
            rw [ho] at h
            simp only [Option.bind_some] at h
            obtain ⟨ml, h1, h2, h3⟩ := ih (i + 1) _ _ r.2 hl' h
            refine ⟨(i, some (markOf X i (base + i) (ev X (gt tm)) o.op s)) :: ml, runM_cons.2 ⟨_, _, ml, ?_, h1, rfl⟩, fun p hp => ?_, List.pairwise_cons.2 ⟨fun p hp => ⟨(h2 p hp).1, ?_⟩, h3⟩⟩
            · simp only [stepM, hoi, hw, Option.bind_some, cond_true, ho, Option.map_some]
            · rcases List.mem_cons.1 hp with rfl | hp
              · refine ⟨Nat.le_refl _, fun k hk => ?_⟩
                simp only [Option.some.injEq] at hk; subst hk
                refine ⟨markOf_i .., fun g hg => ?_⟩
                have := List.all_eq_true.1 hc g hg
                simpa using this
              · exact ⟨by have := (h2 p hp).1; omega, fun k hk => ⟨((h2 p hp).2 k hk).1, fun g hg => ((h2 p hp).2 k hk).2 g (List.mem_cons_of_mem _ hg)⟩⟩
            · cases hk : p.2 with
              | none => exact .inr fun u v _ hv => nomatch hv
              | some k =>
                rcases ((h2 p hp).2 k hk).2 _ (List.mem_cons_self ..) with hb | hb
                · rw [markOf_i] at hb; exact .inl hb
                · refine .inr fun u v hu hv => ?_
                  simp only [Option.some.injEq] at hu hv
                  subst hu; subst hv; exact hb
end
end Go.Proofs.YtdehdahimkcakaaGreatDoor.Ai
