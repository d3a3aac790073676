/- Two operations of a region that draws, in either order. -/
import Derived.Test.YtdehdahimkcakaaGreatDoorSim22
set_option linter.unusedVariables false
set_option linter.unusedSimpArgs false
namespace Go.Proofs.YtdehdahimkcakaaGreatDoor.Ai
open Go

section
variable {X : Cx} {s s' : St}

/-! ### Slots -/
theorem gt_put {tm : List AV} {d : Option Nat} {v : AV} {t : Nat} (h : ∀ u, d = some u → u ≠ t) : gt (put tm d v) t = gt tm t := by
  cases d with
  | none => rfl
  | some u =>
    have hne := h u rfl
    simp only [gt, put, List.getD_eq_getElem?_getD, List.getElem?_set_ne hne]
theorem put_put {tm : List AV} {d e : Option Nat} {v w : AV} (h : ∀ a b, d = some a → e = some b → a ≠ b) : put (put tm d v) e w = put (put tm e w) d v := by
  cases d with
  | none => rfl
  | some a =>
    cases e with
    | none => rfl
    | some b => exact List.set_comm v w (h a b rfl rfl)
theorem ev_put {tm : List AV} {d : Option Nat} {v : AV} {x : Operand} (h : ∀ u, d = some u → isTmp u x = false) : ev X (gt (put tm d v)) x = ev X (gt tm) x := by
  cases x with
  | tmp t =>
    refine gt_put fun u hu hut => ?_
    have := h u hu
    subst hut
    simp [isTmp] at this
  | _ => rfl
theorem sees_ev {all : List Oper} {o : Oper} {tm : List AV} {d : Option Nat} {v : AV} (h : ∀ u, d = some u → sees all o u = false) : ∀ x ∈ opnds o.op, ev X (gt (put tm d v)) x = ev X (gt tm) x := by
  intro x hx
  refine ev_put fun u hu => ?_
  have := h u hu
  simp only [sees, Bool.or_eq_false_iff, List.any_eq_false] at this
  simpa using this.1 x hx
theorem sees_wanted {all : List Oper} {o : Oper} {tm : List AV} {d : Option Nat} {v : AV} (h : ∀ u, d = some u → sees all o u = false) : wantedA all (gt (put tm d v)) o = wantedA all (gt tm) o := by
  unfold wantedA
  cases hg : o.guard with
  | none => rfl
  | some jw =>
    obtain ⟨j, w⟩ := jw
    simp only
    cases hd : (all[j]?).bind (·.dst) with
    | none => rfl
    | some t =>
      simp only
      rw [gt_put fun u hu hut => ?_]
      have := h u hu
      simp only [sees, Bool.or_eq_false_iff, hg, hd] at this
      have h2 := this.2
      rw [hut] at h2
      simp at h2

/-! ### Congruence -/
theorem wide_congr {e e' : Operand → AV} {o : Op} (h : ∀ x ∈ opnds o, e x = e' x) : wide X e o = wide X e' o := by
  cases o <;> try rfl
  rename_i c
  unfold wide
  cases hc : c.callee with
  | value f => simp only [hc]; rw [h f (by simp [opnds, hc])]
  | invoke a b => simp only [hc]
  | builtin b => simp only [hc]
theorem foot_congr {e e' : Operand → AV} {o : Op} (h : ∀ x ∈ opnds o, e x = e' x) : foot o e = foot o e' := by
  cases o <;> simp only [foot] <;> simp only [opnds] at h
  case call c =>
    cases hc : c.callee with
    | builtin b =>
      simp only [hc] at h ⊢
      have : ∀ x ∈ c.args.toList, idOf (e x) = idOf (e' x) := fun x hx => by rw [h x (by simp; exact Array.mem_toList_iff.1 hx)]
      simp only [List.flatMap]; rw [List.map_congr_left this]
    | _ => rfl
  all_goals (first | rfl | (rw [h _ (by simp)]; done))
theorem opnds_congr {e e' : Operand → AV} {o : Op} (h : ∀ x ∈ opnds o, e x = e' x) : (opnds o).map e = (opnds o).map e' := List.map_congr_left h
theorem shown_congr {e e' : Operand → AV} {o : Op} (h : ∀ x ∈ opnds o, e x = e' x) (s : St) : shown e o s = shown e' o s := by
  unfold shown
  simp only [opnds_congr h, foot_congr h]
theorem opD_congr {id : Nat} {e e' : Operand → AV} {o : Oper} (h : ∀ x ∈ opnds o.op, e x = e' x) (s : St) : opD X id e o s = opD X id e' o s := by
  unfold opD
  simp only [wide_congr h, shown_congr h, opA_congr h]
theorem touch_congr {e e' : Operand → AV} {o : Op} (h : ∀ x ∈ opnds o, e x = e' x) (id : Nat) (s : St) : touch o id e s = touch o id e' s := by
  unfold touch
  simp only [shown_congr h]
theorem markOf_congr {i id : Nat} {e e' : Operand → AV} {o : Op} (h : ∀ x ∈ opnds o, e x = e' x) (s : St) : markOf X i id e o s = markOf X i id e' o s := by
  unfold markOf
  simp only [wide_congr h, shown_congr h, touch_congr h]

/-! ### Blocks -/
/-- What an operation may change. -/
def wset (wd wr : Bool) (id nx : Nat) (l : List Nat) (m : Nat) : Bool := cond wd (memB m l || Nat.ble nx m) (wr && memB m (id :: l))
theorem shown_eq {e : Operand → AV} {o : Op} (h : ∀ m ∈ shown e o s, s'.h m = s.h m) : shown e o s' = shown e o s := by
  unfold shown at h ⊢
  cases o <;> try rfl
  rename_i c
  simp only at h ⊢
  cases hc : c.callee with
  | value f =>
    simp only [hc] at h ⊢
    exact reach_eq s.h s'.h 4000 _ [] h
  | _ => rfl
theorem only_eq {l : List Nat} (h : ∀ m ∈ l, s'.h m = s.h m) : s'.only l = ⟨(s.only l).h, s'.nx⟩ := by
  refine st_eq (fun m => ?_) rfl
  simp only [St.only]
  cases hm : memB m l with
  | false => rfl
  | true => exact h m (memB_mem.1 hm)
theorem opD_spec (hp : CallPure X) {id : Nat} {e : Operand → AV} {o : Oper} {r : AV} {t : St} (h : opD X id e o s = some (r, t)) :
    (∀ m, wset (wide X e o.op) (writes o.op) id s.nx (shown e o.op s) m = false → t.h m = s.h m) ∧ (wide X e o.op = false → t.nx = s.nx) ∧
    ∀ s' : St, (∀ m ∈ shown e o.op s, s'.h m = s.h m) → (wide X e o.op = true → s'.nx = s.nx) → shown e o.op s' = shown e o.op s ∧
      ∃ t', opD X id e o s' = some (r, t') ∧ (∀ m, wset (wide X e o.op) (writes o.op) id s.nx (shown e o.op s) m = true → t'.h m = t.h m) ∧
        (∀ m, wset (wide X e o.op) (writes o.op) id s.nx (shown e o.op s) m = false → t'.h m = s'.h m) ∧ (wide X e o.op = true → t'.nx = t.nx) ∧ (wide X e o.op = false → t'.nx = s'.nx) := by
  have hsh : ∀ s' : St, (∀ m ∈ shown e o.op s, s'.h m = s.h m) → shown e o.op s' = shown e o.op s := fun s' h => shown_eq h
  unfold opD at h ⊢
  generalize hl : shown e o.op s = l at h ⊢ hsh
  cases hw : wide X e o.op with
  | true =>
    rw [hw] at h
    simp only [cond_true] at h ⊢
    cases ho : opA X false id e o (s.only l) with
    | none => rw [ho] at h; cases h
    | some q =>
      rw [ho] at h
      simp only [Option.map_some, Option.some.injEq, Prod.mk.injEq] at h; obtain ⟨rfl, rfl⟩ := h
      refine ⟨fun m hm => ?_, (fun hf => (nomatch hf)), fun s' h1 h2 => ?_⟩
      · simp only [wset, cond_true] at hm
        simp only [mergeW, hm, cond_false]
      · have h2 := h2 trivial
        rw [hsh s' h1]
        have ho' : opA X false id e o (s'.only l) = some q := by
          rw [only_eq h1, h2]; exact ho
        rw [ho']
        refine ⟨rfl, _, rfl, fun m hm => ?_, fun m hm => ?_, (fun _ => rfl), (fun hf => (nomatch hf))⟩
        · simp only [wset, cond_true] at hm
          simp only [mergeW, h2, hm, cond_true]
        · simp only [wset, cond_true] at hm
          simp only [mergeW, h2, hm, cond_false]
  | false =>
    rw [hw] at h
    simp only [cond_false] at h ⊢
    cases ho : opA X true id e o (s.only l) with
    | none => rw [ho] at h; cases h
    | some q =>
      rw [ho] at h
      simp only [Option.map_some, Option.some.injEq, Prod.mk.injEq] at h; obtain ⟨rfl, rfl⟩ := h
      refine ⟨fun m hm => ?_, fun _ => ?_, fun s' h1 h2 => ?_⟩
      · simp only [wset, cond_false] at hm
        cases hwr : writes o.op with
        | false => rfl
        | true =>
          rw [hwr, Bool.true_and] at hm
          simp only [cond_true, St.merge, hm, cond_false]
      · cases hwr : writes o.op <;> rfl
      · rw [hsh s' h1]
        have ho' : opA X true id e o (s'.only l) = some (re s'.nx q) := by
          rw [only_eq h1, opA_re hp, ho]; rfl
        rw [ho']
        refine ⟨rfl, _, rfl, fun m hm => ?_, fun m hm => ?_, fun hf => (nomatch hf), fun _ => ?_⟩
        · simp only [wset, cond_false] at hm
          cases hwr : writes o.op with
          | false => rw [hwr] at hm; cases hm
          | true =>
            rw [hwr, Bool.true_and] at hm
            simp only [cond_true, St.merge, hm, re]
        · simp only [wset, cond_false] at hm
          cases hwr : writes o.op with
          | false => rfl
          | true =>
            rw [hwr, Bool.true_and] at hm
            simp only [cond_true, St.merge, hm, cond_false]
        · cases hwr : writes o.op <;> rfl
theorem disj_mem : ∀ {l m : List Nat}, disj l m = true → ∀ n ∈ l, memB n m = false := by
  intro l
  induction l with
  | nil => intro m _ n hn; cases hn
  | cons a l ih =>
    intro m h n hn
    simp only [disj, Bool.and_eq_true, Bool.not_eq_true'] at h
    rcases List.mem_cons.1 hn with rfl | hn
    · exact h.1
    · exact ih h.2 n hn
theorem apart_facts {wa ra : Bool} {ia na : Nat} {la : List Nat} {wx rx : Bool} {ix nx : Nat} {lx : List Nat} {i j : Nat}
    (h : (cond wa ⟨i, true, la, some na⟩ ⟨i, ra, cond ra (ia :: la) la, none⟩ : Mark).apart (cond wx ⟨j, true, lx, some nx⟩ ⟨j, rx, cond rx (ix :: lx) lx, none⟩) = true) :
    (∀ m ∈ lx, wset wa ra ia na la m = false) ∧ (∀ m ∈ la, wset wx rx ix nx lx m = false) ∧ (∀ m, wset wa ra ia na la m = true → wset wx rx ix nx lx m = true → False) ∧ (wa = true → wx = false) := by
  have flip : ∀ {l m : List Nat}, disj l m = true → ∀ n ∈ m, memB n l = false := fun {l m} hd n hn => by
    cases hb : memB n l with
    | false => rfl
    | true => have := disj_mem hd n (memB_mem.1 hb); rw [memB_mem.2 hn] at this; cases this
  have low : ∀ {l : List Nat} {k : Nat}, (l.all fun m => Nat.blt m k) = true → ∀ n ∈ l, Nat.ble k n = false := fun {l k} hl n hn => by
    have h1 := List.all_eq_true.1 hl n hn
    have h2 : n < k := by simpa [Nat.blt_eq] using h1
    cases hb : Nat.ble k n with
    | false => rfl
    | true => have := Nat.le_of_ble_eq_true hb; omega
  have tr : ∀ {l m : List Nat} {n : Nat}, disj l m = true → memB n l = true → memB n m = true → False := fun {l m n} hd h1 h2 => by
    have := disj_mem hd n (memB_mem.1 h1); rw [h2] at this; cases this
  cases wa <;> cases wx
  · cases ra <;> cases rx
    · simp [wset]
    all_goals
      simp only [cond_false, cond_true, Mark.apart, okLo, Bool.not_true, Bool.not_false, Bool.and_true, Bool.false_and, Bool.and_false, Bool.true_and, Bool.false_or] at h
      simp only [wset, cond_false, Bool.true_and, Bool.false_and]
    · exact ⟨fun m _ => trivial, fun m hm => disj_mem h m hm, fun m h1 => (by simp at h1), fun h => nomatch h⟩
    · exact ⟨fun m hm => flip h m hm, fun m hm => trivial, fun m _ h1 => (by simp at h1), fun h => nomatch h⟩
    · exact ⟨fun m hm => flip h m (List.mem_cons_of_mem _ hm), fun m hm => disj_mem h m (List.mem_cons_of_mem _ hm), fun m h1 h2 => tr h h1 h2, fun h => nomatch h⟩
  · simp only [cond_false, cond_true, Mark.apart, okLo, Bool.not_true, Bool.and_false, Bool.false_or, Bool.true_and, Option.isNone_none, Bool.and_eq_true] at h
    obtain ⟨h1, h2⟩ := h
    cases ra
    · simp only [cond_false] at h1 h2
      simp only [wset, cond_false, cond_true, Bool.false_and]
      refine ⟨fun m _ => trivial, fun m hm => ?_, fun m h => (by simp at h), (fun h => (nomatch h))⟩
      rw [disj_mem h2 m hm, low h1 m hm]; rfl
    · simp only [cond_true] at h1 h2
      simp only [wset, cond_false, cond_true, Bool.true_and]
      refine ⟨fun m hm => flip h2 m hm, fun m hm => ?_, fun m h3 h4 => ?_, fun h => nomatch h⟩
      · rw [disj_mem h2 m (List.mem_cons_of_mem _ hm), low h1 m (List.mem_cons_of_mem _ hm)]; rfl
      · have hm := memB_mem.1 h3
        rw [disj_mem h2 m hm, low h1 m hm] at h4; cases h4
  · simp only [cond_false, cond_true, Mark.apart, okLo, Bool.not_true, Bool.false_and, Bool.false_or, Bool.true_and, Bool.and_true, Option.isNone_none, Bool.and_eq_true] at h
    obtain ⟨h1, h2⟩ := h
    cases rx
    · simp only [cond_false] at h1 h2
      simp only [wset, cond_false, cond_true, Bool.false_and]
      refine ⟨fun m hm => ?_, fun m _ => trivial, fun m _ h => (by simp at h), fun _ => trivial⟩
      rw [flip h2 m hm, low h1 m hm]; rfl
    · simp only [cond_true] at h1 h2
      simp only [wset, cond_false, cond_true, Bool.true_and]
      refine ⟨fun m hm => ?_, fun m hm => disj_mem h2 m hm, fun m h4 h3 => ?_, fun _ => trivial⟩
      · rw [flip h2 m (List.mem_cons_of_mem _ hm), low h1 m (List.mem_cons_of_mem _ hm)]; rfl
      · have hm := memB_mem.1 h3
        rw [flip h2 m hm, low h1 m hm] at h4; cases h4
  · simp [Mark.apart, okLo] at h

/-! ### Steps -/
def stepM (X : Cx) (base : Nat) (all : List Oper) (i : Nat) (q : List AV × St) : Option (Option Mark × (List AV × St)) :=
  match all[i]? with
  | none => none
  | some o => (wantedA all (gt q.1) o).bind fun w => cond w
      ((opD X (base + i) (ev X (gt q.1)) o q.2).map fun r => (some (markOf X i (base + i) (ev X (gt q.1)) o.op q.2), (put q.1 o.dst r.1, r.2)))
      (some (none, (put q.1 o.dst (.tup []), q.2)))
theorem apartD_spec {all : List Oper} {a x : Oper} (h : apartD all a x = true) :
    (∀ u, a.dst = some u → sees all x u = false) ∧ (∀ u, x.dst = some u → sees all a u = false) ∧ ∀ u v, a.dst = some u → x.dst = some v → u ≠ v := by
  unfold apartD at h
  simp only [Bool.and_eq_true] at h
  obtain ⟨h1, h2⟩ := h
  refine ⟨fun u hu => ?_, fun u hu => ?_, fun u v hu hv huv => ?_⟩
  · rw [hu] at h1; simp only [Bool.and_eq_true, Bool.not_eq_true'] at h1; exact h1.1
  · rw [hu] at h2; simpa using h2
  · rw [hu, hv] at h1
    subst huv
    simp at h1
theorem swap (hp : CallPure X) {base : Nat} {all : List Oper} {a x : Nat} {oa ox : Oper} (ha : all[a]? = some oa) (hx : all[x]? = some ox) (hap : apartD all oa ox = true)
    {q q1 q2 : List AV × St} {ma mx : Option Mark} (h1 : stepM X base all a q = some (ma, q1)) (h2 : stepM X base all x q1 = some (mx, q2)) (hm : ∀ p k, ma = some p → mx = some k → p.apart k = true) :
    ∃ q1', stepM X base all x q = some (mx, q1') ∧ stepM X base all a q1' = some (ma, q2) := by
  obtain ⟨d1, d2, d3⟩ := apartD_spec hap
  unfold stepM at h1 h2 ⊢
  rw [ha] at h1 ⊢
  rw [hx] at h2 ⊢
  simp only at h1 h2 ⊢
  cases hwa : wantedA all (gt q.1) oa with
  | none => rw [hwa] at h1; cases h1
  | some wa =>
  rw [hwa] at h1
  simp only [Option.bind_some] at h1
  cases wa with
  | false =>
    simp only [cond_false, Option.some.injEq, Prod.mk.injEq] at h1; obtain ⟨rfl, rfl⟩ := h1
    simp only [sees_wanted d1, opD_congr (sees_ev d1), markOf_congr (sees_ev d1)] at h2
    cases hwx : wantedA all (gt q.1) ox with
    | none => rw [hwx] at h2; cases h2
    | some wx =>
    rw [hwx] at h2
    simp only [Option.bind_some] at h2 ⊢
    cases wx with
    | false =>
      simp only [cond_false, Option.some.injEq, Prod.mk.injEq] at h2 ⊢; obtain ⟨rfl, rfl⟩ := h2
      refine ⟨_, ⟨rfl, rfl⟩, ?_⟩
      simp only [sees_wanted d2, hwa, Option.bind_some, cond_false, Option.some.injEq, Prod.mk.injEq, true_and]
      exact ⟨(put_put d3).symm, trivial⟩
    | true =>
      simp only [cond_true] at h2 ⊢
      cases ho : opD X (base + x) (ev X (gt q.1)) ox q.2 with
      | none => rw [ho] at h2; cases h2
      | some r =>
      rw [ho] at h2
      simp only [Option.map_some, Option.some.injEq, Prod.mk.injEq] at h2 ⊢; obtain ⟨rfl, rfl⟩ := h2
      refine ⟨_, ⟨rfl, rfl⟩, ?_⟩
      simp only [sees_wanted d2, hwa, Option.bind_some, cond_false, Option.some.injEq, Prod.mk.injEq, true_and]
      exact ⟨(put_put d3).symm, trivial⟩
  | true =>
    simp only [cond_true] at h1
    cases hoa : opD X (base + a) (ev X (gt q.1)) oa q.2 with
    | none => rw [hoa] at h1; cases h1
    | some ra =>
    obtain ⟨ra, s1⟩ := ra
    rw [hoa] at h1
    simp only [Option.map_some, Option.some.injEq, Prod.mk.injEq] at h1; obtain ⟨rfl, rfl⟩ := h1
    simp only [sees_wanted d1, opD_congr (sees_ev d1), markOf_congr (sees_ev d1)] at h2
    cases hwx : wantedA all (gt q.1) ox with
    | none => rw [hwx] at h2; cases h2
    | some wx =>
    rw [hwx] at h2
    simp only [Option.bind_some] at h2 ⊢
    cases wx with
    | false =>
      simp only [cond_false, Option.some.injEq, Prod.mk.injEq] at h2 ⊢; obtain ⟨rfl, rfl⟩ := h2
      refine ⟨_, ⟨rfl, rfl⟩, ?_⟩
      simp only [sees_wanted d2, hwa, Option.bind_some, cond_true, opD_congr (sees_ev d2), markOf_congr (sees_ev d2), hoa, Option.map_some, Option.some.injEq, Prod.mk.injEq, true_and]
      exact ⟨(put_put d3).symm, trivial⟩
    | true =>
      simp only [cond_true] at h2 ⊢
      cases hox : opD X (base + x) (ev X (gt q.1)) ox s1 with
      | none => rw [hox] at h2; cases h2
      | some rx =>
      obtain ⟨rx, s2⟩ := rx
      rw [hox] at h2
      simp only [Option.map_some, Option.some.injEq, Prod.mk.injEq] at h2; obtain ⟨rfl, rfl⟩ := h2
      have hma := hm _ _ rfl rfl
      simp only [markOf, touch] at hma
      obtain ⟨f1, f2, f3, f4⟩ := apart_facts hma
      obtain ⟨a1, a2, a3⟩ := opD_spec hp hoa
      obtain ⟨x1, x2, x3⟩ := opD_spec hp hox
      obtain ⟨y1, t1, y2, y3, y4, y5, y6⟩ := x3 q.2 (fun m hm => (a1 m (f1 m hm)).symm) (fun hwx' => by
        cases hwa' : wide X (ev X (gt q.1)) oa.op with
        | false => exact (a2 hwa').symm
        | true => rw [f4 hwa'] at hwx'; cases hwx')
      obtain ⟨z1, t2, z2, z3, z4, z5, z6⟩ := a3 t1 (fun m hm => y4 m (f2 m hm)) (fun hwa' => y6 (f4 hwa'))
      rw [y2]
      simp only [Option.map_some, Option.some.injEq, Prod.mk.injEq]
      refine ⟨_, ⟨?_, rfl⟩, ?_⟩
      · simp only [markOf, touch, y1]
        cases hwx' : wide X (ev X (gt q.1)) ox.op with
        | false => rfl
        | true =>
          have : s1.nx = q.2.nx := by
            cases hwa' : wide X (ev X (gt q.1)) oa.op with
            | false => exact a2 hwa'
            | true => rw [f4 hwa'] at hwx'; cases hwx'
          rw [this]
      · simp only [sees_wanted d2, hwa, Option.bind_some, cond_true, opD_congr (sees_ev d2), markOf_congr (sees_ev d2), z2, Option.map_some, Option.some.injEq, Prod.mk.injEq]
        refine ⟨?_, (put_put d3).symm, st_eq (fun m => ?_) ?_⟩
        · simp only [markOf, touch, z1]
          cases hwa' : wide X (ev X (gt q.1)) oa.op with
          | false => rfl
          | true => rw [y6 (f4 hwa')]
        · cases hA : wset (wide X (ev X (gt q.1)) oa.op) (writes oa.op) (base + a) q.2.nx (shown (ev X (gt q.1)) oa.op q.2) m with
          | true =>
            rw [z3 m hA]
            refine (x1 m ?_).symm
            cases hB : wset (wide X (ev X (gt q.1)) ox.op) (writes ox.op) (base + x) s1.nx (shown (ev X (gt q.1)) ox.op s1) m with
            | false => rfl
            | true => exact (f3 m hA hB).elim
          | false =>
            rw [z4 m hA]
            cases hB : wset (wide X (ev X (gt q.1)) ox.op) (writes ox.op) (base + x) s1.nx (shown (ev X (gt q.1)) ox.op s1) m with
            | true => exact y3 m hB
            | false => rw [y4 m hB, x1 m hB, a1 m hA]
        · cases hwa' : wide X (ev X (gt q.1)) oa.op with
          | true => rw [z5 hwa', x2 (f4 hwa')]
          | false =>
            rw [z6 hwa']
            cases hwx' : wide X (ev X (gt q.1)) ox.op with
            | true => exact y5 hwx'
            | false => rw [y6 hwx', x2 hwx', a2 hwa']
end
end Go.Proofs.YtdehdahimkcakaaGreatDoor.Ai
