/- Operations. -/
import Derived.Test.YtdehdahimkcakaaGreatDoorSim12
set_option linter.unusedVariables false
set_option linter.unusedSimpArgs false
namespace Go.Proofs.YtdehdahimkcakaaGreatDoor.Ai
open Go

section
variable {P : Program} {T : Ty} {F : Fz} {ρ : Rho} {s : St} {W : World}

/-- What holds when an operation or a call has answered. -/
def Good (T : Ty) (id : Nat) (s : St) (ρ : Rho) (F : Fz) (W : World) (r : AV) (s' : St) (v : Value) (W' : World) : Prop :=
  ∃ ρ' F', VR T F' ρ' r v ∧ R T F' ρ' s' W' ∧ Step s ρ F W s' ρ' F' W' ∧ (∀ i, i < s.nx → i ≠ id → ρ' i = ρ i) ∧ s.nx ≤ s'.nx
/-- What an operation of a region does. -/
def DoesN (P : Program) (T : Ty) (id : Nat) (s : St) (ρ : Rho) (F : Fz) (W : World) (r : AV) (s' : St) (m : Sem Next) : Prop :=
  (∃ v W', m.run P W = .ok (.value v) W' ∧ Good T id s ρ F W r s' v W') ∨ (∃ W', m.run P W = .ok .skip W' ∧ Good T id s ρ F W r s' undef W') ∨
  ∃ f args, m.run P W = .ok (.enter f args) W ∧ Calls P f args W (fun | .returned v, W' => Good T id s ρ F W r s' v W' | _, _ => False)
theorem Does.next {id : Nat} {r : AV} {s' : St} {m : Sem Value} (h : Does P T id s ρ F W r s' m) : DoesN P T id s ρ F W r s' (do pure (.value (← m))) := by
  obtain ⟨v, W', ρ', F', h1, h2, h3, h4, h5, h6⟩ := h
  exact .inl ⟨v, W', by simp only [Sem.run_bind, h1, Result.andThen_ok, Sem.run_pure], ρ', F', h2, h3, h4, h5, h6⟩
theorem DoesU.next {id : Nat} {s' : St} {m : Sem Unit} (h : DoesU P T id s ρ F W s' m) : DoesN P T id s ρ F W (.tup []) s' (do m; pure .skip) := by
  obtain ⟨W', ρ', F', h1, h3, h4, h5, h6⟩ := h
  exact .inr (.inl ⟨W', by simp only [Sem.run_bind, h1, Result.andThen_ok, Sem.run_pure], ρ', F', .tup _ _ rfl (fun i h => by simp at h), h3, h4, h5, h6⟩)
/-- The calls of a body are sound. -/
def CallOk (P : Program) (X : Cx) : Prop := ∀ (dr : Bool) (f : FuncId) (args : List AV) (s : St) (r : AV) (s' : St), X.call dr f args s = some (r, s') →
  ∀ (vals : Array Value) (ρ : Rho) (F : Fz) (W : World), CR X.P F ρ args vals.toList → R X.P F ρ s W → (∀ g cs, X.glob g = some cs → ∃ w : Nat → Value, ∀ j (h : j < cs.length), F ⟨g, j, none⟩ = some (w j) ∧ VR X.P F (fun _ => none) cs[j] (w j)) →
    ∀ id0, DoesN P X.P id0 s ρ F W r s' (callFunc f vals)
/-- What the package-level variables hold is frozen. -/
def GlobOk (T : Ty) (glob : Nat → Option (List AV)) (F : Fz) : Prop := ∀ g cs, glob g = some cs → ∃ w : Nat → Value, ∀ j (h : j < cs.length), F ⟨g, j, none⟩ = some (w j) ∧ VR T F (fun _ => none) cs[j] (w j)
theorem GlobOk.mono {T : Ty} {glob : Nat → Option (List AV)} {F F' : Fz} (h : GlobOk T glob F) (hF : FLe F F') : GlobOk T glob F' := fun g cs hg => by
  obtain ⟨w, hw⟩ := h g cs hg
  exact ⟨w, fun j hj => ⟨hF _ _ (hw j hj).1, (hw j hj).2.mono hF (RLe.refl _)⟩⟩
/-- What the slots hold. -/
def TM (T : Ty) (F : Fz) (ρ : Rho) (tm : List AV) (ts : Array Value) : Prop := tm.length ≤ ts.size ∧ ∀ i (h : i < tm.length) (h' : i < ts.size), VR T F ρ tm[i] ts[i]
theorem TM.mono {F' : Fz} {ρ' : Rho} {tm : List AV} {ts : Array Value} (h : TM T F ρ tm ts) (hF : FLe F F') (hρ : RLe ρ ρ') : TM T F' ρ' tm ts := ⟨h.1, fun i a b => (h.2 i a b).mono hF hρ⟩
theorem TM.gt {tm : List AV} {ts : Array Value} (h : TM T F ρ tm ts) (t : Nat) : VR T F ρ (Ai.gt tm t) (ts.getD t undef) := by
  unfold Ai.gt
  by_cases ht : t < tm.length
  · have h2 : t < ts.size := Nat.lt_of_lt_of_le ht h.1
    have e1 : tm.getD t .undef = tm[t] := by simp [List.getD, List.getElem?_eq_getElem ht]
    have e2 : ts.getD t undef = ts[t] := by simp [Array.getD, h2]
    rw [e1, e2]; exact h.2 t ht h2
  · have e1 : tm.getD t .undef = .undef := by simp [List.getD, List.getElem?_eq_none (Nat.not_lt.1 ht)]
    rw [e1]; exact .undef _
theorem TM.put {tm : List AV} {ts : Array Value} (h : TM T F ρ tm ts) {x : AV} {v : Value} (hx : VR T F ρ x v) (d : Option Nat) (ds : List Deferred) : TM T F ρ (Ai.put tm d x) ((⟨ts, ds⟩ : Act).put d v).tmps := by
  cases d with
  | none => exact h
  | some d =>
    refine ⟨by simpa [Ai.put, Act.put] using h.1, fun i a b => ?_⟩
    simp only [Ai.put, Act.put] at a b ⊢
    rw [List.getElem_set, Array.getElem_setIfInBounds (by simpa using b)]
    split
    · exact hx
    · exact h.2 i _ _
theorem ev_ok {X : Cx} (hG : GlobOk X.P X.glob F) {tm : List AV} {ts : Array Value} (h : TM X.P F ρ tm ts) (ds : List Deferred) (x : Operand) : VR X.P F ρ (ev X (gt tm) x) ((⟨ts, ds⟩ : Act).eval x) := by
  cases x with
  | tmp t => exact h.gt t
  | const v => exact ofV_ok v
  | global g =>
    simp only [ev, Act.eval]
    cases hg : X.glob g with
    | none => exact .undef _
    | some cs =>
      obtain ⟨w, hw⟩ := hG g cs hg
      exact .pel cs 0 g 0 w (fun j hj => by rw [Nat.zero_add]; exact (hw j hj).1) (fun j hj => (hw j hj).2.mono (FLe.refl _) (fun _ _ h => by cases h))
  | func f => exact .fn f [] [] #[] #[] rfl rfl (fun i h => by simp at h) (fun i h => by simp at h)
theorem cr_map {α : Type} (l : Array α) (f : α → AV) (g : α → Value) (h : ∀ x, VR T F ρ (f x) (g x)) : CR T F ρ (l.toList.map f) (l.map g).toList := by
  rw [Array.toList_map]
  exact ⟨by simp, fun i a b => by simp only [List.getElem_map]; exact h _⟩
theorem CR.two {x y : AV} {us : Array Value} (h : CR T F ρ [x, y] us.toList) : ∃ u v, us = #[u, v] ∧ VR T F ρ x u ∧ VR T F ρ y v := by
  obtain ⟨us⟩ := us
  match us, h with
  | [u, v], h => exact ⟨u, v, rfl, h.2 0 (by simp) (by simp), h.2 1 (by simp) (by simp)⟩
  | [], h => exact absurd h.1 (by simp)
  | [_], h => exact absurd h.1 (by simp)
  | _ :: _ :: _ :: _, h => exact absurd h.1 (by simp)
theorem CR.single {x : AV} {us : Array Value} (h : CR T F ρ [x] us.toList) : ∃ u, us = #[u] ∧ VR T F ρ x u := by
  obtain ⟨us⟩ := us
  match us, h with
  | [u], h => exact ⟨u, rfl, h.2 0 (by simp) (by simp)⟩
  | [], h => exact absurd h.1 (by simp)
  | _ :: _ :: _, h => exact absurd h.1 (by simp)
theorem builtin_len (ats : Array TypeId) (ty : TypeId) (cs : Array Bool) (us : Array Value) : builtin .len ats ty cs us = (do pure (.value (← Builtin.len_ ats ty us))) := rfl
theorem builtin_cap (ats : Array TypeId) (ty : TypeId) (cs : Array Bool) (us : Array Value) : builtin .cap ats ty cs us = (do pure (.value (← Builtin.cap_ ats ty us))) := rfl
theorem builtin_min (ats : Array TypeId) (ty : TypeId) (cs : Array Bool) (us : Array Value) : builtin .min ats ty cs us = (do pure (.value (← Builtin.min_ ats ty us))) := rfl
theorem builtin_max (ats : Array TypeId) (ty : TypeId) (cs : Array Bool) (us : Array Value) : builtin .max ats ty cs us = (do pure (.value (← Builtin.max_ ats ty us))) := rfl
theorem builtin_append (ats : Array TypeId) (ty : TypeId) (cs : Array Bool) (us : Array Value) : builtin .append ats ty cs us = (do pure (.value (← Builtin.append_ ats ty us))) := rfl
theorem builtin_copy (ats : Array TypeId) (ty : TypeId) (cs : Array Bool) (us : Array Value) : builtin .copy ats ty cs us = (do pure (.value (← Builtin.copy_ ats ty us))) := rfl
theorem builtin_unsafeSliceData (ats : Array TypeId) (ty : TypeId) (cs : Array Bool) (us : Array Value) : builtin .unsafeSliceData ats ty cs us = (do pure (.value (← Builtin.unsafeSliceData_ ats ty us))) := rfl
theorem builtin_unsafeString (ats : Array TypeId) (ty : TypeId) (cs : Array Bool) (us : Array Value) : builtin .unsafeString ats ty cs us = (do pure (.value (← Builtin.unsafeString_ ats ty us))) := rfl
theorem feed_src (hT : TyOk P T) {e : TypeId} {i : TypeInfo} {ats : Array TypeId} {u : Value} {nc : List AV} {m : Nat} {news : List Value} {tx : TypeId} {d : TypeDesc} (h1 : ats[1]? = some tx) (h2 : P.underlying tx = some d) (h3 : (∃ e', d = .slice e') ∨ d = .string)
    (hg : Gives P T F ρ W i.size nc u m news) (hone : nc.all AV.one = true) : Feed P T F ρ W e i ats u nc m news :=
  ⟨⟨tx, d, h1, h2, .inl ⟨h3, hg.len, hg.all (fun _ _ h => h), hg.all (drew_cells W)⟩⟩, hg.cr, hg.size, hone⟩
theorem builtin_ok {X : Cx} (hT : TyOk P X.P) (hR : R X.P F ρ s W) {b : Builtin} {ats : Array TypeId} {args : List AV} {r : AV} {s' : St} {id0 : Nat} (hid : ρ id0 = none) (hlt : id0 < s.nx) (h : builtinA X b ats args id0 s = some (r, s')) {us : Array Value} (hu : CR X.P F ρ args us.toList) (ty : TypeId) (cs : Array Bool) :
    DoesN P X.P id0 s ρ F W r s' (builtin b ats ty cs us) := by
  have hat : ∀ {i : Nat} {d : TypeDesc}, (ats[i]?).bind (und X.P) = some d → ∃ t, ats[i]? = some t ∧ P.underlying t = some d := fun {i d} hd => by
    cases ht : ats[i]? with
    | none => rw [ht] at hd; cases hd
    | some t => rw [ht] at hd; exact ⟨t, rfl, und_ok hT hd⟩
  unfold builtinA at h
  split at h
  · -- len
    obtain ⟨u, rfl, hv⟩ := hu.single
    rw [builtin_len]
    refine Does.next ?_
    cases hd : (ats[0]?).bind (und X.P) with
    | none => rw [hd] at h; cases h
    | some d =>
      rw [hd] at h
      simp only [Option.bind_some] at h
      split at h
      · rename_i x hl
        obtain ⟨t, ht, hun⟩ := hat hd
        cases hn : lenA x s with
        | none => rw [hn] at h; cases h
        | some n =>
          rw [hn] at h
          simp only [Option.map_some, Option.some.injEq, Prod.mk.injEq] at h; obtain ⟨rfl, rfl⟩ := h
          exact Says.does hR id0 (len_ok (ty := ty) hT hR ht hun hl hn hv)
      · cases h
  · -- cap
    rename_i x
    obtain ⟨u, rfl, hv⟩ := hu.single
    rw [builtin_cap]
    refine Does.next ?_
    cases hd : (ats[0]?).bind (und X.P) with
    | none => rw [hd] at h; cases h
    | some d =>
      rw [hd] at h
      simp only [Option.bind_some] at h
      obtain ⟨t, ht, hun⟩ := hat hd
      split at h
      · cases hn : capA x with
        | none => rw [hn] at h; cases h
        | some n =>
          rw [hn] at h
          simp only [Option.map_some, Option.some.injEq, Prod.mk.injEq] at h; obtain ⟨rfl, rfl⟩ := h
          exact Says.does hR id0 (cap_ok (ty := ty) hT ht hun hn hv)
      · cases h
  · -- min
    rw [builtin_min]
    refine Does.next ?_
    cases hm : minI (fun y x => decide (y < x)) args with
    | none => rw [hm] at h; cases h
    | some r =>
      rw [hm] at h
      simp only [Option.map_some, Option.some.injEq, Prod.mk.injEq] at h; obtain ⟨rfl, rfl⟩ := h
      obtain ⟨x, y, rfl, hs⟩ := min_ok (P := P) (W := W) (m2 := Builtin.min2) (fun k a k' b => by simp [Builtin.min2]) hm hu
      exact Says.does hR id0 hs
  · -- max
    rw [builtin_max]
    refine Does.next ?_
    cases hm : minI (fun y x => decide (x < y)) args with
    | none => rw [hm] at h; cases h
    | some r =>
      rw [hm] at h
      simp only [Option.map_some, Option.some.injEq, Prod.mk.injEq] at h; obtain ⟨rfl, rfl⟩ := h
      obtain ⟨x, y, rfl, hs⟩ := min_ok (P := P) (W := W) (m2 := Builtin.max2) (fun k a k' b => by simp [Builtin.max2]) hm hu
      exact Says.does hR id0 hs
  · -- append
    rename_i x y
    obtain ⟨u, v, rfl, hux, hvy⟩ := hu.two
    rw [builtin_append]
    refine Does.next ?_
    split at h
    · -- of zeros
      rename_i e k hd0 hd1
      obtain ⟨t, ht, hun⟩ := hat hd0
      obtain ⟨tx, htx, hunx⟩ := hat hd1
      split at h
      · rename_i z ag b zv k' n hl hb hz
        split at h
        · rename_i hc
          obtain ⟨h0, h1, h2, h3, h4⟩ := hc
          obtain ⟨i, d, hi, hs, _, _⟩ := lay_ok hT hl
          obtain ⟨i2, hi2, hb2⟩ := run_bytes hT hb
          rw [hi] at hi2; cases hi2
          obtain ⟨i3, zr, hi3, hz3, rfl⟩ := zero_ok hT hz
          rw [hi] at hi3; cases hi3
          have hcr := rep_cr (ofV_cells (T := X.P) (F := F) (ρ := ρ) zr) n.toNat h4 h0
          have hzs : zr.cells.size = z := by
            have := (ofV_cells (T := X.P) (F := F) (ρ := ρ) zr).1
            simp at this; omega
          have hzc : (Array.range (n.toNat * z)).map (zr.cells[· % zr.cells.size]!) = Builtin.zeroCells zr.cells n.toNat := by
            simp only [Builtin.zeroCells, hzs]
          rw [hzc] at hcr
          cases hvy
          refine appendA_ok (ty := ty) (news := (Builtin.zeroCells zr.cells n.toNat).toList) hT hR hl hb hz h4 h0 hi (m := n.toNat) (fun hone => ?_) ht hun hux hid hlt h
          refine ⟨⟨tx, _, htx, hunx, .inr ⟨⟨_, rfl⟩, _, n, zr, rfl, h1, h3, by rw [hb2]; exact h2, rfl, hz3, rfl⟩⟩, hcr, ?_, hone⟩
          rw [hcr.1]
          simp [size_zeroCells, hzs, hs]
        · cases h
      · cases h
    · rename_i e e2 hd0 hd1
      obtain ⟨t, ht, hun⟩ := hat hd0
      obtain ⟨tx, htx, hunx⟩ := hat hd1
      split at h
      · rename_i z ag b zv hl hb hz
        split at h
        · rename_i hc
          obtain ⟨h0, h1⟩ := hc
          obtain ⟨i, d, hi, hs, _, _⟩ := lay_ok hT hl
          cases hsrc : srcCells z y s with
          | none => rw [hsrc] at h; cases h
          | some nc =>
            rw [hsrc] at h
            simp only [Option.bind_some] at h
            obtain ⟨m, news, hg⟩ := src_ok (P := P) hR h0 hsrc hvy
            rw [← hs] at hg
            exact appendA_ok (ty := ty) hT hR hl hb hz h1 h0 hi (fun hone => feed_src hT htx hunx (.inl ⟨_, rfl⟩) hg hone) ht hun hux hid hlt h
        · cases h
      · cases h
    · rename_i e hd0 hd1
      obtain ⟨t, ht, hun⟩ := hat hd0
      obtain ⟨tx, htx, hunx⟩ := hat hd1
      split at h
      · rename_i z ag b zv hl hb hz
        split at h
        · rename_i hc
          obtain ⟨h0, h1⟩ := hc
          obtain ⟨i, d, hi, hs, _, _⟩ := lay_ok hT hl
          cases hsrc : srcCells z y s with
          | none => rw [hsrc] at h; cases h
          | some nc =>
            rw [hsrc] at h
            simp only [Option.bind_some] at h
            obtain ⟨m, news, hg⟩ := src_ok (P := P) hR h0 hsrc hvy
            rw [← hs] at hg
            exact appendA_ok (ty := ty) hT hR hl hb hz h1 h0 hi (fun hone => feed_src hT htx hunx (.inr rfl) hg hone) ht hun hux hid hlt h
        · cases h
      · cases h
    · cases h
  · -- copy
    rename_i x y
    obtain ⟨u, v, rfl, hux, hvy⟩ := hu.two
    rw [builtin_copy]
    refine Does.next ?_
    split at h
    · rename_i e hd0
      obtain ⟨t, ht, hun⟩ := hat hd0
      split at h
      · rename_i z ag hl
        split at h
        · cases h
        · rename_i hz0
          cases hsrc : srcCells z y s with
          | none => rw [hsrc] at h; cases h
          | some nc =>
            rw [hsrc] at h
            simp only [Option.bind_some] at h
            obtain ⟨m, news, hg⟩ := src_ok (P := P) hR (by omega) hsrc hvy
            exact copyA_ok (ty := ty) hT hR hl (by omega) ht hun hg hux h id0
      · cases h
    · cases h
  · -- unsafe.SliceData
    obtain ⟨u, rfl, hv⟩ := hu.single
    rw [builtin_unsafeSliceData]
    refine Does.next ?_
    split at h
    · simp only [Option.some.injEq, Prod.mk.injEq] at h; obtain ⟨rfl, rfl⟩ := h
      cases hv
      exact Says.does hR id0 ⟨_, Lib.run_unsafeSliceData_nil W ats ty 0 0, .nilp⟩
    · rename_i id off n cap e
      cases hb : s.h id with
      | none => rw [hb] at h; cases h
      | some bk =>
        rw [hb] at h
        cases bk with
        | cells c e' ex wr =>
          simp only at h
          split at h
          · rename_i hc
            obtain ⟨ho, hcap⟩ := hc
            have : cap = none := by simpa using hcap
            subst this
            simp only [Option.some.injEq, Prod.mk.injEq] at h; obtain ⟨rfl, rfl⟩ := h
            exact Says.does hR id0 (sliceData_ok (ats := ats) (ty := ty) hR hb ho hv)
          · cases h
        | _ => cases h
    · cases h
  · -- unsafe.String
    rename_i p n
    obtain ⟨u, v, rfl, hux, hvy⟩ := hu.two
    rw [builtin_unsafeString]
    refine Does.next ?_
    split at h
    · rename_i pt it hats
      have hats' : ats = #[pt, it] := Array.ext' (by simpa using hats)
      subst hats'
      split at h
      · rename_i e1 id n hd
        cases hb : s.h id with
        | none => rw [hb] at h; cases h
        | some bk =>
          rw [hb] at h
          cases bk with
          | cells c e ex wr =>
            simp only at h
            split at h
            · rename_i ag hl
              split at h
              · rename_i hc
                obtain ⟨rfl, h0, h1, h2⟩ := hc
                cases hns : asU8s (c.take n.toNat) with
                | none => rw [hns] at h; cases h
                | some ns =>
                  rw [hns] at h
                  simp only [Option.bind_some] at h
                  split at h
                  · rename_i hall
                    simp only [Option.some.injEq, Prod.mk.injEq] at h; obtain ⟨rfl, rfl⟩ := h
                    cases hvy
                    exact unsafeString_ok (ty := ty) (it := it) hT hR (und_ok hT hd) hb hl h0 h1 h2 hns hall hux id0
                  · cases h
              · cases h
            · cases h
          | _ => cases h
      · simp only [Option.some.injEq, Prod.mk.injEq] at h; obtain ⟨rfl, rfl⟩ := h
        cases hux; cases hvy
        exact Says.does hR id0 ⟨_, Lib.run_unsafeString_none W pt it ty none, .str _ _ rfl⟩
      · simp only [Option.some.injEq, Prod.mk.injEq] at h; obtain ⟨rfl, rfl⟩ := h
        cases hvy
        cases hux with
        | ptr id off β z hρ => exact Says.does hR id0 ⟨.string .empty, Lib.run_unsafeString_none (P := P) W pt it ty (some _), .str [] .empty rfl⟩
      · cases h
    · cases h
  · cases h
end
end Go.Proofs.YtdehdahimkcakaaGreatDoor.Ai
