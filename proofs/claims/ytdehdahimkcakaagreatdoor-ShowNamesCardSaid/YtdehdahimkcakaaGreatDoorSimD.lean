/- The interpreter is sound: parts 13 to 18. -/
import Derived.Test.YtdehdahimkcakaaGreatDoorSimC
set_option linter.unusedVariables false
set_option linter.unusedSimpArgs false
/-! Operations. -/
namespace Go.Proofs.YtdehdahimkcakaaGreatDoor.Ai
open Go

section
variable {P : Program} {T : Ty} {F : Fz} {ρ : Rho} {s : St} {W : World}

/-- What holds when an operation or a call has answered. -/
def Good (T : Ty) (id : Nat) (s : St) (ρ : Rho) (F : Fz) (W : World) (r : AV) (s' : St) (v : Value) (W' : World) : Prop :=
  ∃ ρ' F', VR T F' ρ' r v ∧ R T F' ρ' s' W' ∧ Step s ρ F W s' ρ' F' W' ∧ (∀ i, i < s.nx → i ≠ id → ρ' i = ρ i) ∧ s.nx ≤ s'.nx
/-- What an operation of a region does. -/
def DoesN (P : Program) (T : Ty) (id : Nat) (s : St) (ρ : Rho) (F : Fz) (W : World) (r : AV) (s' : St) (m : Sem Next) : Prop :=
  (∃ v W', m.run P W = .ok (.value v) W' ∧ Good T id s ρ F W r s' v W') ∨ (∃ W', m.run P W = .ok .skip W' ∧ Good T id s ρ F W r s' undef W') ∨
  ∃ f args, m.run P W = .ok (.enter f args) W ∧ Calls P f args W (fun | .returned v, W' => Good T id s ρ F W r s' v W' | _, _ => False)
theorem Does.next {id : Nat} {r : AV} {s' : St} {m : Sem Value} (h : Does P T id s ρ F W r s' m) : DoesN P T id s ρ F W r s' (do pure (.value (← m))) := by
  obtain ⟨v, W', ρ', F', h1, h2, h3, h4, h5, h6⟩ := h
  exact .inl ⟨v, W', by simp only [Sem.run_bind, h1, Result.andThen_ok, Sem.run_pure], ρ', F', h2, h3, h4, h5, h6⟩
theorem DoesU.next {id : Nat} {s' : St} {m : Sem Unit} (h : DoesU P T id s ρ F W s' m) : DoesN P T id s ρ F W (.tup []) s' (do m; pure .skip) := by
  obtain ⟨W', ρ', F', h1, h3, h4, h5, h6⟩ := h
  exact .inr (.inl ⟨W', by simp only [Sem.run_bind, h1, Result.andThen_ok, Sem.run_pure], ρ', F', .tup _ _ rfl (fun i h => by simp at h), h3, h4, h5, h6⟩)
/-- The calls of a body are sound. -/
def CallOk (P : Program) (X : Cx) : Prop := ∀ (dr : Bool) (f : FuncId) (args : List AV) (s : St) (r : AV) (s' : St), X.call dr f args s = some (r, s') →
  ∀ (vals : Array Value) (ρ : Rho) (F : Fz) (W : World), CR X.P F ρ args vals.toList → R X.P F ρ s W → (∀ g cs, X.glob g = some cs → ∃ w : Nat → Value, ∀ j (h : j < cs.length), F ⟨g, j, none⟩ = some (w j) ∧ VR X.P F (fun _ => none) cs[j] (w j)) →
    ∀ id0, DoesN P X.P id0 s ρ F W r s' (callFunc f vals)
/-- What the package-level variables hold is frozen. -/
def GlobOk (T : Ty) (glob : Nat → Option (List AV)) (F : Fz) : Prop := ∀ g cs, glob g = some cs → ∃ w : Nat → Value, ∀ j (h : j < cs.length), F ⟨g, j, none⟩ = some (w j) ∧ VR T F (fun _ => none) cs[j] (w j)
theorem GlobOk.mono {T : Ty} {glob : Nat → Option (List AV)} {F F' : Fz} (h : GlobOk T glob F) (hF : FLe F F') : GlobOk T glob F' := fun g cs hg => by
  obtain ⟨w, hw⟩ := h g cs hg
  exact ⟨w, fun j hj => ⟨hF _ _ (hw j hj).1, (hw j hj).2.mono hF (RLe.refl _)⟩⟩
/-- What the slots hold. -/
def TM (T : Ty) (F : Fz) (ρ : Rho) (tm : List AV) (ts : Array Value) : Prop := tm.length ≤ ts.size ∧ ∀ i (h : i < tm.length) (h' : i < ts.size), VR T F ρ tm[i] ts[i]
theorem TM.mono {F' : Fz} {ρ' : Rho} {tm : List AV} {ts : Array Value} (h : TM T F ρ tm ts) (hF : FLe F F') (hρ : RLe ρ ρ') : TM T F' ρ' tm ts := ⟨h.1, fun i a b => (h.2 i a b).mono hF hρ⟩
theorem TM.gt {tm : List AV} {ts : Array Value} (h : TM T F ρ tm ts) (t : Nat) : VR T F ρ (Ai.gt tm t) (ts.getD t undef) := by
  unfold Ai.gt
  by_cases ht : t < tm.length
  · have h2 : t < ts.size := Nat.lt_of_lt_of_le ht h.1
    have e1 : tm.getD t .undef = tm[t] := by simp [List.getD, List.getElem?_eq_getElem ht]
    have e2 : ts.getD t undef = ts[t] := by simp [Array.getD, h2]
    rw [e1, e2]; exact h.2 t ht h2
  · have e1 : tm.getD t .undef = .undef := by simp [List.getD, List.getElem?_eq_none (Nat.not_lt.1 ht)]
    rw [e1]; exact .undef _
theorem TM.put {tm : List AV} {ts : Array Value} (h : TM T F ρ tm ts) {x : AV} {v : Value} (hx : VR T F ρ x v) (d : Option Nat) (ds : List Deferred) : TM T F ρ (Ai.put tm d x) ((⟨ts, ds⟩ : Act).put d v).tmps := by
  cases d with
  | none => exact h
  | some d =>
    refine ⟨by simpa [Ai.put, Act.put] using h.1, fun i a b => ?_⟩
    simp only [Ai.put, Act.put] at a b ⊢
    rw [List.getElem_set, Array.getElem_setIfInBounds (by simpa using b)]
    split
    · exact hx
    · exact h.2 i _ _
theorem ev_ok {X : Cx} (hG : GlobOk X.P X.glob F) {tm : List AV} {ts : Array Value} (h : TM X.P F ρ tm ts) (ds : List Deferred) (x : Operand) : VR X.P F ρ (ev X (gt tm) x) ((⟨ts, ds⟩ : Act).eval x) := by
  cases x with
  | tmp t => exact h.gt t
  | const v => exact ofV_ok v
  | global g =>
    simp only [ev, Act.eval]
    cases hg : X.glob g with
    | none => exact .undef _
    | some cs =>
      obtain ⟨w, hw⟩ := hG g cs hg
      exact .pel cs 0 g 0 w (fun j hj => by rw [Nat.zero_add]; exact (hw j hj).1) (fun j hj => (hw j hj).2.mono (FLe.refl _) (fun _ _ h => by cases h))
  | func f => exact .fn f [] [] #[] #[] rfl rfl (fun i h => by simp at h) (fun i h => by simp at h)
theorem cr_map {α : Type} (l : Array α) (f : α → AV) (g : α → Value) (h : ∀ x, VR T F ρ (f x) (g x)) : CR T F ρ (l.toList.map f) (l.map g).toList := by
  rw [Array.toList_map]
  exact ⟨by simp, fun i a b => by simp only [List.getElem_map]; exact h _⟩
theorem CR.two {x y : AV} {us : Array Value} (h : CR T F ρ [x, y] us.toList) : ∃ u v, us = #[u, v] ∧ VR T F ρ x u ∧ VR T F ρ y v := by
  obtain ⟨us⟩ := us
  match us, h with
  | [u, v], h => exact ⟨u, v, rfl, h.2 0 (by simp) (by simp), h.2 1 (by simp) (by simp)⟩
  | [], h => exact absurd h.1 (by simp)
  | [_], h => exact absurd h.1 (by simp)
  | _ :: _ :: _ :: _, h => exact absurd h.1 (by simp)
theorem CR.single {x : AV} {us : Array Value} (h : CR T F ρ [x] us.toList) : ∃ u, us = #[u] ∧ VR T F ρ x u := by
  obtain ⟨us⟩ := us
  match us, h with
  | [u], h => exact ⟨u, rfl, h.2 0 (by simp) (by simp)⟩
  | [], h => exact absurd h.1 (by simp)
  | _ :: _ :: _, h => exact absurd h.1 (by simp)
theorem builtin_len (ats : Array TypeId) (ty : TypeId) (cs : Array Bool) (us : Array Value) : builtin .len ats ty cs us = (do pure (.value (← Builtin.len_ ats ty us))) := rfl
theorem builtin_cap (ats : Array TypeId) (ty : TypeId) (cs : Array Bool) (us : Array Value) : builtin .cap ats ty cs us = (do pure (.value (← Builtin.cap_ ats ty us))) := rfl
theorem builtin_min (ats : Array TypeId) (ty : TypeId) (cs : Array Bool) (us : Array Value) : builtin .min ats ty cs us = (do pure (.value (← Builtin.min_ ats ty us))) := rfl
theorem builtin_max (ats : Array TypeId) (ty : TypeId) (cs : Array Bool) (us : Array Value) : builtin .max ats ty cs us = (do pure (.value (← Builtin.max_ ats ty us))) := rfl
theorem builtin_append (ats : Array TypeId) (ty : TypeId) (cs : Array Bool) (us : Array Value) : builtin .append ats ty cs us = (do pure (.value (← Builtin.append_ ats ty us))) := rfl
theorem builtin_copy (ats : Array TypeId) (ty : TypeId) (cs : Array Bool) (us : Array Value) : builtin .copy ats ty cs us = (do pure (.value (← Builtin.copy_ ats ty us))) := rfl
theorem builtin_unsafeSliceData (ats : Array TypeId) (ty : TypeId) (cs : Array Bool) (us : Array Value) : builtin .unsafeSliceData ats ty cs us = (do pure (.value (← Builtin.unsafeSliceData_ ats ty us))) := rfl
theorem builtin_unsafeString (ats : Array TypeId) (ty : TypeId) (cs : Array Bool) (us : Array Value) : builtin .unsafeString ats ty cs us = (do pure (.value (← Builtin.unsafeString_ ats ty us))) := rfl
theorem feed_src (hT : TyOk P T) {e : TypeId} {i : TypeInfo} {ats : Array TypeId} {u : Value} {nc : List AV} {m : Nat} {news : List Value} {tx : TypeId} {d : TypeDesc} (h1 : ats[1]? = some tx) (h2 : P.underlying tx = some d) (h3 : (∃ e', d = .slice e') ∨ d = .string)
    (hg : Gives P T F ρ W i.size nc u m news) (hone : nc.all AV.one = true) : Feed P T F ρ W e i ats u nc m news :=
  ⟨⟨tx, d, h1, h2, .inl ⟨h3, hg.len, hg.all (fun _ _ h => h), hg.all (drew_cells W)⟩⟩, hg.cr, hg.size, hone⟩
theorem builtin_ok {X : Cx} (hT : TyOk P X.P) (hR : R X.P F ρ s W) {b : Builtin} {ats : Array TypeId} {args : List AV} {r : AV} {s' : St} {id0 : Nat} (hid : ρ id0 = none) (hlt : id0 < s.nx) (h : builtinA X b ats args id0 s = some (r, s')) {us : Array Value} (hu : CR X.P F ρ args us.toList) (ty : TypeId) (cs : Array Bool) :
    DoesN P X.P id0 s ρ F W r s' (builtin b ats ty cs us) := by
  have hat : ∀ {i : Nat} {d : TypeDesc}, (ats[i]?).bind (und X.P) = some d → ∃ t, ats[i]? = some t ∧ P.underlying t = some d := fun {i d} hd => by
    cases ht : ats[i]? with
    | none => rw [ht] at hd; cases hd
    | some t => rw [ht] at hd; exact ⟨t, rfl, und_ok hT hd⟩
  unfold builtinA at h
  split at h
  · -- len
    obtain ⟨u, rfl, hv⟩ := hu.single
    rw [builtin_len]
    refine Does.next ?_
    cases hd : (ats[0]?).bind (und X.P) with
    | none => rw [hd] at h; cases h
    | some d =>
      rw [hd] at h
      simp only [Option.bind_some] at h
      split at h
      · rename_i x hl
        obtain ⟨t, ht, hun⟩ := hat hd
        cases hn : lenA x s with
        | none => rw [hn] at h; cases h
        | some n =>
          rw [hn] at h
          simp only [Option.map_some, Option.some.injEq, Prod.mk.injEq] at h; obtain ⟨rfl, rfl⟩ := h
          exact Says.does hR id0 (len_ok (ty := ty) hT hR ht hun hl hn hv)
      · cases h
  · -- cap
    rename_i x
    obtain ⟨u, rfl, hv⟩ := hu.single
    rw [builtin_cap]
    refine Does.next ?_
    cases hd : (ats[0]?).bind (und X.P) with
    | none => rw [hd] at h; cases h
    | some d =>
      rw [hd] at h
      simp only [Option.bind_some] at h
      obtain ⟨t, ht, hun⟩ := hat hd
      split at h
      · cases hn : capA x with
        | none => rw [hn] at h; cases h
        | some n =>
          rw [hn] at h
          simp only [Option.map_some, Option.some.injEq, Prod.mk.injEq] at h; obtain ⟨rfl, rfl⟩ := h
          exact Says.does hR id0 (cap_ok (ty := ty) hT ht hun hn hv)
      · cases h
  · -- min
    rw [builtin_min]
    refine Does.next ?_
    cases hm : minI (fun y x => decide (y < x)) args with
    | none => rw [hm] at h; cases h
    | some r =>
      rw [hm] at h
      simp only [Option.map_some, Option.some.injEq, Prod.mk.injEq] at h; obtain ⟨rfl, rfl⟩ := h
      obtain ⟨x, y, rfl, hs⟩ := min_ok (P := P) (W := W) (m2 := Builtin.min2) (fun k a k' b => by simp [Builtin.min2]) hm hu
      exact Says.does hR id0 hs
  · -- max
    rw [builtin_max]
    refine Does.next ?_
    cases hm : minI (fun y x => decide (x < y)) args with
    | none => rw [hm] at h; cases h
    | some r =>
      rw [hm] at h
      simp only [Option.map_some, Option.some.injEq, Prod.mk.injEq] at h; obtain ⟨rfl, rfl⟩ := h
      obtain ⟨x, y, rfl, hs⟩ := min_ok (P := P) (W := W) (m2 := Builtin.max2) (fun k a k' b => by simp [Builtin.max2]) hm hu
      exact Says.does hR id0 hs
  · -- append
    rename_i x y
    obtain ⟨u, v, rfl, hux, hvy⟩ := hu.two
    rw [builtin_append]
    refine Does.next ?_
    split at h
    · -- of zeros
      rename_i e k hd0 hd1
      obtain ⟨t, ht, hun⟩ := hat hd0
      obtain ⟨tx, htx, hunx⟩ := hat hd1
      split at h
      · rename_i z ag b zv k' n hl hb hz
        split at h
        · rename_i hc
          obtain ⟨h0, h1, h2, h3, h4⟩ := hc
          obtain ⟨i, d, hi, hs, _, _⟩ := lay_ok hT hl
          obtain ⟨i2, hi2, hb2⟩ := run_bytes hT hb
          rw [hi] at hi2; cases hi2
          obtain ⟨i3, zr, hi3, hz3, rfl⟩ := zero_ok hT hz
          rw [hi] at hi3; cases hi3
          have hcr := rep_cr (ofV_cells (T := X.P) (F := F) (ρ := ρ) zr) n.toNat h4 h0
          have hzs : zr.cells.size = z := by
            have := (ofV_cells (T := X.P) (F := F) (ρ := ρ) zr).1
            simp at this; omega
          have hzc : (Array.range (n.toNat * z)).map (zr.cells[· % zr.cells.size]!) = Builtin.zeroCells zr.cells n.toNat := by
            simp only [Builtin.zeroCells, hzs]
          rw [hzc] at hcr
          cases hvy
          refine appendA_ok (ty := ty) (news := (Builtin.zeroCells zr.cells n.toNat).toList) hT hR hl hb hz h4 h0 hi (m := n.toNat) (fun hone => ?_) ht hun hux hid hlt h
          refine ⟨⟨tx, _, htx, hunx, .inr ⟨⟨_, rfl⟩, _, n, zr, rfl, h1, h3, by rw [hb2]; exact h2, rfl, hz3, rfl⟩⟩, hcr, ?_, hone⟩
          rw [hcr.1]
          simp [size_zeroCells, hzs, hs]
        · cases h
      · cases h
    · rename_i e e2 hd0 hd1
      obtain ⟨t, ht, hun⟩ := hat hd0
      obtain ⟨tx, htx, hunx⟩ := hat hd1
      split at h
      · rename_i z ag b zv hl hb hz
        split at h
        · rename_i hc
          obtain ⟨h0, h1⟩ := hc
          obtain ⟨i, d, hi, hs, _, _⟩ := lay_ok hT hl
          cases hsrc : srcCells z y s with
          | none => rw [hsrc] at h; cases h
          | some nc =>
            rw [hsrc] at h
            simp only [Option.bind_some] at h
            obtain ⟨m, news, hg⟩ := src_ok (P := P) hR h0 hsrc hvy
            rw [← hs] at hg
            exact appendA_ok (ty := ty) hT hR hl hb hz h1 h0 hi (fun hone => feed_src hT htx hunx (.inl ⟨_, rfl⟩) hg hone) ht hun hux hid hlt h
        · cases h
      · cases h
    · rename_i e hd0 hd1
      obtain ⟨t, ht, hun⟩ := hat hd0
      obtain ⟨tx, htx, hunx⟩ := hat hd1
      split at h
      · rename_i z ag b zv hl hb hz
        split at h
        · rename_i hc
          obtain ⟨h0, h1⟩ := hc
          obtain ⟨i, d, hi, hs, _, _⟩ := lay_ok hT hl
          cases hsrc : srcCells z y s with
          | none => rw [hsrc] at h; cases h
          | some nc =>
            rw [hsrc] at h
            simp only [Option.bind_some] at h
            obtain ⟨m, news, hg⟩ := src_ok (P := P) hR h0 hsrc hvy
            rw [← hs] at hg
            exact appendA_ok (ty := ty) hT hR hl hb hz h1 h0 hi (fun hone => feed_src hT htx hunx (.inr rfl) hg hone) ht hun hux hid hlt h
        · cases h
      · cases h
    · cases h
  · -- copy
    rename_i x y
    obtain ⟨u, v, rfl, hux, hvy⟩ := hu.two
    rw [builtin_copy]
    refine Does.next ?_
    split at h
    · rename_i e hd0
      obtain ⟨t, ht, hun⟩ := hat hd0
      split at h
      · rename_i z ag hl
        split at h
        · cases h
        · rename_i hz0
          cases hsrc : srcCells z y s with
          | none => rw [hsrc] at h; cases h
          | some nc =>
            rw [hsrc] at h
            simp only [Option.bind_some] at h
            obtain ⟨m, news, hg⟩ := src_ok (P := P) hR (by omega) hsrc hvy
            exact copyA_ok (ty := ty) hT hR hl (by omega) ht hun hg hux h id0
      · cases h
    · cases h
  · -- unsafe.SliceData
    obtain ⟨u, rfl, hv⟩ := hu.single
    rw [builtin_unsafeSliceData]
    refine Does.next ?_
    split at h
    · simp only [Option.some.injEq, Prod.mk.injEq] at h; obtain ⟨rfl, rfl⟩ := h
      cases hv
      exact Says.does hR id0 ⟨_, Lib.run_unsafeSliceData_nil W ats ty 0 0, .nilp⟩
    · rename_i id off n cap e
      cases hb : s.h id with
      | none => rw [hb] at h; cases h
      | some bk =>
        rw [hb] at h
        cases bk with
        | cells c e' ex wr =>
          simp only at h
          split at h
          · rename_i hc
            obtain ⟨ho, hcap⟩ := hc
            have : cap = none := by simpa using hcap
            subst this
            simp only [Option.some.injEq, Prod.mk.injEq] at h; obtain ⟨rfl, rfl⟩ := h
            exact Says.does hR id0 (sliceData_ok (ats := ats) (ty := ty) hR hb ho hv)
          · cases h
        | _ => cases h
    · cases h
  · -- unsafe.String
    rename_i p n
    obtain ⟨u, v, rfl, hux, hvy⟩ := hu.two
    rw [builtin_unsafeString]
    refine Does.next ?_
    split at h
    · rename_i pt it hats
      have hats' : ats = #[pt, it] := Array.ext' (by simpa using hats)
      subst hats'
      split at h
      · rename_i e1 id n hd
        cases hb : s.h id with
        | none => rw [hb] at h; cases h
        | some bk =>
          rw [hb] at h
          cases bk with
          | cells c e ex wr =>
            simp only at h
            split at h
            · rename_i ag hl
              split at h
              · rename_i hc
                obtain ⟨rfl, h0, h1, h2⟩ := hc
                cases hns : asU8s (c.take n.toNat) with
                | none => rw [hns] at h; cases h
                | some ns =>
                  rw [hns] at h
                  simp only [Option.bind_some] at h
                  split at h
                  · rename_i hall
                    simp only [Option.some.injEq, Prod.mk.injEq] at h; obtain ⟨rfl, rfl⟩ := h
                    cases hvy
                    exact unsafeString_ok (ty := ty) (it := it) hT hR (und_ok hT hd) hb hl h0 h1 h2 hns hall hux id0
                  · cases h
              · cases h
            · cases h
          | _ => cases h
      · simp only [Option.some.injEq, Prod.mk.injEq] at h; obtain ⟨rfl, rfl⟩ := h
        cases hux; cases hvy
        exact Says.does hR id0 ⟨_, Lib.run_unsafeString_none W pt it ty none, .str _ _ rfl⟩
      · simp only [Option.some.injEq, Prod.mk.injEq] at h; obtain ⟨rfl, rfl⟩ := h
        cases hvy
        cases hux with
        | ptr id off β z hρ => exact Says.does hR id0 ⟨.string .empty, Lib.run_unsafeString_none (P := P) W pt it ty (some _), .str [] .empty rfl⟩
      · cases h
    · cases h
  · cases h
end
end Go.Proofs.YtdehdahimkcakaaGreatDoor.Ai
/-! Every operation. -/
namespace Go.Proofs.YtdehdahimkcakaaGreatDoor.Ai
open Go

section
variable {P : Program} {T : Ty} {F : Fz} {ρ : Rho} {s : St} {W : World}

theorem DoesN.congr {id : Nat} {r : AV} {s' : St} {m m' : Sem Next} (h : DoesN P T id s ρ F W r s' m) (e : m'.run P W = m.run P W) : DoesN P T id s ρ F W r s' m' := by
  unfold DoesN at h ⊢
  rw [e]; exact h
theorem Says.next {id : Nat} {r : AV} {m : Sem Value} (hR : R T F ρ s W) (h : Says P T F ρ W r m) : DoesN P T id s ρ F W r s (do pure (.value (← m))) := (Says.does hR id h).next
theorem DoesN.pure {id : Nat} {r : AV} (hR : R T F ρ s W) {v : Value} (h : VR T F ρ r v) : DoesN P T id s ρ F W r s (Pure.pure (.value v)) :=
  .inl ⟨v, W, rfl, ρ, F, h, hR, Step.refl _ _ _ _, fun _ _ _ => rfl, Nat.le_refl _⟩
theorem fn_inv {f : FuncId} {as bs : List AV} {v : Value} (h : VR T F ρ (.fn f as bs) v) : ∃ us vs : Array Value, v = .func (.func f) us vs ∧ CR T F ρ as us.toList ∧ CR T F ρ bs vs.toList := by
  cases h with
  | fn _ _ _ us vs h1 h2 ha hb => exact ⟨us, vs, rfl, ⟨by simpa using h1, fun i a b => by rw [Array.getElem_toList]; exact ha i a _⟩, ⟨by simpa using h2, fun i a b => by rw [Array.getElem_toList]; exact hb i a _⟩⟩
theorem tup_inv {vs : List AV} {v : Value} (h : VR T F ρ (.tup vs) v) : ∃ us : Array Value, v = .tuple us ∧ CR T F ρ vs us.toList := by
  cases h with
  | tup _ us h1 ha => exact ⟨us, rfl, by simpa using h1, fun i a b => by rw [Array.getElem_toList]; exact ha i a _⟩
theorem ov_map {f : Operand → AV} {g : Operand → Value} (h : ∀ x, VR T F ρ (f x) (g x)) (o : Option Operand) : OV T F ρ (o.map f) (o.map g) := by
  cases o with
  | none => trivial
  | some x => exact h x
theorem pr_map {f : Operand → AV} {g : Operand → Value} (h : ∀ x, VR T F ρ (f x) (g x)) (parts : Array (Nat × Operand)) :
    PR T F ρ (parts.toList.map fun p => (p.1, f p.2)) (parts.map fun (i, x) => (i, g x)).toList := by
  rw [Array.toList_map]
  exact PR.of_map _ f g h

/-- An operation that is carried out does what the interpreter says. -/
theorem opA_ok {X : Cx} (hT : TyOk P X.P) (hE : EqOk P X.P X.eqOk) (hC : CallOk P X) (hR : R X.P F ρ s W) (hG : GlobOk X.P X.glob F) {dr : Bool} {id : Nat} (hid : ρ id = none) (hlt : id < s.nx) {e : Operand → AV} {g : Operand → Value} (he : ∀ x, VR X.P F ρ (e x) (g x))
    {o : Oper} {r : AV} {s' : St} (h : opA X dr id e o s = some (r, s')) : DoesN P X.P id s ρ F W r s' (execOp g o) := by
  have hv : ∀ {q : Option AV}, q.map (·, s) = some (r, s') → q = some r ∧ s' = s := fun {q} hq => by
    cases q with
    | none => cases hq
    | some x => simp only [Option.map_some, Option.some.injEq, Prod.mk.injEq] at hq; exact ⟨by rw [hq.1], hq.2.symm⟩
  unfold opA at h
  simp only at h
  split at h
  · rename_i x ho
    simp only [Option.some.injEq, Prod.mk.injEq] at h; obtain ⟨rfl, rfl⟩ := h
    simp only [execOp, ho]; exact DoesN.pure hR (he x)
  · rename_i x ho
    simp only [Option.some.injEq, Prod.mk.injEq] at h; obtain ⟨rfl, rfl⟩ := h
    simp only [execOp, ho]; exact DoesN.pure hR (he x)
  · rename_i c a b ho
    cases hb : asB (e c) with
    | none => rw [hb] at h; cases h
    | some t =>
      rw [hb] at h
      simp only [Option.bind_some, Option.some.injEq, Prod.mk.injEq] at h; obtain ⟨rfl, rfl⟩ := h
      have hc := asB_ok hb (he c)
      refine DoesN.congr (m := Pure.pure (.value (if t then g a else g b))) (DoesN.pure hR ?_) ?_
      · cases t
        · exact he b
        · exact he a
      · simp only [execOp, ho, hc, asBool, Sem.run_bind, Sem.run_pure, Result.andThen_ok]
  · rename_i t ho
    cases hz : zero X.P t with
    | none => rw [hz] at h; cases h
    | some z =>
      rw [hz] at h
      simp only [Option.map_some, Option.some.injEq, Prod.mk.injEq] at h; obtain ⟨rfl, rfl⟩ := h
      simp only [execOp, ho]; exact (alloc_ok hT hR hz hid hlt).next
  · rename_i t x ho
    split at h
    · rename_i hone
      simp only [Option.some.injEq, Prod.mk.injEq] at h; obtain ⟨rfl, rfl⟩ := h
      simp only [execOp, ho]; exact (box_ok hR hone (he x) hid hlt).next
    · cases h
  · rename_i t parts ho
    obtain ⟨h1, rfl⟩ := hv h
    simp only [execOp, ho]; exact (build_ok hT (pr_map he parts) h1).next hR
  · rename_i t n parts ho
    obtain ⟨h1, rfl⟩ := hv h
    simp only [execOp, ho]; exact (buildSl_ok hT hR (pr_map he parts) h1 id).next
  · rename_i t a ho
    cases hl : lay X.P t with
    | none => rw [hl] at h; cases h
    | some zz =>
      obtain ⟨z, ag⟩ := zz
      rw [hl] at h
      simp only [Option.bind_some] at h
      obtain ⟨h1, rfl⟩ := hv h
      simp only [execOp, ho]; exact (load_ok hT hR hl h1 (he a)).next hR
  · rename_i t a x ho
    cases hl : lay X.P t with
    | none => rw [hl] at h; cases h
    | some zz =>
      obtain ⟨z, ag⟩ := zz
      rw [hl] at h
      simp only [Option.bind_some] at h
      cases hs : Ai.store z (e a) (e x) s with
      | none => rw [hs] at h; cases h
      | some s1 =>
        rw [hs] at h
        simp only [Option.map_some, Option.some.injEq, Prod.mk.injEq] at h; obtain ⟨rfl, rfl⟩ := h
        simp only [execOp, ho]; exact (store_ok hT hR hl hs (he a) (he x) id).next
  · rename_i x ho
    have hx := he x
    split at h
    · rename_i i off hex
      simp only [Option.some.injEq, Prod.mk.injEq] at h; obtain ⟨rfl, rfl⟩ := h
      rw [hex] at hx
      refine DoesN.congr (m := Pure.pure (.value (g x))) (DoesN.pure hR hx) ?_
      cases hgx : g x <;> rw [hgx] at hx <;> first | (cases hx; done) | skip
      simp only [execOp, ho, hgx]
      cases hx; rfl
    · rename_i i off hex
      simp only [Option.some.injEq, Prod.mk.injEq] at h; obtain ⟨rfl, rfl⟩ := h
      rw [hex] at hx
      refine DoesN.congr (m := Pure.pure (.value (g x))) (DoesN.pure hR hx) ?_
      cases hgx : g x <;> rw [hgx] at hx <;> first | (cases hx; done) | skip
      simp only [execOp, ho, hgx]
      cases hx; rfl
    · rename_i f a c hex
      simp only [Option.some.injEq, Prod.mk.injEq] at h; obtain ⟨rfl, rfl⟩ := h
      rw [hex] at hx
      obtain ⟨us, vs, hgx, _, _⟩ := fn_inv hx
      refine DoesN.congr (m := Pure.pure (.value (g x))) (DoesN.pure hR hx) ?_
      simp only [execOp, ho, hgx]
    · cases h
  · rename_i op t x y d ho
    obtain ⟨h1, rfl⟩ := hv h
    simp only [execOp, ho]; exact (bin_ok hT hE h1 (he x) (he y) x y).next hR
  · rename_i op t x ho
    obtain ⟨h1, rfl⟩ := hv h
    simp only [execOp, ho]; exact (un_ok h1 (he x)).next hR
  · rename_i src dst x ho
    obtain ⟨h1, rfl⟩ := hv h
    simp only [execOp, ho]; exact (convA_ok hT hR h1 (he x) id).next
  · rename_i t x ho
    cases hd : und X.P t with
    | none => rw [hd] at h; cases h
    | some d =>
      rw [hd] at h
      have hni : (∀ m, d ≠ .interface m) ∧ r = .iface t (e x) ∧ s' = s := by
        cases d <;> first | (cases h; done) | (simp only [Option.some.injEq, Prod.mk.injEq] at h; exact ⟨(by intro m hm; cases hm), h.1.symm, h.2.symm⟩)
      obtain ⟨hni, rfl, rfl⟩ := hni
      refine DoesN.congr (m := Pure.pure (.value (.iface t (g x)))) (DoesN.pure hR (.iface _ _ _ (he x))) ?_
      simp only [execOp, ho, Instr.makeInterface, Sem.run_bind, run_underlying (und_ok hT hd), Result.andThen_ok]
      cases d <;> first | rfl | exact absurd rfl (hni _)
  · rename_i f first captured ho
    simp only [Option.some.injEq, Prod.mk.injEq] at h; obtain ⟨rfl, rfl⟩ := h
    refine DoesN.congr (m := Pure.pure (.value (.func (.func f) (first.map g) (captured.map g)))) (DoesN.pure hR ?_) ?_
    · have h1 := cr_map (T := X.P) (F := F) (ρ := ρ) first e g he
      have h2 := cr_map (T := X.P) (F := F) (ρ := ρ) captured e g he
      exact .fn f _ _ _ _ (by simp) (by simp) (fun i a b => by have := h1.2 i a (by simpa using b); rwa [Array.getElem_toList] at this) (fun i a b => by have := h2.2 i a (by simpa using b); rwa [Array.getElem_toList] at this)
    · simp only [execOp, ho, Instr.makeFunc, Sem.run_bind, Sem.run_pure, Result.andThen_ok]
  · rename_i t ho
    simp only [Option.some.injEq, Prod.mk.injEq] at h; obtain ⟨rfl, rfl⟩ := h
    simp only [execOp, ho]; exact (makeMap_ok hR t hid hlt).next
  · rename_i t n c ho
    cases hd : und X.P t with
    | none => rw [hd] at h; cases h
    | some d =>
      rw [hd] at h
      cases d with
      | slice et =>
        simp only at h
        split at h
        · rename_i z ag b zv i j hl hb hz hn hc
          split at h
          · rename_i hcd
            obtain ⟨q1, rfl, q3, q4, q5, q6⟩ := hcd
            simp only [Option.some.injEq, Prod.mk.injEq] at h; obtain ⟨rfl, rfl⟩ := h
            simp only [execOp, ho]; exact (makeSlice_ok hT hR hd hl hb hz hn hc q1 q3 q4 q5 q6 (he n) (he c) hid hlt).next
          · cases h
        · cases h
      | _ => cases h
  · rename_i t x lo hi mx ho
    obtain ⟨h1, rfl⟩ := hv h
    simp only [execOp, ho]; exact (sliceA_ok hT hR h1 (he x) (ov_map he lo) (ov_map he hi) (ov_map he mx)).next hR
  · rename_i t x f ho
    obtain ⟨h1, rfl⟩ := hv h
    simp only [execOp, ho]; exact (fieldAddr_ok hT h1 (he x)).next hR
  · rename_i t x f ho
    obtain ⟨h1, rfl⟩ := hv h
    simp only [execOp, ho]; exact (field_ok hT h1 (he x)).next hR
  · rename_i t x i ho
    obtain ⟨h1, rfl⟩ := hv h
    simp only [execOp, ho]; exact (indexAddr_ok hT hR h1 (he x) (he i)).next hR
  · rename_i t x i ho
    obtain ⟨h1, rfl⟩ := hv h
    simp only [execOp, ho]; exact (index_ok hT h1 (he x) (he i)).next hR
  · rename_i t m k ok ho
    obtain ⟨h1, rfl⟩ := hv h
    simp only [execOp, ho]; exact (lookup_ok hT hR h1 (he m) (he k)).next hR
  · rename_i t m k x ho
    cases hm : mapUpd X.P t (e m) (e k) (e x) s with
    | none => rw [hm] at h; cases h
    | some s1 =>
      rw [hm] at h
      simp only [Option.map_some, Option.some.injEq, Prod.mk.injEq] at h; obtain ⟨rfl, rfl⟩ := h
      simp only [execOp, ho]; exact (mapUpd_ok hT hR hm (he m) (he k) (he x) id).next
  · rename_i t i ho
    split at h
    · rename_i vs hex
      obtain ⟨h1, rfl⟩ := hv h
      have ht := he t
      rw [hex] at ht
      obtain ⟨us, hus, hcr⟩ := tup_inv ht
      obtain ⟨v, k1, k2⟩ := hcr.get? h1
      refine DoesN.congr (m := Pure.pure (.value v)) (DoesN.pure hR k2) ?_
      have : us[i]? = some v := by simpa using k1
      simp only [execOp, ho, hus, Instr.extract, this, Sem.run_bind, Sem.run_pure, Result.andThen_ok]
    · cases h
  · rename_i c ho
    split at h
    · rename_i b hb
      have key : ∃ cs, (execOp g o).run P W = (builtin b c.argTypes o.type cs (c.args.map g)).run P W := by
        refine ⟨c.args.map fun | .const _ => true | _ => false, ?_⟩
        simp only [execOp, ho, resolve, hb, Sem.run_bind, Sem.run_pure, Result.andThen_ok, invoke]
        rfl
      obtain ⟨cs, hcs⟩ := key
      exact (builtin_ok (P := P) hT hR hid hlt h (cr_map c.args e g he) o.type cs).congr hcs
    · rename_i f hf
      split at h
      · rename_i f' a cap hex
        have hfv := he f
        rw [hex] at hfv
        obtain ⟨us, vs, hgf, h1, h2⟩ := fn_inv hfv
        have hcr : CR X.P F ρ (a ++ c.args.toList.map e ++ cap) (us ++ c.args.map g ++ vs).toList := by
          rw [Array.toList_append, Array.toList_append]
          exact (h1.append (cr_map c.args e g he)).append h2
        refine (hC dr f' _ s r s' h _ ρ F W hcr hR hG id).congr ?_
        simp only [execOp, ho, resolve, hf, hgf, Deferred.ofValue, Sem.run_bind, Sem.run_pure, Result.andThen_ok, invoke]
      · cases h
    · cases h
  · cases h
end
end Go.Proofs.YtdehdahimkcakaaGreatDoor.Ai
/-! Regions in the order of the text. -/
namespace Go.Proofs.YtdehdahimkcakaaGreatDoor.Ai
open Go

section
variable {P : Program} {T : Ty} {F : Fz} {ρ : Rho} {s : St} {W : World}

theorem not_bool {x : AV} {v : Value} (h : VR T F ρ x v) (h1 : ∀ b, x ≠ .bool b) (h2 : x ≠ .undef) : ∀ b, v ≠ .bool b := by
  intro b hb
  subst hb
  cases h
  · exact h2 rfl
  · exact h1 _ rfl
theorem wanted_ok {tm : List AV} {ts : Array Value} (h : TM T F ρ tm ts) {ops : Array Oper} {o : Oper} {w : Bool} (hw : wantedA ops.toList (gt tm) o = some w) : Region.wanted o (yielded ops ts) = w := by
  unfold wantedA at hw
  unfold Region.wanted
  cases hg : o.guard with
  | none => rw [hg] at hw; simp only [Option.some.injEq] at hw; exact hw
  | some jw =>
    obtain ⟨j, want⟩ := jw
    rw [hg] at hw
    simp only at hw ⊢
    rw [Array.getElem?_toList] at hw
    unfold yielded
    cases hd : (ops[j]?).bind (·.dst) with
    | none => rw [hd] at hw; simp only [Option.some.injEq] at hw; subst hw; rfl
    | some d =>
      rw [hd] at hw
      simp only [Option.bind_some] at hw ⊢
      have hv := h.gt d
      split at hw
      · rename_i b hb
        simp only [Option.some.injEq] at hw; subst hw
        rw [hb] at hv
        cases hts : ts[d]? with
        | none =>
          have : ts.getD d undef = undef := by simp [Array.getD_eq_getD_getElem?, hts]
          rw [this] at hv; cases hv
        | some v =>
          have : ts.getD d undef = v := by simp [Array.getD_eq_getD_getElem?, hts]
          rw [this] at hv; cases hv; rfl
      · cases hw
      · rename_i h1 h2
        simp only [Option.some.injEq] at hw; subst hw
        have hnb := not_bool hv h1 h2
        cases hts : ts[d]? with
        | none => rfl
        | some v =>
          have : ts.getD d undef = v := by simp [Array.getD_eq_getD_getElem?, hts]
          rw [this] at hnb
          cases v <;> first | rfl | exact absurd rfl (hnb _)

theorem opsA_nil (X : Cx) (dr : Bool) (base : Nat) (all : List Oper) (i : Nat) (tm : List AV) (s : St) : opsA X dr base all [] i tm s = some (tm, s) := rfl
theorem opsA_cons (X : Cx) (dr : Bool) (base : Nat) (all : List Oper) (o : Oper) (l : List Oper) (i : Nat) (tm : List AV) (s : St) : opsA X dr base all (o :: l) i tm s =
    (wantedA all (gt tm) o).bind fun w => cond w ((opA X dr (base + i) (ev X (gt tm)) o s).bind fun r => opsA X dr base all l (i + 1) (put tm o.dst r.1) r.2) (opsA X dr base all l (i + 1) (put tm o.dst (.tup [])) s) := rfl
theorem put_defers (a : Act) (d : Option Tmp) (v : Value) : (a.put d v).defers = a.defers := by cases d <;> rfl
/-- One operation, wanted or not. -/
theorem oper_ok {X : Cx} (hT : TyOk P X.P) (hE : EqOk P X.P X.eqOk) (hC : CallOk P X) (hR : R X.P F ρ s W) (hG : GlobOk X.P X.glob F) {dr : Bool} {id : Nat} (hid : ρ id = none) (hlt : id < s.nx) {tm : List AV} {a : Act} (hTM : TM X.P F ρ tm a.tmps) (hdf : a.defers = [])
    {o : Oper} {r : AV} {s' : St} (h : opA X dr id (ev X (gt tm)) o s = some (r, s')) {next : Act → World → Prop} {Q : Exit → Act → World → Prop}
    (hn : ∀ a' W' ρ' F', TM X.P F' ρ' (put tm o.dst r) a'.tmps → R X.P F' ρ' s' W' → Step s ρ F W s' ρ' F' W' → (∀ i, i < s.nx → i ≠ id → ρ' i = ρ i) → s.nx ≤ s'.nx → a'.defers = [] → next a' W') : o.wp P a W next Q := by
  obtain ⟨ts, ds⟩ := a
  simp only at hTM hdf
  subst hdf
  have hfin : ∀ v W', Good X.P id s ρ F W r s' v W' → next ((⟨ts, []⟩ : Act).put o.dst v) W' := by
    intro v W' ⟨ρ', F', h1, h2, h3, h4, h5⟩
    exact hn _ _ ρ' F' ((hTM.mono h3.fz h3.rho).put h1 o.dst []) h2 h3 h4 h5 (put_defers _ _ _)
  unfold Oper.wp
  rcases opA_ok hT hE hC hR hG hid hlt (fun x => ev_ok hG hTM [] x) h with ⟨v, W', h1, h2⟩ | ⟨W', h1, h2⟩ | ⟨f, args, h1, h2⟩
  · rw [h1, Oper.upon_value]; exact hfin _ _ h2
  · rw [h1, Oper.upon_skip]; exact hfin _ _ h2
  · rw [h1, Oper.upon_enter]
    refine h2.mono ?_
    intro e W' he
    cases e with
    | returned v => exact hfin _ _ he
    | panicked c => exact he.elim
    | outgrown => exact he.elim
theorem opsA_ok {X : Cx} (hT : TyOk P X.P) (hE : EqOk P X.P X.eqOk) (hC : CallOk P X) {dr : Bool} {ops : Array Oper} {base : Nat} {Q : Exit → Act → World → Prop} {tm' : List AV} {s' : St} : ∀ (l : List Oper) (i : Nat) (tm : List AV) (s : St) (ρ : Rho) (F : Fz) (W : World) (a : Act),
    ops.toList.drop i = l → R X.P F ρ s W → GlobOk X.P X.glob F → TM X.P F ρ tm a.tmps → a.defers = [] → (∀ j, i ≤ j → j < ops.size → ρ (base + j) = none) → base + ops.size ≤ s.nx → opsA X dr base ops.toList l i tm s = some (tm', s') →
    (∀ a' W' ρ' F', TM X.P F' ρ' tm' a'.tmps → R X.P F' ρ' s' W' → Step s ρ F W s' ρ' F' W' → (∀ k, k < base → ρ' k = ρ k) → s.nx ≤ s'.nx → a'.defers = [] → Q .normal a' W') →
    wpOps P ops Q (List.range' i l.length) a W := by
  intro l
  induction l with
  | nil =>
    intro i tm s ρ F W a hl hR hG hTM hdf hfree hnx h hq
    rw [opsA_nil] at h
    simp only [Option.some.injEq, Prod.mk.injEq] at h; obtain ⟨rfl, rfl⟩ := h
    exact hq a W ρ F hTM hR (Step.refl _ _ _ _) (fun _ _ => rfl) (Nat.le_refl _) hdf
  | cons o l ih =>
    intro i tm s ρ F W a hl hR hG hTM hdf hfree hnx h hq
    have hi : i < ops.size := by
      have := congrArg List.length hl
      simp at this; omega
    have hoi : ops[i]? = some o := by
      have h1 : ops.toList[i]? = some o := by
        have := congrArg (·[0]?) hl
        simpa using this
      simpa using h1
    have hl' : ops.toList.drop (i + 1) = l := by
      have : (ops.toList.drop i).drop 1 = l := by rw [hl]; rfl
      rwa [List.drop_drop] at this
    rw [opsA_cons] at h
    rw [List.length_cons, List.range'_succ]
    simp only [wpOps, hoi]
    cases hw : wantedA ops.toList (gt tm) o with
    | none => rw [hw] at h; cases h
    | some w =>
      rw [hw] at h
      simp only [Option.bind_some] at h
      rw [wanted_ok hTM hw]
      cases w with
      | true =>
        simp only [cond_true, if_true] at h ⊢
        cases ho : opA X dr (base + i) (ev X (gt tm)) o s with
        | none => rw [ho] at h; cases h
        | some r =>
          obtain ⟨r, s1⟩ := r
          rw [ho] at h
          simp only [Option.bind_some] at h
          left
          refine oper_ok hT hE hC hR hG (hfree i (Nat.le_refl _) hi) (by omega) hTM hdf ho ?_
          intro a1 W1 ρ1 F1 k1 k2 k3 k4 k5 k6
          refine ih (i + 1) _ s1 ρ1 F1 W1 a1 hl' k2 (hG.mono k3.fz) k1 k6 (fun j hj hj2 => ?_) (by omega) h ?_
          · rw [k4 _ (by omega) (by omega)]; exact hfree j (by omega) hj2
          · intro a2 W2 ρ2 F2 m1 m2 m3 m4 m5 m6
            exact hq a2 W2 ρ2 F2 m1 m2 (k3.trans m3) (fun k hk => (m4 k hk).trans (k4 k (by omega) (by omega))) (by omega) m6
      | false =>
        simp only [cond_false, Bool.false_eq_true, if_false] at h ⊢
        obtain ⟨ts, ds⟩ := a
        refine ih (i + 1) _ s ρ F W _ hl' hR hG (hTM.put (.tup [] #[] rfl (fun i h => by simp at h)) o.dst ds) (by rw [put_defers]; exact hdf) (fun j hj hj2 => hfree j (by omega) hj2) hnx h hq
end
end Go.Proofs.YtdehdahimkcakaaGreatDoor.Ai
/-! Code. -/
namespace Go.Proofs.YtdehdahimkcakaaGreatDoor.Ai
open Go

section
variable {P : Program} {T : Ty} {F : Fz} {ρ : Rho} {s : St} {W : World}

/-- What holds behind a piece of code. -/
structure After (T : Ty) (s : St) (ρ : Rho) (F : Fz) (W : World) (tm' : List AV) (s' : St) (a' : Act) (W' : World) : Prop where
  ex : ∃ ρ' F', TM T F' ρ' tm' a'.tmps ∧ R T F' ρ' s' W' ∧ Step s ρ F W s' ρ' F' W' ∧ Old s.nx ρ ρ'
  nx : s.nx ≤ s'.nx
  df : a'.defers = []
theorem After.trans {s1 s2 : St} {tm1 tm2 : List AV} {a1 a2 : Act} {W1 W2 : World} {ρ1 : Rho} {F1 : Fz} (h1 : Step s ρ F W s1 ρ1 F1 W1) (h2 : Old s.nx ρ ρ1) (h3 : s.nx ≤ s1.nx) (k : After T s1 ρ1 F1 W1 tm2 s2 a2 W2) : After T s ρ F W tm2 s2 a2 W2 := by
  obtain ⟨⟨ρ2, F2, k1, k2, k3, k4⟩, k5, k6⟩ := k
  exact ⟨⟨ρ2, F2, k1, k2, h1.trans k3, fun i hi => (k4 i (by omega)).trans (h2 i hi)⟩, by omega, k6⟩
def exq : Ex → Exit
  | .nm => .normal
  | .ex i => .exit i
  | .gt l => .goto l
  | .rt => .ret

/-- A region that draws its order is sound. -/
def DrawOk (P : Program) (X : Cx) : Prop := ∀ (ops : Array Oper) (tm : List AV) (s : St) (ρ : Rho) (F : Fz) (W : World) (a : Act) (base : Nat) (tm' : List AV) (s' : St),
  R X.P F ρ s W → GlobOk X.P X.glob F → TM X.P F ρ tm a.tmps → a.defers = [] → (∀ j, j < ops.size → ρ (base + j) = none) → base + ops.size ≤ s.nx → drawn X base ops.toList tm s = some (tm', s') →
  ∀ Q : Exit → Act → World → Prop, (∀ a' W' ρ' F', TM X.P F' ρ' tm' a'.tmps → R X.P F' ρ' s' W' → Step s ρ F W s' ρ' F' W' → (∀ k, k < base → ρ' k = ρ k) → s.nx ≤ s'.nx → a'.defers = [] → Q .normal a' W') →
    ∀ t, wpOps P ops Q (Region.linearise .any ops t) a W
/-- A loop, from its head on. -/
def HeadWp (P : Program) (c : Code) (Q : Exit → Act → World → Prop) (a : Act) (w : World) : Prop :=
  ∀ (b : Frame) (k : List Item) (cs : List Frame), ∃ e a' w', Q e a' w' ∧ Arrives P (lone (b.at a (.code c :: .inLoop c :: k)) cs w) b k cs e a' w'
theorem HeadWp.loop {c : Code} {Q : Exit → Act → World → Prop} {a : Act} {w : World} (h : HeadWp P c Q a w) : (Code.loop c).wp P Q a w := fun b k cs => by
  obtain ⟨e, a', w', h1, h2⟩ := h b k cs
  exact ⟨e, a', w', h1, .of_steps (.one step_loop) h2⟩
theorem HeadWp.unroll {c : Code} {Q : Exit → Act → World → Prop} {a : Act} {w : World} (h : c.wp P (Exit.then (HeadWp P c Q) Q) a w) : HeadWp P c Q a w := by
  intro b k cs
  obtain ⟨e, a₁, w₁, hq, harr⟩ := h b (.inLoop c :: k) cs
  cases e with
  | normal =>
    obtain ⟨e₂, a₂, w₂, hq₂, harr₂⟩ := hq b k cs
    exact ⟨e₂, a₂, w₂, hq₂, .of_steps (Steps.trans harr (.one step_inLoop)) harr₂⟩
  | exit id => exact ⟨_, a₁, w₁, hq, .pass (x := .inLoop c) rfl (fun _ _ => .inl (by simp)) harr⟩
  | goto l => exact ⟨_, a₁, w₁, hq, .pass (x := .inLoop c) rfl (fun _ _ => .inl (by simp)) harr⟩
  | ret => exact ⟨_, a₁, w₁, hq, .pass (x := .inLoop c) rfl (fun _ _ => .inl (by simp)) harr⟩
  | panic ch => exact ⟨_, a₁, w₁, hq, .pass (x := .inLoop c) rfl (fun _ _ => .inl (by simp)) harr⟩
  | outgrown => exact ⟨_, a₁, w₁, hq, .pass (x := .inLoop c) rfl (fun _ _ => .inl (by simp)) harr⟩
/-- The interpreter's answer at a piece of code holds of the machine. -/
def CodeOk (P : Program) (X : Cx) (wp : (Exit → Act → World → Prop) → Act → World → Prop) (out : List AV → St → Out) : Prop :=
  ∀ (tm : List AV) (s : St) (e : Ex) (tm' : List AV) (s' : St), out tm s = some (e, tm', s') → ∀ (ρ : Rho) (F : Fz) (W : World) (a : Act), R X.P F ρ s W → GlobOk X.P X.glob F → TM X.P F ρ tm a.tmps → a.defers = [] →
    ∀ Q : Exit → Act → World → Prop, (∀ a' W', After X.P s ρ F W tm' s' a' W' → Q (exq e) a' W') → wp Q a W
def LoopOk (P : Program) (X : Cx) (loopf : Code → List AV → St → Out) : Prop := ∀ c, CodeOk P X (HeadWp P c) (loopf c)

theorem code_skip (X : Cx) (lf) : code X lf .skip = fun tm s => some (.nm, tm, s) := rfl
theorem code_region (X : Cx) (lf) (id ops dr) : code X lf (.region id ops dr) = fun tm s => (cond dr (drawn X s.nx ops.toList tm ⟨s.h, s.nx + ops.size⟩) (opsA X false s.nx ops.toList ops.toList 0 tm ⟨s.h, s.nx + ops.size⟩)).map fun r => (.nm, r.1, r.2) := rfl
theorem code_seq (X : Cx) (lf) (a b) : code X lf (.seq a b) = fun tm s => thn (code X lf a tm s) (code X lf b) := rfl
theorem code_cond (X : Cx) (lf) (c a b) : code X lf (.cond c a b) = fun tm s => (asB (ev X (gt tm) c)).bind fun t => cond t (code X lf a tm s) (code X lf b tm s) := rfl
theorem code_block (X : Cx) (lf) (id c) : code X lf (.block id c) = fun tm s => blk id (code X lf c tm s) := rfl
theorem code_loop (X : Cx) (lf) (c) : code X lf (.loop c) = fun tm s => lf c tm s := rfl
theorem code_exit (X : Cx) (lf) (id) : code X lf (.exit id) = fun tm s => some (.ex id, tm, s) := rfl
theorem code_scope (X : Cx) (lf) (c) : code X lf (.scope c) = fun tm s => noGt (code X lf c tm s) := rfl
theorem code_label (X : Cx) (lf) (id) : code X lf (.label id) = fun tm s => some (.nm, tm, s) := rfl
theorem code_goto (X : Cx) (lf) (id) : code X lf (.goto id) = fun tm s => some (.gt id, tm, s) := rfl
theorem code_ret (X : Cx) (lf) : code X lf .ret = fun tm s => some (.rt, tm, s) := rfl

theorem After.here {tm : List AV} {a : Act} (hR : R T F ρ s W) (hTM : TM T F ρ tm a.tmps) (hdf : a.defers = []) : After T s ρ F W tm s a W :=
  ⟨⟨ρ, F, hTM, hR, Step.refl _ _ _ _, fun _ _ => rfl⟩, Nat.le_refl _, hdf⟩
theorem R.advance (h : R T F ρ s W) (n : Nat) : R T F ρ ⟨s.h, s.nx + n⟩ W := ⟨h.blk, h.inj, h.fz, fun i hi => h.fresh i (by have : s.nx + n ≤ i := hi; omega)⟩
theorem Step.advance {ρ' : Rho} {F' : Fz} {W' : World} {s' : St} {n : Nat} (h : Step ⟨s.h, s.nx + n⟩ ρ F W s' ρ' F' W') : Step s ρ F W s' ρ' F' W' := ⟨h.rho, h.fz, h.os, h.tape, h.output, h.size, h.same, h.born, h.cold⟩
theorem R.drew (h : R T F ρ s W) : R T F ρ s W.drew := ⟨h.blk, h.inj, h.fz, h.fresh⟩
theorem Step.drew {ρ' : Rho} {F' : Fz} {W' : World} {s' : St} (h : Step s ρ F W.drew s' ρ' F' W') : Step s ρ F W s' ρ' F' W' := ⟨h.rho, h.fz, h.os, h.tape, h.output, h.size, h.same, h.born, h.cold⟩

theorem code_ok {X : Cx} (hm : P.follows .mixedOrders = true) (hT : TyOk P X.P) (hE : EqOk P X.P X.eqOk) (hC : CallOk P X) (hD : DrawOk P X) {lf : Code → List AV → St → Out} (hL : LoopOk P X lf) (c : Code) : CodeOk P X (c.wp P) (code X lf c) := by
  induction c with
  | skip =>
    intro tm s e tm' s' h ρ F W a hR hG hTM hdf Q hQ
    rw [code_skip] at h
    simp only [Option.some.injEq, Prod.mk.injEq] at h; obtain ⟨rfl, rfl, rfl⟩ := h
    exact wp_skip (hQ _ _ (After.here hR hTM hdf))
  | region id ops dr =>
    intro tm s e tm' s' h ρ F W a hR hG hTM hdf Q hQ
    rw [code_region] at h
    simp only at h
    have hfree : ∀ j, j < ops.size → ρ (s.nx + j) = none := fun j hj => hR.fresh _ (by omega)
    cases dr with
    | false =>
      simp only [cond_false] at h
      cases ho : opsA X false s.nx ops.toList ops.toList 0 tm ⟨s.h, s.nx + ops.size⟩ with
      | none => rw [ho] at h; cases h
      | some r =>
        obtain ⟨tm1, s1⟩ := r
        rw [ho] at h
        simp only [Option.map_some, Option.some.injEq, Prod.mk.injEq] at h; obtain ⟨rfl, rfl, rfl⟩ := h
        refine wp_region ?_
        rw [List.range_eq_range', show ops.size = ops.toList.length by simp]
        refine opsA_ok hT hE hC ops.toList 0 tm ⟨s.h, s.nx + ops.size⟩ ρ F W a rfl (hR.advance _) hG hTM hdf (fun j _ hj => hfree j hj) (Nat.le_refl _) ho ?_
        intro a' W' ρ' F' k1 k2 k3 k4 k5 k6
        refine hQ _ _ ⟨⟨ρ', F', k1, k2, k3.advance, fun i hi => k4 i hi⟩, ?_, k6⟩
        have : s.nx + ops.size ≤ s1.nx := k5
        omega
    | true =>
      simp only [cond_true] at h
      cases ho : drawn X s.nx ops.toList tm ⟨s.h, s.nx + ops.size⟩ with
      | none => rw [ho] at h; cases h
      | some r =>
        obtain ⟨tm1, s1⟩ := r
        rw [ho] at h
        simp only [Option.map_some, Option.some.injEq, Prod.mk.injEq] at h; obtain ⟨rfl, rfl, rfl⟩ := h
        refine wp_region_draw fun t => ?_
        have key := hD ops tm ⟨s.h, s.nx + ops.size⟩ ρ F W.drew a s.nx tm1 s1 (hR.advance _).drew hG hTM hdf hfree (Nat.le_refl _) ho Q (fun a' W' ρ' F' k1 k2 k3 k4 k5 k6 => by
          refine hQ _ _ ⟨⟨ρ', F', k1, k2, k3.drew.advance, fun i hi => k4 i hi⟩, ?_, k6⟩
          have : s.nx + ops.size ≤ s1.nx := k5
          omega)
        simp only [Region.schedule, hm, Bool.true_or, if_true]
        exact key _
  | seq x y ihx ihy =>
    intro tm s e tm' s' h ρ F W a hR hG hTM hdf Q hQ
    rw [code_seq] at h
    simp only at h
    refine wp_seq ?_
    cases hx : code X lf x tm s with
    | none => rw [hx] at h; cases h
    | some r =>
      obtain ⟨e1, tm1, s1⟩ := r
      rw [hx] at h
      refine ihx tm s e1 tm1 s1 hx ρ F W a hR hG hTM hdf _ ?_
      intro a1 W1 haf
      cases e1 with
      | nm =>
        simp only [thn] at h
        obtain ⟨⟨ρ1, F1, k1, k2, k3, k4⟩, k5, k6⟩ := haf
        refine ihy tm1 s1 e tm' s' h ρ1 F1 W1 a1 k2 (hG.mono k3.fz) k1 k6 Q ?_
        intro a2 W2 haf2
        exact hQ _ _ (After.trans (tm1 := tm1) (a1 := a1) k3 k4 k5 haf2)
      | ex i => simp only [thn, Option.some.injEq, Prod.mk.injEq] at h; obtain ⟨rfl, rfl, rfl⟩ := h; exact hQ _ _ haf
      | gt i => simp only [thn, Option.some.injEq, Prod.mk.injEq] at h; obtain ⟨rfl, rfl, rfl⟩ := h; exact hQ _ _ haf
      | rt => simp only [thn, Option.some.injEq, Prod.mk.injEq] at h; obtain ⟨rfl, rfl, rfl⟩ := h; exact hQ _ _ haf
  | cond c x y ihx ihy =>
    intro tm s e tm' s' h ρ F W a hR hG hTM hdf Q hQ
    rw [code_cond] at h
    simp only at h
    cases hb : asB (ev X (gt tm) c) with
    | none => rw [hb] at h; cases h
    | some t =>
      rw [hb] at h
      simp only [Option.bind_some] at h
      have hc : a.eval c = .bool t := asB_ok hb (ev_ok hG hTM a.defers c)
      refine wp_cond hc ?_
      cases t with
      | true => exact ihx tm s e tm' s' h ρ F W a hR hG hTM hdf Q hQ
      | false => exact ihy tm s e tm' s' h ρ F W a hR hG hTM hdf Q hQ
  | block id c ih =>
    intro tm s e tm' s' h ρ F W a hR hG hTM hdf Q hQ
    rw [code_block] at h
    simp only at h
    refine wp_block ?_
    cases hx : code X lf c tm s with
    | none => rw [hx] at h; cases h
    | some r =>
      obtain ⟨e1, tm1, s1⟩ := r
      rw [hx] at h
      refine ih tm s e1 tm1 s1 hx ρ F W a hR hG hTM hdf _ ?_
      intro a1 W1 haf
      cases e1 with
      | ex i =>
        simp only [blk] at h
        simp only [exq, Exit.inBlock]
        split at h
        · rename_i hi
          simp only [Option.some.injEq, Prod.mk.injEq] at h; obtain ⟨rfl, rfl, rfl⟩ := h
          rw [if_pos hi]; exact hQ _ _ haf
        · rename_i hi
          simp only [Option.some.injEq, Prod.mk.injEq] at h; obtain ⟨rfl, rfl, rfl⟩ := h
          rw [if_neg hi]; exact hQ _ _ haf
      | nm => simp only [blk, Option.some.injEq, Prod.mk.injEq] at h; obtain ⟨rfl, rfl, rfl⟩ := h; exact hQ _ _ haf
      | gt i => simp only [blk, Option.some.injEq, Prod.mk.injEq] at h; obtain ⟨rfl, rfl, rfl⟩ := h; exact hQ _ _ haf
      | rt => simp only [blk, Option.some.injEq, Prod.mk.injEq] at h; obtain ⟨rfl, rfl, rfl⟩ := h; exact hQ _ _ haf
  | loop c ih =>
    intro tm s e tm' s' h ρ F W a hR hG hTM hdf Q hQ
    rw [code_loop] at h
    exact (hL c tm s e tm' s' h ρ F W a hR hG hTM hdf Q hQ).loop
  | rangeFunc f ps x y => intro tm s e tm' s' h; cases h
  | exit id =>
    intro tm s e tm' s' h ρ F W a hR hG hTM hdf Q hQ
    rw [code_exit] at h
    simp only [Option.some.injEq, Prod.mk.injEq] at h; obtain ⟨rfl, rfl, rfl⟩ := h
    exact wp_exit (hQ _ _ (After.here hR hTM hdf))
  | scope c ih =>
    intro tm s e tm' s' h ρ F W a hR hG hTM hdf Q hQ
    rw [code_scope] at h
    simp only at h
    refine wp_scope_straight ?_
    cases hx : code X lf c tm s with
    | none => rw [hx] at h; cases h
    | some r =>
      obtain ⟨e1, tm1, s1⟩ := r
      rw [hx] at h
      refine ih tm s e1 tm1 s1 hx ρ F W a hR hG hTM hdf _ ?_
      intro a1 W1 haf
      cases e1 with
      | gt i => cases h
      | _ => simp only [noGt, Option.some.injEq, Prod.mk.injEq] at h; obtain ⟨rfl, rfl, rfl⟩ := h; exact hQ _ _ haf
  | label l =>
    intro tm s e tm' s' h ρ F W a hR hG hTM hdf Q hQ
    rw [code_label] at h
    simp only [Option.some.injEq, Prod.mk.injEq] at h; obtain ⟨rfl, rfl, rfl⟩ := h
    exact wp_label (hQ _ _ (After.here hR hTM hdf))
  | goto l =>
    intro tm s e tm' s' h ρ F W a hR hG hTM hdf Q hQ
    rw [code_goto] at h
    simp only [Option.some.injEq, Prod.mk.injEq] at h; obtain ⟨rfl, rfl, rfl⟩ := h
    exact wp_goto (hQ _ _ (After.here hR hTM hdf))
  | ret =>
    intro tm s e tm' s' h ρ F W a hR hG hTM hdf Q hQ
    rw [code_ret] at h
    simp only [Option.some.injEq, Prod.mk.injEq] at h; obtain ⟨rfl, rfl, rfl⟩ := h
    exact wp_ret (hQ _ _ (After.here hR hTM hdf))
  | refuse why => intro tm s e tm' s' h; cases h

theorem mask_len (m : Nat) : ∀ (l : List AV) (i : Nat), (mask m i l).length = l.length := by
  intro l
  induction l with
  | nil => intro i; rfl
  | cons v l ih => intro i; simp [mask, ih]
theorem mask_get (m : Nat) : ∀ (l : List AV) (i j : Nat) (h : j < (mask m i l).length) (h' : j < l.length), (mask m i l)[j] = l[j] ∨ (mask m i l)[j] = .undef := by
  intro l
  induction l with
  | nil => intro i j h h'; simp at h'
  | cons v l ih =>
    intro i j h h'
    cases j with
    | zero =>
      simp only [mask, List.getElem_cons_zero]
      cases bitOf m i
      · exact .inr rfl
      · exact .inl rfl
    | succ j =>
      simp only [mask, List.getElem_cons_succ]
      exact ih (i + 1) j (by simpa [mask] using h) (by simpa using h')
theorem TM.mask {tm : List AV} {ts : Array Value} (h : TM T F ρ tm ts) (m i : Nat) : TM T F ρ (Ai.mask m i tm) ts := by
  refine ⟨by rw [mask_len]; exact h.1, fun j a b => ?_⟩
  have hj : j < tm.length := by rwa [mask_len] at a
  rcases mask_get m tm i j a hj with e | e
  · rw [e]; exact h.2 j hj b
  · rw [e]; exact .undef _
theorem loopN_zero (X : Cx) (kp : Nat) : loopN X kp 0 = fun _ _ _ => none := rfl
theorem loopN_succ (X : Cx) (kp n : Nat) : loopN X kp (n + 1) = fun c tm s => thn (code X (loopN X kp n) c tm s) fun tm s => loopN X kp n c (mask kp 0 tm) s := rfl
theorem loop_ok {X : Cx} (hm : P.follows .mixedOrders = true) (hT : TyOk P X.P) (hE : EqOk P X.P X.eqOk) (hC : CallOk P X) (hD : DrawOk P X) (kp n : Nat) : LoopOk P X (loopN X kp n) := by
  induction n with
  | zero => intro c tm s e tm' s' h; cases h
  | succ n ih =>
    intro c tm s e tm' s' h ρ F W a hR hG hTM hdf Q hQ
    rw [loopN_succ] at h
    simp only at h
    refine HeadWp.unroll ?_
    cases hx : code X (loopN X kp n) c tm s with
    | none => rw [hx] at h; cases h
    | some r =>
      obtain ⟨e1, tm1, s1⟩ := r
      rw [hx] at h
      refine code_ok hm hT hE hC hD ih c tm s e1 tm1 s1 hx ρ F W a hR hG hTM hdf _ ?_
      intro a1 W1 haf
      cases e1 with
      | nm =>
        simp only [thn] at h
        obtain ⟨⟨ρ1, F1, k1, k2, k3, k4⟩, k5, k6⟩ := haf
        refine ih c (mask kp 0 tm1) s1 e tm' s' h ρ1 F1 W1 a1 k2 (hG.mono k3.fz) (k1.mask kp 0) k6 Q ?_
        intro a2 W2 haf2
        exact hQ _ _ (After.trans (tm1 := tm1) (a1 := a1) k3 k4 k5 haf2)
      | ex i => simp only [thn, Option.some.injEq, Prod.mk.injEq] at h; obtain ⟨rfl, rfl, rfl⟩ := h; exact hQ _ _ haf
      | gt i => simp only [thn, Option.some.injEq, Prod.mk.injEq] at h; obtain ⟨rfl, rfl, rfl⟩ := h; exact hQ _ _ haf
      | rt => simp only [thn, Option.some.injEq, Prod.mk.injEq] at h; obtain ⟨rfl, rfl, rfl⟩ := h; exact hQ _ _ haf
end
end Go.Proofs.YtdehdahimkcakaaGreatDoor.Ai
/-! Values made pure: without blocks. -/
namespace Go.Proofs.YtdehdahimkcakaaGreatDoor.Ai
open Go

section
variable {P : Program} {T : Ty} {F : Fz} {ρ ρ' : Rho} {s : St} {W : World}

theorem closedL_get : ∀ (l : List AV), closedL l = true → ∀ i (h : i < l.length), l[i].closed = true := by
  intro l
  induction l with
  | nil => intro _ i h; simp at h
  | cons v l ih =>
    intro h i hi
    simp only [closedL, Bool.and_eq_true] at h
    cases i with
    | zero => exact h.1
    | succ i => exact ih h.2 i (by simpa using hi)
theorem flatL_get : ∀ (l : List AV), flatL l = true → ∀ i (h : i < l.length), l[i].flat = true := by
  intro l
  induction l with
  | nil => intro _ i h; simp at h
  | cons v l ih =>
    intro h i hi
    simp only [flatL, Bool.and_eq_true] at h
    cases i with
    | zero => exact h.1
    | succ i => exact ih h.2 i (by simpa using hi)
theorem closed_cells {v : AV} (h : v.closed = true) : ∀ j (hj : j < v.cells.length), v.cells[j].closed = true := by
  intro j hj
  by_cases hagg : ∃ cs, v = .agg cs
  · obtain ⟨cs, rfl⟩ := hagg
    simp only [AV.closed] at h
    exact closedL_get cs h j hj
  · have ha : v.cells = [v] := by cases v <;> first | rfl | exact absurd ⟨_, rfl⟩ hagg
    simp only [ha] at hj ⊢
    have : j = 0 := by simpa using hj
    subst this
    exact h
theorem closed_ok {F' : Fz} {a : AV} {v : Value} (h : VR T F ρ a v) (hF : FLe F F') (hc : a.closed = true) : VR T F' ρ' a v := by
  induction h with
  | undef v => exact .undef v
  | bool b => exact .bool b
  | int k n => exact .int k n
  | str s b h => exact .str s b h
  | nilp => exact .nilp
  | ptr => simp [AV.closed] at hc
  | pel cs off β b w hf hv ih =>
    simp only [AV.closed] at hc
    exact .pel cs off β b w (fun j hj => hF _ _ (hf j hj)) (fun j hj => ih j hj (closedL_get cs hc j hj))
  | nils => simp [AV.closed] at hc
  | emp => simp [AV.closed] at hc
  | sl0 ex a c h hn => exact .sl0 ex a c h hn
  | sl ex l β b z c w hc' hx hz hf hv ih =>
    simp only [AV.closed, Bool.and_eq_true] at hc
    exact .sl ex l β b z c w hc' hx hz (fun i j hi hj => hF _ _ (hf i j hi hj)) (fun i j hi hj => ih i j hi hj (closed_cells (closedL_get l hc.2 i hi) j hj))
  | ref => simp [AV.closed] at hc
  | nilm => exact .nilm
  | map => simp [AV.closed] at hc
  | nilc => exact .nilc
  | chan => simp [AV.closed] at hc
  | nilf => exact .nilf
  | fn f as bs us vs h1 h2 ha hb iha ihb =>
    simp only [AV.closed, Bool.and_eq_true] at hc
    exact .fn f as bs us vs h1 h2 (fun i a b => iha i a b (closedL_get as hc.1 i a)) (fun i a b => ihb i a b (closedL_get bs hc.2 i a))
  | nili => exact .nili
  | iface => simp [AV.closed] at hc
  | agg cs vs hl h ih =>
    simp only [AV.closed] at hc
    exact .agg cs vs hl (fun i a b => ih i a b (closedL_get cs hc i a))
  | tup cs vs hl h ih =>
    simp only [AV.closed] at hc
    exact .tup cs vs hl (fun i a b => ih i a b (closedL_get cs hc i a))
theorem flat_ok {F' : Fz} {a : AV} {v : Value} (h : VR T F ρ a v) (hc : a.flat = true) : VR T F' ρ' a v := by
  induction h with
  | bool b => exact .bool b
  | int k n => exact .int k n
  | str s b h => exact .str s b h
  | nilp => exact .nilp
  | nilm => exact .nilm
  | nilc => exact .nilc
  | nilf => exact .nilf
  | nili => exact .nili
  | agg cs vs hl h ih =>
    simp only [AV.flat] at hc
    exact .agg cs vs hl (fun i a b => ih i a b (flatL_get cs hc i a))
  | tup cs vs hl h ih =>
    simp only [AV.flat] at hc
    exact .tup cs vs hl (fun i a b => ih i a b (flatL_get cs hc i a))
  | _ => simp [AV.flat] at hc

/-- A block whose cells nobody writes any more. -/
def Held (T : Ty) (F : Fz) (ρ : Rho) (s : St) (id : Nat) : Prop := ∀ c e ex wr, s.h id = some (.cells c e ex wr) → ∃ β z, ρ id = some (β, z) ∧ ∀ j (h : j < c.length), ∃ v, F ⟨β, j, none⟩ = some v ∧ VR T F ρ c[j] v
theorem Held.mono {F' : Fz} {id : Nat} (h : Held T F ρ s id) (hF : FLe F F') : Held T F' ρ s id := fun c e ex wr hb => by
  obtain ⟨β, z, h1, h2⟩ := h c e ex wr hb
  exact ⟨β, z, h1, fun j hj => by obtain ⟨v, k1, k2⟩ := h2 j hj; exact ⟨v, hF _ _ k1, k2.mono hF (RLe.refl _)⟩⟩

theorem purL_get {f : AV → Option (AV × List Nat)} : ∀ (l l' : List AV) (ids : List Nat), purL f l = some (l', ids) → l'.length = l.length ∧ ∀ i (h : i < l.length) (h' : i < l'.length), ∃ ji, f l[i] = some (l'[i], ji) ∧ ∀ x ∈ ji, x ∈ ids := by
  intro l
  induction l with
  | nil => intro l' ids h; simp only [purL, Option.some.injEq, Prod.mk.injEq] at h; obtain ⟨rfl, rfl⟩ := h; exact ⟨rfl, fun i h => by simp at h⟩
  | cons v l ih =>
    intro l' ids h
    simp only [purL] at h
    split at h
    · rename_i a i b j h1 h2
      simp only [Option.some.injEq, Prod.mk.injEq] at h; obtain ⟨rfl, rfl⟩ := h
      obtain ⟨g1, g2⟩ := ih _ _ h2
      refine ⟨by simp [g1], fun n hn hn' => ?_⟩
      cases n with
      | zero => exact ⟨i, h1, fun x hx => List.mem_append_left _ hx⟩
      | succ n =>
        obtain ⟨ji, k1, k2⟩ := g2 n (by simpa using hn) (by simpa using hn')
        exact ⟨ji, k1, fun x hx => List.mem_append_right _ (k2 x hx)⟩
    · cases h
theorem purL_ids {f : AV → Option (AV × List Nat)} {p : Nat → Prop} (hf : ∀ v a j, f v = some (a, j) → ∀ x ∈ j, p x) : ∀ (l l' : List AV) (ids : List Nat), purL f l = some (l', ids) → ∀ x ∈ ids, p x := by
  intro l
  induction l with
  | nil => intro l' ids h; simp only [purL, Option.some.injEq, Prod.mk.injEq] at h; obtain ⟨rfl, rfl⟩ := h; intro x hx; cases hx
  | cons v l ih =>
    intro l' ids h
    simp only [purL] at h
    split at h
    · rename_i a i b j h1 h2
      simp only [Option.some.injEq, Prod.mk.injEq] at h; obtain ⟨rfl, rfl⟩ := h
      intro x hx
      rcases List.mem_append.1 hx with hx | hx
      · exact hf _ _ _ h1 x hx
      · exact ih _ _ h2 x hx
    · cases h
theorem purU_get {f : AV → Option (AV × List Nat)} : ∀ (l : List AV), (purU f l).1.length = l.length ∧ ∀ i (h : i < l.length) (h' : i < (purU f l).1.length), (purU f l).1[i] = .undef ∨ ∃ ji, f l[i] = some ((purU f l).1[i], ji) ∧ ∀ x ∈ ji, x ∈ (purU f l).2 := by
  intro l
  induction l with
  | nil => exact ⟨rfl, fun i h => by simp at h⟩
  | cons v l ih =>
    obtain ⟨g1, g2⟩ := ih
    rcases hf : f v with _ | ⟨a, j⟩
    · have e : purU f (v :: l) = (.undef :: (purU f l).1, (purU f l).2) := by simp only [purU, hf]
      rw [e]
      refine ⟨by simp [g1], fun i hi hi' => ?_⟩
      cases i with
      | zero => exact .inl rfl
      | succ i => simpa using g2 i (by simpa using hi) (by simpa using hi')
    · have e : purU f (v :: l) = (a :: (purU f l).1, j ++ (purU f l).2) := by simp only [purU, hf]
      rw [e]
      refine ⟨by simp [g1], fun i hi hi' => ?_⟩
      cases i with
      | zero => exact .inr ⟨j, by simpa using hf, fun x hx => List.mem_append_left _ hx⟩
      | succ i =>
        rcases g2 i (by simpa using hi) (by simpa using hi') with h | ⟨ji, k1, k2⟩
        · exact .inl (by simpa using h)
        · exact .inr ⟨ji, by simpa using k1, fun x hx => List.mem_append_right _ (k2 x hx)⟩
theorem purU_ids {f : AV → Option (AV × List Nat)} {p : Nat → Prop} (hf : ∀ v a j, f v = some (a, j) → ∀ x ∈ j, p x) : ∀ (l : List AV), ∀ x ∈ (purU f l).2, p x := by
  intro l
  induction l with
  | nil => intro x hx; cases hx
  | cons v l ih =>
    intro x hx
    simp only [purU] at hx
    cases hv : f v with
    | none => rw [hv] at hx; exact ih x hx
    | some q =>
      obtain ⟨a, j⟩ := q
      rw [hv] at hx
      rcases List.mem_append.1 hx with hx | hx
      · exact hf _ _ _ hv x hx
      · exact ih x hx
def isCells (s : St) (id : Nat) : Prop := ∃ c e ex wr, s.h id = some (.cells c e ex wr)
theorem pur_ids : ∀ (k : Nat) (v a : AV) (ids : List Nat), pur T s k v = some (a, ids) → ∀ x ∈ ids, isCells s x := by
  intro k
  induction k with
  | zero =>
    intro v a ids h
    unfold pur at h
    split at h
    · simp only [Option.some.injEq, Prod.mk.injEq] at h; obtain ⟨rfl, rfl⟩ := h; intro x hx; cases hx
    · cases h
  | succ k ih =>
    intro v a ids h
    unfold pur at h
    split at h
    · simp only [Option.some.injEq, Prod.mk.injEq] at h; obtain ⟨rfl, rfl⟩ := h; intro x hx; cases hx
    · rename_i hnc
      simp only at h
      split at h
      · simp only [Option.some.injEq, Prod.mk.injEq] at h; obtain ⟨rfl, rfl⟩ := h; intro x hx; cases hx
      · simp only [Option.some.injEq, Prod.mk.injEq] at h; obtain ⟨rfl, rfl⟩ := h; intro x hx; cases hx
      · cases hp : purL (pur T s k) _ with
        | none => rw [hp] at h; cases h
        | some r =>
          rw [hp] at h
          simp only [Option.map_some, Option.some.injEq, Prod.mk.injEq] at h; obtain ⟨rfl, rfl⟩ := h
          exact purL_ids ih _ _ _ hp
      · rename_i id off n cap e
        split at h
        · rename_i c e' ex wr z ag hb hl
          split at h
          · cases hp : purL (pur T s k) ((c.drop off).take (n * z)) with
            | none => rw [hp] at h; cases h
            | some r =>
              rw [hp] at h
              simp only [Option.bind_some] at h
              split at h
              · simp only [Option.some.injEq, Prod.mk.injEq] at h; obtain ⟨rfl, rfl⟩ := h
                intro x hx
                cases hx with
                | head => exact ⟨c, e', ex, wr, hb⟩
                | tail _ hx => exact purL_ids ih _ _ _ hp x hx
              · cases h
          · cases h
        · cases h
      · rename_i id off
        split at h
        · rename_i c e' ex wr hb
          simp only [Option.some.injEq, Prod.mk.injEq] at h; obtain ⟨rfl, rfl⟩ := h
          intro x hx
          cases hx with
          | head => exact ⟨c, e', ex, wr, hb⟩
          | tail _ hx => exact purU_ids ih _ x hx
        · cases h
      · cases hp : purL (pur T s k) _ with
        | none => rw [hp] at h; cases h
        | some r =>
          rw [hp] at h
          simp only [Option.map_some, Option.some.injEq, Prod.mk.injEq] at h; obtain ⟨rfl, rfl⟩ := h
          exact purL_ids ih _ _ _ hp
      · cases hp : purL (pur T s k) _ with
        | none => rw [hp] at h; cases h
        | some r =>
          rw [hp] at h
          simp only [Option.map_some, Option.some.injEq, Prod.mk.injEq] at h; obtain ⟨rfl, rfl⟩ := h
          exact purL_ids ih _ _ _ hp
      · cases h

theorem chunk_len (z : Nat) : ∀ (n : Nat) (l : List AV), (chunk z n l).length = n := by
  intro n
  induction n with
  | zero => intro l; rfl
  | succ n ih => intro l; simp [chunk, ih]
theorem chunk_get (z : Nat) : ∀ (n : Nat) (l : List AV) (i : Nat) (h : i < (chunk z n l).length), (chunk z n l)[i] = .agg ((l.drop (i * z)).take z) := by
  intro n
  induction n with
  | zero => intro l i h; simp [chunk] at h
  | succ n ih =>
    intro l i h
    cases i with
    | zero => simp [chunk]
    | succ i =>
      simp only [chunk, List.getElem_cons_succ]
      rw [ih, List.drop_drop, Nat.succ_mul, Nat.add_comm]
theorem notAgg_cells {v : AV} (h : notAgg v = true) : v.cells = [v] := by cases v <;> first | rfl | cases h

/-- What is pure stands for the same. -/
theorem pur_ok : ∀ (k : Nat) (v a : AV) (ids : List Nat), pur T s k v = some (a, ids) → (∀ id ∈ ids, Held T F ρ s id) →
    (∀ u, VR T F ρ v u → VR T F ρ' a u) ∧ (notAgg v = true → notAgg a = true) ∧ (∀ cs, v = .agg cs → ∃ cs', a = .agg cs') := by
  intro k
  induction k with
  | zero =>
    intro v a ids h hh
    unfold pur at h
    split at h
    · rename_i hc
      simp only [Option.some.injEq, Prod.mk.injEq] at h; obtain ⟨rfl, rfl⟩ := h
      exact ⟨fun u hu => closed_ok hu (FLe.refl _) hc, fun h => h, fun cs hcs => ⟨cs, hcs⟩⟩
    · cases h
  | succ k ih =>
    intro v a ids h hh
    unfold pur at h
    split at h
    · rename_i hc
      simp only [Option.some.injEq, Prod.mk.injEq] at h; obtain ⟨rfl, rfl⟩ := h
      exact ⟨fun u hu => closed_ok hu (FLe.refl _) hc, fun h => h, fun cs hcs => ⟨cs, hcs⟩⟩
    · rename_i hnc
      simp only at h
      split at h
      · simp only [Option.some.injEq, Prod.mk.injEq] at h; obtain ⟨rfl, rfl⟩ := h
        exact ⟨fun u hu => by cases hu; exact .sl0 false none 0 (by intro h; cases h) (fun _ => rfl), fun _ => rfl, fun cs hcs => by cases hcs⟩
      · simp only [Option.some.injEq, Prod.mk.injEq] at h; obtain ⟨rfl, rfl⟩ := h
        exact ⟨fun u hu => by cases hu; exact .sl0 false _ _ (by intro h; cases h) (fun h => nomatch h), fun _ => rfl, fun cs hcs => by cases hcs⟩
      · rename_i ex l
        cases hp : purL (pur T s k) l with
        | none => rw [hp] at h; cases h
        | some r =>
          obtain ⟨l', j⟩ := r
          rw [hp] at h
          simp only [Option.map_some, Option.some.injEq, Prod.mk.injEq] at h; obtain ⟨rfl, rfl⟩ := h
          obtain ⟨g1, g2⟩ := purL_get _ _ _ hp
          refine ⟨fun u hu => ?_, fun _ => rfl, fun cs hcs => by cases hcs⟩
          obtain ⟨ad, c, rfl, hc, hx, hne⟩ := sl_inv hu
          have hn0 := sl_none hu
          by_cases hl : l = []
          · subst hl
            have : l' = [] := List.eq_nil_of_length_eq_zero (by rw [g1]; rfl)
            subst this
            exact .sl0 false _ _ (by intro h; cases h) hn0
          · obtain ⟨β, b, z, rfl, hz, w, hf, hv⟩ := hne hl
            rw [← g1]
            have hcells : ∀ i (hi : i < l'.length), l'[i].cells.length = z ∧ ∀ m (hm : m < l'[i].cells.length), VR T F ρ' l'[i].cells[m] (w i m) := by
              intro i hi
              have hi0 : i < l.length := by omega
              obtain ⟨ji, k1, k2⟩ := g2 i hi0 hi
              obtain ⟨q1, q2, q3⟩ := ih _ _ _ k1 (fun x hx => hh x (k2 x hx))
              by_cases hagg : ∃ cs, l[i] = .agg cs
              · obtain ⟨cs, hcs⟩ := hagg
                obtain ⟨cs', hcs'⟩ := q3 cs hcs
                have hlen : cs.length = z := by have := hz i hi0; rw [hcs] at this; exact this
                have hvv : VR T F ρ (.agg cs) (.agg ((List.range cs.length).map (w i)).toArray) := by
                  refine .agg cs _ (by simp) fun m hm hm' => ?_
                  have := hv i m hi0 (by rw [hcs]; exact hm)
                  simp only [hcs] at this
                  simpa [AV.cells] using this
                rw [hcs] at q1
                have hva := q1 _ hvv
                rw [hcs'] at hva
                obtain ⟨us, hus, hcr⟩ := agg_inv hva
                simp only [Value.agg.injEq] at hus
                subst hus
                have hcl := hcr.1
                simp only [List.length_map, List.length_range] at hcl
                refine ⟨by rw [hcs']; show cs'.length = z; omega, fun m hm => ?_⟩
                have hm' : m < cs'.length := by rw [hcs'] at hm; exact hm
                have := hcr.2 m hm' (by simp; omega)
                simp only [hcs', AV.cells]
                simpa using this
              · have hna : notAgg l[i] = true := by cases hli : l[i] <;> first | rfl | exact absurd ⟨_, hli⟩ hagg
                have hc1 := notAgg_cells hna
                have hc2 := notAgg_cells (q2 hna)
                have hlen := hz i hi0
                rw [hc1] at hlen
                refine ⟨by rw [hc2]; exact hlen, fun m hm => ?_⟩
                have hm0 : m = 0 := by rw [hc2] at hm; simpa using hm
                subst hm0
                have := hv i 0 hi0 (by rw [hc1]; simp)
                simp only [hc1, List.getElem_cons_zero] at this
                simp only [hc2, List.getElem_cons_zero]
                exact q1 _ this
            exact .sl false l' β b z c w (by omega) (by intro h; cases h) (fun i hi => (hcells i hi).1) (fun i m hi hm => hf i m (by omega) hm) (fun i m hi hm => (hcells i hi).2 m hm)
      · rename_i id off n cap e
        split at h
        · rename_i c e' ex wr z ag hb hl
          split at h
          · rename_i hcd
            obtain ⟨hle, hz0⟩ := hcd
            cases hp : purL (pur T s k) ((c.drop off).take (n * z)) with
            | none => rw [hp] at h; cases h
            | some r =>
              obtain ⟨l', j⟩ := r
              rw [hp] at h
              simp only [Option.bind_some] at h
              split at h
              · rename_i hag
                simp only [Option.some.injEq, Prod.mk.injEq] at h; obtain ⟨rfl, rfl⟩ := h
                obtain ⟨g1, g2⟩ := purL_get _ _ _ hp
                refine ⟨fun u hu => ?_, fun _ => rfl, fun cs hcs => by cases hcs⟩
                cases hu with
                | ref _ _ _ _ _ β size cp z' ag' hρ hz' hn hk hk2 =>
                  obtain ⟨β', z'', m1, m2⟩ := hh id (List.mem_cons_self ..) c e' ex wr hb
                  rw [hρ] at m1; cases m1
                  have hlen : l'.length = n * z := by rw [g1]; simp; omega
                  have hcell : ∀ i, i < n * z → ∀ (hi : i < l'.length), ∃ w, F ⟨β, off + i, none⟩ = some w ∧ VR T F ρ' l'[i] w := by
                    intro i hi hi'
                    have hi0 : i < ((c.drop off).take (n * z)).length := by rw [← g1]; exact hi'
                    obtain ⟨ji, k1, k2⟩ := g2 i hi0 hi'
                    obtain ⟨q1, _, _⟩ := ih _ _ _ k1 (fun x hx => hh x (List.mem_cons_of_mem _ (k2 x hx)))
                    obtain ⟨w, w1, w2⟩ := m2 (off + i) (by omega)
                    refine ⟨w, w1, q1 w ?_⟩
                    simp only [List.getElem_take, List.getElem_drop]
                    exact w2
                  let g : Nat → Value := fun i => (F ⟨β, off + i, none⟩).getD undef
                  have hg : ∀ i, i < n * z → ∀ (hi : i < l'.length), F ⟨β, off + i, none⟩ = some (g i) ∧ VR T F ρ' l'[i] (g i) := by
                    intro i hi hi'
                    obtain ⟨w, w1, w2⟩ := hcell i hi hi'
                    have : g i = w := by simp [g, w1]
                    rw [this]; exact ⟨w1, w2⟩
                  cases ag with
                  | true =>
                    simp only [if_true]
                    have hcl := chunk_len z n l'
                    have := VR.sl (T := T) (F := F) (ρ := ρ') false (chunk z n l') β off z cp (fun i j => g (i * z + j)) (by rw [hcl]; exact hn) (by intro h; cases h) (fun i hi => ?_) (fun i j hi hj => ?_) (fun i j hi hj => ?_)
                    · rw [hcl] at this; exact this
                    · rw [chunk_get]
                      rw [hcl] at hi
                      have := Nat.mul_le_mul_right z (show i + 1 ≤ n from hi)
                      rw [Nat.succ_mul] at this
                      simp only [AV.cells, List.length_take, List.length_drop]; omega
                    · rw [hcl] at hi
                      have hlt := mul_lt_of hi hj
                      have := (hg (i * z + j) hlt (by omega)).1
                      rw [← Nat.add_assoc] at this; exact this
                    · rw [hcl] at hi
                      have hj' : j < z := by
                        rw [chunk_get] at hj
                        simp only [AV.cells, List.length_take] at hj; omega
                      have hlt := mul_lt_of hi hj'
                      have := (hg (i * z + j) hlt (by omega)).2
                      simp only [chunk_get, AV.cells, List.getElem_take, List.getElem_drop]
                      exact this
                  | false =>
                    simp only [Bool.false_or, Bool.and_eq_true] at hag
                    have hz1 : z = 1 := Nat.eq_of_beq_eq_true hag.1
                    subst hz1
                    simp only [Bool.false_eq_true, if_false]
                    rw [Nat.mul_one] at hlen hg
                    have hna : ∀ i (hi : i < l'.length), l'[i].cells = [l'[i]] := fun i hi => notAgg_cells (List.all_eq_true.1 hag.2 _ (List.getElem_mem hi))
                    have := VR.sl (T := T) (F := F) (ρ := ρ') false l' β off 1 cp (fun i j => g i) (by omega) (by intro h; cases h) (fun i hi => by rw [hna i hi]; rfl) (fun i j hi hj => ?_) (fun i j hi hj => ?_)
                    · rw [hlen] at this; exact this
                    · have hj0 : j = 0 := by omega
                      subst hj0
                      rw [Nat.mul_one, Nat.add_zero]
                      exact (hg i (by omega) hi).1
                    · have hj0 : j = 0 := by rw [hna i hi] at hj; simpa using hj
                      subst hj0
                      simp only [hna i hi, List.getElem_cons_zero]
                      exact (hg i (by omega) hi).2
              · cases h
          · cases h
        · cases h
      · rename_i id off
        split at h
        · rename_i c e' ex wr hb
          simp only [Option.some.injEq, Prod.mk.injEq] at h; obtain ⟨rfl, rfl⟩ := h
          refine ⟨fun u hu => ?_, fun _ => rfl, fun cs hcs => by cases hcs⟩
          cases hu with
          | ptr _ _ β z hρ =>
            obtain ⟨β', z', m1, m2⟩ := hh id (List.mem_cons_self ..) c e' ex wr hb
            rw [hρ] at m1; cases m1
            obtain ⟨g1, g2⟩ := purU_get (f := pur T s k) c
            let g : Nat → Value := fun i => (F ⟨β, i, none⟩).getD undef
            have := VR.pel (T := T) (F := F) (ρ := ρ') (purU (pur T s k) c).1 off β 0 g (fun j hj => ?_) (fun j hj => ?_)
            · rw [Nat.zero_add] at this; exact this
            · obtain ⟨w, w1, w2⟩ := m2 j (by omega)
              rw [Nat.zero_add]
              simp [g, w1]
            · obtain ⟨w, w1, w2⟩ := m2 j (by omega)
              have hgw : g j = w := by simp [g, w1]
              rw [hgw]
              rcases g2 j (by omega) hj with h | ⟨ji, k1, k2⟩
              · rw [h]; exact .undef _
              · exact (ih _ _ _ k1 (fun x hx => hh x (List.mem_cons_of_mem _ (k2 x hx)))).1 _ w2
        · cases h
      · rename_i cs
        cases hp : purL (pur T s k) cs with
        | none => rw [hp] at h; cases h
        | some r =>
          obtain ⟨l', j⟩ := r
          rw [hp] at h
          simp only [Option.map_some, Option.some.injEq, Prod.mk.injEq] at h; obtain ⟨rfl, rfl⟩ := h
          obtain ⟨g1, g2⟩ := purL_get _ _ _ hp
          refine ⟨fun u hu => ?_, (by intro h; cases h), fun cs hcs => ⟨_, rfl⟩⟩
          obtain ⟨vs, rfl, hcr⟩ := agg_inv hu
          refine VR.agg_cr ⟨by rw [g1]; exact hcr.1, fun i a b => ?_⟩
          obtain ⟨ji, k1, k2⟩ := g2 i (by omega) a
          exact (ih _ _ _ k1 (fun x hx => hh x (k2 x hx))).1 _ (hcr.2 i (by omega) b)
      · rename_i cs
        cases hp : purL (pur T s k) cs with
        | none => rw [hp] at h; cases h
        | some r =>
          obtain ⟨l', j⟩ := r
          rw [hp] at h
          simp only [Option.map_some, Option.some.injEq, Prod.mk.injEq] at h; obtain ⟨rfl, rfl⟩ := h
          obtain ⟨g1, g2⟩ := purL_get _ _ _ hp
          refine ⟨fun u hu => ?_, fun h => rfl, fun cs hcs => by cases hcs⟩
          obtain ⟨vs, rfl, hcr⟩ := tup_inv hu
          refine .tup _ _ (by rw [g1, hcr.1]; simp) fun i a b => ?_
          obtain ⟨ji, k1, k2⟩ := g2 i (by omega) a
          have := (ih _ _ _ k1 (fun x hx => hh x (k2 x hx))).1 _ (hcr.2 i (by omega) (by simpa using b))
          simpa using this
      · cases h
end
end Go.Proofs.YtdehdahimkcakaaGreatDoor.Ai
/-! Calls. -/
namespace Go.Proofs.YtdehdahimkcakaaGreatDoor.Ai
open Go

section
variable {P : Program} {T : Ty} {F : Fz} {ρ ρ' : Rho} {s : St} {W : World}

theorem Held.of_freeze (hR : R T F ρ s W) {id : Nat} {c : List AV} {e : TypeId} {ex wr : Bool} (hb : s.h id = some (.cells c e ex wr)) :
    ∃ F', FLe F F' ∧ R T F' ρ (s.set id none) W ∧ Step s ρ F W (s.set id none) ρ F' W ∧ Held T F' ρ s id := by
  obtain ⟨β, z, C, fr, h1, h2, h3, h4, h5, h6⟩ := hR.freeze hb
  refine ⟨_, h6.fz, h5, h6, fun c' e' ex' wr' hb' => ?_⟩
  rw [hb] at hb'; cases hb'
  refine ⟨β, z, h1, fun j hj => ⟨C[j]'(by omega), ?_, (h4 j hj (by omega)).mono h6.fz (RLe.refl _)⟩⟩
  rw [fput_in hj]
  exact Array.getElem?_eq_getElem (by omega)
theorem drop_cons (s : St) (n : Nat) (l : List Nat) : s.drop (n :: l) = (s.set n none).drop l := rfl
theorem drop_nx : ∀ (l : List Nat) (s : St), (s.drop l).nx = s.nx := by
  intro l
  induction l with
  | nil => intro s; rfl
  | cons n l ih => intro s; rw [drop_cons, ih]; rfl
theorem freeze_all {s0 : St} : ∀ (ids : List Nat) (s : St) (F : Fz), R T F ρ s W → (∀ id ∈ ids, (s.h id = s0.h id ∧ isCells s0 id) ∨ Held T F ρ s0 id) →
    ∃ F', FLe F F' ∧ R T F' ρ (s.drop ids) W ∧ Step s ρ F W (s.drop ids) ρ F' W ∧ ∀ id ∈ ids, Held T F' ρ s0 id := by
  intro ids
  induction ids with
  | nil => intro s F hR _; exact ⟨F, FLe.refl _, hR, Step.refl _ _ _ _, fun id h => by cases h⟩
  | cons n l ih =>
    intro s F hR hh
    have step1 : ∃ F1, FLe F F1 ∧ R T F1 ρ (s.set n none) W ∧ Step s ρ F W (s.set n none) ρ F1 W ∧ Held T F1 ρ s0 n := by
      rcases hh n (List.mem_cons_self ..) with ⟨h1, c, e, ex, wr, h2⟩ | h1
      · obtain ⟨F1, g1, g2, g3, g4⟩ := Held.of_freeze hR (h1.trans h2)
        exact ⟨F1, g1, g2, g3, fun c' e' ex' wr' hb' => g4 c' e' ex' wr' (h1.trans hb')⟩
      · exact ⟨F, FLe.refl _, (hR.drop n).1, (hR.drop n).2, h1⟩
    obtain ⟨F1, g1, g2, g3, g4⟩ := step1
    obtain ⟨F2, k1, k2, k3, k4⟩ := ih (s.set n none) F1 g2 (fun id hid => by
      by_cases hin : id = n
      · subst hin; exact .inr g4
      · rcases hh id (List.mem_cons_of_mem _ hid) with ⟨h1, h2⟩ | h1
        · exact .inl ⟨by rw [set_ne _ _ hin]; exact h1, h2⟩
        · exact .inr (h1.mono g1))
    refine ⟨F2, g1.trans k1, k2, g3.trans k3, fun id hid => ?_⟩
    cases hid with
    | head => exact g4.mono k1
    | tail _ h => exact k4 id h
theorem purify_list (hR : R T F ρ s W) {k : Nat} {l l' : List AV} {ids : List Nat} (h : purL (pur T s k) l = some (l', ids)) {us : List Value} (hcr : CR T F ρ l us) :
    ∃ F', FLe F F' ∧ R T F' ρ (s.drop ids) W ∧ Step s ρ F W (s.drop ids) ρ F' W ∧ ∀ ρ', CR T F' ρ' l' us := by
  have hids := purL_ids (p := isCells s) (pur_ids k) _ _ _ h
  obtain ⟨F', g1, g2, g3, g4⟩ := freeze_all (s0 := s) ids s F hR (fun id hid => .inl ⟨rfl, hids id hid⟩)
  refine ⟨F', g1, g2, g3, fun ρ' => ?_⟩
  obtain ⟨q1, q2⟩ := purL_get _ _ _ h
  refine ⟨by rw [q1]; exact hcr.1, fun i a b => ?_⟩
  obtain ⟨ji, k1, k2⟩ := q2 i (by omega) a
  exact (pur_ok k _ _ _ k1 (fun x hx => g4 x (k2 x hx))).1 _ ((hcr.2 i (by omega) b).mono g1 (RLe.refl _))
theorem purify (hR : R T F ρ s W) {k : Nat} {v a : AV} {ids : List Nat} (h : pur T s k v = some (a, ids)) {u : Value} (hu : VR T F ρ v u) :
    ∃ F', FLe F F' ∧ R T F' ρ (s.drop ids) W ∧ Step s ρ F W (s.drop ids) ρ F' W ∧ ∀ ρ', VR T F' ρ' a u := by
  have hids := pur_ids k _ _ _ h
  obtain ⟨F', g1, g2, g3, g4⟩ := freeze_all (s0 := s) ids s F hR (fun id hid => .inl ⟨rfl, hids id hid⟩)
  exact ⟨F', g1, g2, g3, fun ρ' => (pur_ok k _ _ _ h g4).1 _ (hu.mono g1 (RLe.refl _))⟩

def ρ0 : Rho := fun _ => none
theorem R.none (hR : R T F ρ s W) : R T F ρ0 St.empty W :=
  ⟨(by intro id b h; cases h), fun i j β z z' h => absurd rfl h, fun a v h => ⟨(hR.fz a v h).1, fun i z h => absurd rfl h⟩, fun i _ => rfl⟩
/-- A call that met none of the blocks leaves them as they are. -/
theorem apart (hR : R T F ρ s W) {s2 : St} {ρ2 : Rho} {F2 : Fz} {W2 : World} (hS : Step St.empty ρ0 F W s2 ρ2 F2 W2) (hfz : ∀ a v, F2 a = some v → W2.cell? a = some v) :
    R T F2 ρ s W2 ∧ Step s ρ F W s ρ F2 W2 := by
  have hdead : ∀ β, ¬ lives ρ0 St.empty β := fun β ⟨i, z, h, _⟩ => h rfl
  refine ⟨⟨fun id b hb => ?_, hR.inj, fun a v ha => ⟨hfz a v ha, fun i z hi hc => ?_⟩, hR.fresh⟩, ⟨RLe.refl _, hS.fz, hS.os, hS.tape, hS.output, hS.size, fun β hβ _ => hS.same β hβ (hdead β), fun _ h _ => h, fun a v ha hb _ => hS.cold a v ha hb (hdead _)⟩⟩
  · obtain ⟨β, z, o, h1, h2, h3, h4⟩ := hR.lt hb
    exact ⟨β, z, o, h1, by rw [hS.same β h4 (hdead β)]; exact h2, h3.mono hS.fz (RLe.refl _)⟩
  · obtain ⟨b, hb⟩ := Option.ne_none_iff_exists'.1 hi
    obtain ⟨β, z', o, h1, h2, h3, h4⟩ := hR.lt hb
    rw [hc] at h1; cases h1
    exact (hR.fz a v (hS.cold a v ha h4 (hdead _))).2 i z hi hc
/-- .. and what it froze may be forgotten. -/
theorem apart_flat (hR : R T F ρ s W) {s2 : St} {ρ2 : Rho} {F1 F2 : Fz} {W2 : World} (hF : FLe F F1) (hS : Step St.empty ρ0 F1 W s2 ρ2 F2 W2) :
    R T F ρ s W2 ∧ Step s ρ F W s ρ F W2 := by
  have hdead : ∀ β, ¬ lives ρ0 St.empty β := fun β ⟨i, z, h, _⟩ => h rfl
  refine ⟨⟨fun id b hb => ?_, hR.inj, fun a v ha => ⟨?_, (hR.fz a v ha).2⟩, hR.fresh⟩, ⟨RLe.refl _, FLe.refl _, hS.os, hS.tape, hS.output, hS.size, fun β hβ _ => hS.same β hβ (hdead β), fun _ h _ => h, fun _ _ h _ _ => h⟩⟩
  · obtain ⟨β, z, o, h1, h2, h3, h4⟩ := hR.lt hb
    exact ⟨β, z, o, h1, by rw [hS.same β h4 (hdead β)]; exact h2, h3⟩
  · have h1 := (hR.fz a v ha).1
    have h2 := cell_lt h1
    unfold World.cell? at h1 ⊢
    rw [hS.same a.block h2 (hdead _)]; exact h1

theorem DoesN.map {T' : Ty} {id id' : Nat} {s' s1 s1' : St} {r r1 : AV} {ρ1 : Rho} {F1 : Fz} {m : Sem Next} (h : DoesN P T id s ρ F W r s' m) (hm : ∀ v W', Good T id s ρ F W r s' v W' → Good T' id' s1 ρ1 F1 W r1 s1' v W') : DoesN P T' id' s1 ρ1 F1 W r1 s1' m := by
  rcases h with ⟨v, W', h1, h2⟩ | ⟨W', h1, h2⟩ | ⟨f, args, h1, h2⟩
  · exact .inl ⟨v, W', h1, hm _ _ h2⟩
  · exact .inr (.inl ⟨W', h1, hm _ _ h2⟩)
  · refine .inr (.inr ⟨f, args, h1, h2.mono fun e W' he => ?_⟩)
    cases e with
    | returned v => exact hm _ _ he
    | panicked c => exact he
    | outgrown => exact he
/-- A table of functions answers as the program's functions do. -/
def FunOk (P : Program) (E : Env) (cl : FuncId → List AV → St → Option (AV × St)) : Prop := ∀ (f : FuncId) (args : List AV) (s : St) (r : AV) (s' : St), cl f args s = some (r, s') →
  ∀ (vals : Array Value) (ρ : Rho) (F : Fz) (W : World), CR E.P F ρ args vals.toList → R E.P F ρ s W → GlobOk E.P E.glob F → DoesN P E.P s.nx s ρ F W r s' (callFunc f vals)
theorem Good.weaken {id : Nat} {r : AV} {s' : St} {v : Value} {W' : World} (h : Good T s.nx s ρ F W r s' v W') : Good T id s ρ F W r s' v W' := by
  obtain ⟨ρ1, F1, h1, h2, h3, h4, h5⟩ := h
  exact ⟨ρ1, F1, h1, h2, h3, fun i hi _ => h4 i hi (by omega), h5⟩
theorem mcall_ok {E : Env} {cl : FuncId → List AV → St → Option (AV × St)} (h : FunOk P E cl) (f : FuncId) : CallOk P (cx E cl f) := by
  intro dr g args s r s' hc vals ρ F W hcr hR hG id0
  have hG : GlobOk E.P E.glob F := hG
  have hc : mcall E cl f dr g args s = some (r, s') := hc
  unfold mcall at hc
  split at hc
  · cases hp : purL (pur E.P s 12) args with
    | none => rw [hp] at hc; cases hc
    | some as =>
      obtain ⟨as, ids⟩ := as
      rw [hp] at hc
      simp only [Option.bind_some] at hc
      cases hr : cl g as St.empty with
      | none => rw [hr] at hc; cases hc
      | some r2 =>
        obtain ⟨r2, s2⟩ := r2
        rw [hr] at hc
        simp only [Option.bind_some] at hc
        cases hv : pur E.P s2 12 r2 with
        | none => rw [hv] at hc; cases hc
        | some v =>
          obtain ⟨v, ids2⟩ := v
          rw [hv] at hc
          simp only [Option.bind_some] at hc
          obtain ⟨F1, g1, g2, g3, g4⟩ := purify_list hR hp hcr
          refine (h g as St.empty r2 s2 hr vals ρ0 F1 W (g4 ρ0) g2.none (hG.mono g1)).map ?_
          intro u W' ⟨ρ2, F2, k1, k2, k3, k4, k5⟩
          obtain ⟨F3, m1, m2, m3, m4⟩ := purify k2 hv k1
          have hS := k3.trans m3
          have hfz : ∀ a v, F3 a = some v → W'.cell? a = some v := fun a v ha => (m2.fz a v ha).1
          split at hc
          · rename_i hemp
            simp only [Option.some.injEq, Prod.mk.injEq] at hc; obtain ⟨rfl, rfl⟩ := hc
            by_cases hflat : v.flat = true
            · obtain ⟨q1, q2⟩ := apart_flat hR g1 hS
              exact ⟨ρ, F, flat_ok (m4 ρ) hflat, q1, q2, fun _ _ _ => rfl, Nat.le_refl _⟩
            · have hnil : ids = [] := by
                simp only [Bool.or_eq_true, hflat, or_false] at hemp
                simpa using hemp
              subst hnil
              obtain ⟨q1, q2⟩ := apart g2 hS hfz
              exact ⟨ρ, F3, m4 ρ, q1, g3.trans q2, fun _ _ _ => rfl, Nat.le_refl _⟩
          · split at hc
            · cases hc
            · simp only [Option.some.injEq, Prod.mk.injEq] at hc; obtain ⟨rfl, rfl⟩ := hc
              obtain ⟨q1, q2⟩ := apart g2 hS hfz
              exact ⟨ρ, F3, m4 ρ, q1, g3.trans q2, fun _ _ _ => rfl, by rw [drop_nx]; exact Nat.le_refl _⟩
  · have hdr : dr = false := by
      cases dr with
      | false => rfl
      | true => simp at hc
    subst hdr
    simp only [Bool.false_eq_true, if_false] at hc
    cases hr : cl g args s with
    | none => rw [hr] at hc; cases hc
    | some r2 =>
      obtain ⟨r2, s2⟩ := r2
      rw [hr] at hc
      simp only [Option.bind_some] at hc
      refine (h g args s r2 s2 hr vals ρ F W hcr hR hG).map ?_
      intro u W' hgood
      split at hc
      · cases hv : pur E.P s2 12 r2 with
        | none => rw [hv] at hc; cases hc
        | some v =>
          obtain ⟨v, ids2⟩ := v
          rw [hv] at hc
          simp only [Option.map_some, Option.some.injEq, Prod.mk.injEq] at hc; obtain ⟨rfl, rfl⟩ := hc
          obtain ⟨ρ2, F2, k1, k2, k3, k4, k5⟩ := hgood
          obtain ⟨F3, m1, m2, m3, m4⟩ := purify k2 hv k1
          exact ⟨ρ2, F3, m4 ρ2, m2, k3.trans m3, fun i hi _ => k4 i hi (by omega), by rw [drop_nx]; exact k5⟩
      · simp only [Option.some.injEq, Prod.mk.injEq] at hc; obtain ⟨rfl, rfl⟩ := hc
        exact hgood.weaken

/-- A result's value. -/
def resM (ts : Array Value) : ResultVar → Sem Value
  | .tmp t => pure (ts.getD t undef)
  | .cell a t => do loadVar t (← asAddr (ts.getD a undef))
theorem resA_ok {E : Env} (hT : TyOk P E.P) (hR : R E.P F ρ s W) {tm : List AV} {ts : Array Value} (hTM : TM E.P F ρ tm ts) : ∀ (l : List ResultVar) (vs : List AV), resA E.P (gt tm) s l = some vs →
    ∃ us : List Value, (l.mapM (resM ts)).run P W = .ok us W ∧ CR E.P F ρ vs us := by
  intro l
  induction l with
  | nil => intro vs h; simp only [resA, Option.some.injEq] at h; subst h; exact ⟨[], by simp, CR.nil⟩
  | cons x l ih =>
    intro vs h
    cases x with
    | tmp t =>
      simp only [resA] at h
      cases hl : resA E.P (gt tm) s l with
      | none => rw [hl] at h; cases h
      | some vs' =>
        rw [hl] at h
        simp only [Option.map_some, Option.some.injEq] at h; subst h
        obtain ⟨us, h1, h2⟩ := ih _ hl
        exact ⟨ts.getD t undef :: us, by simp only [List.mapM_cons, resM, Sem.run_bind, Sem.run_pure, Result.andThen_ok, h1], CR.cons (hTM.gt t) h2⟩
    | cell a t =>
      simp only [resA] at h
      cases hly : lay E.P t with
      | none => rw [hly] at h; cases h
      | some y =>
        obtain ⟨z, ag⟩ := y
        rw [hly] at h
        simp only [Option.bind_some] at h
        cases hld : load z ag (gt tm a) s with
        | none => rw [hld] at h; cases h
        | some v =>
          rw [hld] at h
          simp only [Option.bind_some] at h
          cases hl : resA E.P (gt tm) s l with
          | none => rw [hl] at h; cases h
          | some vs' =>
            rw [hl] at h
            simp only [Option.map_some, Option.some.injEq] at h; subst h
            obtain ⟨us, h1, h2⟩ := ih _ hl
            obtain ⟨u, k1, k2⟩ := load_ok hT hR hly hld (hTM.gt a)
            have hk : (resM ts (.cell a t)).run P W = .ok u W := by
              have hptr : ∃ ad, ts.getD a undef = .pointer (some ad) := by
                have hv := hTM.gt a
                revert hv
                generalize ts.getD a undef = w
                intro hv
                unfold load at hld
                split at hld
                · rename_i e; rw [e] at hv; cases hv; exact ⟨_, rfl⟩
                · rename_i e; rw [e] at hv; cases hv; exact ⟨_, rfl⟩
                · cases hld
              obtain ⟨ad, had⟩ := hptr
              simp only [resM]
              rw [had] at k1 ⊢
              exact k1
            exact ⟨u :: us, by simp only [List.mapM_cons, Sem.run_bind, Sem.run_pure, Result.andThen_ok, h1, hk], CR.cons k2 h2⟩
theorem result_ok {E : Env} (hT : TyOk P E.P) (hR : R E.P F ρ s W) {tm : List AV} {ts : Array Value} (hTM : TM E.P F ρ tm ts) {fn : Func} {r : AV} (h : result E.P fn (gt tm) s = some r) : ∃ v, (results fn ts).run P W = .ok v W ∧ VR E.P F ρ r v := by
  unfold result at h
  cases hr : resA E.P (gt tm) s fn.results.toList with
  | none => rw [hr] at h; cases h
  | some vs =>
    rw [hr] at h
    simp only [Option.map_some, Option.some.injEq] at h
    obtain ⟨us, h1, h2⟩ := resA_ok hT hR hTM _ _ hr
    have hrun : (results fn ts).run P W = .ok (if h : us.toArray.size = 1 then us.toArray[0] else .tuple us.toArray) W := by
      have e : results fn ts = (do let vs ← fn.results.mapM (resM ts); pure (if h : vs.size = 1 then vs[0] else .tuple vs)) := by
        unfold results
        congr 1
      rw [e, Array.mapM_eq_mapM_toList]
      simp only [Sem.run_bind, Sem.run_map, h1, Result.andThen_ok, Sem.run_pure]
    refine ⟨_, hrun, ?_⟩
    subst h
    match vs, us, h2 with
    | [v], [u], h2 => exact h2.2 0 (by simp) (by simp)
    | [], [], h2 => exact .tup _ _ rfl (fun i h => by simp at h)
    | a :: b :: l, a' :: b' :: l', h2 =>
      have : ¬ ((a' :: b' :: l').toArray.size = 1) := by simp
      rw [dif_neg this]
      exact .tup _ _ (by simpa using h2.1) (fun i x y => by simpa using h2.2 i x (by simpa using y))
    | [], _ :: _, h2 => exact absurd h2.1 (by simp)
    | _ :: _, [], h2 => exact absurd h2.1 (by simp)
    | [_], _ :: _ :: _, h2 => exact absurd h2.1 (by simp)
    | _ :: _ :: _, [_], h2 => exact absurd h2.1 (by simp)

structure EnvOk (P : Program) (E : Env) : Prop where
  mixed : P.follows .mixedOrders = true
  ty : TyOk P E.P
  eq : EqOk P E.P E.eqOk
  fns : ∀ f fn, E.fns f = some fn → P.funcs[f]? = some fn ∧ fn.name ≠ "runtime.NumGoroutine"
  prim : ∀ f g, E.prim f = some g → ∀ (args : List AV) (s : St) (r : AV) (s' : St), g args s = some (r, s') →
    ∀ (vals : Array Value) (ρ : Rho) (F : Fz) (W : World), CR E.P F ρ args vals.toList → R E.P F ρ s W → GlobOk E.P E.glob F → DoesN P E.P s.nx s ρ F W r s' (callFunc f vals)
theorem callN_zero (E : Env) : callN E 0 = fun _ _ _ => none := rfl
theorem callN_succ (E : Env) (n : Nat) : callN E (n + 1) = fun f args s => match E.prim f with
      | some g => g args s
      | none => match E.fns f with
        | none => none
        | some fn => match fn.body with
          | none => none
          | some c => finish E.P fn (code (cx E (callN E n) f) (loopN (cx E (callN E n) f) (E.kp f) n) c (frame fn args) s) := rfl
/-- What the interpreter answers, the program answers. -/
theorem callN_ok {E : Env} (hE : EnvOk P E) (hDr : ∀ (cl : FuncId → List AV → St → Option (AV × St)) (f : FuncId), CallOk P (cx E cl f) → DrawOk P (cx E cl f)) (n : Nat) : FunOk P E (callN E n) := by
  induction n with
  | zero => intro f args s r s' h; cases h
  | succ n ih =>
    intro f args s r s' h vals ρ F W hcr hR hG
    rw [callN_succ] at h
    simp only at h
    cases hp : E.prim f with
    | some g =>
      rw [hp] at h
      exact hE.prim f g hp args s r s' h vals ρ F W hcr hR hG
    | none =>
      rw [hp] at h
      simp only at h
      cases hf : E.fns f with
      | none => rw [hf] at h; cases h
      | some fn =>
        rw [hf] at h
        simp only at h
        cases hb : fn.body with
        | none => rw [hb] at h; cases h
        | some c =>
          rw [hb] at h
          simp only at h
          obtain ⟨hpf, hname⟩ := hE.fns f fn hf
          have hC := mcall_ok (P := P) ih f
          have hD : DrawOk P (cx E (callN E n) f) := hDr _ _ hC
          have hT : TyOk P (cx E (callN E n) f).P := hE.ty
          have hEq : EqOk P (cx E (callN E n) f).P (cx E (callN E n) f).eqOk := hE.eq
          have hL := loop_ok hE.mixed hT hEq hC hD (E.kp f) n
          refine .inr (.inr ⟨f, vals, ?_, ?_⟩)
          · have hnm : (fn.name == "runtime.NumGoroutine") = false := by simpa using hname
            simp only [callFunc, Sem.run_bind, run_program, Result.andThen_ok, hpf, hnm, hb, Option.isNone_some, Bool.false_eq_true, if_false, Sem.run_pure]
          · cases hcode : code (cx E (callN E n) f) (loopN (cx E (callN E n) f) (E.kp f) n) c (frame fn args) s with
            | none => rw [hcode] at h; cases h
            | some out =>
              obtain ⟨e, tm', s1⟩ := out
              rw [hcode] at h
              have hfin : (e = .nm ∨ e = .rt) ∧ ∃ q, result E.P fn (gt tm') s1 = some q ∧ r = q ∧ s' = s1 := by
                cases e with
                | nm =>
                  simp only [finish] at h
                  cases hq : result E.P fn (gt tm') s1 with
                  | none => rw [hq] at h; cases h
                  | some q => rw [hq] at h; simp only [Option.map_some, Option.some.injEq, Prod.mk.injEq] at h; exact ⟨.inl rfl, q, rfl, h.1.symm, h.2.symm⟩
                | rt =>
                  simp only [finish] at h
                  cases hq : result E.P fn (gt tm') s1 with
                  | none => rw [hq] at h; cases h
                  | some q => rw [hq] at h; simp only [Option.map_some, Option.some.injEq, Prod.mk.injEq] at h; exact ⟨.inr rfl, q, rfl, h.1.symm, h.2.symm⟩
                | ex i => simp [finish] at h
                | gt l => simp [finish] at h
              obtain ⟨he, q, hq, rfl, rfl⟩ := hfin
              have hlen : args.length = vals.size := by simpa using hcr.1
              have hTM : TM E.P F ρ (frame fn args) (vals ++ Array.replicate (fn.ntmps - vals.size) undef) := by
                refine ⟨by simp [frame, hlen], fun i a b => ?_⟩
                simp only [frame]
                by_cases hi : i < args.length
                · rw [List.getElem_append_left hi, Array.getElem_append_left (by omega)]
                  have := hcr.2 i hi (by simp; omega)
                  simpa using this
                · rw [List.getElem_append_right (by omega), Array.getElem_append_right (by omega)]
                  simp only [List.getElem_replicate, Array.getElem_replicate]
                  exact .tup [] #[] rfl (fun i h => by simp at h)
              refine calls_of_wp hpf hb ?_
              refine code_ok hE.mixed hT hEq hC hD hL c (frame fn args) s e tm' s' hcode ρ F W ⟨_, []⟩ hR hG hTM rfl _ ?_
              intro a' W' haf
              obtain ⟨⟨ρ', F', k1, k2, k3, k4⟩, k5, k6⟩ := haf
              obtain ⟨v, hv1, hv2⟩ := result_ok (E := E) hE.ty k2 k1 hq
              have hgood : Good E.P s.nx s ρ F W r s' v W' := ⟨ρ', F', hv2, k2, k3, fun i hi _ => k4 i hi, k5⟩
              rcases he with rfl | rfl
              · exact ⟨k6, v, hv1, hgood⟩
              · exact ⟨k6, v, hv1, hgood⟩
end
end Go.Proofs.YtdehdahimkcakaaGreatDoor.Ai
