/- The built-in functions. -/
import Derived.Test.YtdehdahimkcakaaGreatDoorSim10
import Derived.Lib.UnsafeStr
set_option linter.unusedVariables false
set_option linter.unusedSimpArgs false
namespace Go.Proofs.YtdehdahimkcakaaGreatDoor.Ai
open Go

section
variable {P : Program} {T : Ty} {F : Fz} {ρ : Rho} {s : St} {W : World}

theorem copyA_ok (hT : TyOk P T) (hR : R T F ρ s W) {e : TypeId} {z : Nat} {ag : Bool} (hl : lay T e = some (z, ag)) (h0 : 0 < z) {ats : Array TypeId} {t ty : TypeId} (hat : ats[0]? = some t) (ht : P.underlying t = some (.slice e))
    {u v : Value} {c : List AV} {m : Nat} {news : List Value} (hg : Gives P T F ρ W z c u m news) {x : AV} (hv : VR T F ρ x v) {r : AV} {s' : St} (h : copyA z x c s = some (r, s')) (id0 : Nat) : Does P T id0 s ρ F W r s' (Builtin.copy_ ats ty #[v, u]) := by
  have h00 : ∀ a c, (Builtin.copy_ ats ty #[.slice a 0 c, u]).run P W = .ok (.int .i64 0) W := fun a c => by
    have hc := hg.cells 0 (Nat.zero_le _) W (fun _ _ h => h)
    rw [Nat.zero_mul, List.take_zero] at hc
    cases a <;> simp [Builtin.copy_, hat, run_underlying ht, hg.len, run_sizeOf_lay hT hl, hc, storeCells, goInt]
  unfold copyA at h
  split at h
  · simp only [Option.some.injEq, Prod.mk.injEq] at h; obtain ⟨rfl, rfl⟩ := h
    cases hv
    exact Says.does hR id0 ⟨_, h00 _ _, .int _ _⟩
  · simp only [Option.some.injEq, Prod.mk.injEq] at h; obtain ⟨rfl, rfl⟩ := h
    cases hv
    exact Says.does hR id0 ⟨_, h00 _ _, .int _ _⟩
  · simp only [Option.some.injEq, Prod.mk.injEq] at h; obtain ⟨rfl, rfl⟩ := h
    obtain ⟨a, c', rfl, _, _, _⟩ := sl_inv hv
    exact Says.does hR id0 ⟨_, h00 _ _, .int _ _⟩
  · rename_i id off n cap e1
    simp only at h
    have hdiv : c.length / z = m := by rw [hg.size]; exact Nat.mul_div_cancel _ h0
    rw [hdiv] at h
    cases hb : s.h id with
    | none => rw [hb] at h; simp at h
    | some bk =>
      rw [hb] at h
      cases bk with
      | cells cc e' ex wr =>
        cases wr with
        | false => simp at h
        | true =>
          simp only at h
          split at h
          · rename_i hc
            obtain ⟨hle, hone⟩ := hc
            simp only [Option.some.injEq, Prod.mk.injEq] at h; obtain ⟨rfl, rfl⟩ := h
            cases hv with
            | ref _ _ _ _ _ β size cp z' ag' hρ hz' hn hk hk2 =>
              have hk1 : min m n * z ≤ m * z := Nat.mul_le_mul_right z (Nat.min_le_left _ _)
              have hcr : CR T F ρ (c.take (min m n * z)) (news.take (min m n * z)) := hg.cr.take _
              have hlen : (c.take (min m n * z)).length = min m n * z := by rw [List.length_take, hg.size]; omega
              obtain ⟨p1, p2, p3, p4⟩ := put_ok hR hb hρ hcr (by rw [hlen]; exact hle)
              have hst := run_storeCells_cells (P := P) β off (news.take (min m n * z)) 0 W (by simpa using p1) (by simpa using p2) (cr_one hcr hone)
              simp only [Nat.add_zero] at hst
              have hc := hg.cells (min m n) (Nat.min_le_left _ _) W (fun _ _ h => h)
              refine ⟨_, _, ρ, F, ?_, .int _ _, p3, p4, fun _ _ _ => rfl, Nat.le_refl _⟩
              have hmin : Nat.min m n = min m n := rfl
              simp [Builtin.copy_, hat, run_underlying ht, hg.len, run_sizeOf_lay hT hl, hmin, hc, hst, goInt]
          · cases h
      | _ => simp at h
  · cases h
theorem len_ok (hT : TyOk P T) (hR : R T F ρ s W) {ats : Array TypeId} {t ty : TypeId} (hat : ats[0]? = some t) {d : TypeDesc} (ht : P.underlying t = some d) {x : AV} (hd : lenD d x = true) {n : Int} (h : lenA x s = some n) {v : Value} (hv : VR T F ρ x v) : Says P T F ρ W (.int .i64 n) (Builtin.len_ ats ty #[v]) := by
  unfold lenD at hd
  unfold lenA at h
  split at hd
  · simp only [Option.some.injEq] at h; subst h
    cases hv with
    | str _ b hb =>
      refine ⟨.int .i64 b.size, by simp [Builtin.len_, hat, run_underlying ht, goInt], ?_⟩
      subst hb
      rw [Array.length_toList]
      exact .int _ _
  · simp only [Option.some.injEq] at h; subst h
    cases hv
    exact ⟨_, by simp [Builtin.len_, hat, run_underlying ht, goInt], .int _ _⟩
  · simp only [Option.some.injEq] at h; subst h
    cases hv
    exact ⟨_, by simp [Builtin.len_, hat, run_underlying ht, goInt], .int _ _⟩
  · simp only [Option.some.injEq] at h; subst h
    obtain ⟨a, c, rfl, _, _, _⟩ := sl_inv hv
    exact ⟨_, by simp [Builtin.len_, hat, run_underlying ht, goInt], .int _ _⟩
  · simp only [Option.some.injEq] at h; subst h
    cases hv
    exact ⟨_, by simp [Builtin.len_, hat, run_underlying ht, goInt], .int _ _⟩
  · simp only [Option.some.injEq] at h; subst h
    cases hv
    exact ⟨_, by simp [Builtin.len_, hat, run_underlying ht, goInt], .int _ _⟩
  · rename_i id
    simp only at h
    cases hb : s.h id with
    | none => rw [hb] at h; simp at h
    | some bk =>
      rw [hb] at h
      cases bk with
      | map m =>
        simp only [Option.some.injEq] at h; subst h
        cases hv with
        | map _ β z hρ =>
          obtain ⟨β', z', o, k1, k2, k3, k4⟩ := hR.lt hb
          rw [hρ] at k1; cases k1
          cases o with
          | map es cl =>
            refine ⟨.int .i64 es.size, ?_, by rw [k3.1]; exact .int _ _⟩
            have hget : (getObj β).run P W = .ok (.map es cl) W := by simp [getObj, Sem.run, k2]
            simp [Builtin.len_, hat, run_underlying ht, goInt, hget]
          | _ => exact k3.elim
      | _ => simp at h
  · cases hd
theorem cap_ok (hT : TyOk P T) {ats : Array TypeId} {t e ty : TypeId} (hat : ats[0]? = some t) (ht : P.underlying t = some (.slice e)) {x : AV} {n : Int} (h : capA x = some n) {v : Value} (hv : VR T F ρ x v) : Says P T F ρ W (.int .i64 n) (Builtin.cap_ ats ty #[v]) := by
  unfold capA at h
  split at h
  · simp only [Option.some.injEq] at h; subst h
    cases hv
    exact ⟨_, by simp [Builtin.cap_, hat, run_underlying ht, goInt], .int _ _⟩
  · simp only [Option.some.injEq] at h; subst h
    obtain ⟨a, c, rfl, _, hx, _⟩ := sl_inv hv
    exact ⟨.int .i64 c, by simp [Builtin.cap_, hat, run_underlying ht, goInt], by rw [hx rfl]; exact .int _ _⟩
  · simp only [Option.some.injEq] at h; subst h
    cases hv with
    | ref _ _ _ _ _ β size c z ag hρ hz hn hk hk2 =>
      rename_i k
      exact ⟨.int .i64 c, by simp [Builtin.cap_, hat, run_underlying ht, goInt], by rw [(hk _ rfl).1]; exact .int _ _⟩
  · cases h
theorem sliceData_ok (hR : R T F ρ s W) {ats : Array TypeId} {ty : TypeId} {v : Value} {id off n : Nat} {e e' : TypeId} {c : List AV} {ex wr : Bool} (hb : s.h id = some (.cells c e' ex wr)) (ho : off < c.length) (hv : VR T F ρ (.ref id off n none e) v) :
    Says P T F ρ W (.ptr id off) (Builtin.unsafeSliceData_ ats ty #[v]) := by
  cases hv with
  | ref _ _ _ _ _ β size cp z ag hρ hz hn hk hk2 =>
    obtain ⟨hsh, hle⟩ := shape_ok hR hb hρ
    have hc : cp ≠ 0 := by
      intro h
      have := hk2 rfl
      rw [h, Nat.zero_mul] at this; omega
    exact ⟨_, Lib.run_unsafeSliceData_row W ats ty _ n cp hc, .ptr _ _ _ _ hρ⟩
theorem unsafeString_ok (hT : TyOk P T) (hR : R T F ρ s W) {pt it ty : TypeId} {e : TypeId} (hp : P.underlying pt = some (.pointer e)) {id : Nat} {c : List AV} {ex wr : Bool} (hb : s.h id = some (.cells c e ex wr)) {ag : Bool} (hl : lay T e = some (1, ag))
    {n : Int} (h0 : 0 < n) (h1 : n.toNat ≤ c.length) (h2 : n ≤ most) {ns : List Int} (hns : asU8s (c.take n.toNat) = some ns) (hall : ns.all (fun n => decide (0 ≤ n) && decide (n < 256)) = true) {v : Value} (hv : VR T F ρ (.ptr id 0) v) (id0 : Nat) :
    Does P T id0 s ρ F W (.str (ns.map fun n => UInt8.ofNat n.toNat)) (s.set id (some (.cells c e ex false))) (Builtin.unsafeString_ #[pt, it] ty #[v, .int .i64 n]) := by
  cases hv with
  | ptr _ _ β z hρ =>
    obtain ⟨hsh, hle⟩ := shape_ok hR hb hρ
    obtain ⟨i, d, hi, hs, _, _⟩ := lay_ok hT hl
    have hc1 : P.cellsOf e = 1 := by simp [Program.cellsOf, hi, hs]
    obtain ⟨β', z', q1, q2⟩ := hR.at hb
    rw [hρ] at q1; cases q1
    have hm' : (most : Int) = 1099511627776 := by decide
    have hlen : (c.take n.toNat).length = n.toNat := by rw [List.length_take]; omega
    have hnl := asU8s_len _ _ hns
    rw [hlen] at hnl
    let l : List UInt8 := ns.map fun n => UInt8.ofNat n.toNat
    have hll : l.length = n.toNat := by simp [l, hnl]
    have hlz : (l.length : Int) = n := by rw [hll]; omega
    obtain ⟨g, hg⟩ := q2
    have hrun := Lib.run_unsafeString_row (P := P) W pt it ty e hp hc1 β z hsh l (by intro h; rw [h] at hll; simp at hll; omega) (by rw [hll]; omega) (by omega) (fun j x hx => by
      have hj : j < n.toNat := by
        rcases Nat.lt_or_ge j l.length with h | h
        · omega
        · rw [List.getElem?_eq_none h] at hx; cases hx
      have hjn : j < ns.length := by omega
      have hjc : j < c.length := by omega
      rw [List.getElem?_map, List.getElem?_eq_getElem hjn] at hx
      simp only [Option.map_some, Option.some.injEq] at hx
      obtain ⟨k1, k2⟩ := hg j hjc
      have k3 := asU8s_get _ _ hns j (by rw [hlen]; exact hj)
      simp only [List.getElem_take] at k3
      have k4 := asU8_ok k3 k2
      have k5 : ns.getD j 0 = ns[j] := by simp [List.getD, List.getElem?_eq_getElem hjn]
      rw [Addr.add_lit, k1, k4, k5, ← hx]
      have k6 := List.all_eq_true.1 hall _ (List.getElem_mem hjn)
      simp only [Bool.and_eq_true, decide_eq_true_eq] at k6
      congr 2
      rw [UInt8.toNat_ofNat']
      omega)
    rw [hlz] at hrun
    obtain ⟨β', z', o, k1, k2, k3, k4⟩ := hR.lt hb
    rw [hρ] at k1; cases k1
    cases o with
    | cells C e' fr =>
      obtain ⟨rfl, m2, m3, m4, m5, m6⟩ := k3
      obtain ⟨fr', hfr⟩ : ∃ fr', W.freeze ⟨β, 0, none⟩ l.length = putObj W β (.cells C e' fr') := by
        refine ⟨if fr.1 == fr.2 then (0, 0 + l.length) else (min fr.1 0, max fr.2 (0 + l.length)), ?_⟩
        unfold World.freeze putObj
        rw [if_neg (by omega)]
        congr 1
        apply Array.ext_getElem?
        intro j
        rw [Array.getElem?_modify, Array.getElem?_setIfInBounds]
        by_cases hj : β = j
        · subst hj
          have hw : W.heap[β] = .cells C e' fr := by rw [Array.getElem?_eq_getElem k4] at k2; simpa using k2
          simp [k4, hw]
        · rw [if_neg hj, if_neg hj]
      have hor : OR T F ρ z (.cells c e' ex false) (.cells C e' fr') := ⟨rfl, m2, m3, m4, m5, by intro h; cases h⟩
      obtain ⟨r1, r2⟩ := hR.put (b' := .cells c e' ex false) hb hρ hor
      exact ⟨_, _, ρ, F, hrun.trans (by rw [hfr]), .str _ _ rfl, r1, r2, fun _ _ _ => rfl, Nat.le_refl _⟩
    | _ => exact k3.elim
theorem min_ok {f : Int → Int → Bool} {m2 : Value → Value → Sem Value} (hf : ∀ k a k' b, (m2 (.int k a) (.int k' b)).run P W = .ok (.int k (if f b a then b else a)) W) {args : List AV} {r : AV} (h : minI f args = some r) {us : Array Value} (hcr : CR T F ρ args us.toList) :
    ∃ x y, us = #[x, y] ∧ Says P T F ρ W r ([y].foldlM m2 x) := by
  unfold minI at h
  split at h
  · rename_i k a k' b
    split at h
    · rename_i hk
      subst hk
      simp only [Option.some.injEq] at h; subst h
      obtain ⟨us⟩ := us
      simp only at hcr ⊢
      match us, hcr with
      | [u, v], hcr =>
        have h1 := hcr.2 0 (by simp) (by simp)
        have h2 := hcr.2 1 (by simp) (by simp)
        simp only [List.getElem_cons_zero, List.getElem_cons_succ] at h1 h2
        cases h1; cases h2
        refine ⟨_, _, rfl, _, ?_, .int _ _⟩
        simp only [List.foldlM_cons, List.foldlM_nil, Sem.run_bind, hf, Result.andThen_ok, Sem.run_pure]
      | [], hcr => exact absurd hcr.1 (by simp)
      | [_], hcr => exact absurd hcr.1 (by simp)
      | _ :: _ :: _ :: _, hcr => exact absurd hcr.1 (by simp)
    · cases h
  · cases h
end
end Go.Proofs.YtdehdahimkcakaaGreatDoor.Ai
