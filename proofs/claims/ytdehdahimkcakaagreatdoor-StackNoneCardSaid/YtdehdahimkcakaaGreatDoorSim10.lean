/- append and copy. -/
import Derived.Test.YtdehdahimkcakaaGreatDoorSim9
set_option linter.unusedVariables false
set_option linter.unusedSimpArgs false
namespace Go.Proofs.YtdehdahimkcakaaGreatDoor.Ai
open Go

section
variable {P : Program} {T : Ty} {F : Fz} {ρ : Rho} {s : St} {W : World}

theorem app_nothing {e : TypeId} {i : TypeInfo} {ats : Array TypeId} {u : Value} {m : Nat} {news : List Value} (hf : Feed P T F ρ W e i ats u [] m news) {t : TypeId} (hat : ats[0]? = some t) (ht : P.underlying t = some (.slice e)) (hi : P.info? e = some i) (h0 : 0 < i.size)
    {ty : TypeId} {base : Option Addr} {n cap : Nat} (hle : n ≤ cap) : (Builtin.append_ ats ty #[.slice base n cap, u]).run P W = .ok (.slice base n cap) W := by
  have hm0 : m = 0 := by
    have := hf.size
    simp only [List.length_nil] at this
    rcases Nat.mul_eq_zero.1 this.symm with h | h <;> omega
  have hnews : news = [] := List.eq_nil_of_length_eq_zero (by rw [← hf.cr.1]; rfl)
  subst hm0 hnews
  obtain ⟨tx, d, h1, h2, h3 | h3⟩ := hf.kind
  · obtain ⟨hd, hl, hn, _⟩ := h3
    rcases hd with ⟨e', rfl⟩ | rfl <;> cases base <;> simp [Builtin.append_, hat, h1, run_underlying ht, run_underlying h2, sizeOf, typeInfo, hi, hl, hle, hn, storeCells]
  · obtain ⟨⟨k, rfl⟩, k', j, zr, rfl, p0, p1, p2, hj, hz, hzc⟩ := h3
    have hj0 : j = 0 := by omega
    subst hj0
    have hw : IntKind.i64.wrap 0 = 0 := by decide
    cases base <;> simp [Builtin.append_, hat, h1, run_underlying ht, run_underlying h2, sizeOf, typeInfo, hi, asInt, asIntOf, hw, hle, hz, zeroValue, storeCells]

theorem appendA_ok (hT : TyOk P T) (hR : R T F ρ s W) {e : TypeId} {z b : Nat} {ag : Bool} (hl : lay T e = some (z, ag)) (hbb : bytesOf T e = some b) {zv : AV} (hz : zero T e = some zv) (hzl : zv.cells.length = z) (h0 : 0 < z)
    {i : TypeInfo} (hi : P.info? e = some i) {ats : Array TypeId} {u : Value} {nc : List AV} {m : Nat} {news : List Value} (hf : (nc.all AV.one = true) → Feed P T F ρ W e i ats u nc m news) {t ty : TypeId} (hat : ats[0]? = some t) (ht : P.underlying t = some (.slice e))
    {x : AV} {v : Value} (hv : VR T F ρ x v) {id0 : Nat} (hid : ρ id0 = none) (hlt : id0 < s.nx) {r : AV} {s' : St} (h : appendA e z b x nc id0 s = some (r, s')) : Does P T id0 s ρ F W r s' (Builtin.append_ ats ty #[v, u]) := by
  obtain ⟨i1, d1, hi1, hs1, _, _⟩ := lay_ok hT hl
  rw [hi] at hi1; cases hi1
  have h0i : 0 < i.size := by omega
  unfold appendA at h
  split at h
  · rename_i hemp
    have hnil : nc = [] := by simpa using hemp
    subst hnil
    have hf := hf rfl
    split at h
    · simp only [Option.some.injEq, Prod.mk.injEq] at h; obtain ⟨rfl, rfl⟩ := h
      cases hv
      exact Says.does hR id0 ⟨_, app_nothing hf hat ht hi h0i (Nat.le_refl _), .nils⟩
    · simp only [Option.some.injEq, Prod.mk.injEq] at h; obtain ⟨rfl, rfl⟩ := h
      obtain ⟨a, c, rfl, hc, hx, hne⟩ := sl_inv hv
      exact Says.does hR id0 ⟨_, app_nothing hf hat ht hi h0i hc, hv⟩
    · simp only [Option.some.injEq, Prod.mk.injEq] at h; obtain ⟨rfl, rfl⟩ := h
      have hv' := hv
      cases hv with
      | ref _ _ _ _ _ β size c z' ag' hρ hz' hn hk hk2 => exact Says.does hR id0 ⟨_, app_nothing hf hat ht hi h0i hn, hv'⟩
    · cases h
  · rename_i hemp
    split at h
    · cases h
    · rename_i hone
      have hone' : nc.all AV.one = true := by simpa using hone
      have hf := hf hone'
      have hsz : nc.length = m * z := by rw [hf.size, hs1]
      have hdiv : nc.length / z = m := by rw [hsz]; exact Nat.mul_div_cancel _ h0
      have hm0 : 0 < m := by
        rcases Nat.eq_zero_or_pos m with h' | h'
        · subst h'; rw [Nat.zero_mul] at hsz
          exact absurd (List.eq_nil_of_length_eq_zero hsz) (by simpa using hemp)
        · exact h'
      split at h
      · cases hv
        refine grow_ok (base := none) (sLen := 0) (sCap := 0) (olds := []) (oc := []) hT hR hl hbb hz hzl h0 hi (run_firstCells_none W.drew i.size 0 0 0) CR.nil (by simp) hf hat ht (by omega) hid hlt ?_
        rw [List.nil_append]; exact h
      · rename_i l
        split at h
        · rename_i hall
          have hv' := hv
          obtain ⟨a, c, rfl, hc, hx, hne⟩ := sl_inv hv
          obtain ⟨n, olds, hg⟩ := src_ok (P := P) hR h0 (x := .sl true l) (c := l.flatMap AV.cells) (by simp only [srcCells]; rw [if_pos hall]) hv'
          have hn : n = l.length := by
            have h1 := hg.len W
            simp only [Builtin.lenOf, Sem.run_pure, Result.ok.injEq] at h1
            exact h1.1.symm
          subst hn
          have := hg.all (drew_cells W)
          rw [← hs1] at this
          refine grow_ok (olds := olds) (oc := l.flatMap AV.cells) hT hR hl hbb hz hzl h0 hi this hg.cr (by rw [hg.size, hs1]) hf hat ht (by have := hx rfl; omega) hid hlt h
        · cases h
      · rename_i id off n cap e1
        cases hb : s.h id with
        | none => rw [hb] at h; simp at h
        | some bk =>
          rw [hb] at h
          cases bk with
          | cells c e' ex wr =>
            cases wr with
            | false => simp at h
            | true =>
              simp only at h
              split at h
              · rename_i hc0
                obtain ⟨hle, rfl⟩ := hc0
                cases hv with
                | ref _ _ _ _ _ β size cp z' ag' hρ hz' hn hk hk2 =>
                  rw [hl] at hz'; cases hz'
                  obtain ⟨hsh, hcs⟩ := shape_ok hR hb hρ
                  obtain ⟨β', z', q1, q2⟩ := hR.at hb
                  rw [hρ] at q1; cases q1
                  have hat0 := q2.take off (n * z)
                  rw [Nat.zero_add] at hat0
                  obtain ⟨olds, hg⟩ := Gives.of_at (P := P) (cap := cp) hat0 (n := n) (z := z) (by simp; omega)
                  have hold := hg.all (drew_cells W)
                  rw [← hs1] at hold
                  have hinplace : n + m ≤ cp → off + n * z + nc.length ≤ c.length → Does P T id0 s ρ F W (.ref id off (n + m) cap e1) (s.set id (some (.cells (setMany c (off + n * z) nc) e' ex true))) (Builtin.append_ ats ty #[.slice (some ⟨β, off, none⟩) n cp, u]) := by
                    intro hcap hfit
                    obtain ⟨p1, p2, p3, p4⟩ := put_ok (vs := news) hR hb hρ hf.cr hfit
                    refine ⟨_, _, ρ, F, app_room hf hat ht hi h0i hcap (by rw [hs1]; exact p1) (by rw [hs1]; exact p2), .ref _ _ _ _ _ β size cp z ag hρ hl hcap hk hk2, by rw [hs1]; exact p3, by rw [hs1]; exact p4, fun _ _ _ => rfl, Nat.le_refl _⟩
                  split at h
                  · rename_i k
                    obtain ⟨hck, hks⟩ := hk k rfl
                    rw [hdiv] at h
                    split at h
                    · rename_i hroom
                      split at h
                      · rename_i hfit
                        simp only [Option.some.injEq, Prod.mk.injEq] at h; obtain ⟨rfl, rfl⟩ := h
                        exact hinplace (by omega) hfit
                      · cases h
                    · rename_i hroom
                      have e1' : (c.take (off + n * z)).drop off = (c.drop off).take (n * z) := by rw [List.drop_take]; congr 1; omega
                      rw [e1'] at h
                      exact grow_ok hT hR hl hbb hz hzl h0 hi hold hg.cr (by rw [hg.size, hs1]) hf hat ht (by omega) hid hlt h
                  · have hsize := hk2 rfl
                    rw [hdiv] at h
                    split at h
                    · rename_i hfit
                      simp only [Option.some.injEq, Prod.mk.injEq] at h; obtain ⟨rfl, rfl⟩ := h
                      refine hinplace ?_ hfit
                      have h2 : (n + m) * z ≤ cp * z := by rw [Nat.add_mul]; omega
                      exact Nat.le_of_mul_le_mul_right h2 h0
                    · rename_i hfit
                      split at h
                      · rename_i hc1
                        obtain ⟨hend, rfl, rfl⟩ := hc1
                        rw [Nat.zero_add] at hend hsize
                        have hcc : (c.drop 0).take (n * z) = c := by rw [List.drop_zero, hend]; exact List.take_length
                        rw [hcc] at hg
                        by_cases hroom : n + m ≤ cp
                        · -- the real row has room
                          unfold grown at h
                          split at h
                          · simp only [newSl, Option.some.injEq, Prod.mk.injEq] at h
                            obtain ⟨rfl, rfl⟩ := h
                            obtain ⟨β', z', o, k1, k2, k3, k4⟩ := hR.lt hb
                            rw [hρ] at k1; cases k1
                            cases o with
                            | cells C e'' fr =>
                              obtain ⟨rfl, m2, m3, m4, m5, m6⟩ := k3
                              have hnl : news.length = m * z := by rw [← hf.cr.1]; exact hsz
                              have hfits : n * z + m * z ≤ size := by rw [← Nat.add_mul, ← hsize]; exact Nat.mul_le_mul_right z hroom
                              have hlen2 : (c ++ nc).length = (n + m) * z := by rw [List.length_append, ← hend, hsz, Nat.add_mul]
                              have hd2 : (c ++ nc).length / z = n + m := by rw [hlen2]; exact Nat.mul_div_cancel _ h0
                              have hor : OR T F ρ size (.cells (c ++ nc) e'' false true) (.cells (setV C (n * z) news) e'' fr) := by
                                refine ⟨rfl, by rw [setV_size]; exact m2, by rw [hlen2, Nat.add_mul]; exact hfits, (by intro h; cases h), fun j a b => ?_, m6⟩
                                have hg2 := setV_get news C (n * z) j (by rw [m2, hnl]; exact hfits)
                                rw [Array.getElem?_eq_getElem b] at hg2
                                rw [List.length_append] at a
                                by_cases hj : j < c.length
                                · rw [if_neg (by omega), Array.getElem?_eq_getElem (by omega)] at hg2
                                  simp only [Option.some.injEq] at hg2
                                  rw [hg2, List.getElem_append_left hj]
                                  exact m5 j hj (by omega)
                                · have hjn : j - n * z < news.length := by omega
                                  rw [if_pos ⟨by omega, by omega⟩, List.getElem?_eq_getElem hjn] at hg2
                                  simp only [Option.some.injEq] at hg2
                                  rw [hg2, List.getElem_append_right (by omega)]
                                  have := hf.cr.2 (j - n * z) (by omega) hjn
                                  simp only [← hend]
                                  exact this
                              obtain ⟨r1, r2⟩ := hR.renew (b' := .cells (c ++ nc) e'' false true) hb hρ hor hid hlt
                              have hW : W.setCells β (0 + n * i.size) news = putObj W β (.cells (setV C (n * z) news) e'' fr) := by
                                rw [hs1, Nat.zero_add, setCells_put news W β (n * z) C e'' fr k2, if_neg]
                                intro hn0
                                rw [hn0, List.length_nil] at hnl
                                rcases Nat.mul_eq_zero.1 hnl.symm with h' | h' <;> omega
                              have hrun := app_room (ty := ty) (b := β) (off := 0) (sLen := n) (sCap := cp) hf hat ht hi h0i hroom (fun j hj => by
                                have : 0 + n * i.size + j < C.size := by rw [hs1, m2]; omega
                                simp only [World.cell?, k2]
                                simp; omega) (fun j hj => by
                                have := m6 rfl (0 + n * i.size + j) (by rw [hs1]; omega)
                                simp only [World.frozen?, k2]
                                simpa using this)
                              rw [hW] at hrun
                              rw [hd2]
                              refine ⟨_, _, _, F, hrun, VR.ref id0 0 _ none e'' β size cp z ag (rset_same _ _) hl hroom (fun k hk => by cases hk) (fun _ => by omega), r1, r2, fun i _ hi => rset_ne hi _, Nat.le_refl _⟩
                            | _ => exact k3.elim
                          · cases h
                        · refine Does.of_drop hR (d := id) ?_
                          exact grow_ok hT (hR.drop id).1 hl hbb hz hzl h0 hi hold hg.cr (by rw [hg.size, hs1]) hf hat ht (by omega) hid hlt h
                      · cases h
              · cases h
          | _ => simp at h
      · cases h
end
end Go.Proofs.YtdehdahimkcakaaGreatDoor.Ai
