/- Conversions. -/
import Derived.Test.YtdehdahimkcakaaGreatDoorSim7
import Derived.Laws.BytesArg
import Derived.Lib.Builder
set_option linter.unusedVariables false
set_option linter.unusedSimpArgs false
namespace Go.Proofs.YtdehdahimkcakaaGreatDoor.Ai
open Go

section
variable {P : Program} {T : Ty} {F : Fz} {ρ : Rho} {s : St} {W : World}

theorem asU8_ok {x : AV} {n : Int} (h : asU8 x = some n) {u : Value} (hu : VR T F ρ x u) : u = .int .u8 n := by
  unfold asU8 at h
  split at h
  · simp only [Option.some.injEq] at h; subst h
    cases hu; rfl
  · cases h
theorem asU8s_len : ∀ (l : List AV) (ns : List Int), asU8s l = some ns → ns.length = l.length := by
  intro l
  induction l with
  | nil => intro ns h; simp only [asU8s, Option.some.injEq] at h; subst h; rfl
  | cons v l ih =>
    intro ns h
    simp only [asU8s] at h
    split at h
    · rename_i n ns' h1 h2
      simp only [Option.some.injEq] at h; subst h
      simp [ih _ h2]
    · cases h
theorem asU8s_get : ∀ (l : List AV) (ns : List Int), asU8s l = some ns → ∀ i (a : i < l.length), asU8 l[i] = some (ns.getD i 0) := by
  intro l
  induction l with
  | nil => intro ns h i a; simp at a
  | cons v l ih =>
    intro ns h i a
    simp only [asU8s] at h
    split at h
    · rename_i n ns' h1 h2
      simp only [Option.some.injEq] at h; subst h
      cases i with
      | zero => simpa using h1
      | succ i =>
        have := ih _ h2 i (by simpa using a)
        simpa using this
    · cases h
theorem At.take {cs : List AV} {β b : Nat} (h : At T F ρ W cs β b) (off n : Nat) : At T F ρ W ((cs.drop off).take n) β (b + off) := by
  obtain ⟨g, hg⟩ := h
  refine ⟨fun j => g (off + j), fun j hj => ?_⟩
  have hj2 : off + j < cs.length := by simp at hj; omega
  have := hg (off + j) hj2
  rw [Nat.add_assoc]
  refine ⟨this.1, ?_⟩
  simp only [List.getElem_take, List.getElem_drop]
  exact this.2
/-- The bytes of cells, as a text. -/
theorem bytes_at {l : List AV} {ns : List Int} (h : asU8s l = some ns) {β b : Nat} (ha : At T F ρ W l β b) {src e dst : TypeId} (hs : P.underlying src = some (.slice e)) (he : P.underlying e = some (.int .u8)) (hd : P.underlying dst = some .string) (c : Nat) :
    Says P T F ρ W (.str (ns.map fun n => UInt8.ofNat n.toNat)) (convert src dst (.slice (some ⟨β, b, none⟩) l.length c)) := by
  obtain ⟨g, hg⟩ := ha
  refine ⟨_, run_convert_bytes_arg W src e hs he β b l.length c ns (asU8s_len l ns h) (fun i hi => ?_) dst hd, .str _ _ (by rw [strOfNums_data])⟩
  obtain ⟨h1, h2⟩ := hg i hi
  rw [h1, asU8_ok (asU8s_get l ns h i hi) h2]
theorem shape_ok (hR : R T F ρ s W) {id β z : Nat} {c : List AV} {e : TypeId} {ex wr : Bool} (hb : s.h id = some (.cells c e ex wr)) (hρ : ρ id = some (β, z)) : W.shape? β = some (e, z) ∧ c.length ≤ z := by
  obtain ⟨β', z', o, h1, h2, h3, h4⟩ := hR.lt hb
  rw [hρ] at h1; cases h1
  cases o with
  | cells C e' fr =>
    obtain ⟨rfl, k2, k3, k4, k5, k6⟩ := h3
    exact ⟨by simp [World.shape?, h2, k2], k3⟩
  | _ => exact h3.elim
theorem liesAt_own {e : TypeId} {z : Nat} (hz : P.cellsOf e = z) (h0 : 0 < z) (count : Nat) (hn : 1 ≤ count) : liesAt P P.depth e count 0 e 1 = true := by
  have hd : P.depth = (2 * (P.types.size + Made.depth) + 1) + 1 := rfl
  have hz0 : ¬ z = 0 := by omega
  rw [hd]
  simp only [liesAt, Bool.or_eq_true]
  left
  rw [hd]
  simp [rowAt, hz, hz0, hn, sameLayout]
theorem conv_bytes_string (hT : TyOk P T) {dst e : TypeId} (hd : P.underlying dst = some (.slice e)) (he : P.underlying e = some (.int .u8)) {src : TypeId} {ds : TypeDesc} (hs : P.underlying src = some ds) (hR : R T F ρ s W) (b : ByteArray) (id : Nat) :
    Does P T id s ρ F W (.sl false (b.data.toList.map fun c => .int .u8 c.toNat)) s (convert src dst (.string b)) := by
  have hrunc : (choose (.appendCap b.size 0 e)).run P W = .ok ((Question.appendCap b.size 0 e).cut (W.tape W.drawn (.appendCap b.size 0 e))) W.drew := by
    rw [run_choose_drew]
    simp [Question.forced]
  generalize hcap : (Question.appendCap b.size 0 e).cut (W.tape W.drawn (.appendCap b.size 0 e)) = cap at hrunc
  have hge : b.size ≤ cap := by rw [← hcap]; exact grownCap_ge W b.size 0 e
  let C : Array Value := (b.data.map fun x => Value.int .u8 x.toNat) ++ Array.replicate (cap - b.size) (.int .u8 0)
  have hbs : b.data.toList.length = b.size := by rw [Array.length_toList]; rfl
  have hCs : C.size = cap := by
    have : b.data.size = b.size := rfl
    simp only [C, Array.size_append, Array.size_map, Array.size_replicate, this]; omega
  have hRd : R T F ρ s W.drew := ⟨hR.blk, hR.inj, hR.fz, hR.fresh⟩
  have hER : ER T F ρ 1 (b.data.toList.map fun c => .int .u8 c.toNat) C := by
    refine ⟨by rw [hCs, List.length_map, hbs, Nat.mul_one]; exact hge, fun i hi => by rw [List.getElem_map]; rfl, fun i j hi hj => ?_⟩
    have hj0 : j = 0 := by simp [AV.cells] at hj; exact hj
    subst hj0
    simp at hi
    refine ⟨.int .u8 (b.data[i]'hi).toNat, ?_, ?_⟩
    · simp only [Nat.mul_one, Nat.add_zero, C]
      rw [Array.getElem?_append_left (by simpa using hi)]
      simp [hi]
    · simp only [List.getElem_map, AV.cells, List.getElem_cons_zero, Array.getElem_toList]
      exact .int _ _
  obtain ⟨F', f1, f2, f3⟩ := cold_sl hRd hER e (cap, cap + 1) false cap (by rw [List.length_map, hbs]; exact hge) (by intro h; cases h) id
  refine ⟨.slice (some ⟨W.heap.size, 0, none⟩) b.size cap, W.drew.alloc (.cells C e (cap, cap + 1)), ρ, F', ?_, ?_, f2, ?_, fun _ _ _ => rfl, Nat.le_refl _⟩
  · have hw : (W.drew.alloc (.cells C e)).freeze ⟨W.heap.size, cap, none⟩ 1 = W.drew.alloc (.cells C e (cap, cap + 1)) := by
      unfold World.freeze World.alloc
      simp only [Nat.one_ne_zero, if_false]
      congr 1
      apply Array.ext_getElem?
      intro i
      rw [Array.getElem?_modify]
      have hsz : W.drew.heap.size = W.heap.size := rfl
      rw [Array.getElem?_push, Array.getElem?_push, hsz]
      by_cases hi : W.heap.size = i
      · subst hi; simp
      · rw [if_neg hi, if_neg (fun e => hi e.symm), if_neg (fun e => hi e.symm)]
    have hsh : (W.drew.alloc (.cells C e)).shape? W.heap.size = some (e, cap) := by
      have : (W.drew.heap.push (.cells C e))[W.heap.size]? = some (.cells C e) := by
        have hsz : W.drew.heap.size = W.heap.size := rfl
        rw [← hsz, Array.getElem?_push, if_pos rfl]
      simp only [World.shape?, World.alloc, this, hCs]
    simp only [convert, Sem.run_bind, run_underlying hs, run_underlying hd, run_underlying he, Result.andThen_ok, Conv.stringToBytes, hrunc, newRow, run_newObj_alloc, Sem.run_pure, markStringish, run_shape]
    have e1 : W.drew.heap.size = W.heap.size := rfl
    rw [e1]
    simp only [C] at hsh hw
    simp only [hsh, Sem.run_bind, run_freeze, Result.andThen_ok, Sem.run_pure, hw, C]
  · have : (b.data.toList.map fun c => AV.int .u8 c.toNat).length = b.size := by rw [List.length_map]; exact hbs
    rw [this] at f1
    exact f1
  · exact ⟨f3.rho, f3.fz, f3.os, f3.tape, f3.output, f3.size, f3.same, f3.born, f3.cold⟩
theorem sl_at (hR : R T F ρ s W) {ex : Bool} {l : List AV} {β b z : Nat} {w : Nat → Nat → Value} (hz : ∀ i (h : i < l.length), l[i].cells.length = z) (hf : ∀ i j, i < l.length → j < z → F ⟨β, b + i * z + j, none⟩ = some (w i j))
    (hv : ∀ i j (h : i < l.length) (h2 : j < l[i].cells.length), VR T F ρ l[i].cells[j] (w i j)) (h0 : 0 < z) : At T F ρ W (l.flatMap AV.cells) β b := by
  have hlen : ∀ (l : List AV), (∀ i (h : i < l.length), l[i].cells.length = z) → (l.flatMap AV.cells).length = l.length * z := by
    intro l
    induction l with
    | nil => intro _; simp
    | cons v l ih =>
      intro h
      rw [List.flatMap_cons, List.length_append, ih (fun i hi => h (i + 1) (by rw [List.length_cons]; omega))]
      have := h 0 (by simp)
      simp only [List.getElem_cons_zero] at this
      rw [this, List.length_cons, Nat.succ_mul]; omega
  have hget : ∀ (l : List AV), (∀ i (h : i < l.length), l[i].cells.length = z) → ∀ k, k < l.length * z → (l.flatMap AV.cells)[k]? = (l[k / z]?).bind fun v => v.cells[k % z]? := by
    intro l
    induction l with
    | nil => intro _ k hk; simp at hk
    | cons v l ih =>
      intro h k hk
      have hv0 := h 0 (by simp)
      simp only [List.getElem_cons_zero] at hv0
      rw [List.flatMap_cons]
      by_cases hkz : k < z
      · rw [List.getElem?_append_left (by omega), Nat.div_eq_of_lt hkz, Nat.mod_eq_of_lt hkz]; simp
      · rw [List.getElem?_append_right (by omega), hv0, ih (fun i hi => h (i + 1) (by rw [List.length_cons]; omega)) (k - z) (by rw [List.length_cons, Nat.succ_mul] at hk; omega)]
        have e1 : k / z = (k - z) / z + 1 := by
          rw [Nat.div_eq k z, if_pos ⟨h0, by omega⟩]
        rw [e1, List.getElem?_cons_succ, ← Nat.mod_eq_sub_mod (by omega)]
  refine ⟨fun k => w (k / z) (k % z), fun k hk => ?_⟩
  rw [hlen l hz] at hk
  have hi : k / z < l.length := (Nat.div_lt_iff_lt_mul h0).2 hk
  have hj : k % z < z := Nat.mod_lt _ h0
  have hF := hf (k / z) (k % z) hi hj
  have hsum : b + k / z * z + k % z = b + k := by rw [Nat.add_assoc, Nat.div_add_mod' k z]
  rw [hsum] at hF
  refine ⟨(hR.fz _ _ hF).1, ?_⟩
  have hg := hget l hz k hk
  rw [List.getElem?_eq_getElem (by rw [hlen l hz]; exact hk), List.getElem?_eq_getElem hi] at hg
  simp only [Option.bind_some] at hg
  rw [List.getElem?_eq_getElem (by rw [hz _ hi]; exact hj)] at hg
  simp only [Option.some.injEq] at hg
  rw [hg]
  exact hv _ _ hi (by rw [hz _ hi]; exact hj)
theorem asU8s_plain : ∀ (l : List AV) (ns : List Int), asU8s l = some ns → l.flatMap AV.cells = l := by
  intro l
  induction l with
  | nil => intro _ _; rfl
  | cons v l ih =>
    intro ns h
    simp only [asU8s] at h
    split at h
    · rename_i n ns' h1 h2
      rw [List.flatMap_cons, ih _ h2]
      unfold asU8 at h1
      split at h1
      · rfl
      · cases h1
    · cases h
theorem convA_ok (hT : TyOk P T) (hR : R T F ρ s W) {src dst : TypeId} {x r : AV} (h : convA T src dst x s = some r) {u : Value} (hu : VR T F ρ x u) (id : Nat) : Does P T id s ρ F W r s (convert src dst u) := by
  unfold convA at h
  cases hs : und T src with
  | none => rw [hs] at h; simp at h
  | some ds =>
    cases hd : und T dst with
    | none => rw [hs, hd] at h; simp at h
    | some dd =>
      have hs' := und_ok hT hs
      have hd' := und_ok hT hd
      rw [hs, hd] at h
      split at h
      · rename_i k k0 n h1 h2
        simp only [Option.some.injEq] at h1 h2 h; subst h2 h
        cases hu
        refine Says.does hR id ⟨_, ?_, .int _ _⟩
        simp only [convert, Sem.run_bind, run_underlying hs', run_underlying hd', Result.andThen_ok]
        rfl
      · rename_i b h1 h2
        simp only [Option.some.injEq] at h1 h2 h; subst h2 h
        cases hu with
        | str _ bb hbb =>
          refine Says.does hR id ⟨_, ?_, .str _ bb hbb⟩
          simp only [convert, Sem.run_bind, run_underlying hs', run_underlying hd', Result.andThen_ok]
          rfl
      · rename_i e b h1 h2
        simp only [Option.some.injEq] at h1 h2; subst h2
        split at h
        · rename_i he
          simp only [Option.some.injEq] at h; subst h
          cases hu with
          | str _ bb hbb =>
            subst hbb
            exact conv_bytes_string hT hd' (und_ok hT he) hs' hR bb id
        · cases h
      · rename_i e h1 h2 h3
        simp only [Option.some.injEq] at h1 h2; subst h1 h2
        cases he : und T e with
        | none => rw [he] at h; simp at h
        | some de =>
          rw [he] at h
          have he' := und_ok hT he
          split at h
          · rename_i h4
            simp only [Option.some.injEq] at h4 h; subst h4 h
            cases hu
            exact Says.does hR id ⟨_, run_convert_bytes_nil W src e hs' he' 0 0 dst hd', .str _ _ rfl⟩
          · rename_i ex l h4
            simp only [Option.some.injEq] at h4; subst h4
            cases hns : asU8s l with
            | none => rw [hns] at h; cases h
            | some ns =>
              rw [hns] at h
              simp only [Option.map_some, Option.some.injEq] at h; subst h
              obtain ⟨a, c, rfl, hc, hx, hne⟩ := sl_inv hu
              by_cases hl : l = []
              · subst hl
                simp only [asU8s, Option.some.injEq] at hns; subst hns
                cases a with
                | none => exact Says.does hR id ⟨_, run_convert_bytes_nil W src e hs' he' _ c dst hd', .str _ _ rfl⟩
                | some a =>
                  refine Says.does hR id ⟨.string .empty, ?_, .str _ _ rfl⟩
                  rw [List.length_nil, run_convert_bytes_string W src dst e _ 0 c hs' he' hd', run_bytesToString W a 0 c [] (by simp [loadCells, loadCellsFrom])]
                  rfl
              · obtain ⟨β, b, z, rfl, hz, w, hf, hv⟩ := hne hl
                have hz1 : z = 1 := by
                  cases l with
                  | nil => exact absurd rfl hl
                  | cons v l =>
                    have := hz 0 (by simp)
                    simp only [asU8s] at hns
                    split at hns
                    · rename_i n ns' h1 h2
                      unfold asU8 at h1
                      split at h1
                      · simp only [List.getElem_cons_zero] at this; exact this.symm
                      · cases h1
                    · cases hns
                have hat := sl_at hR (ex := ex) hz hf hv (by omega)
                rw [asU8s_plain l ns hns] at hat
                exact Says.does hR id (bytes_at hns hat hs' he' hd' c)
          · rename_i ids off n cap ty h4
            simp only [Option.some.injEq] at h4; subst h4
            cases hb : s.h ids with
            | none => rw [hb] at h; cases h
            | some bk =>
              rw [hb] at h
              cases bk with
              | cells c e0 ex wr =>
                simp only at h
                split at h
                · rename_i hle
                  cases hns : asU8s ((c.drop off).take n) with
                  | none => rw [hns] at h; cases h
                  | some ns =>
                    rw [hns] at h
                    simp only [Option.map_some, Option.some.injEq] at h; subst h
                    cases hu with
                    | ref _ _ _ _ _ β size cc z ag hρ hz hn hk hk2 =>
                      obtain ⟨β', z', q1, q2⟩ := hR.at hb
                      rw [hρ] at q1; cases q1
                      have hat := q2.take off n
                      rw [Nat.zero_add] at hat
                      have hlen : ((c.drop off).take n).length = n := by simp; omega
                      have := bytes_at (P := P) hns hat hs' he' hd' cc
                      rw [hlen] at this
                      exact Says.does hR id this
                · cases h
              | _ => cases h
          · cases h
      · rename_i t h1 h2
        simp only [Option.some.injEq] at h1 h2 h; subst h1 h2 h
        cases hu
        refine Says.does hR id ⟨_, ?_, .nilp⟩
        simp only [convert, Sem.run_bind, run_underlying hs', run_underlying hd', Result.andThen_ok, Conv.unsafePointer]
        rfl
      · rename_i t h1 h2
        simp only [Option.some.injEq] at h1 h2 h; subst h1 h2 h
        cases hu
        refine Says.does hR id ⟨_, ?_, .nilp⟩
        simp only [convert, Sem.run_bind, run_underlying hs', run_underlying hd', Result.andThen_ok, Conv.unsafePointer]
        rfl
      · rename_i t i0 off h1 h2
        simp only [Option.some.injEq] at h1 h2; subst h1 h2
        cases hb : s.h i0 with
        | none => rw [hb] at h; simp at h
        | some bk =>
          rw [hb] at h
          cases bk with
          | cells c e ex wr =>
            cases hl : lay T t with
            | none => rw [hl] at h; simp at h
            | some zz =>
              obtain ⟨z, ag⟩ := zz
              rw [hl] at h
              simp only at h
              split at h
              · rename_i hc
                simp only [Option.some.injEq] at h; subst h
                cases hu with
                | ptr _ _ β size hρ =>
                  obtain ⟨hsh, hle⟩ := shape_ok hR hb hρ
                  obtain ⟨j, d, hj, hj2, _, _⟩ := lay_ok hT hl
                  refine Says.does hR id ⟨_, Lib.run_to_unsafe (P := P) (w := W) ⟨β, off, none⟩ hs' hd' hj (by omega) hsh (by simp only; omega), .ptr _ _ _ _ hρ⟩
              · cases h
          | _ => simp at h
      · rename_i u0 i0 off h1 h2
        simp only [Option.some.injEq] at h1 h2; subst h1 h2
        cases hb : s.h i0 with
        | none => rw [hb] at h; simp at h
        | some bk =>
          rw [hb] at h
          cases bk with
          | cells c e ex wr =>
            cases hl : lay T u0 with
            | none => rw [hl] at h; simp at h
            | some zz =>
              obtain ⟨z, ag⟩ := zz
              rw [hl] at h
              simp only at h
              split at h
              · rename_i hc
                obtain ⟨rfl, rfl, hz0, hzc⟩ := hc
                simp only [Option.some.injEq] at h; subst h
                cases hu with
                | ptr _ _ β size hρ =>
                  obtain ⟨hsh, hle⟩ := shape_ok hR hb hρ
                  obtain ⟨j, d, hj, hj2, _, _⟩ := lay_ok hT hl
                  have hcz : P.cellsOf e = z := by simp [Program.cellsOf, hj, hj2]
                  refine Says.does hR id ⟨_, Lib.run_from_unsafe (P := P) (w := W) ⟨β, 0, none⟩ hs' hd' hj hsh (liesAt_own hcz hz0 _ ?_), .ptr _ _ _ _ hρ⟩
                  rw [hcz]
                  exact (Nat.le_div_iff_mul_le hz0).2 (by omega)
              · cases h
          | _ => simp at h
      · cases h
end
end Go.Proofs.YtdehdahimkcakaaGreatDoor.Ai
