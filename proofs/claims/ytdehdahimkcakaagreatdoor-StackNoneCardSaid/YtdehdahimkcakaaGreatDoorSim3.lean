/- New blocks, changed blocks, frozen blocks: the relation lives on. -/
import Derived.Test.YtdehdahimkcakaaGreatDoorSim2
set_option linter.unusedVariables false
set_option linter.unusedSimpArgs false
namespace Go.Proofs.YtdehdahimkcakaaGreatDoor.Ai
open Go

variable {P : Program} {T : Ty} {F : Fz} {ρ : Rho} {s : St} {W : World}

def rset (ρ : Rho) (id : Nat) (b : Nat × Nat) : Rho := fun i => if i = id then some b else ρ i
theorem rset_le {id : Nat} (h : ρ id = none) (b : Nat × Nat) : RLe ρ (rset ρ id b) := by
  intro i c hi
  unfold rset
  split
  · rename_i e; subst e; rw [h] at hi; cases hi
  · exact hi
theorem rset_same (id : Nat) (b : Nat × Nat) : rset ρ id b id = some b := by simp [rset]
theorem rset_ne {i id : Nat} (h : i ≠ id) (b : Nat × Nat) : rset ρ id b i = ρ i := by simp [rset, h]
@[simp] theorem set_same (s : St) (n : Nat) (b : Option Blk) : (s.set n b).h n = b := by
  have : Nat.beq n n = true := Nat.beq_refl n
  simp [St.set, this]
theorem set_ne (s : St) {m n : Nat} (b : Option Blk) (h : m ≠ n) : (s.set n b).h m = s.h m := by
  have : Nat.beq m n = false := by
    cases hb : Nat.beq m n with
    | false => rfl
    | true => exact absurd (Nat.eq_of_beq_eq_true hb) h
  simp [St.set, this]
@[simp] theorem set_nx (s : St) (n : Nat) (b : Option Blk) : (s.set n b).nx = s.nx := rfl
theorem new_eq (s : St) (b : Blk) : s.new b = ⟨(s.set s.nx (some b)).h, s.nx + 1⟩ := by
  unfold St.new St.set
  congr 1

/-- What is kept of the numbers below a bound. -/
def Old (lo : Nat) (ρ ρ' : Rho) : Prop := ∀ i, i < lo → ρ' i = ρ i
theorem Old.refl (lo : Nat) (ρ : Rho) : Old lo ρ ρ := fun _ _ => rfl
theorem Old.trans {lo lo' : Nat} {ρ ρ' ρ'' : Rho} (h : Old lo ρ ρ') (h' : Old lo' ρ' ρ'') (hl : lo ≤ lo') : Old lo ρ ρ'' := fun i hi => (h' i (by omega)).trans (h i hi)

theorem R.lt (h : R T F ρ s W) {id : Nat} {b : Blk} (hb : s.h id = some b) : ∃ β z o, ρ id = some (β, z) ∧ W.heap[β]? = some o ∧ OR T F ρ z b o ∧ β < W.heap.size := by
  obtain ⟨β, z, o, h1, h2, h3⟩ := h.blk id b hb
  exact ⟨β, z, o, h1, h2, h3, by
    rcases Nat.lt_or_ge β W.heap.size with h' | h'
    · exact h'
    · rw [Array.getElem?_eq_none h'] at h2; cases h2⟩
theorem cell_lt {W : World} {a : Addr} {v : Value} (h : W.cell? a = some v) : a.block < W.heap.size := World.block_lt_of_cell? W a h

/-- A new live block. -/
theorem R.born (h : R T F ρ s W) {id : Nat} {s' : St} (hid : ρ id = none) (b : Blk) (o : Obj) (z : Nat) (ho : OR T F ρ z b o)
    (hs : s'.h = (s.set id (some b)).h) (hn : s.nx ≤ s'.nx) (hi : id < s'.nx) :
    R T F (rset ρ id (W.heap.size, z)) s' (W.alloc o) ∧ Step s ρ F W s' (rset ρ id (W.heap.size, z)) F (W.alloc o) := by
  have hle := rset_le hid (W.heap.size, z)
  have hdead : s.h id = none := by
    cases hb : s.h id with
    | none => rfl
    | some b' => obtain ⟨β, z', o', h1, _⟩ := h.blk id b' hb; rw [hid] at h1; cases h1
  have hheap : ∀ β, β < W.heap.size → (W.alloc o).heap[β]? = W.heap[β]? := fun β hβ => by
    simp only [World.alloc]; rw [Array.getElem?_push]; rw [if_neg (by omega)]
  refine ⟨⟨?_, ?_, ?_, ?_⟩, ⟨hle, FLe.refl _, rfl, rfl, rfl, by simp, fun β hβ _ => hheap β hβ, ?_, fun _ _ h _ _ => h⟩⟩
  · intro i b' hb'
    rw [hs] at hb'
    by_cases hii : i = id
    · subst hii
      rw [set_same] at hb'
      cases hb'
      exact ⟨W.heap.size, z, o, rset_same _ _, by show (W.heap.push o)[W.heap.size]? = some o; simp, ho.mono (FLe.refl _) hle⟩
    · rw [set_ne _ _ hii] at hb'
      obtain ⟨β, z', o', h1, h2, h3, h4⟩ := h.lt hb'
      exact ⟨β, z', o', hle _ _ h1, by rw [hheap β h4]; exact h2, h3.mono (FLe.refl _) hle⟩
  · intro i j β z1 z2 hi1 hj1 h1 h2
    rw [hs] at hi1 hj1
    by_cases hii : i = id
    · by_cases hjj : j = id
      · rw [hii, hjj]
      · subst hii
        rw [rset_same] at h1; cases h1
        rw [rset_ne hjj] at h2
        rw [set_ne _ _ hjj] at hj1
        obtain ⟨b', hb'⟩ := Option.ne_none_iff_exists'.1 hj1
        obtain ⟨β', z', o', k1, _, _, k4⟩ := h.lt hb'
        rw [h2] at k1; cases k1; omega
    · by_cases hjj : j = id
      · subst hjj
        rw [rset_same] at h2; cases h2
        rw [rset_ne hii] at h1
        rw [set_ne _ _ hii] at hi1
        obtain ⟨b', hb'⟩ := Option.ne_none_iff_exists'.1 hi1
        obtain ⟨β', z', o', k1, _, _, k4⟩ := h.lt hb'
        rw [h1] at k1; cases k1; omega
      · rw [rset_ne hii] at h1
        rw [rset_ne hjj] at h2
        rw [set_ne _ _ hii] at hi1
        rw [set_ne _ _ hjj] at hj1
        exact h.inj i j β z1 z2 hi1 hj1 h1 h2
  · intro a v ha
    obtain ⟨h1, h2⟩ := h.fz a v ha
    refine ⟨by rw [World.cell?_alloc_lt _ _ _ (cell_lt h1)]; exact h1, fun i z' hi1 hc => ?_⟩
    rw [hs] at hi1
    by_cases hii : i = id
    · subst hii
      rw [rset_same] at hc
      simp only [Option.some.injEq, Prod.mk.injEq] at hc
      have := cell_lt h1; omega
    · rw [rset_ne hii] at hc
      rw [set_ne _ _ hii] at hi1
      exact h2 i z' hi1 hc
  · intro i hi2
    rw [rset_ne (by omega)]
    exact h.fresh i (by omega)
  · intro β ⟨i, z', hi1, hc⟩ hβ
    rw [hs] at hi1
    by_cases hii : i = id
    · subst hii
      rw [rset_same] at hc; cases hc; omega
    · rw [rset_ne hii] at hc
      rw [set_ne _ _ hii] at hi1
      exact ⟨i, z', hi1, hc⟩

def putObj (W : World) (β : Nat) (o : Obj) : World := { W with heap := W.heap.setIfInBounds β o }
/-- A live block is changed. -/
theorem R.put (h : R T F ρ s W) {id β z : Nat} {b b' : Blk} {o' : Obj} (hb : s.h id = some b) (hr : ρ id = some (β, z)) (ho : OR T F ρ z b' o') :
    R T F ρ (s.set id (some b')) (putObj W β o') ∧ Step s ρ F W (s.set id (some b')) ρ F (putObj W β o') := by
  obtain ⟨β0, z0, o0, k1, k2, k3, k4⟩ := h.lt hb
  rw [hr] at k1; cases k1
  have hother : ∀ γ, γ ≠ β → (putObj W β o').heap[γ]? = W.heap[γ]? := fun γ hγ => by
    simp only [putObj]; rw [Array.getElem?_setIfInBounds]; rw [if_neg (Ne.symm hγ)]
  have hlive : ∀ i, (s.set id (some b')).h i ≠ none ↔ s.h i ≠ none := fun i => by
    by_cases hii : i = id
    · subst hii; simp [hb]
    · rw [set_ne _ _ hii]
  refine ⟨⟨?_, ?_, ?_, ?_⟩, ⟨RLe.refl _, FLe.refl _, rfl, rfl, rfl, by simp [putObj], fun γ hγ hl => hother γ fun e => hl ⟨id, z, by rw [hb]; simp, by rw [e]; exact hr⟩, fun γ ⟨i, z', h1, h2⟩ _ => ⟨i, z', (hlive i).1 h1, h2⟩, fun _ _ h _ _ => h⟩⟩
  · intro i c hc
    by_cases hii : i = id
    · subst hii
      rw [set_same] at hc; cases hc
      exact ⟨β, z, o', hr, by simp only [putObj]; rw [Array.getElem?_setIfInBounds]; simp [k4], ho⟩
    · rw [set_ne _ _ hii] at hc
      obtain ⟨γ, z', o, h1, h2, h3, h4⟩ := h.lt hc
      refine ⟨γ, z', o, h1, ?_, h3⟩
      rw [hother γ]
      · exact h2
      · intro e; subst e
        exact hii (h.inj i id γ z' z (by rw [hc]; simp) (by rw [hb]; simp) h1 hr)
  · intro i j γ z1 z2 hi hj h1 h2
    exact h.inj i j γ z1 z2 ((hlive i).1 hi) ((hlive j).1 hj) h1 h2
  · intro a v ha
    obtain ⟨h1, h2⟩ := h.fz a v ha
    refine ⟨?_, fun i z' hi => h2 i z' ((hlive i).1 hi)⟩
    have hne : a.block ≠ β := fun e => h2 id z (by rw [hb]; simp) (by rw [e]; exact hr)
    unfold World.cell? at h1 ⊢
    rw [hother _ hne]; exact h1
  · exact h.fresh

/-- A block is let go. -/
theorem R.drop (h : R T F ρ s W) (id : Nat) : R T F ρ (s.set id none) W ∧ Step s ρ F W (s.set id none) ρ F W := by
  have hlive : ∀ i, (s.set id none).h i ≠ none → s.h i ≠ none := fun i hi => by
    by_cases hii : i = id
    · subst hii; simp at hi
    · rwa [set_ne _ _ hii] at hi
  refine ⟨⟨?_, fun i j γ z1 z2 hi hj => h.inj i j γ z1 z2 (hlive i hi) (hlive j hj), fun a v ha => ⟨(h.fz a v ha).1, fun i z hi => (h.fz a v ha).2 i z (hlive i hi)⟩, h.fresh⟩,
    ⟨RLe.refl _, FLe.refl _, rfl, rfl, rfl, Nat.le_refl _, fun _ _ _ => rfl, fun γ ⟨i, z', h1, h2⟩ _ => ⟨i, z', hlive i h1, h2⟩, fun _ _ h _ _ => h⟩⟩
  intro i b hb
  by_cases hii : i = id
  · subst hii; simp at hb
  · rw [set_ne _ _ hii] at hb
    exact h.blk i b hb

/-- The cells of a block, frozen besides. -/
def fput (F : Fz) (β n : Nat) (C : Array Value) : Fz := fun a => if a.block = β ∧ a.spot = none ∧ a.off < n then C[a.off]? else F a
theorem fput_in {β n j : Nat} {C : Array Value} (hj : j < n) : fput F β n C ⟨β, j, none⟩ = C[j]? := by simp [fput, hj]

/-- A block that nobody writes is new. -/
theorem R.cold (h : R T F ρ s W) (C : Array Value) (e : TypeId) (fr : Nat × Nat) :
    R T (fput F W.heap.size C.size C) ρ s (W.alloc (.cells C e fr)) ∧ Step s ρ F W s ρ (fput F W.heap.size C.size C) (W.alloc (.cells C e fr)) := by
  have hold : ∀ a v, F a = some v → a.block < W.heap.size := fun a v ha => cell_lt (h.fz a v ha).1
  have hle : FLe F (fput F W.heap.size C.size C) := fun a v ha => by
    unfold fput
    rw [if_neg (fun hc => by have := hold a v ha; omega)]; exact ha
  have hheap : ∀ β, β < W.heap.size → (W.alloc (.cells C e fr)).heap[β]? = W.heap[β]? := fun β hβ => by
    simp only [World.alloc]; rw [Array.getElem?_push]; rw [if_neg (by omega)]
  refine ⟨⟨?_, h.inj, ?_, h.fresh⟩, ⟨RLe.refl _, hle, rfl, rfl, rfl, by simp, fun β hβ _ => hheap β hβ, fun _ hl _ => hl, fun a v ha hb _ => by
    unfold fput at ha; rw [if_neg (fun hc => by have := hc.1; omega)] at ha; exact ha⟩⟩
  · intro i b hb
    obtain ⟨β, z, o, h1, h2, h3, h4⟩ := h.lt hb
    exact ⟨β, z, o, h1, by rw [hheap β h4]; exact h2, h3.mono hle (RLe.refl _)⟩
  · intro a v ha
    unfold fput at ha
    split at ha
    · rename_i hc
      obtain ⟨h1, h2, h3⟩ := hc
      obtain ⟨ab, ao, as⟩ := a
      simp only at h1 h2 h3 ha
      subst h1 h2
      refine ⟨by show (match (W.heap.push (.cells C e fr))[W.heap.size]? with | some (.cells c _ _) => _ | _ => _) = _; simp [ha], fun i z hi hc => ?_⟩
      obtain ⟨b', hb'⟩ := Option.ne_none_iff_exists'.1 hi
      obtain ⟨β', z', o', k1, _, _, k4⟩ := h.lt hb'
      rw [hc] at k1; cases k1; exact absurd k4 (Nat.lt_irrefl _)
    · obtain ⟨h1, h2⟩ := h.fz a v ha
      exact ⟨by rw [World.cell?_alloc_lt _ _ _ (cell_lt h1)]; exact h1, h2⟩

/-- A live block of cells is frozen. -/
theorem R.freeze (h : R T F ρ s W) {id : Nat} {c : List AV} {e : TypeId} {ex wr : Bool} (hb : s.h id = some (.cells c e ex wr)) :
    ∃ β z C fr, ρ id = some (β, z) ∧ W.heap[β]? = some (.cells C e fr) ∧ c.length ≤ C.size ∧ (∀ j (a : j < c.length) (b : j < C.size), VR T F ρ c[j] C[j]) ∧ R T (fput F β c.length C) ρ (s.set id none) W ∧ Step s ρ F W (s.set id none) ρ (fput F β c.length C) W := by
  obtain ⟨β, z, o, h1, h2, h3, h4⟩ := h.lt hb
  cases o with
  | cells C e' fr =>
    obtain ⟨rfl, k2, k3, k4, k5, k6⟩ := h3
    have hnot : ∀ a v, F a = some v → a.block ≠ β := fun a v ha e => (h.fz a v ha).2 id z (by rw [hb]; simp) (by rw [e]; exact h1)
    have hle : FLe F (fput F β c.length C) := fun a v ha => by
      unfold fput
      rw [if_neg (fun hc => hnot a v ha hc.1)]; exact ha
    obtain ⟨hd, hs⟩ := h.drop id
    refine ⟨β, z, C, fr, h1, h2, by omega, k5, ⟨?_, hd.inj, ?_, hd.fresh⟩, ⟨RLe.refl _, hle, rfl, rfl, rfl, Nat.le_refl _, fun _ _ _ => rfl, hs.born, fun a v ha _ hl => by
      unfold fput at ha; rw [if_neg (fun hc => hl ⟨id, z, by rw [hb]; simp, by rw [hc.1]; exact h1⟩)] at ha; exact ha⟩⟩
    · intro i b hb'
      obtain ⟨γ, z', o, q1, q2, q3⟩ := hd.blk i b hb'
      exact ⟨γ, z', o, q1, q2, q3.mono hle (RLe.refl _)⟩
    · intro a v ha
      unfold fput at ha
      split at ha
      · rename_i hc
        obtain ⟨q1, q2, q3⟩ := hc
        obtain ⟨ab, ao, as⟩ := a
        simp only at q1 q2 q3 ha
        subst q1 q2
        refine ⟨by simp [World.cell?, h2, ha], fun i z' hi hc => ?_⟩
        have hii : i ≠ id := fun e => by subst e; simp at hi
        rw [set_ne _ _ hii] at hi
        exact hii (h.inj i id ab z' z hi (by rw [hb]; simp) hc h1)
      · exact hd.fz a v ha
  | _ => exact h3.elim

end Go.Proofs.YtdehdahimkcakaaGreatDoor.Ai
