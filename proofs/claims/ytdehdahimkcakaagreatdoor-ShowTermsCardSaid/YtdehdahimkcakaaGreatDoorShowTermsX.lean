/- ShowTerms: the law. Printed by wip/tools/law.py, but for what is run. -/
import Derived.Test.YtdehdahimkcakaaGreatDoorXt
set_option linter.unusedVariables false
set_option linter.unusedSimpArgs false
set_option maxRecDepth 100000
set_option maxHeartbeats 4000000
namespace Go.Proofs.YtdehdahimkcakaaGreatDoor.showTerms
open Go Ai
open Go.ChangeShapes Go.WideShapes Go.ChangeAt Go.RowKit

theorem and2 {a b : Bool} (ha : a = true) (hb : b = true) : (a && b) = true := by rw [ha, hb]; rfl
theorem globs {W : World} (h : laidMetH Tryz.prog Rows.showTermsRow.laid W) : GlobOk mEv.P mEv.glob W.cell? W := glob_of (by kernel_rfl) h fun g cs hg => by
  have hg : Tryz.glob g = some cs := hg
  unfold Tryz.glob at hg
  split at hg
  · cases hg; exact ⟨_, List.mem_of_getElem? (i := 5) rfl, by kernel_rfl, ⟨119, by decide, by kernel_rfl⟩, by kernel_rfl⟩
  · cases hg; exact ⟨_, List.mem_of_getElem? (i := 4) rfl, by kernel_rfl, ⟨193, by decide, by kernel_rfl⟩, by kernel_rfl⟩
  · cases hg; exact ⟨_, List.mem_of_getElem? (i := 6) rfl, by kernel_rfl, ⟨298, by decide, by kernel_rfl⟩, by kernel_rfl⟩
  · cases hg; exact ⟨_, List.mem_of_getElem? (i := 3) rfl, by kernel_rfl, ⟨301, by decide, by kernel_rfl⟩, by kernel_rfl⟩
  · cases hg; exact ⟨_, List.mem_of_getElem? (i := 2) rfl, by kernel_rfl, ⟨310, by decide, by kernel_rfl⟩, by kernel_rfl⟩
  · cases hg; exact ⟨_, List.mem_of_getElem? (i := 0) rfl, by kernel_rfl, ⟨317, by decide, by kernel_rfl⟩, by kernel_rfl⟩
  · cases hg; exact ⟨_, List.mem_of_getElem? (i := 1) rfl, by kernel_rfl, ⟨318, by decide, by kernel_rfl⟩, by kernel_rfl⟩
  · cases hg
theorem runs {H : Type} (d1 d2 d3 : DataW H) (h1 : ∃ n, TyD Tryz.ty n 69 d1) (h2 : ∃ n, TyD Tryz.ty n 3 d2) (h3 : ∃ n, TyD Tryz.ty n 3 d3) : ∃ s', WideC mEv 10 ([d1, d2, d3].map dAV) St.empty (.bool true) s' := by
  obtain ⟨n, h1⟩ := h1
  obtain ⟨m, h2⟩ := h2
  obtain ⟨k, h3⟩ := h3
  obtain ⟨L, e1, l1, r1⟩ := c9s_of n d1 h1
  obtain ⟨id, e2, _⟩ := in_of m d2 h2
  obtain ⟨op, e3, _⟩ := in_of k d3 h3
  simp only [List.map_cons, List.map_nil, e1, e2, e3]
  exact c10 L l1 r1 id op
theorem contract (H : Type) (enc : TypeId × Value → H) (W : World) (base : Nat) (args : Array Value) (ds gs : List (DataW H)) (before : List MemPlace)
    (hval : ∀ (j : Nat) t v, Tryz.f10.params[j]? = some t → args[j]? = some v → Value.okWide Tryz.prog W .any base t v)
    (hW : DataW.Whole enc Tryz.prog Tryz.f10.params.toList Rows.showTermsSpec.vars false W args.toList ds gs before) (hL : laidMetH Tryz.prog Rows.showTermsRow.laid W) :
    Calls Tryz.prog 10 args W fun e W' => ∃ v, e = .returned v ∧ Rows.showTermsSpec.post enc Tryz.prog Tryz.f10 false true false false W args v W' :=
  law_contract env_ok plain_ok Tryz.func10 (by kernel_rfl) (by simp [show Tryz.f10.name = "gudgeon/gudgeonlaw12.ShowTerms" from by kernel_rfl]) (tb := 4) (by kernel_rfl) Tryz.underlying4
    (by rw [Tryz.params10]; decide) rfl (fun ds h => by
      have h : ds.length = 3 := by rw [h, Tryz.params10]; rfl
      match ds, h with
      | [d1, d2, d3], _ => rfl) hval hW (globs hL) (fun h hl => by
      have hl : ds.length = 3 := by rw [hl, Tryz.params10]; rfl
      match ds, hl with
      | [d1, d2, d3], _ => exact runs d1 d2 d3 (by have := h 0 (by rw [Tryz.params10]; decide) (by simp); simp only [Tryz.params10] at this; exact this) (by have := h 1 (by rw [Tryz.params10]; decide) (by simp); simp only [Tryz.params10] at this; exact this) (by have := h 2 (by rw [Tryz.params10]; decide) (by simp); simp only [Tryz.params10] at this; exact this))

theorem laid_met (os : Os) (args : Array Value) : laidMetH Tryz.prog Rows.showTermsRow.laid ((World.laidAll Tryz.prog os Rows.showTermsRow.laid).forCall (fun _ _ => 0) ⟨#[], args, []⟩).memory := by
  rw [MakeChecks.laidMetH_plain _ _ _ (by kernel_rfl)]; exact laidMet_laidAll _ (by kernel_rfl) (by kernel_rfl)
theorem reads (os : Os) {H : Type} (enc : TypeId × Value → H) : ∃ places, DataW.whole enc Tryz.prog ((World.laidAll Tryz.prog os Rows.showTermsRow.laid).forCall (fun _ _ => 0) ⟨#[], #[.slice none 0 0, .int .i64 0, .int .i64 0], []⟩).memory Tryz.f10.params.toList Rows.showTermsSpec.vars false #[Value.slice none 0 0, .int .i64 0, .int .i64 0].toList 8 = some ([.nil, .lit (.int .i64 0), .lit (.int .i64 0)], [], places) :=
  ⟨[], by kernel_rfl⟩
theorem lifted (os : Os) (started : os.Started) (H : Type) (enc : TypeId × Value → H) (F : Stop.Interp) :
    ReturnsInHanded {} Tryz.checked os 10 .any ((OpenSpec.ofChange Rows.showTermsSpec).preRow enc Tryz.prog Tryz.f10 Rows.showTermsRow.domain false Rows.showTermsRow.laid) (((OpenSpec.ofChange Rows.showTermsSpec).at F).post enc Tryz.prog Tryz.f10 false true false false) := by
  obtain ⟨places, hx⟩ := reads os enc
  refine returnsInHanded_of_row (C := Tryz.checked) (s := OpenSpec.ofChange Rows.showTermsSpec) own started (by kernel_rfl) Tryz.func10
    (witness_row_at (enc := enc) (C := Tryz.checked) false (World.laidAll Tryz.prog os Rows.showTermsRow.laid) #[.slice none 0 0, .int .i64 0, .int .i64 0] rfl (by kernel_rfl) (by kernel_rfl) (by kernel_rfl)
      (OpenSpec.preRow_of_cond 8 hx (by kernel_rfl) (fun k hk => by cases hk) (by kernel_rfl) (laid_met os _))) ?_
  intro W base args ds gs before hval hW _ _ _ hL _ _
  exact contract H enc W base args ds gs before hval hW hL
theorem closed : joinedFacts Tryz.pinned.checked.prog 10 Tryz.f10 (OpenSpec.ofChange Rows.showTermsSpec).bare Rows.showTermsRow = true := by
  unfold joinedFacts
  refine and2 (and2 (and2 (and2 (and2 (and2 (and2 (and2 (and2 (and2 (and2 (and2 (and2 (and2 (and2 (and2 (and2 (and2 (and2 (and2 (and2 (and2 (and2 (and2 (and2 (and2 (and2 (and2 (and2 (and2 (and2 ?_ ?_) ?_) ?_) ?_) ?_) ?_) ?_) ?_) ?_) ?_) ?_) ?_) ?_) ?_) ?_) ?_) ?_) ?_) ?_) ?_) ?_) ?_) ?_) ?_) ?_) ?_) ?_) ?_) ?_) ?_) ?_
  all_goals as_aux_lemma => kernel_rfl
theorem said : Rows.ShowTermsSaid :=
  OpenClaim.holds_of_cond 10 Tryz.f10 rfl rfl rfl rfl rfl rfl rfl ⟨rfl, rfl, rfl, rfl, rfl⟩ rfl rfl rfl rfl rfl (by kernel_rfl) Tryz.func10 closed
    (of_decide_eq_true (by kernel_rfl)) (by unfold Func.isWrapper; first | (rw [if_pos (by decide +kernel)]; kernel_rfl) | (rw [if_neg (by decide +kernel)]; exact ⟨rfl, rfl⟩))
    (fun os started H enc _ F => by rw [OpenClaim.pre_eq_preRow]; exact lifted os started H enc F)
theorem plain (f : FuncId) (fn : Func) (hf : Tryz.pinned.checked.prog.funcNamed "gudgeon/gudgeonlaw12.ShowTerms" = some f) (hfn : Tryz.pinned.checked.prog.funcs[f]? = some fn) :
    false = Tryz.pinned.checked.prog.looks [] ∧ ∀ (j : Nat) t, fn.params[j]? = some t → Tryz.pinned.checked.prog.wantsStandIn t = false := by
  obtain rfl : f = 10 := Option.some.inj ((show Tryz.prog.funcNamed "gudgeon/gudgeonlaw12.ShowTerms" = some 10 by kernel_rfl).symm.trans hf) |>.symm
  obtain rfl : fn = Tryz.f10 := (Option.some.inj (Tryz.func10.symm.trans hfn)).symm
  refine ⟨by kernel_rfl, fun j t ht => ?_⟩
  rw [Tryz.params10] at ht
  have ht := Array.mem_of_getElem? ht
  simp only [List.mem_toArray, List.mem_cons, List.mem_nil_iff, or_false] at ht
  rcases ht with rfl | rfl | rfl
  · exact (show Tryz.prog.wantsStandIn 69 = false by kernel_rfl)
  · exact (show Tryz.prog.wantsStandIn 3 = false by kernel_rfl)
  · exact (show Tryz.prog.wantsStandIn 3 = false by kernel_rfl)
/-- The card. -/
theorem card : Rows.ShowTermsCardSaid :=
  Claim7.holds_tied_plain_at .later [] _ _ _ _ said (fun _ h => by cases h) (by kernel_rfl) (fun _ h => by cases h) showTerms_row_tie rfl ⟨rfl, rfl⟩ (by kernel_rfl) rfl plain (by kernel_rfl)
end Go.Proofs.YtdehdahimkcakaaGreatDoor.showTerms
