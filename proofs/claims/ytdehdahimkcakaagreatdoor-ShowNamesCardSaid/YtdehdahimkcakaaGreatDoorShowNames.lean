/- ShowNames: the law. Printed by wip/tools/law.py, but for what is run. -/
import Derived.Test.YtdehdahimkcakaaGreatDoorNm
import Derived.Test.YtdehdahimkcakaaGreatDoorRow
set_option linter.unusedVariables false
set_option linter.unusedSimpArgs false
set_option maxRecDepth 100000
set_option maxHeartbeats 4000000
namespace Go.Proofs.YtdehdahimkcakaaGreatDoor.showNames
open Go Ai
open Go.ChangeShapes Go.WideShapes Go.ChangeAt Go.RowKit

theorem and2 {a b : Bool} (ha : a = true) (hb : b = true) : (a && b) = true := by rw [ha, hb]; rfl
theorem globs {W : World} (h : laidMetH Tryz.prog Rows.showNamesRow.laid W) : GlobOk Tryz.env.P Tryz.env.glob W.cell? := glob_of (by kernel_rfl) h fun g cs hg => by
  have hg : Tryz.glob g = some cs := hg
  unfold Tryz.glob at hg
  split at hg
  · cases hg; exact ⟨_, List.mem_of_getElem? (i := 4) rfl, by kernel_rfl, ⟨119, by decide, by kernel_rfl⟩, by kernel_rfl⟩
  · cases hg; exact ⟨_, List.mem_of_getElem? (i := 5) rfl, by kernel_rfl, ⟨298, by decide, by kernel_rfl⟩, by kernel_rfl⟩
  · cases hg; exact ⟨_, List.mem_of_getElem? (i := 3) rfl, by kernel_rfl, ⟨301, by decide, by kernel_rfl⟩, by kernel_rfl⟩
  · cases hg; exact ⟨_, List.mem_of_getElem? (i := 2) rfl, by kernel_rfl, ⟨310, by decide, by kernel_rfl⟩, by kernel_rfl⟩
  · cases hg; exact ⟨_, List.mem_of_getElem? (i := 0) rfl, by kernel_rfl, ⟨317, by decide, by kernel_rfl⟩, by kernel_rfl⟩
  · cases hg; exact ⟨_, List.mem_of_getElem? (i := 1) rfl, by kernel_rfl, ⟨318, by decide, by kernel_rfl⟩, by kernel_rfl⟩
  · cases hg
theorem runs {H : Type} (d1 d2 : DataW H) (h1 : ∃ n, TyD Tryz.ty n 3 d1) (h2 : ∃ n, TyD Tryz.ty n 3 d2) : ∃ s', WideC Tryz.env 5 ([d1, d2].map dAV) St.empty (.bool true) s' := by
  obtain ⟨n, h1⟩ := h1
  obtain ⟨a, rfl, _⟩ := h1.int (k := .i64) (by kernel_rfl)
  obtain ⟨m, h2⟩ := h2
  obtain ⟨b, rfl, _⟩ := h2.int (k := .i64) (by kernel_rfl)
  exact c5 a b
theorem contract (H : Type) (enc : TypeId × Value → H) (W : World) (base : Nat) (args : Array Value) (ds gs : List (DataW H)) (before : List MemPlace)
    (hval : ∀ (j : Nat) t v, Tryz.f5.params[j]? = some t → args[j]? = some v → Value.okWide Tryz.prog W .any base t v)
    (hW : DataW.Whole enc Tryz.prog Tryz.f5.params.toList Rows.showNamesSpec.vars false W args.toList ds gs before) (hL : laidMetH Tryz.prog Rows.showNamesRow.laid W) :
    Calls Tryz.prog 5 args W fun e W' => ∃ v, e = .returned v ∧ Rows.showNamesSpec.post enc Tryz.prog Tryz.f5 false true false false W args v W' :=
  law_contract env_ok plain_ok Tryz.func5 (by kernel_rfl) (by simp [show Tryz.f5.name = "gudgeon/gudgeonlaw12.ShowNames" from by kernel_rfl]) (tb := 4) (by kernel_rfl) Tryz.underlying4
    (by rw [Tryz.params5]; decide) rfl (fun ds h => by
      have h : ds.length = 2 := by rw [h, Tryz.params5]; rfl
      match ds, h with
      | [d1, d2], _ => rfl) hval hW (globs hL) (fun h hl => by
      have hl : ds.length = 2 := by rw [hl, Tryz.params5]; rfl
      match ds, hl with
      | [d1, d2], _ => exact runs d1 d2 (by have := h 0 (by rw [Tryz.params5]; decide) (by simp); simp only [Tryz.params5] at this; exact this) (by have := h 1 (by rw [Tryz.params5]; decide) (by simp); simp only [Tryz.params5] at this; exact this))

theorem laid_met (os : Os) (args : Array Value) : laidMetH Tryz.prog Rows.showNamesRow.laid ((World.laidAll Tryz.prog os Rows.showNamesRow.laid).forCall (fun _ _ => 0) ⟨#[], args, []⟩).memory := by
  rw [MakeChecks.laidMetH_plain _ _ _ (by kernel_rfl)]; exact laidMet_laidAll _ (by kernel_rfl) (by kernel_rfl)
theorem reads (os : Os) {H : Type} (enc : TypeId × Value → H) : ∃ places, DataW.whole enc Tryz.prog ((World.laidAll Tryz.prog os Rows.showNamesRow.laid).forCall (fun _ _ => 0) ⟨#[], #[.int .i64 0, .int .i64 0], []⟩).memory Tryz.f5.params.toList Rows.showNamesSpec.vars false #[Value.int .i64 0, .int .i64 0].toList 8 = some ([.lit (.int .i64 0), .lit (.int .i64 0)], [], places) :=
  ⟨[], by kernel_rfl⟩
theorem lifted (os : Os) (started : os.Started) (H : Type) (enc : TypeId × Value → H) (F : Stop.Interp) :
    ReturnsInHanded {} Tryz.checked os 5 .any ((OpenSpec.ofChange Rows.showNamesSpec).preRow enc Tryz.prog Tryz.f5 Rows.showNamesRow.domain false Rows.showNamesRow.laid) (((OpenSpec.ofChange Rows.showNamesSpec).at F).post enc Tryz.prog Tryz.f5 false true false false) := by
  obtain ⟨places, hx⟩ := reads os enc
  refine returnsInHanded_of_row (C := Tryz.checked) (s := OpenSpec.ofChange Rows.showNamesSpec) own started (by kernel_rfl) Tryz.func5
    (witness_row_at (enc := enc) (C := Tryz.checked) false (World.laidAll Tryz.prog os Rows.showNamesRow.laid) #[.int .i64 0, .int .i64 0] rfl (by kernel_rfl) (by kernel_rfl) (by kernel_rfl)
      (OpenSpec.preRow_of_cond 8 hx (by kernel_rfl) (fun k hk => by cases hk) (by kernel_rfl) (laid_met os _))) ?_
  intro W base args ds gs before hval hW _ _ _ hL _ _
  exact contract H enc W base args ds gs before hval hW hL
theorem closed : joinedFacts Tryz.pinned.checked.prog 5 Tryz.f5 (OpenSpec.ofChange Rows.showNamesSpec).bare Rows.showNamesRow = true := by
  unfold joinedFacts
  refine and2 (and2 (and2 (and2 (and2 (and2 (and2 (and2 (and2 (and2 (and2 (and2 (and2 (and2 (and2 (and2 (and2 (and2 (and2 (and2 (and2 (and2 (and2 (and2 (and2 (and2 (and2 (and2 (and2 (and2 (and2 ?_ ?_) ?_) ?_) ?_) ?_) ?_) ?_) ?_) ?_) ?_) ?_) ?_) ?_) ?_) ?_) ?_) ?_) ?_) ?_) ?_) ?_) ?_) ?_) ?_) ?_) ?_) ?_) ?_) ?_) ?_) ?_
  all_goals as_aux_lemma => kernel_rfl
theorem said : Rows.ShowNamesSaid :=
  OpenClaim.holds_of_cond 5 Tryz.f5 rfl rfl rfl rfl rfl rfl rfl ⟨rfl, rfl, rfl, rfl, rfl⟩ rfl rfl rfl rfl rfl (by kernel_rfl) Tryz.func5 closed
    (of_decide_eq_true (by kernel_rfl)) (by unfold Func.isWrapper; first | (rw [if_pos (by decide +kernel)]; kernel_rfl) | (rw [if_neg (by decide +kernel)]; exact ⟨rfl, rfl⟩))
    (fun os started H enc _ F => by rw [OpenClaim.pre_eq_preRow]; exact lifted os started H enc F)
theorem plain (f : FuncId) (fn : Func) (hf : Tryz.pinned.checked.prog.funcNamed "gudgeon/gudgeonlaw12.ShowNames" = some f) (hfn : Tryz.pinned.checked.prog.funcs[f]? = some fn) :
    false = Tryz.pinned.checked.prog.looks [] ∧ ∀ (j : Nat) t, fn.params[j]? = some t → Tryz.pinned.checked.prog.wantsStandIn t = false := by
  obtain rfl : f = 5 := Option.some.inj ((show Tryz.prog.funcNamed "gudgeon/gudgeonlaw12.ShowNames" = some 5 by kernel_rfl).symm.trans hf) |>.symm
  obtain rfl : fn = Tryz.f5 := (Option.some.inj (Tryz.func5.symm.trans hfn)).symm
  refine ⟨by kernel_rfl, fun j t ht => ?_⟩
  rw [Tryz.params5] at ht
  have ht := Array.mem_of_getElem? ht
  simp only [List.mem_toArray, List.mem_cons, List.mem_nil_iff, or_false] at ht
  rcases ht with rfl | rfl
  · exact (show Tryz.prog.wantsStandIn 3 = false by kernel_rfl)
  · exact (show Tryz.prog.wantsStandIn 3 = false by kernel_rfl)
/-- The card. -/
theorem card : Rows.ShowNamesCardSaid :=
  Claim7.holds_tied_plain_at .later [] _ _ _ _ said (fun _ h => by cases h) (by kernel_rfl) (fun _ h => by cases h) showNames_row_tie rfl ⟨rfl, rfl⟩ (by kernel_rfl) rfl plain (by kernel_rfl)
end Go.Proofs.YtdehdahimkcakaaGreatDoor.showNames
