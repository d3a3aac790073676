/- StackTerms: the law. Printed by wip/tools/law.py, but for what is run. -/
import Derived.Test.YtdehdahimkcakaaGreatDoorZv
set_option linter.unusedVariables false
set_option linter.unusedSimpArgs false
set_option maxRecDepth 100000
set_option maxHeartbeats 4000000
namespace Go.Proofs.YtdehdahimkcakaaGreatDoor.stackTerms
open Go Ai
open Go.ChangeShapes Go.WideShapes Go.ChangeAt Go.RowKit

theorem and2 {a b : Bool} (ha : a = true) (hb : b = true) : (a && b) = true := by rw [ha, hb]; rfl
theorem globs {W : World} (h : laidMetH Tryz.prog Rows.stackTermsUptoRow.laid W) : GlobOk mEv.P mEv.glob W.cell? W := glob_of (by kernel_rfl) h fun g cs hg => by
  have hg : Tryz.glob g = some cs := hg
  unfold Tryz.glob at hg
  split at hg
  · cases hg; exact ⟨_, List.mem_of_getElem? (i := 4) rfl, by kernel_rfl, ⟨193, by decide, by kernel_rfl⟩, by kernel_rfl⟩
  · cases hg; exact ⟨_, List.mem_of_getElem? (i := 5) rfl, by kernel_rfl, ⟨298, by decide, by kernel_rfl⟩, by kernel_rfl⟩
  · cases hg; exact ⟨_, List.mem_of_getElem? (i := 3) rfl, by kernel_rfl, ⟨301, by decide, by kernel_rfl⟩, by kernel_rfl⟩
  · cases hg; exact ⟨_, List.mem_of_getElem? (i := 2) rfl, by kernel_rfl, ⟨310, by decide, by kernel_rfl⟩, by kernel_rfl⟩
  · cases hg; exact ⟨_, List.mem_of_getElem? (i := 0) rfl, by kernel_rfl, ⟨317, by decide, by kernel_rfl⟩, by kernel_rfl⟩
  · cases hg; exact ⟨_, List.mem_of_getElem? (i := 1) rfl, by kernel_rfl, ⟨318, by decide, by kernel_rfl⟩, by kernel_rfl⟩
  · cases hg
theorem runs {H : Type} (d1 : DataW H) (hb : Rows.uptoBulkAll [d1] ≤ 1048576) (h1 : ∃ n, TyD Tryz.ty n 79 d1) : ∃ s', WideC mEv 13 ([d1].map dAV) St.empty (.bool true) s' := by
  obtain ⟨n, h1⟩ := h1
  simp only [Rows.uptoBulkAll] at hb
  obtain ⟨L, e1, l1, o1, f1⟩ := cls_bulk n d1 h1 (by omega)
  simp only [List.map_cons, List.map_nil, e1]
  exact c13 L f1 l1 o1
theorem contract (H : Type) (enc : TypeId × Value → H) (W : World) (base : Nat) (args : Array Value) (ds gs : List (DataW H)) (before : List MemPlace)
    (hval : ∀ (j : Nat) t v, Tryz.f13.params[j]? = some t → args[j]? = some v → Value.okWide Tryz.prog W .any base t v)
    (hW : DataW.Whole enc Tryz.prog Tryz.f13.params.toList Rows.stackTermsSpec.vars false W args.toList ds gs before) (hL : laidMetH Tryz.prog Rows.stackTermsUptoRow.laid W) (hb : Rows.uptoSmall H (ds ++ gs) = true) :
    Calls Tryz.prog 13 args W fun e W' => ∃ v, e = .returned v ∧ Rows.stackTermsSpec.post enc Tryz.prog Tryz.f13 false true false false W args v W' :=
  law_contract env_ok plain_ok Tryz.func13 (by kernel_rfl) (by simp [show Tryz.f13.name = "gudgeon/gudgeonlaw23.StackTerms" from by kernel_rfl]) (tb := 4) (by kernel_rfl) Tryz.underlying4
    (by rw [Tryz.params13]; decide) rfl (fun ds h => by
      have h : ds.length = 1 := by rw [h, Tryz.params13]; rfl
      match ds, h with
      | [d1], _ => rfl) hval hW (globs hL) (fun h hl => by
      have hl : ds.length = 1 := by rw [hl, Tryz.params13]; rfl
      match ds, hl with
      | [d1], _ => exact runs d1 (by have hb := of_decide_eq_true hb; simp only [List.cons_append, List.nil_append, Rows.uptoBulkAll] at hb ⊢; omega) (by have := h 0 (by rw [Tryz.params13]; decide) (by simp); simp only [Tryz.params13] at this; exact this))

theorem laid_met (os : Os) (args : Array Value) : laidMetH Tryz.prog Rows.stackTermsUptoRow.laid ((World.laidAll Tryz.prog os Rows.stackTermsUptoRow.laid).forCall (fun _ _ => 0) ⟨#[], args, []⟩).memory := by
  rw [MakeChecks.laidMetH_plain _ _ _ (by kernel_rfl)]; exact laidMet_laidAll _ (by kernel_rfl) (by kernel_rfl)
theorem reads (os : Os) {H : Type} (enc : TypeId × Value → H) : ∃ places, DataW.whole enc Tryz.prog ((World.laidAll Tryz.prog os Rows.stackTermsUptoRow.laid).forCall (fun _ _ => 0) ⟨#[], #[.slice none 0 0], []⟩).memory Tryz.f13.params.toList Rows.stackTermsSpec.vars false #[Value.slice none 0 0].toList 8 = some ([.nil], [], places) :=
  ⟨[], by kernel_rfl⟩
theorem lifted (os : Os) (started : os.Started) (H : Type) (enc : TypeId × Value → H) (F : Stop.Interp) :
    ReturnsInHanded {} Tryz.checked os 13 .any ((Rows.OpenSpec.upto Rows.stackTermsSpec).preRow enc Tryz.prog Tryz.f13 Rows.stackTermsUptoRow.domain false Rows.stackTermsUptoRow.laid) (((Rows.OpenSpec.upto Rows.stackTermsSpec).at F).post enc Tryz.prog Tryz.f13 false true false false) := by
  obtain ⟨places, hx⟩ := reads os enc
  refine returnsInHanded_of_row (C := Tryz.checked) (s := Rows.OpenSpec.upto Rows.stackTermsSpec) own started (by kernel_rfl) Tryz.func13
    (witness_row_at (enc := enc) (C := Tryz.checked) false (World.laidAll Tryz.prog os Rows.stackTermsUptoRow.laid) #[.slice none 0 0] rfl (by kernel_rfl) (by kernel_rfl) (by kernel_rfl)
      (OpenSpec.preRow_of_cond 8 hx (by kernel_rfl) (fun k hk => by cases hk; kernel_rfl) (by kernel_rfl) (laid_met os _))) ?_
  intro W base args ds gs before hval hW _ hk _ hL _ _
  exact contract H enc W base args ds gs before hval hW hL (hk _ rfl)
theorem closed : joinedFacts Tryz.pinned.checked.prog 13 Tryz.f13 (Rows.OpenSpec.upto Rows.stackTermsSpec).bare Rows.stackTermsUptoRow = true := by
  unfold joinedFacts
  refine and2 (and2 (and2 (and2 (and2 (and2 (and2 (and2 (and2 (and2 (and2 (and2 (and2 (and2 (and2 (and2 (and2 (and2 (and2 (and2 (and2 (and2 (and2 (and2 (and2 (and2 (and2 (and2 (and2 (and2 (and2 ?_ ?_) ?_) ?_) ?_) ?_) ?_) ?_) ?_) ?_) ?_) ?_) ?_) ?_) ?_) ?_) ?_) ?_) ?_) ?_) ?_) ?_) ?_) ?_) ?_) ?_) ?_) ?_) ?_) ?_) ?_) ?_
  all_goals as_aux_lemma => kernel_rfl
theorem said : Rows.StackTermsUptoSaid :=
  OpenClaim.holds_of_cond 13 Tryz.f13 rfl rfl rfl rfl rfl rfl rfl ⟨rfl, rfl, rfl, rfl, rfl⟩ rfl rfl rfl rfl rfl (by kernel_rfl) Tryz.func13 closed
    (of_decide_eq_true (by kernel_rfl)) (by unfold Func.isWrapper; first | (rw [if_pos (by decide +kernel)]; kernel_rfl) | (rw [if_neg (by decide +kernel)]; exact ⟨rfl, rfl⟩))
    (fun os started H enc _ F => by rw [OpenClaim.pre_eq_preRow]; exact lifted os started H enc F)
theorem plain (f : FuncId) (fn : Func) (hf : Tryz.pinned.checked.prog.funcNamed "gudgeon/gudgeonlaw23.StackTerms" = some f) (hfn : Tryz.pinned.checked.prog.funcs[f]? = some fn) :
    false = Tryz.pinned.checked.prog.looks [] ∧ ∀ (j : Nat) t, fn.params[j]? = some t → Tryz.pinned.checked.prog.wantsStandIn t = false := by
  obtain rfl : f = 13 := Option.some.inj ((show Tryz.prog.funcNamed "gudgeon/gudgeonlaw23.StackTerms" = some 13 by kernel_rfl).symm.trans hf) |>.symm
  obtain rfl : fn = Tryz.f13 := (Option.some.inj (Tryz.func13.symm.trans hfn)).symm
  refine ⟨by kernel_rfl, fun j t ht => ?_⟩
  rw [Tryz.params13] at ht
  have ht := Array.mem_of_getElem? ht
  simp only [List.mem_toArray, List.mem_cons, List.mem_nil_iff, or_false] at ht
  rcases ht with rfl
  · exact (show Tryz.prog.wantsStandIn 79 = false by kernel_rfl)
/-- The card. -/
theorem card : Rows.StackTermsUptoCardSaid :=
  Claim7.holds_tied_plain_at .later [] _ _ _ _ said (fun _ h => by cases h) (by kernel_rfl) (fun _ h => by cases h) stackTermsUpto_row_tie rfl ⟨rfl, rfl⟩ (by kernel_rfl) rfl plain (by kernel_rfl)
end Go.Proofs.YtdehdahimkcakaaGreatDoor.stackTerms
