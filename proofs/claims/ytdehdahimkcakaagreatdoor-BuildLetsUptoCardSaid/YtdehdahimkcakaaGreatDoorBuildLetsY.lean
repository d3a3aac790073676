/- BuildLets: the law. Printed by wip/tools/law.py, but for what is run. -/
import Derived.Test.YtdehdahimkcakaaGreatDoorYs
set_option linter.unusedVariables false
set_option linter.unusedSimpArgs false
set_option maxRecDepth 100000
set_option maxHeartbeats 4000000
namespace Go.Proofs.YtdehdahimkcakaaGreatDoor.buildLets
open Go Ai
open Go.ChangeShapes Go.WideShapes Go.ChangeAt Go.RowKit

theorem and2 {a b : Bool} (ha : a = true) (hb : b = true) : (a && b) = true := by rw [ha, hb]; rfl
theorem globs {W : World} (h : laidMetH Tryz.prog Rows.buildLetsUptoRow.laid W) : GlobOk Tryz.env.P Tryz.env.glob W.cell? W := glob_of (by kernel_rfl) h fun g cs hg => by
  have hg : Tryz.glob g = some cs := hg
  unfold Tryz.glob at hg
  split at hg
  · cases hg; exact ⟨_, List.mem_of_getElem? (i := 4) rfl, by kernel_rfl, ⟨193, by decide, by kernel_rfl⟩, by kernel_rfl⟩
  · cases hg; exact ⟨_, List.mem_of_getElem? (i := 5) rfl, by kernel_rfl, ⟨298, by decide, by kernel_rfl⟩, by kernel_rfl⟩
  · cases hg; exact ⟨_, List.mem_of_getElem? (i := 3) rfl, by kernel_rfl, ⟨301, by decide, by kernel_rfl⟩, by kernel_rfl⟩
  · cases hg; exact ⟨_, List.mem_of_getElem? (i := 2) rfl, by kernel_rfl, ⟨310, by decide, by kernel_rfl⟩, by kernel_rfl⟩
  · cases hg; exact ⟨_, List.mem_of_getElem? (i := 0) rfl, by kernel_rfl, ⟨317, by decide, by kernel_rfl⟩, by kernel_rfl⟩
  · cases hg; exact ⟨_, List.mem_of_getElem? (i := 1) rfl, by kernel_rfl, ⟨318, by decide, by kernel_rfl⟩, by kernel_rfl⟩
  · cases hg
theorem runs {H : Type} (d1 d2 d3 d4 : DataW H) (hb : Rows.uptoBulkAll [d1, d2, d3, d4] ≤ 1048576) (h1 : ∃ n, TyD Tryz.ty n 49 d1) (h2 : ∃ n, TyD Tryz.ty n 9 d2) (h3 : ∃ n, TyD Tryz.ty n 33 d3) (h4 : ∃ n, TyD Tryz.ty n 33 d4) : ∃ s', WideC Tryz.env 8 ([d1, d2, d3, d4].map dAV) St.empty (.bool true) s' := by
  obtain ⟨n, h1⟩ := h1
  obtain ⟨L, e1, l1, o1, b1, c1⟩ := dcs_bulk n d1 h1
  obtain ⟨k, h2⟩ := h2
  obtain ⟨nm, rfl, hx⟩ := h2.str (by kernel_rfl)
  obtain ⟨i, h3⟩ := h3
  obtain ⟨b, e3, o3, b3⟩ := sx_bulk i d3 h3
  obtain ⟨m, h4⟩ := h4
  obtain ⟨x, e4, o4, b4⟩ := sx_bulk m d4 h4
  simp only [Rows.uptoBulkAll, Rows.uptoBulk] at hb
  obtain ⟨f3, g3⟩ := bk_fit b o3 (by omega)
  obtain ⟨f4, g4⟩ := bk_fit x o4 (by omega)
  simp only [List.map_cons, List.map_nil, e1, e3, e4]
  exact c8 L nm b x (dcs_ok (b := Rows.uptoBulk d1) (by omega) o1 b1 c1) (by omega) f3 (by omega) f4 (by omega) l1 o1 o3 o4
theorem contract (H : Type) (enc : TypeId × Value → H) (W : World) (base : Nat) (args : Array Value) (ds gs : List (DataW H)) (before : List MemPlace)
    (hval : ∀ (j : Nat) t v, Tryz.f8.params[j]? = some t → args[j]? = some v → Value.okWide Tryz.prog W .any base t v)
    (hW : DataW.Whole enc Tryz.prog Tryz.f8.params.toList Rows.buildLetsSpec.vars false W args.toList ds gs before) (hL : laidMetH Tryz.prog Rows.buildLetsUptoRow.laid W) (hb : Rows.uptoSmall H (ds ++ gs) = true) :
    Calls Tryz.prog 8 args W fun e W' => ∃ v, e = .returned v ∧ Rows.buildLetsSpec.post enc Tryz.prog Tryz.f8 false true false false W args v W' :=
  law_contract env_ok plain_ok Tryz.func8 (by kernel_rfl) (by simp [show Tryz.f8.name = "gudgeon/gudgeonlaw10.BuildLets" from by kernel_rfl]) (tb := 4) (by kernel_rfl) Tryz.underlying4
    (by rw [Tryz.params8]; decide) rfl (fun ds h => by
      have h : ds.length = 4 := by rw [h, Tryz.params8]; rfl
      match ds, h with
      | [d1, d2, d3, d4], _ => rfl) hval hW (globs hL) (fun h hl => by
      have hl : ds.length = 4 := by rw [hl, Tryz.params8]; rfl
      match ds, hl with
      | [d1, d2, d3, d4], _ => exact runs d1 d2 d3 d4 (by have hb := of_decide_eq_true hb; simp only [List.cons_append, List.nil_append, Rows.uptoBulkAll] at hb ⊢; omega) (by have := h 0 (by rw [Tryz.params8]; decide) (by simp); simp only [Tryz.params8] at this; exact this) (by have := h 1 (by rw [Tryz.params8]; decide) (by simp); simp only [Tryz.params8] at this; exact this) (by have := h 2 (by rw [Tryz.params8]; decide) (by simp); simp only [Tryz.params8] at this; exact this) (by have := h 3 (by rw [Tryz.params8]; decide) (by simp); simp only [Tryz.params8] at this; exact this))

theorem laid_met (os : Os) (args : Array Value) : laidMetH Tryz.prog Rows.buildLetsUptoRow.laid ((World.laidAll Tryz.prog os Rows.buildLetsUptoRow.laid).forCall (fun _ _ => 0) ⟨#[], args, []⟩).memory := by
  rw [MakeChecks.laidMetH_plain _ _ _ (by kernel_rfl)]; exact laidMet_laidAll _ (by kernel_rfl) (by kernel_rfl)
theorem reads (os : Os) {H : Type} (enc : TypeId × Value → H) : ∃ places, DataW.whole enc Tryz.prog ((World.laidAll Tryz.prog os Rows.buildLetsUptoRow.laid).forCall (fun _ _ => 0) ⟨#[], #[.slice none 0 0, .string ⟨#[]⟩, .agg #[.bool false, .int .i64 0, .string ⟨#[]⟩, .int .i64 0, .int .i64 0, .slice none 0 0], .agg #[.bool false, .int .i64 0, .string ⟨#[]⟩, .int .i64 0, .int .i64 0, .slice none 0 0]], []⟩).memory Tryz.f8.params.toList Rows.buildLetsSpec.vars false #[Value.slice none 0 0, .string ⟨#[]⟩, .agg #[.bool false, .int .i64 0, .string ⟨#[]⟩, .int .i64 0, .int .i64 0, .slice none 0 0], .agg #[.bool false, .int .i64 0, .string ⟨#[]⟩, .int .i64 0, .int .i64 0, .slice none 0 0]].toList 8 = some ([.nil, .lit (.string []), .agg [.lit (.bool false), .agg [.lit (.int .i64 0), .lit (.string []), .lit (.int .i64 0)], .lit (.int .i64 0), .nil], .agg [.lit (.bool false), .agg [.lit (.int .i64 0), .lit (.string []), .lit (.int .i64 0)], .lit (.int .i64 0), .nil]], [], places) :=
  ⟨[], by kernel_rfl⟩
theorem lifted (os : Os) (started : os.Started) (H : Type) (enc : TypeId × Value → H) (F : Stop.Interp) :
    ReturnsInHanded {} Tryz.checked os 8 .any ((Rows.OpenSpec.upto Rows.buildLetsSpec).preRow enc Tryz.prog Tryz.f8 Rows.buildLetsUptoRow.domain false Rows.buildLetsUptoRow.laid) (((Rows.OpenSpec.upto Rows.buildLetsSpec).at F).post enc Tryz.prog Tryz.f8 false true false false) := by
  obtain ⟨places, hx⟩ := reads os enc
  refine returnsInHanded_of_row (C := Tryz.checked) (s := Rows.OpenSpec.upto Rows.buildLetsSpec) own started (by kernel_rfl) Tryz.func8
    (witness_row_at (enc := enc) (C := Tryz.checked) false (World.laidAll Tryz.prog os Rows.buildLetsUptoRow.laid) #[.slice none 0 0, .string ⟨#[]⟩, .agg #[.bool false, .int .i64 0, .string ⟨#[]⟩, .int .i64 0, .int .i64 0, .slice none 0 0], .agg #[.bool false, .int .i64 0, .string ⟨#[]⟩, .int .i64 0, .int .i64 0, .slice none 0 0]] rfl (by kernel_rfl) (by kernel_rfl) (by kernel_rfl)
      (OpenSpec.preRow_of_cond 8 hx (by kernel_rfl) (fun k hk => by cases hk; kernel_rfl) (by kernel_rfl) (laid_met os _))) ?_
  intro W base args ds gs before hval hW _ hk _ hL _ _
  exact contract H enc W base args ds gs before hval hW hL (hk _ rfl)
theorem closed : joinedFacts Tryz.pinned.checked.prog 8 Tryz.f8 (Rows.OpenSpec.upto Rows.buildLetsSpec).bare Rows.buildLetsUptoRow = true := by
  unfold joinedFacts
  refine and2 (and2 (and2 (and2 (and2 (and2 (and2 (and2 (and2 (and2 (and2 (and2 (and2 (and2 (and2 (and2 (and2 (and2 (and2 (and2 (and2 (and2 (and2 (and2 (and2 (and2 (and2 (and2 (and2 (and2 (and2 ?_ ?_) ?_) ?_) ?_) ?_) ?_) ?_) ?_) ?_) ?_) ?_) ?_) ?_) ?_) ?_) ?_) ?_) ?_) ?_) ?_) ?_) ?_) ?_) ?_) ?_) ?_) ?_) ?_) ?_) ?_) ?_
  all_goals as_aux_lemma => kernel_rfl
theorem said : Rows.BuildLetsUptoSaid :=
  OpenClaim.holds_of_cond 8 Tryz.f8 rfl rfl rfl rfl rfl rfl rfl ⟨rfl, rfl, rfl, rfl, rfl⟩ rfl rfl rfl rfl rfl (by kernel_rfl) Tryz.func8 closed
    (of_decide_eq_true (by kernel_rfl)) (by unfold Func.isWrapper; first | (rw [if_pos (by decide +kernel)]; kernel_rfl) | (rw [if_neg (by decide +kernel)]; exact ⟨rfl, rfl⟩))
    (fun os started H enc _ F => by rw [OpenClaim.pre_eq_preRow]; exact lifted os started H enc F)
theorem plain (f : FuncId) (fn : Func) (hf : Tryz.pinned.checked.prog.funcNamed "gudgeon/gudgeonlaw10.BuildLets" = some f) (hfn : Tryz.pinned.checked.prog.funcs[f]? = some fn) :
    false = Tryz.pinned.checked.prog.looks [] ∧ ∀ (j : Nat) t, fn.params[j]? = some t → Tryz.pinned.checked.prog.wantsStandIn t = false := by
  obtain rfl : f = 8 := Option.some.inj ((show Tryz.prog.funcNamed "gudgeon/gudgeonlaw10.BuildLets" = some 8 by kernel_rfl).symm.trans hf) |>.symm
  obtain rfl : fn = Tryz.f8 := (Option.some.inj (Tryz.func8.symm.trans hfn)).symm
  refine ⟨by kernel_rfl, fun j t ht => ?_⟩
  rw [Tryz.params8] at ht
  have ht := Array.mem_of_getElem? ht
  simp only [List.mem_toArray, List.mem_cons, List.mem_nil_iff, or_false] at ht
  rcases ht with rfl | rfl | rfl | rfl
  · exact (show Tryz.prog.wantsStandIn 49 = false by kernel_rfl)
  · exact (show Tryz.prog.wantsStandIn 9 = false by kernel_rfl)
  · exact (show Tryz.prog.wantsStandIn 33 = false by kernel_rfl)
  · exact (show Tryz.prog.wantsStandIn 33 = false by kernel_rfl)
/-- The card. -/
theorem card : Rows.BuildLetsUptoCardSaid :=
  Claim7.holds_tied_plain_at .later [] _ _ _ _ said (fun _ h => by cases h) (by kernel_rfl) (fun _ h => by cases h) buildLetsUpto_row_tie rfl ⟨rfl, rfl⟩ (by kernel_rfl) rfl plain (by kernel_rfl)
end Go.Proofs.YtdehdahimkcakaaGreatDoor.buildLets
