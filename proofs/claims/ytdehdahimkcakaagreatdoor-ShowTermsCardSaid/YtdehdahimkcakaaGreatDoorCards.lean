/-
  DERIVED. GIVEN WITH THE SEED: THE CARDS: each row of YtdehdahimkcakaaGreatDoorRows.lean that lists a variable, with what it lists TIED to the program's text (the seventh form; the later family's looks); each row that meets fmt, with fmt's text TOLD by the authors' own Lean function (tested against real Go, not proved from fmt's source: count such statements apart). THE CARD IS WHAT COUNTS. Prove the row's statement (the work); the ties are given (YtdehdahimkcakaaGreatDoorTie.lean); close each card by the builder's one call (the guide's Derived/Test/ToyasCard.lean, 'card_holds'). Laid BY PROGRAM, IN A SANDBOX (cutbox-door.mjs). By AI agents, Wed Nov 11 2026. No macro, syntax, notation, axiom, sorry.
-/
import Derived.Test.YtdehdahimkcakaaGreatDoorRows
import GoSem.ClaimSeven
namespace Go.Proofs.YtdehdahimkcakaaGreatDoor
namespace Rows

/-- THE TIED CARD OF 'gudgeonlaw12.ShowValues'. -/
def showValuesCard : Claim7 := { stood := { row := showValuesRow, standIns := [], harness := (true, "f9a6dce7080b1ce797a0596f699b24fcf1d9219850c469e2943b4296d0d3f57c"), looks := false }, kinds := [], alts := [], laidByText := true, laidKinds := [.data, .data, .data, .data, .data, .pinned], laidTests := true, laidLooks := .later }
def ShowValuesCardSaid : Prop := Claim7.holds Tryz.pinned (.plain (OpenSpec.ofChange showValuesSpec)) showValuesCard

/-- THE TIED CARD OF 'gudgeonlaw12.ShowShort'. -/
def showShortCard : Claim7 := { stood := { row := showShortRow, standIns := [], harness := (true, "f9a6dce7080b1ce797a0596f699b24fcf1d9219850c469e2943b4296d0d3f57c"), looks := false }, kinds := [], alts := [], laidByText := true, laidKinds := [.data, .data, .data, .data, .data, .pinned], laidTests := true, laidLooks := .later }
def ShowShortCardSaid : Prop := Claim7.holds Tryz.pinned (.plain (OpenSpec.ofChange showShortSpec)) showShortCard

/-- THE TIED CARD OF 'gudgeonlaw12.ShowNames'. -/
def showNamesCard : Claim7 := { stood := { row := showNamesRow, standIns := [], harness := (true, "f9a6dce7080b1ce797a0596f699b24fcf1d9219850c469e2943b4296d0d3f57c"), looks := false }, kinds := [], alts := [], laidByText := true, laidKinds := [.data, .data, .data, .data, .data, .pinned], laidTests := true, laidLooks := .later }
def ShowNamesCardSaid : Prop := Claim7.holds Tryz.pinned (.plain (OpenSpec.ofChange showNamesSpec)) showNamesCard

/-- THE TIED CARD OF 'gudgeonlaw10.BuildNames'. -/
def buildNamesCard : Claim7 := { stood := { row := buildNamesRow, standIns := [], harness := (true, "f9a6dce7080b1ce797a0596f699b24fcf1d9219850c469e2943b4296d0d3f57c"), looks := false }, kinds := [], alts := [], laidByText := true, laidKinds := [.data, .data, .data, .data, .data, .pinned], laidTests := true, laidLooks := .later }
def BuildNamesCardSaid : Prop := Claim7.holds Tryz.pinned (.plain (OpenSpec.ofChange buildNamesSpec)) buildNamesCard

/-- THE TIED CARD OF 'gudgeonlaw10.BuildTwice'. -/
def buildTwiceCard : Claim7 := { stood := { row := buildTwiceRow, standIns := [], harness := (true, "f9a6dce7080b1ce797a0596f699b24fcf1d9219850c469e2943b4296d0d3f57c"), looks := false }, kinds := [], alts := [], laidByText := true, laidKinds := [.data, .data, .data, .data, .data, .pinned], laidTests := true, laidLooks := .later }
def BuildTwiceCardSaid : Prop := Claim7.holds Tryz.pinned (.plain (OpenSpec.ofChange buildTwiceSpec)) buildTwiceCard

/-- THE TIED CARD OF 'gudgeonlaw10.BuildLets'. -/
def buildLetsCard : Claim7 := { stood := { row := buildLetsRow, standIns := [], harness := (true, "f9a6dce7080b1ce797a0596f699b24fcf1d9219850c469e2943b4296d0d3f57c"), looks := false }, kinds := [], alts := [], laidByText := true, laidKinds := [.data, .data, .data, .data, .data, .pinned], laidTests := true, laidLooks := .later }
def BuildLetsCardSaid : Prop := Claim7.holds Tryz.pinned (.plain (OpenSpec.ofChange buildLetsSpec)) buildLetsCard

/-- THE TIED CARD OF 'gudgeonlaw10.BuildMore'. -/
def buildMoreCard : Claim7 := { stood := { row := buildMoreRow, standIns := [], harness := (true, "f9a6dce7080b1ce797a0596f699b24fcf1d9219850c469e2943b4296d0d3f57c"), looks := false }, kinds := [], alts := [], laidByText := true, laidKinds := [.data, .data, .data, .data, .data, .pinned], laidTests := true, laidLooks := .later }
def BuildMoreCardSaid : Prop := Claim7.holds Tryz.pinned (.plain (OpenSpec.ofChange buildMoreSpec)) buildMoreCard

/-- THE TIED CARD OF 'gudgeonlaw12.ShowTerms'. -/
def showTermsCard : Claim7 := { stood := { row := showTermsRow, standIns := [], harness := (true, "f9a6dce7080b1ce797a0596f699b24fcf1d9219850c469e2943b4296d0d3f57c"), looks := false }, kinds := [], alts := [], laidByText := true, laidKinds := [.data, .data, .data, .data, .data, .data, .pinned], laidTests := true, laidLooks := .later }
def ShowTermsCardSaid : Prop := Claim7.holds Tryz.pinned (.plain (OpenSpec.ofChange showTermsSpec)) showTermsCard

/-- THE TIED CARD OF 'gudgeonlaw23.StackErrors'. -/
def stackErrorsCard : Claim7 := { stood := { row := stackErrorsRow, standIns := [], harness := (true, "f9a6dce7080b1ce797a0596f699b24fcf1d9219850c469e2943b4296d0d3f57c"), looks := false }, kinds := [], alts := [], laidByText := true, laidKinds := [.data, .data, .data, .data, .data, .pinned], laidTests := true, laidLooks := .later }
def StackErrorsCardSaid : Prop := Claim7.holds Tryz.pinned (.plain (OpenSpec.ofChange stackErrorsSpec)) stackErrorsCard

/-- THE TIED CARD OF 'gudgeonlaw23.StackPops'. -/
def stackPopsCard : Claim7 := { stood := { row := stackPopsRow, standIns := [], harness := (true, "f9a6dce7080b1ce797a0596f699b24fcf1d9219850c469e2943b4296d0d3f57c"), looks := false }, kinds := [], alts := [], laidByText := true, laidKinds := [.data, .data, .data, .data, .data, .pinned], laidTests := true, laidLooks := .later }
def StackPopsCardSaid : Prop := Claim7.holds Tryz.pinned (.plain (OpenSpec.ofChange stackPopsSpec)) stackPopsCard

/-- THE TIED CARD OF 'gudgeonlaw23.StackTerms'. -/
def stackTermsCard : Claim7 := { stood := { row := stackTermsRow, standIns := [], harness := (true, "f9a6dce7080b1ce797a0596f699b24fcf1d9219850c469e2943b4296d0d3f57c"), looks := false }, kinds := [], alts := [], laidByText := true, laidKinds := [.data, .data, .data, .data, .data, .pinned], laidTests := true, laidLooks := .later }
def StackTermsCardSaid : Prop := Claim7.holds Tryz.pinned (.plain (OpenSpec.ofChange stackTermsSpec)) stackTermsCard

/-- THE TIED CARD OF 'gudgeonlaw23.StackNone'. -/
def stackNoneCard : Claim7 := { stood := { row := stackNoneRow, standIns := [], harness := (true, "f9a6dce7080b1ce797a0596f699b24fcf1d9219850c469e2943b4296d0d3f57c"), looks := false }, kinds := [], alts := [], laidByText := true, laidKinds := [.data, .data, .data, .data, .data, .pinned], laidTests := true, laidLooks := .later }
def StackNoneCardSaid : Prop := Claim7.holds Tryz.pinned (.plain (OpenSpec.ofChange stackNoneSpec)) stackNoneCard

/-- THE SECOND FORM's CARD OF 'gudgeonlaw12.ShowValues'. -/
def showValuesUptoCard : Claim7 := { stood := { row := showValuesUptoRow, standIns := [], harness := (true, "f9a6dce7080b1ce797a0596f699b24fcf1d9219850c469e2943b4296d0d3f57c"), looks := false }, kinds := [], alts := [], laidByText := true, laidKinds := [.data, .data, .data, .data, .data, .pinned], laidTests := true, laidLooks := .later }
def ShowValuesUptoCardSaid : Prop := Claim7.holds Tryz.pinned (.plain (OpenSpec.upto showValuesSpec)) showValuesUptoCard

/-- THE SECOND FORM's CARD OF 'gudgeonlaw12.ShowShort'. -/
def showShortUptoCard : Claim7 := { stood := { row := showShortUptoRow, standIns := [], harness := (true, "f9a6dce7080b1ce797a0596f699b24fcf1d9219850c469e2943b4296d0d3f57c"), looks := false }, kinds := [], alts := [], laidByText := true, laidKinds := [.data, .data, .data, .data, .data, .pinned], laidTests := true, laidLooks := .later }
def ShowShortUptoCardSaid : Prop := Claim7.holds Tryz.pinned (.plain (OpenSpec.upto showShortSpec)) showShortUptoCard

/-- THE SECOND FORM's CARD OF 'gudgeonlaw12.ShowNames'. -/
def showNamesUptoCard : Claim7 := { stood := { row := showNamesUptoRow, standIns := [], harness := (true, "f9a6dce7080b1ce797a0596f699b24fcf1d9219850c469e2943b4296d0d3f57c"), looks := false }, kinds := [], alts := [], laidByText := true, laidKinds := [.data, .data, .data, .data, .data, .pinned], laidTests := true, laidLooks := .later }
def ShowNamesUptoCardSaid : Prop := Claim7.holds Tryz.pinned (.plain (OpenSpec.upto showNamesSpec)) showNamesUptoCard

/-- THE SECOND FORM's CARD OF 'gudgeonlaw10.BuildNames'. -/
def buildNamesUptoCard : Claim7 := { stood := { row := buildNamesUptoRow, standIns := [], harness := (true, "f9a6dce7080b1ce797a0596f699b24fcf1d9219850c469e2943b4296d0d3f57c"), looks := false }, kinds := [], alts := [], laidByText := true, laidKinds := [.data, .data, .data, .data, .data, .pinned], laidTests := true, laidLooks := .later }
def BuildNamesUptoCardSaid : Prop := Claim7.holds Tryz.pinned (.plain (OpenSpec.upto buildNamesSpec)) buildNamesUptoCard

/-- THE SECOND FORM's CARD OF 'gudgeonlaw10.BuildTwice'. -/
def buildTwiceUptoCard : Claim7 := { stood := { row := buildTwiceUptoRow, standIns := [], harness := (true, "f9a6dce7080b1ce797a0596f699b24fcf1d9219850c469e2943b4296d0d3f57c"), looks := false }, kinds := [], alts := [], laidByText := true, laidKinds := [.data, .data, .data, .data, .data, .pinned], laidTests := true, laidLooks := .later }
def BuildTwiceUptoCardSaid : Prop := Claim7.holds Tryz.pinned (.plain (OpenSpec.upto buildTwiceSpec)) buildTwiceUptoCard

/-- THE SECOND FORM's CARD OF 'gudgeonlaw10.BuildLets'. -/
def buildLetsUptoCard : Claim7 := { stood := { row := buildLetsUptoRow, standIns := [], harness := (true, "f9a6dce7080b1ce797a0596f699b24fcf1d9219850c469e2943b4296d0d3f57c"), looks := false }, kinds := [], alts := [], laidByText := true, laidKinds := [.data, .data, .data, .data, .data, .pinned], laidTests := true, laidLooks := .later }
def BuildLetsUptoCardSaid : Prop := Claim7.holds Tryz.pinned (.plain (OpenSpec.upto buildLetsSpec)) buildLetsUptoCard

/-- THE SECOND FORM's CARD OF 'gudgeonlaw10.BuildMore'. -/
def buildMoreUptoCard : Claim7 := { stood := { row := buildMoreUptoRow, standIns := [], harness := (true, "f9a6dce7080b1ce797a0596f699b24fcf1d9219850c469e2943b4296d0d3f57c"), looks := false }, kinds := [], alts := [], laidByText := true, laidKinds := [.data, .data, .data, .data, .data, .pinned], laidTests := true, laidLooks := .later }
def BuildMoreUptoCardSaid : Prop := Claim7.holds Tryz.pinned (.plain (OpenSpec.upto buildMoreSpec)) buildMoreUptoCard

/-- THE SECOND FORM's CARD OF 'gudgeonlaw12.ShowTerms'. -/
def showTermsUptoCard : Claim7 := { stood := { row := showTermsUptoRow, standIns := [], harness := (true, "f9a6dce7080b1ce797a0596f699b24fcf1d9219850c469e2943b4296d0d3f57c"), looks := false }, kinds := [], alts := [], laidByText := true, laidKinds := [.data, .data, .data, .data, .data, .data, .pinned], laidTests := true, laidLooks := .later }
def ShowTermsUptoCardSaid : Prop := Claim7.holds Tryz.pinned (.plain (OpenSpec.upto showTermsSpec)) showTermsUptoCard

/-- THE SECOND FORM's CARD OF 'gudgeonlaw23.StackErrors'. -/
def stackErrorsUptoCard : Claim7 := { stood := { row := stackErrorsUptoRow, standIns := [], harness := (true, "f9a6dce7080b1ce797a0596f699b24fcf1d9219850c469e2943b4296d0d3f57c"), looks := false }, kinds := [], alts := [], laidByText := true, laidKinds := [.data, .data, .data, .data, .data, .pinned], laidTests := true, laidLooks := .later }
def StackErrorsUptoCardSaid : Prop := Claim7.holds Tryz.pinned (.plain (OpenSpec.upto stackErrorsSpec)) stackErrorsUptoCard

/-- THE SECOND FORM's CARD OF 'gudgeonlaw23.StackPops'. -/
def stackPopsUptoCard : Claim7 := { stood := { row := stackPopsUptoRow, standIns := [], harness := (true, "f9a6dce7080b1ce797a0596f699b24fcf1d9219850c469e2943b4296d0d3f57c"), looks := false }, kinds := [], alts := [], laidByText := true, laidKinds := [.data, .data, .data, .data, .data, .pinned], laidTests := true, laidLooks := .later }
def StackPopsUptoCardSaid : Prop := Claim7.holds Tryz.pinned (.plain (OpenSpec.upto stackPopsSpec)) stackPopsUptoCard

/-- THE SECOND FORM's CARD OF 'gudgeonlaw23.StackTerms'. -/
def stackTermsUptoCard : Claim7 := { stood := { row := stackTermsUptoRow, standIns := [], harness := (true, "f9a6dce7080b1ce797a0596f699b24fcf1d9219850c469e2943b4296d0d3f57c"), looks := false }, kinds := [], alts := [], laidByText := true, laidKinds := [.data, .data, .data, .data, .data, .pinned], laidTests := true, laidLooks := .later }
def StackTermsUptoCardSaid : Prop := Claim7.holds Tryz.pinned (.plain (OpenSpec.upto stackTermsSpec)) stackTermsUptoCard

/-- THE SECOND FORM's CARD OF 'gudgeonlaw23.StackNone'. -/
def stackNoneUptoCard : Claim7 := { stood := { row := stackNoneUptoRow, standIns := [], harness := (true, "f9a6dce7080b1ce797a0596f699b24fcf1d9219850c469e2943b4296d0d3f57c"), looks := false }, kinds := [], alts := [], laidByText := true, laidKinds := [.data, .data, .data, .data, .data, .pinned], laidTests := true, laidLooks := .later }
def StackNoneUptoCardSaid : Prop := Claim7.holds Tryz.pinned (.plain (OpenSpec.upto stackNoneSpec)) stackNoneUptoCard
end Rows
end Go.Proofs.YtdehdahimkcakaaGreatDoor
