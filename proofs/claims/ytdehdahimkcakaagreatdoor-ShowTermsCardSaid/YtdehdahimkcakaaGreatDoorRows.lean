/-
  NARROWER THAN 'FOR EVERY INPUT', by the rows' own cells (each row's printed sentence says how): ShowValues: laid · ShowShort: laid · ShowNames: laid · BuildNames: loops, laid · BuildTwice: loops, laid · BuildLets: loops, laid · BuildMore: loops, laid · ShowTerms: laid · StackErrors: loops, laid · StackPops: loops, laid · StackTerms: loops, laid · StackNone: loops, laid.
  DERIVED. THE GIVEN ROWS OF THIS SEAT. 12 by the template 'for every input the law returns true; each argument reads behind the call as it read before'; 0 by the template 'total and deterministic' (their statements: YtdehdahimkcakaaGreatDoorTotals.lean).
  GIVEN WITH THE SEED: the statements are not yours to turn. If you find one false, say at which input.
  Laid BY PROGRAM, IN A SANDBOX (cutbox-rows.mjs): the forced cells as the released guide's own fill.sh prints them over the translation b3fd4c200e4a4976… (all of the seat's roots in one cut). By AI agents, Wed Nov 11 2026. No macro, syntax, notation, axiom, sorry.
-/
import Derived.Test.YtdehdahimkcakaaGreatDoorChecked
import GoSem.PinnedTables
import GoSem.Claim
import GoSem.ClaimJoined
import GoSem.ClaimMapViews
import Derived.JoinedTies
import Derived.KernelRfl
namespace Go.Proofs.YtdehdahimkcakaaGreatDoor
/- THE CELL 'sum', in the pinned program and in every row, IS THE sha256 OF THE DUMP (.gsa) THAT YtdehdahimkcakaaGreatDoorProg.lean LOADS. Nothing in Lean hashes anything: it is a label: what it is worth is what the hold of that sum in a sandbox is worth. -/
noncomputable def Tryz.pinned : Pinned := { name := "ytdehdahimkcakaagreatdoor", sum := "b3fd4c200e4a49767110db8bd527126675cd595fc7e7da45aecc58496bff692d", checked := Tryz.checked }
namespace Rows
def none {H : Type} : Left H := { results := [], args := [] }

/- WHAT THE LISTED PACKAGE-LEVEL VARIABLES READ AS WHEN THE CALL BEGINS. Each datum BY PROGRAM (the guide's laid-datum.mjs) off the statement by which the dump's own 'gosem.cut.vars' lays the variable. In a bare row this is a premise. The card (YtdehdahimkcakaaGreatDoorCards.lean) ties it to the program's text. -/
def laid_math_bits_deBruijn32tab {H : Type} : DataW H := .agg [.lit (.int .u8 0), .lit (.int .u8 1), .lit (.int .u8 28), .lit (.int .u8 2), .lit (.int .u8 29), .lit (.int .u8 14), .lit (.int .u8 24), .lit (.int .u8 3), .lit (.int .u8 30), .lit (.int .u8 22), .lit (.int .u8 20), .lit (.int .u8 15), .lit (.int .u8 25), .lit (.int .u8 17), .lit (.int .u8 4), .lit (.int .u8 8), .lit (.int .u8 31), .lit (.int .u8 27), .lit (.int .u8 13), .lit (.int .u8 23), .lit (.int .u8 21), .lit (.int .u8 19), .lit (.int .u8 16), .lit (.int .u8 7), .lit (.int .u8 26), .lit (.int .u8 12), .lit (.int .u8 18), .lit (.int .u8 6), .lit (.int .u8 11), .lit (.int .u8 5), .lit (.int .u8 10), .lit (.int .u8 9)]
def laid_math_bits_deBruijn64tab {H : Type} : DataW H := .agg [.lit (.int .u8 0), .lit (.int .u8 1), .lit (.int .u8 56), .lit (.int .u8 2), .lit (.int .u8 57), .lit (.int .u8 49), .lit (.int .u8 28), .lit (.int .u8 3), .lit (.int .u8 61), .lit (.int .u8 58), .lit (.int .u8 42), .lit (.int .u8 50), .lit (.int .u8 38), .lit (.int .u8 29), .lit (.int .u8 17), .lit (.int .u8 4), .lit (.int .u8 62), .lit (.int .u8 47), .lit (.int .u8 59), .lit (.int .u8 36), .lit (.int .u8 45), .lit (.int .u8 43), .lit (.int .u8 51), .lit (.int .u8 22), .lit (.int .u8 53), .lit (.int .u8 39), .lit (.int .u8 33), .lit (.int .u8 30), .lit (.int .u8 24), .lit (.int .u8 18), .lit (.int .u8 12), .lit (.int .u8 5), .lit (.int .u8 63), .lit (.int .u8 55), .lit (.int .u8 48), .lit (.int .u8 27), .lit (.int .u8 60), .lit (.int .u8 41), .lit (.int .u8 37), .lit (.int .u8 16), .lit (.int .u8 46), .lit (.int .u8 35), .lit (.int .u8 44), .lit (.int .u8 21), .lit (.int .u8 52), .lit (.int .u8 32), .lit (.int .u8 23), .lit (.int .u8 11), .lit (.int .u8 54), .lit (.int .u8 26), .lit (.int .u8 40), .lit (.int .u8 15), .lit (.int .u8 34), .lit (.int .u8 20), .lit (.int .u8 31), .lit (.int .u8 10), .lit (.int .u8 25), .lit (.int .u8 14), .lit (.int .u8 19), .lit (.int .u8 9), .lit (.int .u8 13), .lit (.int .u8 8), .lit (.int .u8 7), .lit (.int .u8 6)]
def laid_internal_strconv_uint64pow10 {H : Type} : DataW H := .agg [.lit (.int .u64 1), .lit (.int .u64 10), .lit (.int .u64 100), .lit (.int .u64 1000), .lit (.int .u64 10000), .lit (.int .u64 100000), .lit (.int .u64 1000000), .lit (.int .u64 10000000), .lit (.int .u64 100000000), .lit (.int .u64 1000000000), .lit (.int .u64 10000000000), .lit (.int .u64 100000000000), .lit (.int .u64 1000000000000), .lit (.int .u64 10000000000000), .lit (.int .u64 100000000000000), .lit (.int .u64 1000000000000000), .lit (.int .u64 10000000000000000), .lit (.int .u64 100000000000000000), .lit (.int .u64 1000000000000000000), .lit (.int .u64 10000000000000000000)]
def laid_unicode_utf8_acceptRanges {H : Type} : DataW H := .agg [.agg [.lit (.int .u8 128), .lit (.int .u8 191)], .agg [.lit (.int .u8 160), .lit (.int .u8 191)], .agg [.lit (.int .u8 128), .lit (.int .u8 159)], .agg [.lit (.int .u8 144), .lit (.int .u8 191)], .agg [.lit (.int .u8 128), .lit (.int .u8 143)], .agg [.lit (.int .u8 0), .lit (.int .u8 0)], .agg [.lit (.int .u8 0), .lit (.int .u8 0)], .agg [.lit (.int .u8 0), .lit (.int .u8 0)], .agg [.lit (.int .u8 0), .lit (.int .u8 0)], .agg [.lit (.int .u8 0), .lit (.int .u8 0)], .agg [.lit (.int .u8 0), .lit (.int .u8 0)], .agg [.lit (.int .u8 0), .lit (.int .u8 0)], .agg [.lit (.int .u8 0), .lit (.int .u8 0)], .agg [.lit (.int .u8 0), .lit (.int .u8 0)], .agg [.lit (.int .u8 0), .lit (.int .u8 0)], .agg [.lit (.int .u8 0), .lit (.int .u8 0)]]
def laid_gudgeon_show_names {H : Type} : DataW H := .agg [.lit (.string []), .lit (.string []), .lit (.string []), .lit (.string []), .lit (.string []), .lit (.string []), .lit (.string [110, 111, 116]), .lit (.string [97, 110, 100]), .lit (.string [111, 114]), .lit (.string [61, 62]), .lit (.string [120, 111, 114]), .lit (.string [61]), .lit (.string [100, 105, 115, 116, 105, 110, 99, 116]), .lit (.string [105, 116, 101]), .lit (.string [45]), .lit (.string [43]), .lit (.string [45]), .lit (.string [42]), .lit (.string [60, 61]), .lit (.string [60]), .lit (.string [62, 61]), .lit (.string [62]), .lit (.string [115, 116, 114, 46, 43, 43]), .lit (.string [115, 116, 114, 46, 108, 101, 110]), .lit (.string [115, 116, 114, 46, 97, 116]), .lit (.string [115, 116, 114, 46, 115, 117, 98, 115, 116, 114]), .lit (.string [115, 116, 114, 46, 112, 114, 101, 102, 105, 120, 111, 102]), .lit (.string [115, 116, 114, 46, 115, 117, 102, 102, 105, 120, 111, 102]), .lit (.string [115, 116, 114, 46, 99, 111, 110, 116, 97, 105, 110, 115]), .lit (.string [115, 116, 114, 46, 105, 110, 100, 101, 120, 111, 102]), .lit (.string [115, 116, 114, 46, 114, 101, 112, 108, 97, 99, 101])]
/-- One of Go's own tables, pinned by name: the form's constant. -/
def laid_unicode_utf8_first : DataW Unit := Go.Pinned.utf8First
def laid_gudgeon_term_asks {H : Type} : DataW H := .agg [.agg [.lit (.int .i64 0), .lit (.bool false), .agg [.lit (.int .i64 0), .lit (.int .i64 0), .lit (.int .i64 0)], .lit (.int .i64 0)], .agg [.lit (.int .i64 0), .lit (.bool false), .agg [.lit (.int .i64 0), .lit (.int .i64 0), .lit (.int .i64 0)], .lit (.int .i64 0)], .agg [.lit (.int .i64 0), .lit (.bool false), .agg [.lit (.int .i64 0), .lit (.int .i64 0), .lit (.int .i64 0)], .lit (.int .i64 0)], .agg [.lit (.int .i64 0), .lit (.bool false), .agg [.lit (.int .i64 0), .lit (.int .i64 0), .lit (.int .i64 0)], .lit (.int .i64 0)], .agg [.lit (.int .i64 0), .lit (.bool false), .agg [.lit (.int .i64 0), .lit (.int .i64 0), .lit (.int .i64 0)], .lit (.int .i64 0)], .agg [.lit (.int .i64 0), .lit (.bool false), .agg [.lit (.int .i64 0), .lit (.int .i64 0), .lit (.int .i64 0)], .lit (.int .i64 0)], .agg [.lit (.int .i64 1), .lit (.bool false), .agg [.lit (.int .i64 1), .lit (.int .i64 1), .lit (.int .i64 1)], .lit (.int .i64 1)], .agg [.lit (.int .i64 2), .lit (.bool true), .agg [.lit (.int .i64 1), .lit (.int .i64 1), .lit (.int .i64 1)], .lit (.int .i64 1)], .agg [.lit (.int .i64 2), .lit (.bool true), .agg [.lit (.int .i64 1), .lit (.int .i64 1), .lit (.int .i64 1)], .lit (.int .i64 1)], .agg [.lit (.int .i64 2), .lit (.bool true), .agg [.lit (.int .i64 1), .lit (.int .i64 1), .lit (.int .i64 1)], .lit (.int .i64 1)], .agg [.lit (.int .i64 2), .lit (.bool true), .agg [.lit (.int .i64 1), .lit (.int .i64 1), .lit (.int .i64 1)], .lit (.int .i64 1)], .agg [.lit (.int .i64 2), .lit (.bool true), .agg [.lit (.int .i64 (-2)), .lit (.int .i64 (-1)), .lit (.int .i64 (-1))], .lit (.int .i64 1)], .agg [.lit (.int .i64 2), .lit (.bool true), .agg [.lit (.int .i64 (-2)), .lit (.int .i64 (-1)), .lit (.int .i64 (-1))], .lit (.int .i64 1)], .agg [.lit (.int .i64 3), .lit (.bool false), .agg [.lit (.int .i64 1), .lit (.int .i64 (-2)), .lit (.int .i64 (-1))], .lit (.int .i64 (-1))], .agg [.lit (.int .i64 1), .lit (.bool false), .agg [.lit (.int .i64 2), .lit (.int .i64 2), .lit (.int .i64 2)], .lit (.int .i64 2)], .agg [.lit (.int .i64 2), .lit (.bool true), .agg [.lit (.int .i64 2), .lit (.int .i64 2), .lit (.int .i64 2)], .lit (.int .i64 2)], .agg [.lit (.int .i64 2), .lit (.bool true), .agg [.lit (.int .i64 2), .lit (.int .i64 2), .lit (.int .i64 2)], .lit (.int .i64 2)], .agg [.lit (.int .i64 2), .lit (.bool true), .agg [.lit (.int .i64 2), .lit (.int .i64 2), .lit (.int .i64 2)], .lit (.int .i64 2)], .agg [.lit (.int .i64 2), .lit (.bool true), .agg [.lit (.int .i64 2), .lit (.int .i64 2), .lit (.int .i64 2)], .lit (.int .i64 1)], .agg [.lit (.int .i64 2), .lit (.bool true), .agg [.lit (.int .i64 2), .lit (.int .i64 2), .lit (.int .i64 2)], .lit (.int .i64 1)], .agg [.lit (.int .i64 2), .lit (.bool true), .agg [.lit (.int .i64 2), .lit (.int .i64 2), .lit (.int .i64 2)], .lit (.int .i64 1)], .agg [.lit (.int .i64 2), .lit (.bool true), .agg [.lit (.int .i64 2), .lit (.int .i64 2), .lit (.int .i64 2)], .lit (.int .i64 1)], .agg [.lit (.int .i64 2), .lit (.bool true), .agg [.lit (.int .i64 3), .lit (.int .i64 3), .lit (.int .i64 3)], .lit (.int .i64 3)], .agg [.lit (.int .i64 1), .lit (.bool false), .agg [.lit (.int .i64 3), .lit (.int .i64 3), .lit (.int .i64 3)], .lit (.int .i64 2)], .agg [.lit (.int .i64 2), .lit (.bool false), .agg [.lit (.int .i64 3), .lit (.int .i64 2), .lit (.int .i64 2)], .lit (.int .i64 3)], .agg [.lit (.int .i64 3), .lit (.bool false), .agg [.lit (.int .i64 3), .lit (.int .i64 2), .lit (.int .i64 2)], .lit (.int .i64 3)], .agg [.lit (.int .i64 2), .lit (.bool false), .agg [.lit (.int .i64 3), .lit (.int .i64 3), .lit (.int .i64 3)], .lit (.int .i64 1)], .agg [.lit (.int .i64 2), .lit (.bool false), .agg [.lit (.int .i64 3), .lit (.int .i64 3), .lit (.int .i64 3)], .lit (.int .i64 1)], .agg [.lit (.int .i64 2), .lit (.bool false), .agg [.lit (.int .i64 3), .lit (.int .i64 3), .lit (.int .i64 3)], .lit (.int .i64 1)], .agg [.lit (.int .i64 3), .lit (.bool false), .agg [.lit (.int .i64 3), .lit (.int .i64 3), .lit (.int .i64 2)], .lit (.int .i64 2)], .agg [.lit (.int .i64 3), .lit (.bool false), .agg [.lit (.int .i64 3), .lit (.int .i64 3), .lit (.int .i64 3)], .lit (.int .i64 3)]]

/-- 'gudgeonlaw12.ShowValues': WHATEVER THE INPUT: true; the input reads as it did. -/
def showValuesSpec : ChangeSpec := { name := "showValues", fn := fun _ => fun
  | [d] => { results := [.lit (.bool true)], args := [d] }
  | _ => none }
def showValuesRow : OpenClaim := { program := "ytdehdahimkcakaagreatdoor", sum := "b3fd4c200e4a49767110db8bd527126675cd595fc7e7da45aecc58496bff692d", func := "gudgeon/gudgeonlaw12.ShowValues", spec := "showValues", inPlace := ["internal/bytealg.IndexByteString", "internal/bytealg.IndexString", "internal/abi.NoEscape", "internal/bytealg.CountString", "internal/bytealg.MakeNoZero"], unfollowed := true, recurses := true, named := ["unicode/utf8.first", "unicode/utf8.acceptRanges", "internal/strconv.uint64pow10", "math/bits.deBruijn32tab", "math/bits.deBruijn64tab", "internal/bytealg.MaxLen", "gudgeon/show.names"], apart := false, laid := [("math/bits.deBruijn32tab", laid_math_bits_deBruijn32tab), ("math/bits.deBruijn64tab", laid_math_bits_deBruijn64tab), ("internal/strconv.uint64pow10", laid_internal_strconv_uint64pow10), ("unicode/utf8.acceptRanges", laid_unicode_utf8_acceptRanges), ("gudgeon/show.names", laid_gudgeon_show_names), ("unicode/utf8.first", laid_unicode_utf8_first)] }
def ShowValuesSaid : Prop := showValuesRow.holds Tryz.pinned (OpenSpec.ofChange showValuesSpec)

/-- ITS FALSE NEIGHBOUR: 'it returns false'. Refute it at one input. -/
def showValuesWrong : ChangeSpec := { name := "showValues", fn := fun _ => fun
  | [d] => { results := [.lit (.bool false)], args := [d] }
  | _ => none }
def ShowValuesWrongFalsely : Prop := showValuesRow.holds Tryz.pinned (OpenSpec.ofChange showValuesWrong)

/-- 'gudgeonlaw12.ShowShort': WHATEVER THE INPUT: true; the input reads as it did. -/
def showShortSpec : ChangeSpec := { name := "showShort", fn := fun _ => fun
  | [d] => { results := [.lit (.bool true)], args := [d] }
  | _ => none }
def showShortRow : OpenClaim := { program := "ytdehdahimkcakaagreatdoor", sum := "b3fd4c200e4a49767110db8bd527126675cd595fc7e7da45aecc58496bff692d", func := "gudgeon/gudgeonlaw12.ShowShort", spec := "showShort", inPlace := ["internal/bytealg.IndexByteString", "internal/bytealg.IndexString", "internal/abi.NoEscape", "internal/bytealg.CountString", "internal/bytealg.MakeNoZero"], unfollowed := true, recurses := true, named := ["unicode/utf8.first", "unicode/utf8.acceptRanges", "internal/strconv.uint64pow10", "math/bits.deBruijn32tab", "math/bits.deBruijn64tab", "internal/bytealg.MaxLen", "gudgeon/show.names"], apart := false, laid := [("math/bits.deBruijn32tab", laid_math_bits_deBruijn32tab), ("math/bits.deBruijn64tab", laid_math_bits_deBruijn64tab), ("internal/strconv.uint64pow10", laid_internal_strconv_uint64pow10), ("unicode/utf8.acceptRanges", laid_unicode_utf8_acceptRanges), ("gudgeon/show.names", laid_gudgeon_show_names), ("unicode/utf8.first", laid_unicode_utf8_first)] }
def ShowShortSaid : Prop := showShortRow.holds Tryz.pinned (OpenSpec.ofChange showShortSpec)

/-- ITS FALSE NEIGHBOUR: 'it returns false'. Refute it at one input. -/
def showShortWrong : ChangeSpec := { name := "showShort", fn := fun _ => fun
  | [d] => { results := [.lit (.bool false)], args := [d] }
  | _ => none }
def ShowShortWrongFalsely : Prop := showShortRow.holds Tryz.pinned (OpenSpec.ofChange showShortWrong)

/-- 'gudgeonlaw12.ShowNames': WHATEVER THE INPUT: true; the input reads as it did. -/
def showNamesSpec : ChangeSpec := { name := "showNames", fn := fun _ => fun
  | [d1, d2] => { results := [.lit (.bool true)], args := [d1, d2] }
  | _ => none }
def showNamesRow : OpenClaim := { program := "ytdehdahimkcakaagreatdoor", sum := "b3fd4c200e4a49767110db8bd527126675cd595fc7e7da45aecc58496bff692d", func := "gudgeon/gudgeonlaw12.ShowNames", spec := "showNames", inPlace := ["internal/bytealg.IndexByteString", "internal/bytealg.IndexString", "internal/abi.NoEscape", "internal/bytealg.CountString", "internal/bytealg.MakeNoZero"], unfollowed := true, recurses := true, named := ["unicode/utf8.first", "unicode/utf8.acceptRanges", "internal/strconv.uint64pow10", "math/bits.deBruijn32tab", "math/bits.deBruijn64tab", "internal/bytealg.MaxLen", "gudgeon/show.names"], apart := false, laid := [("math/bits.deBruijn32tab", laid_math_bits_deBruijn32tab), ("math/bits.deBruijn64tab", laid_math_bits_deBruijn64tab), ("internal/strconv.uint64pow10", laid_internal_strconv_uint64pow10), ("unicode/utf8.acceptRanges", laid_unicode_utf8_acceptRanges), ("gudgeon/show.names", laid_gudgeon_show_names), ("unicode/utf8.first", laid_unicode_utf8_first)] }
def ShowNamesSaid : Prop := showNamesRow.holds Tryz.pinned (OpenSpec.ofChange showNamesSpec)

/-- ITS FALSE NEIGHBOUR: 'it returns false'. Refute it at one input. -/
def showNamesWrong : ChangeSpec := { name := "showNames", fn := fun _ => fun
  | [d1, d2] => { results := [.lit (.bool false)], args := [d1, d2] }
  | _ => none }
def ShowNamesWrongFalsely : Prop := showNamesRow.holds Tryz.pinned (OpenSpec.ofChange showNamesWrong)

/-- 'gudgeonlaw10.BuildNames': WHATEVER THE INPUT: true; the input reads as it did. -/
def buildNamesSpec : ChangeSpec := { name := "buildNames", fn := fun _ => fun
  | [d1, d2] => { results := [.lit (.bool true)], args := [d1, d2] }
  | _ => none }
def buildNamesRow : OpenClaim := { program := "ytdehdahimkcakaagreatdoor", sum := "b3fd4c200e4a49767110db8bd527126675cd595fc7e7da45aecc58496bff692d", func := "gudgeon/gudgeonlaw10.BuildNames", spec := "buildNames", inPlace := ["internal/abi.NoEscape", "internal/bytealg.IndexByteString", "internal/bytealg.IndexString"], unfollowed := true, recurses := true, named := ["gudgeon/term.asks", "internal/strconv.uint64pow10", "math/bits.deBruijn32tab", "math/bits.deBruijn64tab", "unicode/utf8.first", "unicode/utf8.acceptRanges", "internal/bytealg.MaxLen"], loops := true, apart := false, laid := [("math/bits.deBruijn32tab", laid_math_bits_deBruijn32tab), ("math/bits.deBruijn64tab", laid_math_bits_deBruijn64tab), ("internal/strconv.uint64pow10", laid_internal_strconv_uint64pow10), ("unicode/utf8.acceptRanges", laid_unicode_utf8_acceptRanges), ("gudgeon/term.asks", laid_gudgeon_term_asks), ("unicode/utf8.first", laid_unicode_utf8_first)] }
def BuildNamesSaid : Prop := buildNamesRow.holds Tryz.pinned (OpenSpec.ofChange buildNamesSpec)

/-- ITS FALSE NEIGHBOUR: 'it returns false'. Refute it at one input. -/
def buildNamesWrong : ChangeSpec := { name := "buildNames", fn := fun _ => fun
  | [d1, d2] => { results := [.lit (.bool false)], args := [d1, d2] }
  | _ => none }
def BuildNamesWrongFalsely : Prop := buildNamesRow.holds Tryz.pinned (OpenSpec.ofChange buildNamesWrong)

/-- 'gudgeonlaw10.BuildTwice': WHATEVER THE INPUT: true; the input reads as it did. -/
def buildTwiceSpec : ChangeSpec := { name := "buildTwice", fn := fun _ => fun
  | [d1, d2] => { results := [.lit (.bool true)], args := [d1, d2] }
  | _ => none }
def buildTwiceRow : OpenClaim := { program := "ytdehdahimkcakaagreatdoor", sum := "b3fd4c200e4a49767110db8bd527126675cd595fc7e7da45aecc58496bff692d", func := "gudgeon/gudgeonlaw10.BuildTwice", spec := "buildTwice", inPlace := ["internal/abi.NoEscape", "internal/bytealg.IndexByteString", "internal/bytealg.IndexString"], unfollowed := true, recurses := true, named := ["gudgeon/term.asks", "internal/strconv.uint64pow10", "math/bits.deBruijn32tab", "math/bits.deBruijn64tab", "unicode/utf8.first", "unicode/utf8.acceptRanges", "internal/bytealg.MaxLen"], loops := true, apart := false, laid := [("math/bits.deBruijn32tab", laid_math_bits_deBruijn32tab), ("math/bits.deBruijn64tab", laid_math_bits_deBruijn64tab), ("internal/strconv.uint64pow10", laid_internal_strconv_uint64pow10), ("unicode/utf8.acceptRanges", laid_unicode_utf8_acceptRanges), ("gudgeon/term.asks", laid_gudgeon_term_asks), ("unicode/utf8.first", laid_unicode_utf8_first)] }
def BuildTwiceSaid : Prop := buildTwiceRow.holds Tryz.pinned (OpenSpec.ofChange buildTwiceSpec)

/-- ITS FALSE NEIGHBOUR: 'it returns false'. Refute it at one input. -/
def buildTwiceWrong : ChangeSpec := { name := "buildTwice", fn := fun _ => fun
  | [d1, d2] => { results := [.lit (.bool false)], args := [d1, d2] }
  | _ => none }
def BuildTwiceWrongFalsely : Prop := buildTwiceRow.holds Tryz.pinned (OpenSpec.ofChange buildTwiceWrong)

/-- 'gudgeonlaw10.BuildLets': WHATEVER THE INPUT: true; the input reads as it did. -/
def buildLetsSpec : ChangeSpec := { name := "buildLets", fn := fun _ => fun
  | [d1, d2, d3, d4] => { results := [.lit (.bool true)], args := [d1, d2, d3, d4] }
  | _ => none }
def buildLetsRow : OpenClaim := { program := "ytdehdahimkcakaagreatdoor", sum := "b3fd4c200e4a49767110db8bd527126675cd595fc7e7da45aecc58496bff692d", func := "gudgeon/gudgeonlaw10.BuildLets", spec := "buildLets", inPlace := ["internal/abi.NoEscape", "internal/bytealg.IndexByteString", "internal/bytealg.IndexString"], unfollowed := true, recurses := true, named := ["gudgeon/term.asks", "internal/strconv.uint64pow10", "math/bits.deBruijn32tab", "math/bits.deBruijn64tab", "unicode/utf8.first", "unicode/utf8.acceptRanges", "internal/bytealg.MaxLen"], loops := true, apart := false, laid := [("math/bits.deBruijn32tab", laid_math_bits_deBruijn32tab), ("math/bits.deBruijn64tab", laid_math_bits_deBruijn64tab), ("internal/strconv.uint64pow10", laid_internal_strconv_uint64pow10), ("unicode/utf8.acceptRanges", laid_unicode_utf8_acceptRanges), ("gudgeon/term.asks", laid_gudgeon_term_asks), ("unicode/utf8.first", laid_unicode_utf8_first)] }
def BuildLetsSaid : Prop := buildLetsRow.holds Tryz.pinned (OpenSpec.ofChange buildLetsSpec)

/-- ITS FALSE NEIGHBOUR: 'it returns false'. Refute it at one input. -/
def buildLetsWrong : ChangeSpec := { name := "buildLets", fn := fun _ => fun
  | [d1, d2, d3, d4] => { results := [.lit (.bool false)], args := [d1, d2, d3, d4] }
  | _ => none }
def BuildLetsWrongFalsely : Prop := buildLetsRow.holds Tryz.pinned (OpenSpec.ofChange buildLetsWrong)

/-- 'gudgeonlaw10.BuildMore': WHATEVER THE INPUT: true; the input reads as it did. -/
def buildMoreSpec : ChangeSpec := { name := "buildMore", fn := fun _ => fun
  | [d1, d2, d3] => { results := [.lit (.bool true)], args := [d1, d2, d3] }
  | _ => none }
def buildMoreRow : OpenClaim := { program := "ytdehdahimkcakaagreatdoor", sum := "b3fd4c200e4a49767110db8bd527126675cd595fc7e7da45aecc58496bff692d", func := "gudgeon/gudgeonlaw10.BuildMore", spec := "buildMore", inPlace := ["internal/abi.NoEscape", "internal/bytealg.IndexByteString", "internal/bytealg.IndexString"], unfollowed := true, recurses := true, named := ["gudgeon/term.asks", "internal/strconv.uint64pow10", "math/bits.deBruijn32tab", "math/bits.deBruijn64tab", "unicode/utf8.first", "unicode/utf8.acceptRanges", "internal/bytealg.MaxLen"], loops := true, apart := false, laid := [("math/bits.deBruijn32tab", laid_math_bits_deBruijn32tab), ("math/bits.deBruijn64tab", laid_math_bits_deBruijn64tab), ("internal/strconv.uint64pow10", laid_internal_strconv_uint64pow10), ("unicode/utf8.acceptRanges", laid_unicode_utf8_acceptRanges), ("gudgeon/term.asks", laid_gudgeon_term_asks), ("unicode/utf8.first", laid_unicode_utf8_first)] }
def BuildMoreSaid : Prop := buildMoreRow.holds Tryz.pinned (OpenSpec.ofChange buildMoreSpec)

/-- ITS FALSE NEIGHBOUR: 'it returns false'. Refute it at one input. -/
def buildMoreWrong : ChangeSpec := { name := "buildMore", fn := fun _ => fun
  | [d1, d2, d3] => { results := [.lit (.bool false)], args := [d1, d2, d3] }
  | _ => none }
def BuildMoreWrongFalsely : Prop := buildMoreRow.holds Tryz.pinned (OpenSpec.ofChange buildMoreWrong)

/-- 'gudgeonlaw12.ShowTerms': WHATEVER THE INPUT: true; the input reads as it did. -/
def showTermsSpec : ChangeSpec := { name := "showTerms", fn := fun _ => fun
  | [d1, d2, d3] => { results := [.lit (.bool true)], args := [d1, d2, d3] }
  | _ => none }
def showTermsRow : OpenClaim := { program := "ytdehdahimkcakaagreatdoor", sum := "b3fd4c200e4a49767110db8bd527126675cd595fc7e7da45aecc58496bff692d", func := "gudgeon/gudgeonlaw12.ShowTerms", spec := "showTerms", inPlace := ["internal/bytealg.IndexByteString", "internal/bytealg.IndexString", "internal/abi.NoEscape", "internal/bytealg.CountString", "internal/bytealg.MakeNoZero"], unfollowed := true, recurses := true, named := ["unicode/utf8.first", "unicode/utf8.acceptRanges", "internal/strconv.uint64pow10", "math/bits.deBruijn32tab", "math/bits.deBruijn64tab", "internal/bytealg.MaxLen", "gudgeon/show.names", "gudgeon/term.asks"], apart := false, laid := [("math/bits.deBruijn32tab", laid_math_bits_deBruijn32tab), ("math/bits.deBruijn64tab", laid_math_bits_deBruijn64tab), ("internal/strconv.uint64pow10", laid_internal_strconv_uint64pow10), ("unicode/utf8.acceptRanges", laid_unicode_utf8_acceptRanges), ("gudgeon/term.asks", laid_gudgeon_term_asks), ("gudgeon/show.names", laid_gudgeon_show_names), ("unicode/utf8.first", laid_unicode_utf8_first)] }
def ShowTermsSaid : Prop := showTermsRow.holds Tryz.pinned (OpenSpec.ofChange showTermsSpec)

/-- ITS FALSE NEIGHBOUR: 'it returns false'. Refute it at one input. -/
def showTermsWrong : ChangeSpec := { name := "showTerms", fn := fun _ => fun
  | [d1, d2, d3] => { results := [.lit (.bool false)], args := [d1, d2, d3] }
  | _ => none }
def ShowTermsWrongFalsely : Prop := showTermsRow.holds Tryz.pinned (OpenSpec.ofChange showTermsWrong)

/-- 'gudgeonlaw23.StackErrors': WHATEVER THE INPUT: true; the input reads as it did. -/
def stackErrorsSpec : ChangeSpec := { name := "stackErrors", fn := fun _ => fun
  | [d] => { results := [.lit (.bool true)], args := [d] }
  | _ => none }
def stackErrorsRow : OpenClaim := { program := "ytdehdahimkcakaagreatdoor", sum := "b3fd4c200e4a49767110db8bd527126675cd595fc7e7da45aecc58496bff692d", func := "gudgeon/gudgeonlaw23.StackErrors", spec := "stackErrors", inPlace := ["internal/abi.NoEscape", "internal/bytealg.IndexByteString", "internal/bytealg.IndexString"], unfollowed := true, recurses := true, named := ["gudgeon/term.asks", "internal/strconv.uint64pow10", "math/bits.deBruijn32tab", "math/bits.deBruijn64tab", "unicode/utf8.first", "unicode/utf8.acceptRanges", "internal/bytealg.MaxLen"], loops := true, apart := false, laid := [("math/bits.deBruijn32tab", laid_math_bits_deBruijn32tab), ("math/bits.deBruijn64tab", laid_math_bits_deBruijn64tab), ("internal/strconv.uint64pow10", laid_internal_strconv_uint64pow10), ("unicode/utf8.acceptRanges", laid_unicode_utf8_acceptRanges), ("gudgeon/term.asks", laid_gudgeon_term_asks), ("unicode/utf8.first", laid_unicode_utf8_first)] }
def StackErrorsSaid : Prop := stackErrorsRow.holds Tryz.pinned (OpenSpec.ofChange stackErrorsSpec)

/-- ITS FALSE NEIGHBOUR: 'it returns false'. Refute it at one input. -/
def stackErrorsWrong : ChangeSpec := { name := "stackErrors", fn := fun _ => fun
  | [d] => { results := [.lit (.bool false)], args := [d] }
  | _ => none }
def StackErrorsWrongFalsely : Prop := stackErrorsRow.holds Tryz.pinned (OpenSpec.ofChange stackErrorsWrong)

/-- 'gudgeonlaw23.StackPops': WHATEVER THE INPUT: true; the input reads as it did. -/
def stackPopsSpec : ChangeSpec := { name := "stackPops", fn := fun _ => fun
  | [d1, d2] => { results := [.lit (.bool true)], args := [d1, d2] }
  | _ => none }
def stackPopsRow : OpenClaim := { program := "ytdehdahimkcakaagreatdoor", sum := "b3fd4c200e4a49767110db8bd527126675cd595fc7e7da45aecc58496bff692d", func := "gudgeon/gudgeonlaw23.StackPops", spec := "stackPops", inPlace := ["internal/abi.NoEscape", "internal/bytealg.IndexByteString", "internal/bytealg.IndexString"], unfollowed := true, recurses := true, named := ["gudgeon/term.asks", "internal/strconv.uint64pow10", "math/bits.deBruijn32tab", "math/bits.deBruijn64tab", "unicode/utf8.first", "unicode/utf8.acceptRanges", "internal/bytealg.MaxLen"], loops := true, apart := false, laid := [("math/bits.deBruijn32tab", laid_math_bits_deBruijn32tab), ("math/bits.deBruijn64tab", laid_math_bits_deBruijn64tab), ("internal/strconv.uint64pow10", laid_internal_strconv_uint64pow10), ("unicode/utf8.acceptRanges", laid_unicode_utf8_acceptRanges), ("gudgeon/term.asks", laid_gudgeon_term_asks), ("unicode/utf8.first", laid_unicode_utf8_first)] }
def StackPopsSaid : Prop := stackPopsRow.holds Tryz.pinned (OpenSpec.ofChange stackPopsSpec)

/-- ITS FALSE NEIGHBOUR: 'it returns false'. Refute it at one input. -/
def stackPopsWrong : ChangeSpec := { name := "stackPops", fn := fun _ => fun
  | [d1, d2] => { results := [.lit (.bool false)], args := [d1, d2] }
  | _ => none }
def StackPopsWrongFalsely : Prop := stackPopsRow.holds Tryz.pinned (OpenSpec.ofChange stackPopsWrong)

/-- 'gudgeonlaw23.StackTerms': WHATEVER THE INPUT: true; the input reads as it did. -/
def stackTermsSpec : ChangeSpec := { name := "stackTerms", fn := fun _ => fun
  | [d] => { results := [.lit (.bool true)], args := [d] }
  | _ => none }
def stackTermsRow : OpenClaim := { program := "ytdehdahimkcakaagreatdoor", sum := "b3fd4c200e4a49767110db8bd527126675cd595fc7e7da45aecc58496bff692d", func := "gudgeon/gudgeonlaw23.StackTerms", spec := "stackTerms", inPlace := ["internal/abi.NoEscape", "internal/bytealg.IndexByteString", "internal/bytealg.IndexString"], unfollowed := true, recurses := true, named := ["gudgeon/term.asks", "internal/strconv.uint64pow10", "math/bits.deBruijn32tab", "math/bits.deBruijn64tab", "unicode/utf8.first", "unicode/utf8.acceptRanges", "internal/bytealg.MaxLen"], loops := true, apart := false, laid := [("math/bits.deBruijn32tab", laid_math_bits_deBruijn32tab), ("math/bits.deBruijn64tab", laid_math_bits_deBruijn64tab), ("internal/strconv.uint64pow10", laid_internal_strconv_uint64pow10), ("unicode/utf8.acceptRanges", laid_unicode_utf8_acceptRanges), ("gudgeon/term.asks", laid_gudgeon_term_asks), ("unicode/utf8.first", laid_unicode_utf8_first)] }
def StackTermsSaid : Prop := stackTermsRow.holds Tryz.pinned (OpenSpec.ofChange stackTermsSpec)

/-- ITS FALSE NEIGHBOUR: 'it returns false'. Refute it at one input. -/
def stackTermsWrong : ChangeSpec := { name := "stackTerms", fn := fun _ => fun
  | [d] => { results := [.lit (.bool false)], args := [d] }
  | _ => none }
def StackTermsWrongFalsely : Prop := stackTermsRow.holds Tryz.pinned (OpenSpec.ofChange stackTermsWrong)

/-- 'gudgeonlaw23.StackNone': WHATEVER THE INPUT: true; the input reads as it did. -/
def stackNoneSpec : ChangeSpec := { name := "stackNone", fn := fun _ => fun
  | [d] => { results := [.lit (.bool true)], args := [d] }
  | _ => none }
def stackNoneRow : OpenClaim := { program := "ytdehdahimkcakaagreatdoor", sum := "b3fd4c200e4a49767110db8bd527126675cd595fc7e7da45aecc58496bff692d", func := "gudgeon/gudgeonlaw23.StackNone", spec := "stackNone", inPlace := ["internal/abi.NoEscape", "internal/bytealg.IndexByteString", "internal/bytealg.IndexString"], unfollowed := true, recurses := true, named := ["gudgeon/term.asks", "internal/strconv.uint64pow10", "math/bits.deBruijn32tab", "math/bits.deBruijn64tab", "unicode/utf8.first", "unicode/utf8.acceptRanges", "internal/bytealg.MaxLen"], loops := true, apart := false, laid := [("math/bits.deBruijn32tab", laid_math_bits_deBruijn32tab), ("math/bits.deBruijn64tab", laid_math_bits_deBruijn64tab), ("internal/strconv.uint64pow10", laid_internal_strconv_uint64pow10), ("unicode/utf8.acceptRanges", laid_unicode_utf8_acceptRanges), ("gudgeon/term.asks", laid_gudgeon_term_asks), ("unicode/utf8.first", laid_unicode_utf8_first)] }
def StackNoneSaid : Prop := stackNoneRow.holds Tryz.pinned (OpenSpec.ofChange stackNoneSpec)

/-- ITS FALSE NEIGHBOUR: 'it returns false'. Refute it at one input. -/
def stackNoneWrong : ChangeSpec := { name := "stackNone", fn := fun _ => fun
  | [d] => { results := [.lit (.bool false)], args := [d] }
  | _ => none }
def StackNoneWrongFalsely : Prop := stackNoneRow.holds Tryz.pinned (OpenSpec.ofChange stackNoneWrong)

/- THE SECOND FORM. 'bulk': how many values and letters a reading holds, each counted each time it is reached (what is shared counts as often as it is met; a slice's spare places count too). A statement '..UptoSaid' is the law's where the arguments, and the package variables that the reading takes, are together of bulk at most 1048576: NARROWER than '..Said'. Prove '..Said' where nothing that the law and all that it calls make is longer than what came in: it says more and counts as full. Else prove '..UptoSaid'. A law counts once. -/
mutual
def uptoBulk {H : Type} : DataW H → Nat
  | .lit (.string bytes) => bytes.length + 1
  | .lit _ => 1
  | .nil => 1
  | .ptr d => uptoBulk d + 1
  | .slice elems spare => uptoBulkAll elems + uptoBulkAll spare + 1
  | .agg parts => uptoBulkAll parts + 1
  | .iface _ d => uptoBulk d + 1
  | .map entries => uptoBulkEntries entries + 1
  | .held _ => 1
def uptoBulkAll {H : Type} : List (DataW H) → Nat
  | [] => 0
  | d :: r => uptoBulk d + uptoBulkAll r
def uptoBulkEntries {H : Type} : List (Lit × DataW H) → Nat
  | [] => 0
  | x :: r => uptoBulkEntry x + uptoBulkEntries r
def uptoBulkEntry {H : Type} : Lit × DataW H → Nat
  | (.string bytes, d) => bytes.length + uptoBulk d + 1
  | (_, d) => uptoBulk d + 1
 end
def uptoSmall : (H : Type) → List (DataW H) → Bool := fun _ ds => decide (uptoBulkAll ds ≤ 1048576)
def OpenSpec.upto (s : _root_.Go.ChangeSpec) : _root_.Go.OpenSpec := { _root_.Go.OpenSpec.ofChange s with cond := some uptoSmall }

/-- 'gudgeonlaw12.ShowValues', WHERE WHAT IT READS IS OF BULK AT MOST 1048576: true; the input reads as it did. -/
def showValuesUptoRow : OpenClaim := { program := "ytdehdahimkcakaagreatdoor", sum := "b3fd4c200e4a49767110db8bd527126675cd595fc7e7da45aecc58496bff692d", func := "gudgeon/gudgeonlaw12.ShowValues", spec := "showValues", inPlace := ["internal/bytealg.IndexByteString", "internal/bytealg.IndexString", "internal/abi.NoEscape", "internal/bytealg.CountString", "internal/bytealg.MakeNoZero"], unfollowed := true, recurses := true, named := ["unicode/utf8.first", "unicode/utf8.acceptRanges", "internal/strconv.uint64pow10", "math/bits.deBruijn32tab", "math/bits.deBruijn64tab", "internal/bytealg.MaxLen", "gudgeon/show.names"], apart := false, laid := [("math/bits.deBruijn32tab", laid_math_bits_deBruijn32tab), ("math/bits.deBruijn64tab", laid_math_bits_deBruijn64tab), ("internal/strconv.uint64pow10", laid_internal_strconv_uint64pow10), ("unicode/utf8.acceptRanges", laid_unicode_utf8_acceptRanges), ("gudgeon/show.names", laid_gudgeon_show_names), ("unicode/utf8.first", laid_unicode_utf8_first)], narrowed := true }
def ShowValuesUptoSaid : Prop := showValuesUptoRow.holds Tryz.pinned (OpenSpec.upto showValuesSpec)

/-- 'gudgeonlaw12.ShowShort', WHERE WHAT IT READS IS OF BULK AT MOST 1048576: true; the input reads as it did. -/
def showShortUptoRow : OpenClaim := { program := "ytdehdahimkcakaagreatdoor", sum := "b3fd4c200e4a49767110db8bd527126675cd595fc7e7da45aecc58496bff692d", func := "gudgeon/gudgeonlaw12.ShowShort", spec := "showShort", inPlace := ["internal/bytealg.IndexByteString", "internal/bytealg.IndexString", "internal/abi.NoEscape", "internal/bytealg.CountString", "internal/bytealg.MakeNoZero"], unfollowed := true, recurses := true, named := ["unicode/utf8.first", "unicode/utf8.acceptRanges", "internal/strconv.uint64pow10", "math/bits.deBruijn32tab", "math/bits.deBruijn64tab", "internal/bytealg.MaxLen", "gudgeon/show.names"], apart := false, laid := [("math/bits.deBruijn32tab", laid_math_bits_deBruijn32tab), ("math/bits.deBruijn64tab", laid_math_bits_deBruijn64tab), ("internal/strconv.uint64pow10", laid_internal_strconv_uint64pow10), ("unicode/utf8.acceptRanges", laid_unicode_utf8_acceptRanges), ("gudgeon/show.names", laid_gudgeon_show_names), ("unicode/utf8.first", laid_unicode_utf8_first)], narrowed := true }
def ShowShortUptoSaid : Prop := showShortUptoRow.holds Tryz.pinned (OpenSpec.upto showShortSpec)

/-- 'gudgeonlaw12.ShowNames', WHERE WHAT IT READS IS OF BULK AT MOST 1048576: true; the input reads as it did. -/
def showNamesUptoRow : OpenClaim := { program := "ytdehdahimkcakaagreatdoor", sum := "b3fd4c200e4a49767110db8bd527126675cd595fc7e7da45aecc58496bff692d", func := "gudgeon/gudgeonlaw12.ShowNames", spec := "showNames", inPlace := ["internal/bytealg.IndexByteString", "internal/bytealg.IndexString", "internal/abi.NoEscape", "internal/bytealg.CountString", "internal/bytealg.MakeNoZero"], unfollowed := true, recurses := true, named := ["unicode/utf8.first", "unicode/utf8.acceptRanges", "internal/strconv.uint64pow10", "math/bits.deBruijn32tab", "math/bits.deBruijn64tab", "internal/bytealg.MaxLen", "gudgeon/show.names"], apart := false, laid := [("math/bits.deBruijn32tab", laid_math_bits_deBruijn32tab), ("math/bits.deBruijn64tab", laid_math_bits_deBruijn64tab), ("internal/strconv.uint64pow10", laid_internal_strconv_uint64pow10), ("unicode/utf8.acceptRanges", laid_unicode_utf8_acceptRanges), ("gudgeon/show.names", laid_gudgeon_show_names), ("unicode/utf8.first", laid_unicode_utf8_first)], narrowed := true }
def ShowNamesUptoSaid : Prop := showNamesUptoRow.holds Tryz.pinned (OpenSpec.upto showNamesSpec)

/-- 'gudgeonlaw10.BuildNames', WHERE WHAT IT READS IS OF BULK AT MOST 1048576: true; the input reads as it did. -/
def buildNamesUptoRow : OpenClaim := { program := "ytdehdahimkcakaagreatdoor", sum := "b3fd4c200e4a49767110db8bd527126675cd595fc7e7da45aecc58496bff692d", func := "gudgeon/gudgeonlaw10.BuildNames", spec := "buildNames", inPlace := ["internal/abi.NoEscape", "internal/bytealg.IndexByteString", "internal/bytealg.IndexString"], unfollowed := true, recurses := true, named := ["gudgeon/term.asks", "internal/strconv.uint64pow10", "math/bits.deBruijn32tab", "math/bits.deBruijn64tab", "unicode/utf8.first", "unicode/utf8.acceptRanges", "internal/bytealg.MaxLen"], loops := true, apart := false, laid := [("math/bits.deBruijn32tab", laid_math_bits_deBruijn32tab), ("math/bits.deBruijn64tab", laid_math_bits_deBruijn64tab), ("internal/strconv.uint64pow10", laid_internal_strconv_uint64pow10), ("unicode/utf8.acceptRanges", laid_unicode_utf8_acceptRanges), ("gudgeon/term.asks", laid_gudgeon_term_asks), ("unicode/utf8.first", laid_unicode_utf8_first)], narrowed := true }
def BuildNamesUptoSaid : Prop := buildNamesUptoRow.holds Tryz.pinned (OpenSpec.upto buildNamesSpec)

/-- 'gudgeonlaw10.BuildTwice', WHERE WHAT IT READS IS OF BULK AT MOST 1048576: true; the input reads as it did. -/
def buildTwiceUptoRow : OpenClaim := { program := "ytdehdahimkcakaagreatdoor", sum := "b3fd4c200e4a49767110db8bd527126675cd595fc7e7da45aecc58496bff692d", func := "gudgeon/gudgeonlaw10.BuildTwice", spec := "buildTwice", inPlace := ["internal/abi.NoEscape", "internal/bytealg.IndexByteString", "internal/bytealg.IndexString"], unfollowed := true, recurses := true, named := ["gudgeon/term.asks", "internal/strconv.uint64pow10", "math/bits.deBruijn32tab", "math/bits.deBruijn64tab", "unicode/utf8.first", "unicode/utf8.acceptRanges", "internal/bytealg.MaxLen"], loops := true, apart := false, laid := [("math/bits.deBruijn32tab", laid_math_bits_deBruijn32tab), ("math/bits.deBruijn64tab", laid_math_bits_deBruijn64tab), ("internal/strconv.uint64pow10", laid_internal_strconv_uint64pow10), ("unicode/utf8.acceptRanges", laid_unicode_utf8_acceptRanges), ("gudgeon/term.asks", laid_gudgeon_term_asks), ("unicode/utf8.first", laid_unicode_utf8_first)], narrowed := true }
def BuildTwiceUptoSaid : Prop := buildTwiceUptoRow.holds Tryz.pinned (OpenSpec.upto buildTwiceSpec)

/-- 'gudgeonlaw10.BuildLets', WHERE WHAT IT READS IS OF BULK AT MOST 1048576: true; the input reads as it did. -/
def buildLetsUptoRow : OpenClaim := { program := "ytdehdahimkcakaagreatdoor", sum := "b3fd4c200e4a49767110db8bd527126675cd595fc7e7da45aecc58496bff692d", func := "gudgeon/gudgeonlaw10.BuildLets", spec := "buildLets", inPlace := ["internal/abi.NoEscape", "internal/bytealg.IndexByteString", "internal/bytealg.IndexString"], unfollowed := true, recurses := true, named := ["gudgeon/term.asks", "internal/strconv.uint64pow10", "math/bits.deBruijn32tab", "math/bits.deBruijn64tab", "unicode/utf8.first", "unicode/utf8.acceptRanges", "internal/bytealg.MaxLen"], loops := true, apart := false, laid := [("math/bits.deBruijn32tab", laid_math_bits_deBruijn32tab), ("math/bits.deBruijn64tab", laid_math_bits_deBruijn64tab), ("internal/strconv.uint64pow10", laid_internal_strconv_uint64pow10), ("unicode/utf8.acceptRanges", laid_unicode_utf8_acceptRanges), ("gudgeon/term.asks", laid_gudgeon_term_asks), ("unicode/utf8.first", laid_unicode_utf8_first)], narrowed := true }
def BuildLetsUptoSaid : Prop := buildLetsUptoRow.holds Tryz.pinned (OpenSpec.upto buildLetsSpec)

/-- 'gudgeonlaw10.BuildMore', WHERE WHAT IT READS IS OF BULK AT MOST 1048576: true; the input reads as it did. -/
def buildMoreUptoRow : OpenClaim := { program := "ytdehdahimkcakaagreatdoor", sum := "b3fd4c200e4a49767110db8bd527126675cd595fc7e7da45aecc58496bff692d", func := "gudgeon/gudgeonlaw10.BuildMore", spec := "buildMore", inPlace := ["internal/abi.NoEscape", "internal/bytealg.IndexByteString", "internal/bytealg.IndexString"], unfollowed := true, recurses := true, named := ["gudgeon/term.asks", "internal/strconv.uint64pow10", "math/bits.deBruijn32tab", "math/bits.deBruijn64tab", "unicode/utf8.first", "unicode/utf8.acceptRanges", "internal/bytealg.MaxLen"], loops := true, apart := false, laid := [("math/bits.deBruijn32tab", laid_math_bits_deBruijn32tab), ("math/bits.deBruijn64tab", laid_math_bits_deBruijn64tab), ("internal/strconv.uint64pow10", laid_internal_strconv_uint64pow10), ("unicode/utf8.acceptRanges", laid_unicode_utf8_acceptRanges), ("gudgeon/term.asks", laid_gudgeon_term_asks), ("unicode/utf8.first", laid_unicode_utf8_first)], narrowed := true }
def BuildMoreUptoSaid : Prop := buildMoreUptoRow.holds Tryz.pinned (OpenSpec.upto buildMoreSpec)

/-- 'gudgeonlaw12.ShowTerms', WHERE WHAT IT READS IS OF BULK AT MOST 1048576: true; the input reads as it did. -/
def showTermsUptoRow : OpenClaim := { program := "ytdehdahimkcakaagreatdoor", sum := "b3fd4c200e4a49767110db8bd527126675cd595fc7e7da45aecc58496bff692d", func := "gudgeon/gudgeonlaw12.ShowTerms", spec := "showTerms", inPlace := ["internal/bytealg.IndexByteString", "internal/bytealg.IndexString", "internal/abi.NoEscape", "internal/bytealg.CountString", "internal/bytealg.MakeNoZero"], unfollowed := true, recurses := true, named := ["unicode/utf8.first", "unicode/utf8.acceptRanges", "internal/strconv.uint64pow10", "math/bits.deBruijn32tab", "math/bits.deBruijn64tab", "internal/bytealg.MaxLen", "gudgeon/show.names", "gudgeon/term.asks"], apart := false, laid := [("math/bits.deBruijn32tab", laid_math_bits_deBruijn32tab), ("math/bits.deBruijn64tab", laid_math_bits_deBruijn64tab), ("internal/strconv.uint64pow10", laid_internal_strconv_uint64pow10), ("unicode/utf8.acceptRanges", laid_unicode_utf8_acceptRanges), ("gudgeon/term.asks", laid_gudgeon_term_asks), ("gudgeon/show.names", laid_gudgeon_show_names), ("unicode/utf8.first", laid_unicode_utf8_first)], narrowed := true }
def ShowTermsUptoSaid : Prop := showTermsUptoRow.holds Tryz.pinned (OpenSpec.upto showTermsSpec)

/-- 'gudgeonlaw23.StackErrors', WHERE WHAT IT READS IS OF BULK AT MOST 1048576: true; the input reads as it did. -/
def stackErrorsUptoRow : OpenClaim := { program := "ytdehdahimkcakaagreatdoor", sum := "b3fd4c200e4a49767110db8bd527126675cd595fc7e7da45aecc58496bff692d", func := "gudgeon/gudgeonlaw23.StackErrors", spec := "stackErrors", inPlace := ["internal/abi.NoEscape", "internal/bytealg.IndexByteString", "internal/bytealg.IndexString"], unfollowed := true, recurses := true, named := ["gudgeon/term.asks", "internal/strconv.uint64pow10", "math/bits.deBruijn32tab", "math/bits.deBruijn64tab", "unicode/utf8.first", "unicode/utf8.acceptRanges", "internal/bytealg.MaxLen"], loops := true, apart := false, laid := [("math/bits.deBruijn32tab", laid_math_bits_deBruijn32tab), ("math/bits.deBruijn64tab", laid_math_bits_deBruijn64tab), ("internal/strconv.uint64pow10", laid_internal_strconv_uint64pow10), ("unicode/utf8.acceptRanges", laid_unicode_utf8_acceptRanges), ("gudgeon/term.asks", laid_gudgeon_term_asks), ("unicode/utf8.first", laid_unicode_utf8_first)], narrowed := true }
def StackErrorsUptoSaid : Prop := stackErrorsUptoRow.holds Tryz.pinned (OpenSpec.upto stackErrorsSpec)

/-- 'gudgeonlaw23.StackPops', WHERE WHAT IT READS IS OF BULK AT MOST 1048576: true; the input reads as it did. -/
def stackPopsUptoRow : OpenClaim := { program := "ytdehdahimkcakaagreatdoor", sum := "b3fd4c200e4a49767110db8bd527126675cd595fc7e7da45aecc58496bff692d", func := "gudgeon/gudgeonlaw23.StackPops", spec := "stackPops", inPlace := ["internal/abi.NoEscape", "internal/bytealg.IndexByteString", "internal/bytealg.IndexString"], unfollowed := true, recurses := true, named := ["gudgeon/term.asks", "internal/strconv.uint64pow10", "math/bits.deBruijn32tab", "math/bits.deBruijn64tab", "unicode/utf8.first", "unicode/utf8.acceptRanges", "internal/bytealg.MaxLen"], loops := true, apart := false, laid := [("math/bits.deBruijn32tab", laid_math_bits_deBruijn32tab), ("math/bits.deBruijn64tab", laid_math_bits_deBruijn64tab), ("internal/strconv.uint64pow10", laid_internal_strconv_uint64pow10), ("unicode/utf8.acceptRanges", laid_unicode_utf8_acceptRanges), ("gudgeon/term.asks", laid_gudgeon_term_asks), ("unicode/utf8.first", laid_unicode_utf8_first)], narrowed := true }
def StackPopsUptoSaid : Prop := stackPopsUptoRow.holds Tryz.pinned (OpenSpec.upto stackPopsSpec)

/-- 'gudgeonlaw23.StackTerms', WHERE WHAT IT READS IS OF BULK AT MOST 1048576: true; the input reads as it did. -/
def stackTermsUptoRow : OpenClaim := { program := "ytdehdahimkcakaagreatdoor", sum := "b3fd4c200e4a49767110db8bd527126675cd595fc7e7da45aecc58496bff692d", func := "gudgeon/gudgeonlaw23.StackTerms", spec := "stackTerms", inPlace := ["internal/abi.NoEscape", "internal/bytealg.IndexByteString", "internal/bytealg.IndexString"], unfollowed := true, recurses := true, named := ["gudgeon/term.asks", "internal/strconv.uint64pow10", "math/bits.deBruijn32tab", "math/bits.deBruijn64tab", "unicode/utf8.first", "unicode/utf8.acceptRanges", "internal/bytealg.MaxLen"], loops := true, apart := false, laid := [("math/bits.deBruijn32tab", laid_math_bits_deBruijn32tab), ("math/bits.deBruijn64tab", laid_math_bits_deBruijn64tab), ("internal/strconv.uint64pow10", laid_internal_strconv_uint64pow10), ("unicode/utf8.acceptRanges", laid_unicode_utf8_acceptRanges), ("gudgeon/term.asks", laid_gudgeon_term_asks), ("unicode/utf8.first", laid_unicode_utf8_first)], narrowed := true }
def StackTermsUptoSaid : Prop := stackTermsUptoRow.holds Tryz.pinned (OpenSpec.upto stackTermsSpec)

/-- 'gudgeonlaw23.StackNone', WHERE WHAT IT READS IS OF BULK AT MOST 1048576: true; the input reads as it did. -/
def stackNoneUptoRow : OpenClaim := { program := "ytdehdahimkcakaagreatdoor", sum := "b3fd4c200e4a49767110db8bd527126675cd595fc7e7da45aecc58496bff692d", func := "gudgeon/gudgeonlaw23.StackNone", spec := "stackNone", inPlace := ["internal/abi.NoEscape", "internal/bytealg.IndexByteString", "internal/bytealg.IndexString"], unfollowed := true, recurses := true, named := ["gudgeon/term.asks", "internal/strconv.uint64pow10", "math/bits.deBruijn32tab", "math/bits.deBruijn64tab", "unicode/utf8.first", "unicode/utf8.acceptRanges", "internal/bytealg.MaxLen"], loops := true, apart := false, laid := [("math/bits.deBruijn32tab", laid_math_bits_deBruijn32tab), ("math/bits.deBruijn64tab", laid_math_bits_deBruijn64tab), ("internal/strconv.uint64pow10", laid_internal_strconv_uint64pow10), ("unicode/utf8.acceptRanges", laid_unicode_utf8_acceptRanges), ("gudgeon/term.asks", laid_gudgeon_term_asks), ("unicode/utf8.first", laid_unicode_utf8_first)], narrowed := true }
def StackNoneUptoSaid : Prop := stackNoneUptoRow.holds Tryz.pinned (OpenSpec.upto stackNoneSpec)

end Rows
end Go.Proofs.YtdehdahimkcakaaGreatDoor
