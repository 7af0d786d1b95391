/-
  NARROWER THAN 'FOR EVERY INPUT', by the rows' own cells (each row's printed sentence says how): BoxNumbers: loops, laid · BoxKeeps: loops, laid · BoxKnown: laid · LabelJoins: laid · LabelSays: laid · LabelTexts: laid · LabelKnown: laid · LabelLattice: laid · SigPlain: laid · SigFinds: laid · SigKnown: laid.
  DERIVED. THE GIVEN ROWS OF THIS SEAT. 11 by the template 'for every input the law returns true; each argument reads behind the call as it read before'; 0 by the template 'total and deterministic' (their statements: YtnkafagfkblfeaaDoorTotals.lean).
  GIVEN WITH THE SEED: the statements are not yours to turn. If you find one false, say at which input.
  Laid BY PROGRAM, IN A SANDBOX (cutbox-rows.mjs): the forced cells as the released guide's own fill.sh prints them over the translation b8f79e1a99b55ce1… (all of the seat's roots in one cut). By AI agents, Wed Nov 11 2026. No macro, syntax, notation, axiom, sorry.
-/
import Derived.Test.YtnkafagfkblfeaaDoorChecked
import GoSem.PinnedTables
import GoSem.Claim
import GoSem.ClaimJoined
import GoSem.ClaimMapViews
import Derived.JoinedTies
import Derived.KernelRfl
namespace Go.Proofs.YtnkafagfkblfeaaDoor
/- THE CELL 'sum', in the pinned program and in every row, IS THE sha256 OF THE DUMP (.gsa) THAT YtnkafagfkblfeaaDoorProg.lean LOADS. Nothing in Lean hashes anything: it is a label: what it is worth is what the hold of that sum in a sandbox is worth. -/
noncomputable def Tryd.pinned : Pinned := { name := "ytnkafagfkblfeaadoor", sum := "b8f79e1a99b55ce1b8b6bd6ea69566507cc0f0dcf2922c7c99f2afb534e8114c", checked := Tryd.checked }
namespace Rows
def none {H : Type} : Left H := { results := [], args := [] }

/- WHAT THE LISTED PACKAGE-LEVEL VARIABLES READ AS WHEN THE CALL BEGINS. Each datum BY PROGRAM (the guide's laid-datum.mjs) off the statement by which the dump's own 'gosem.cut.vars' lays the variable. In a bare row this is a premise. The card (YtnkafagfkblfeaaDoorCards.lean) ties it to the program's text. -/
def laid_unicode_utf8_acceptRanges {H : Type} : DataW H := .agg [.agg [.lit (.int .u8 128), .lit (.int .u8 191)], .agg [.lit (.int .u8 160), .lit (.int .u8 191)], .agg [.lit (.int .u8 128), .lit (.int .u8 159)], .agg [.lit (.int .u8 144), .lit (.int .u8 191)], .agg [.lit (.int .u8 128), .lit (.int .u8 143)], .agg [.lit (.int .u8 0), .lit (.int .u8 0)], .agg [.lit (.int .u8 0), .lit (.int .u8 0)], .agg [.lit (.int .u8 0), .lit (.int .u8 0)], .agg [.lit (.int .u8 0), .lit (.int .u8 0)], .agg [.lit (.int .u8 0), .lit (.int .u8 0)], .agg [.lit (.int .u8 0), .lit (.int .u8 0)], .agg [.lit (.int .u8 0), .lit (.int .u8 0)], .agg [.lit (.int .u8 0), .lit (.int .u8 0)], .agg [.lit (.int .u8 0), .lit (.int .u8 0)], .agg [.lit (.int .u8 0), .lit (.int .u8 0)], .agg [.lit (.int .u8 0), .lit (.int .u8 0)]]
/-- One of Go's own tables, pinned by name: the form's constant. -/
def laid_unicode_utf8_first : DataW Unit := Go.Pinned.utf8First
def laid_math_bits_deBruijn32tab {H : Type} : DataW H := .agg [.lit (.int .u8 0), .lit (.int .u8 1), .lit (.int .u8 28), .lit (.int .u8 2), .lit (.int .u8 29), .lit (.int .u8 14), .lit (.int .u8 24), .lit (.int .u8 3), .lit (.int .u8 30), .lit (.int .u8 22), .lit (.int .u8 20), .lit (.int .u8 15), .lit (.int .u8 25), .lit (.int .u8 17), .lit (.int .u8 4), .lit (.int .u8 8), .lit (.int .u8 31), .lit (.int .u8 27), .lit (.int .u8 13), .lit (.int .u8 23), .lit (.int .u8 21), .lit (.int .u8 19), .lit (.int .u8 16), .lit (.int .u8 7), .lit (.int .u8 26), .lit (.int .u8 12), .lit (.int .u8 18), .lit (.int .u8 6), .lit (.int .u8 11), .lit (.int .u8 5), .lit (.int .u8 10), .lit (.int .u8 9)]
def laid_math_bits_deBruijn64tab {H : Type} : DataW H := .agg [.lit (.int .u8 0), .lit (.int .u8 1), .lit (.int .u8 56), .lit (.int .u8 2), .lit (.int .u8 57), .lit (.int .u8 49), .lit (.int .u8 28), .lit (.int .u8 3), .lit (.int .u8 61), .lit (.int .u8 58), .lit (.int .u8 42), .lit (.int .u8 50), .lit (.int .u8 38), .lit (.int .u8 29), .lit (.int .u8 17), .lit (.int .u8 4), .lit (.int .u8 62), .lit (.int .u8 47), .lit (.int .u8 59), .lit (.int .u8 36), .lit (.int .u8 45), .lit (.int .u8 43), .lit (.int .u8 51), .lit (.int .u8 22), .lit (.int .u8 53), .lit (.int .u8 39), .lit (.int .u8 33), .lit (.int .u8 30), .lit (.int .u8 24), .lit (.int .u8 18), .lit (.int .u8 12), .lit (.int .u8 5), .lit (.int .u8 63), .lit (.int .u8 55), .lit (.int .u8 48), .lit (.int .u8 27), .lit (.int .u8 60), .lit (.int .u8 41), .lit (.int .u8 37), .lit (.int .u8 16), .lit (.int .u8 46), .lit (.int .u8 35), .lit (.int .u8 44), .lit (.int .u8 21), .lit (.int .u8 52), .lit (.int .u8 32), .lit (.int .u8 23), .lit (.int .u8 11), .lit (.int .u8 54), .lit (.int .u8 26), .lit (.int .u8 40), .lit (.int .u8 15), .lit (.int .u8 34), .lit (.int .u8 20), .lit (.int .u8 31), .lit (.int .u8 10), .lit (.int .u8 25), .lit (.int .u8 14), .lit (.int .u8 19), .lit (.int .u8 9), .lit (.int .u8 13), .lit (.int .u8 8), .lit (.int .u8 7), .lit (.int .u8 6)]
def laid_internal_strconv_uint64pow10 {H : Type} : DataW H := .agg [.lit (.int .u64 1), .lit (.int .u64 10), .lit (.int .u64 100), .lit (.int .u64 1000), .lit (.int .u64 10000), .lit (.int .u64 100000), .lit (.int .u64 1000000), .lit (.int .u64 10000000), .lit (.int .u64 100000000), .lit (.int .u64 1000000000), .lit (.int .u64 10000000000), .lit (.int .u64 100000000000), .lit (.int .u64 1000000000000), .lit (.int .u64 10000000000000), .lit (.int .u64 100000000000000), .lit (.int .u64 1000000000000000), .lit (.int .u64 10000000000000000), .lit (.int .u64 100000000000000000), .lit (.int .u64 1000000000000000000), .lit (.int .u64 10000000000000000000)]

/-- 'sizarlaw24.BoxNumbers': WHATEVER THE INPUT: true; the input reads as it did. -/
def boxNumbersSpec : ChangeSpec := { name := "boxNumbers", fn := fun _ => fun
  | [d1, d2, d3, d4] => { results := [.lit (.bool true)], args := [d1, d2, d3, d4] }
  | _ => none }
def boxNumbersRow : OpenClaim := { program := "ytnkafagfkblfeaadoor", sum := "b8f79e1a99b55ce1b8b6bd6ea69566507cc0f0dcf2922c7c99f2afb534e8114c", func := "sizar/sizarlaw24.BoxNumbers", spec := "boxNumbers", inPlace := ["internal/bytealg.IndexByteString", "internal/bytealg.IndexString"], unfollowed := true, recurses := true, named := ["unicode/utf8.first", "unicode/utf8.acceptRanges", "internal/bytealg.MaxLen"], loops := true, apart := false, laid := [("unicode/utf8.acceptRanges", laid_unicode_utf8_acceptRanges), ("unicode/utf8.first", laid_unicode_utf8_first)] }
def BoxNumbersSaid : Prop := boxNumbersRow.holds Tryd.pinned (OpenSpec.ofChange boxNumbersSpec)

/-- ITS FALSE NEIGHBOUR: 'it returns false'. Refute it at one input. -/
def boxNumbersWrong : ChangeSpec := { name := "boxNumbers", fn := fun _ => fun
  | [d1, d2, d3, d4] => { results := [.lit (.bool false)], args := [d1, d2, d3, d4] }
  | _ => none }
def BoxNumbersWrongFalsely : Prop := boxNumbersRow.holds Tryd.pinned (OpenSpec.ofChange boxNumbersWrong)

/-- 'sizarlaw24.BoxKeeps': WHATEVER THE INPUT: true; the input reads as it did. -/
def boxKeepsSpec : ChangeSpec := { name := "boxKeeps", fn := fun _ => fun
  | [d1, d2] => { results := [.lit (.bool true)], args := [d1, d2] }
  | _ => none }
def boxKeepsRow : OpenClaim := { program := "ytnkafagfkblfeaadoor", sum := "b8f79e1a99b55ce1b8b6bd6ea69566507cc0f0dcf2922c7c99f2afb534e8114c", func := "sizar/sizarlaw24.BoxKeeps", spec := "boxKeeps", inPlace := ["internal/bytealg.IndexByteString", "internal/bytealg.IndexString"], unfollowed := true, recurses := true, named := ["unicode/utf8.first", "unicode/utf8.acceptRanges", "internal/bytealg.MaxLen"], loops := true, apart := false, laid := [("unicode/utf8.acceptRanges", laid_unicode_utf8_acceptRanges), ("unicode/utf8.first", laid_unicode_utf8_first)] }
def BoxKeepsSaid : Prop := boxKeepsRow.holds Tryd.pinned (OpenSpec.ofChange boxKeepsSpec)

/-- ITS FALSE NEIGHBOUR: 'it returns false'. Refute it at one input. -/
def boxKeepsWrong : ChangeSpec := { name := "boxKeeps", fn := fun _ => fun
  | [d1, d2] => { results := [.lit (.bool false)], args := [d1, d2] }
  | _ => none }
def BoxKeepsWrongFalsely : Prop := boxKeepsRow.holds Tryd.pinned (OpenSpec.ofChange boxKeepsWrong)

/-- 'sizarlaw24.BoxKnown': WHATEVER THE INPUT: true; the input reads as it did. -/
def boxKnownSpec : ChangeSpec := { name := "boxKnown", fn := fun _ => fun
  | [] => { results := [.lit (.bool true)], args := [] }
  | _ => none }
def boxKnownRow : OpenClaim := { program := "ytnkafagfkblfeaadoor", sum := "b8f79e1a99b55ce1b8b6bd6ea69566507cc0f0dcf2922c7c99f2afb534e8114c", func := "sizar/sizarlaw24.BoxKnown", spec := "boxKnown", inPlace := ["internal/bytealg.IndexByteString", "internal/bytealg.IndexString"], unfollowed := true, recurses := true, named := ["unicode/utf8.first", "unicode/utf8.acceptRanges", "internal/bytealg.MaxLen"], apart := false, laid := [("unicode/utf8.acceptRanges", laid_unicode_utf8_acceptRanges), ("unicode/utf8.first", laid_unicode_utf8_first)] }
def BoxKnownSaid : Prop := boxKnownRow.holds Tryd.pinned (OpenSpec.ofChange boxKnownSpec)

/-- ITS FALSE NEIGHBOUR: 'it returns false'. Refute it at one input. -/
def boxKnownWrong : ChangeSpec := { name := "boxKnown", fn := fun _ => fun
  | [] => { results := [.lit (.bool false)], args := [] }
  | _ => none }
def BoxKnownWrongFalsely : Prop := boxKnownRow.holds Tryd.pinned (OpenSpec.ofChange boxKnownWrong)

/-- 'sizarlaw1.LabelJoins': WHATEVER THE INPUT: true; the input reads as it did. -/
def labelJoinsSpec : ChangeSpec := { name := "labelJoins", fn := fun _ => fun
  | [d1, d2] => { results := [.lit (.bool true)], args := [d1, d2] }
  | _ => none }
def labelJoinsRow : OpenClaim := { program := "ytnkafagfkblfeaadoor", sum := "b8f79e1a99b55ce1b8b6bd6ea69566507cc0f0dcf2922c7c99f2afb534e8114c", func := "sizar/sizarlaw1.LabelJoins", spec := "labelJoins", inPlace := ["internal/bytealg.IndexByteString", "internal/bytealg.IndexString", "internal/bytealg.CountString", "internal/abi.NoEscape", "internal/bytealg.MakeNoZero"], named := ["unicode/utf8.first", "unicode/utf8.acceptRanges", "internal/bytealg.MaxLen"], apart := false, laid := [("unicode/utf8.acceptRanges", laid_unicode_utf8_acceptRanges), ("unicode/utf8.first", laid_unicode_utf8_first)] }
def LabelJoinsSaid : Prop := labelJoinsRow.holds Tryd.pinned (OpenSpec.ofChange labelJoinsSpec)

/-- ITS FALSE NEIGHBOUR: 'it returns false'. Refute it at one input. -/
def labelJoinsWrong : ChangeSpec := { name := "labelJoins", fn := fun _ => fun
  | [d1, d2] => { results := [.lit (.bool false)], args := [d1, d2] }
  | _ => none }
def LabelJoinsWrongFalsely : Prop := labelJoinsRow.holds Tryd.pinned (OpenSpec.ofChange labelJoinsWrong)

/-- 'sizarlaw1.LabelSays': WHATEVER THE INPUT: true; the input reads as it did. -/
def labelSaysSpec : ChangeSpec := { name := "labelSays", fn := fun _ => fun
  | [d1, d2, d3, d4] => { results := [.lit (.bool true)], args := [d1, d2, d3, d4] }
  | _ => none }
def labelSaysRow : OpenClaim := { program := "ytnkafagfkblfeaadoor", sum := "b8f79e1a99b55ce1b8b6bd6ea69566507cc0f0dcf2922c7c99f2afb534e8114c", func := "sizar/sizarlaw1.LabelSays", spec := "labelSays", inPlace := ["internal/bytealg.IndexByteString", "internal/bytealg.IndexString", "internal/bytealg.CountString", "internal/abi.NoEscape", "internal/bytealg.MakeNoZero"], named := ["unicode/utf8.first", "unicode/utf8.acceptRanges", "internal/bytealg.MaxLen"], apart := false, laid := [("unicode/utf8.acceptRanges", laid_unicode_utf8_acceptRanges), ("unicode/utf8.first", laid_unicode_utf8_first)] }
def LabelSaysSaid : Prop := labelSaysRow.holds Tryd.pinned (OpenSpec.ofChange labelSaysSpec)

/-- ITS FALSE NEIGHBOUR: 'it returns false'. Refute it at one input. -/
def labelSaysWrong : ChangeSpec := { name := "labelSays", fn := fun _ => fun
  | [d1, d2, d3, d4] => { results := [.lit (.bool false)], args := [d1, d2, d3, d4] }
  | _ => none }
def LabelSaysWrongFalsely : Prop := labelSaysRow.holds Tryd.pinned (OpenSpec.ofChange labelSaysWrong)

/-- 'sizarlaw1.LabelTexts': WHATEVER THE INPUT: true; the input reads as it did. -/
def labelTextsSpec : ChangeSpec := { name := "labelTexts", fn := fun _ => fun
  | [d1, d2] => { results := [.lit (.bool true)], args := [d1, d2] }
  | _ => none }
def labelTextsRow : OpenClaim := { program := "ytnkafagfkblfeaadoor", sum := "b8f79e1a99b55ce1b8b6bd6ea69566507cc0f0dcf2922c7c99f2afb534e8114c", func := "sizar/sizarlaw1.LabelTexts", spec := "labelTexts", inPlace := ["internal/bytealg.IndexByteString", "internal/bytealg.IndexString", "internal/bytealg.CountString", "internal/abi.NoEscape", "internal/bytealg.MakeNoZero"], named := ["unicode/utf8.first", "unicode/utf8.acceptRanges", "internal/bytealg.MaxLen"], apart := false, laid := [("unicode/utf8.acceptRanges", laid_unicode_utf8_acceptRanges), ("unicode/utf8.first", laid_unicode_utf8_first)] }
def LabelTextsSaid : Prop := labelTextsRow.holds Tryd.pinned (OpenSpec.ofChange labelTextsSpec)

/-- ITS FALSE NEIGHBOUR: 'it returns false'. Refute it at one input. -/
def labelTextsWrong : ChangeSpec := { name := "labelTexts", fn := fun _ => fun
  | [d1, d2] => { results := [.lit (.bool false)], args := [d1, d2] }
  | _ => none }
def LabelTextsWrongFalsely : Prop := labelTextsRow.holds Tryd.pinned (OpenSpec.ofChange labelTextsWrong)

/-- 'sizarlaw1.LabelKnown': WHATEVER THE INPUT: true; the input reads as it did. -/
def labelKnownSpec : ChangeSpec := { name := "labelKnown", fn := fun _ => fun
  | [] => { results := [.lit (.bool true)], args := [] }
  | _ => none }
def labelKnownRow : OpenClaim := { program := "ytnkafagfkblfeaadoor", sum := "b8f79e1a99b55ce1b8b6bd6ea69566507cc0f0dcf2922c7c99f2afb534e8114c", func := "sizar/sizarlaw1.LabelKnown", spec := "labelKnown", inPlace := ["internal/bytealg.IndexByteString", "internal/bytealg.IndexString", "internal/bytealg.CountString", "internal/abi.NoEscape", "internal/bytealg.MakeNoZero"], named := ["unicode/utf8.first", "unicode/utf8.acceptRanges", "internal/bytealg.MaxLen"], apart := false, laid := [("unicode/utf8.acceptRanges", laid_unicode_utf8_acceptRanges), ("unicode/utf8.first", laid_unicode_utf8_first)] }
def LabelKnownSaid : Prop := labelKnownRow.holds Tryd.pinned (OpenSpec.ofChange labelKnownSpec)

/-- ITS FALSE NEIGHBOUR: 'it returns false'. Refute it at one input. -/
def labelKnownWrong : ChangeSpec := { name := "labelKnown", fn := fun _ => fun
  | [] => { results := [.lit (.bool false)], args := [] }
  | _ => none }
def LabelKnownWrongFalsely : Prop := labelKnownRow.holds Tryd.pinned (OpenSpec.ofChange labelKnownWrong)

/-- 'sizarlaw1.LabelLattice': WHATEVER THE INPUT: true; the input reads as it did. -/
def labelLatticeSpec : ChangeSpec := { name := "labelLattice", fn := fun _ => fun
  | [d1, d2, d3] => { results := [.lit (.bool true)], args := [d1, d2, d3] }
  | _ => none }
def labelLatticeRow : OpenClaim := { program := "ytnkafagfkblfeaadoor", sum := "b8f79e1a99b55ce1b8b6bd6ea69566507cc0f0dcf2922c7c99f2afb534e8114c", func := "sizar/sizarlaw1.LabelLattice", spec := "labelLattice", inPlace := ["internal/bytealg.IndexByteString", "internal/bytealg.IndexString", "internal/bytealg.CountString", "internal/abi.NoEscape", "internal/bytealg.MakeNoZero"], named := ["unicode/utf8.first", "unicode/utf8.acceptRanges", "internal/bytealg.MaxLen"], apart := false, laid := [("unicode/utf8.acceptRanges", laid_unicode_utf8_acceptRanges), ("unicode/utf8.first", laid_unicode_utf8_first)] }
def LabelLatticeSaid : Prop := labelLatticeRow.holds Tryd.pinned (OpenSpec.ofChange labelLatticeSpec)

/-- ITS FALSE NEIGHBOUR: 'it returns false'. Refute it at one input. -/
def labelLatticeWrong : ChangeSpec := { name := "labelLattice", fn := fun _ => fun
  | [d1, d2, d3] => { results := [.lit (.bool false)], args := [d1, d2, d3] }
  | _ => none }
def LabelLatticeWrongFalsely : Prop := labelLatticeRow.holds Tryd.pinned (OpenSpec.ofChange labelLatticeWrong)

/-- 'sizarlaw17.SigPlain': WHATEVER THE INPUT: true; the input reads as it did. -/
def sigPlainSpec : ChangeSpec := { name := "sigPlain", fn := fun _ => fun
  | [d1, d2] => { results := [.lit (.bool true)], args := [d1, d2] }
  | _ => none }
def sigPlainRow : OpenClaim := { program := "ytnkafagfkblfeaadoor", sum := "b8f79e1a99b55ce1b8b6bd6ea69566507cc0f0dcf2922c7c99f2afb534e8114c", func := "sizar/sizarlaw17.SigPlain", spec := "sigPlain", inPlace := ["internal/bytealg.IndexByteString", "internal/bytealg.IndexString"], unfollowed := true, recurses := true, named := ["unicode/utf8.first", "unicode/utf8.acceptRanges", "internal/bytealg.MaxLen", "internal/strconv.uint64pow10", "math/bits.deBruijn32tab", "math/bits.deBruijn64tab"], apart := false, laid := [("math/bits.deBruijn32tab", laid_math_bits_deBruijn32tab), ("math/bits.deBruijn64tab", laid_math_bits_deBruijn64tab), ("internal/strconv.uint64pow10", laid_internal_strconv_uint64pow10), ("unicode/utf8.acceptRanges", laid_unicode_utf8_acceptRanges), ("unicode/utf8.first", laid_unicode_utf8_first)] }
def SigPlainSaid : Prop := sigPlainRow.holds Tryd.pinned (OpenSpec.ofChange sigPlainSpec)

/-- ITS FALSE NEIGHBOUR: 'it returns false'. Refute it at one input. -/
def sigPlainWrong : ChangeSpec := { name := "sigPlain", fn := fun _ => fun
  | [d1, d2] => { results := [.lit (.bool false)], args := [d1, d2] }
  | _ => none }
def SigPlainWrongFalsely : Prop := sigPlainRow.holds Tryd.pinned (OpenSpec.ofChange sigPlainWrong)

/-- 'sizarlaw17.SigFinds': WHATEVER THE INPUT: true; the input reads as it did. -/
def sigFindsSpec : ChangeSpec := { name := "sigFinds", fn := fun _ => fun
  | [d1, d2, d3] => { results := [.lit (.bool true)], args := [d1, d2, d3] }
  | _ => none }
def sigFindsRow : OpenClaim := { program := "ytnkafagfkblfeaadoor", sum := "b8f79e1a99b55ce1b8b6bd6ea69566507cc0f0dcf2922c7c99f2afb534e8114c", func := "sizar/sizarlaw17.SigFinds", spec := "sigFinds", inPlace := ["internal/bytealg.IndexByteString", "internal/bytealg.IndexString"], unfollowed := true, recurses := true, named := ["unicode/utf8.first", "unicode/utf8.acceptRanges", "internal/bytealg.MaxLen", "internal/strconv.uint64pow10", "math/bits.deBruijn32tab", "math/bits.deBruijn64tab"], apart := false, laid := [("math/bits.deBruijn32tab", laid_math_bits_deBruijn32tab), ("math/bits.deBruijn64tab", laid_math_bits_deBruijn64tab), ("internal/strconv.uint64pow10", laid_internal_strconv_uint64pow10), ("unicode/utf8.acceptRanges", laid_unicode_utf8_acceptRanges), ("unicode/utf8.first", laid_unicode_utf8_first)] }
def SigFindsSaid : Prop := sigFindsRow.holds Tryd.pinned (OpenSpec.ofChange sigFindsSpec)

/-- ITS FALSE NEIGHBOUR: 'it returns false'. Refute it at one input. -/
def sigFindsWrong : ChangeSpec := { name := "sigFinds", fn := fun _ => fun
  | [d1, d2, d3] => { results := [.lit (.bool false)], args := [d1, d2, d3] }
  | _ => none }
def SigFindsWrongFalsely : Prop := sigFindsRow.holds Tryd.pinned (OpenSpec.ofChange sigFindsWrong)

/-- 'sizarlaw17.SigKnown': WHATEVER THE INPUT: true; the input reads as it did. -/
def sigKnownSpec : ChangeSpec := { name := "sigKnown", fn := fun _ => fun
  | [] => { results := [.lit (.bool true)], args := [] }
  | _ => none }
def sigKnownRow : OpenClaim := { program := "ytnkafagfkblfeaadoor", sum := "b8f79e1a99b55ce1b8b6bd6ea69566507cc0f0dcf2922c7c99f2afb534e8114c", func := "sizar/sizarlaw17.SigKnown", spec := "sigKnown", inPlace := ["internal/bytealg.IndexByteString", "internal/bytealg.IndexString"], unfollowed := true, recurses := true, named := ["unicode/utf8.first", "unicode/utf8.acceptRanges", "internal/bytealg.MaxLen", "internal/strconv.uint64pow10", "math/bits.deBruijn32tab", "math/bits.deBruijn64tab"], apart := false, laid := [("math/bits.deBruijn32tab", laid_math_bits_deBruijn32tab), ("math/bits.deBruijn64tab", laid_math_bits_deBruijn64tab), ("internal/strconv.uint64pow10", laid_internal_strconv_uint64pow10), ("unicode/utf8.acceptRanges", laid_unicode_utf8_acceptRanges), ("unicode/utf8.first", laid_unicode_utf8_first)] }
def SigKnownSaid : Prop := sigKnownRow.holds Tryd.pinned (OpenSpec.ofChange sigKnownSpec)

/-- ITS FALSE NEIGHBOUR: 'it returns false'. Refute it at one input. -/
def sigKnownWrong : ChangeSpec := { name := "sigKnown", fn := fun _ => fun
  | [] => { results := [.lit (.bool false)], args := [] }
  | _ => none }
def SigKnownWrongFalsely : Prop := sigKnownRow.holds Tryd.pinned (OpenSpec.ofChange sigKnownWrong)

/- THE SECOND FORM. 'bulk': how many values and letters a reading holds, each counted each time it is reached (what is shared counts as often as it is met; a slice's spare places count too). A statement '..UptoSaid' is the law's where the arguments, and the package variables that the reading takes, are together of bulk at most 1048576: NARROWER than '..Said'. Prove '..Said' where nothing that the law and all that it calls make is longer than what came in: it says more and counts as full. Else prove '..UptoSaid'. A law counts once. -/
mutual
def uptoBulk {H : Type} : DataW H → Nat
  | .lit (.string bytes) => bytes.length + 1
  | .lit _ => 1
  | .nil => 1
  | .ptr d => uptoBulk d + 1
  | .slice elems spare => uptoBulkAll elems + uptoBulkAll spare + 1
  | .agg parts => uptoBulkAll parts + 1
  | .iface _ d => uptoBulk d + 1
  | .map entries => uptoBulkEntries entries + 1
  | .held _ => 1
def uptoBulkAll {H : Type} : List (DataW H) → Nat
  | [] => 0
  | d :: r => uptoBulk d + uptoBulkAll r
def uptoBulkEntries {H : Type} : List (Lit × DataW H) → Nat
  | [] => 0
  | x :: r => uptoBulkEntry x + uptoBulkEntries r
def uptoBulkEntry {H : Type} : Lit × DataW H → Nat
  | (.string bytes, d) => bytes.length + uptoBulk d + 1
  | (_, d) => uptoBulk d + 1
 end
def uptoSmall : (H : Type) → List (DataW H) → Bool := fun _ ds => decide (uptoBulkAll ds ≤ 1048576)
def OpenSpec.upto (s : _root_.Go.ChangeSpec) : _root_.Go.OpenSpec := { _root_.Go.OpenSpec.ofChange s with cond := some uptoSmall }

/-- 'sizarlaw24.BoxNumbers', WHERE WHAT IT READS IS OF BULK AT MOST 1048576: true; the input reads as it did. -/
def boxNumbersUptoRow : OpenClaim := { program := "ytnkafagfkblfeaadoor", sum := "b8f79e1a99b55ce1b8b6bd6ea69566507cc0f0dcf2922c7c99f2afb534e8114c", func := "sizar/sizarlaw24.BoxNumbers", spec := "boxNumbers", inPlace := ["internal/bytealg.IndexByteString", "internal/bytealg.IndexString"], unfollowed := true, recurses := true, named := ["unicode/utf8.first", "unicode/utf8.acceptRanges", "internal/bytealg.MaxLen"], loops := true, apart := false, laid := [("unicode/utf8.acceptRanges", laid_unicode_utf8_acceptRanges), ("unicode/utf8.first", laid_unicode_utf8_first)], narrowed := true }
def BoxNumbersUptoSaid : Prop := boxNumbersUptoRow.holds Tryd.pinned (OpenSpec.upto boxNumbersSpec)

/-- 'sizarlaw24.BoxKeeps', WHERE WHAT IT READS IS OF BULK AT MOST 1048576: true; the input reads as it did. -/
def boxKeepsUptoRow : OpenClaim := { program := "ytnkafagfkblfeaadoor", sum := "b8f79e1a99b55ce1b8b6bd6ea69566507cc0f0dcf2922c7c99f2afb534e8114c", func := "sizar/sizarlaw24.BoxKeeps", spec := "boxKeeps", inPlace := ["internal/bytealg.IndexByteString", "internal/bytealg.IndexString"], unfollowed := true, recurses := true, named := ["unicode/utf8.first", "unicode/utf8.acceptRanges", "internal/bytealg.MaxLen"], loops := true, apart := false, laid := [("unicode/utf8.acceptRanges", laid_unicode_utf8_acceptRanges), ("unicode/utf8.first", laid_unicode_utf8_first)], narrowed := true }
def BoxKeepsUptoSaid : Prop := boxKeepsUptoRow.holds Tryd.pinned (OpenSpec.upto boxKeepsSpec)

/-- 'sizarlaw24.BoxKnown', WHERE WHAT IT READS IS OF BULK AT MOST 1048576: true; the input reads as it did. -/
def boxKnownUptoRow : OpenClaim := { program := "ytnkafagfkblfeaadoor", sum := "b8f79e1a99b55ce1b8b6bd6ea69566507cc0f0dcf2922c7c99f2afb534e8114c", func := "sizar/sizarlaw24.BoxKnown", spec := "boxKnown", inPlace := ["internal/bytealg.IndexByteString", "internal/bytealg.IndexString"], unfollowed := true, recurses := true, named := ["unicode/utf8.first", "unicode/utf8.acceptRanges", "internal/bytealg.MaxLen"], apart := false, laid := [("unicode/utf8.acceptRanges", laid_unicode_utf8_acceptRanges), ("unicode/utf8.first", laid_unicode_utf8_first)], narrowed := true }
def BoxKnownUptoSaid : Prop := boxKnownUptoRow.holds Tryd.pinned (OpenSpec.upto boxKnownSpec)

/-- 'sizarlaw1.LabelJoins', WHERE WHAT IT READS IS OF BULK AT MOST 1048576: true; the input reads as it did. -/
def labelJoinsUptoRow : OpenClaim := { program := "ytnkafagfkblfeaadoor", sum := "b8f79e1a99b55ce1b8b6bd6ea69566507cc0f0dcf2922c7c99f2afb534e8114c", func := "sizar/sizarlaw1.LabelJoins", spec := "labelJoins", inPlace := ["internal/bytealg.IndexByteString", "internal/bytealg.IndexString", "internal/bytealg.CountString", "internal/abi.NoEscape", "internal/bytealg.MakeNoZero"], named := ["unicode/utf8.first", "unicode/utf8.acceptRanges", "internal/bytealg.MaxLen"], apart := false, laid := [("unicode/utf8.acceptRanges", laid_unicode_utf8_acceptRanges), ("unicode/utf8.first", laid_unicode_utf8_first)], narrowed := true }
def LabelJoinsUptoSaid : Prop := labelJoinsUptoRow.holds Tryd.pinned (OpenSpec.upto labelJoinsSpec)

/-- 'sizarlaw1.LabelSays', WHERE WHAT IT READS IS OF BULK AT MOST 1048576: true; the input reads as it did. -/
def labelSaysUptoRow : OpenClaim := { program := "ytnkafagfkblfeaadoor", sum := "b8f79e1a99b55ce1b8b6bd6ea69566507cc0f0dcf2922c7c99f2afb534e8114c", func := "sizar/sizarlaw1.LabelSays", spec := "labelSays", inPlace := ["internal/bytealg.IndexByteString", "internal/bytealg.IndexString", "internal/bytealg.CountString", "internal/abi.NoEscape", "internal/bytealg.MakeNoZero"], named := ["unicode/utf8.first", "unicode/utf8.acceptRanges", "internal/bytealg.MaxLen"], apart := false, laid := [("unicode/utf8.acceptRanges", laid_unicode_utf8_acceptRanges), ("unicode/utf8.first", laid_unicode_utf8_first)], narrowed := true }
def LabelSaysUptoSaid : Prop := labelSaysUptoRow.holds Tryd.pinned (OpenSpec.upto labelSaysSpec)

/-- 'sizarlaw1.LabelTexts', WHERE WHAT IT READS IS OF BULK AT MOST 1048576: true; the input reads as it did. -/
def labelTextsUptoRow : OpenClaim := { program := "ytnkafagfkblfeaadoor", sum := "b8f79e1a99b55ce1b8b6bd6ea69566507cc0f0dcf2922c7c99f2afb534e8114c", func := "sizar/sizarlaw1.LabelTexts", spec := "labelTexts", inPlace := ["internal/bytealg.IndexByteString", "internal/bytealg.IndexString", "internal/bytealg.CountString", "internal/abi.NoEscape", "internal/bytealg.MakeNoZero"], named := ["unicode/utf8.first", "unicode/utf8.acceptRanges", "internal/bytealg.MaxLen"], apart := false, laid := [("unicode/utf8.acceptRanges", laid_unicode_utf8_acceptRanges), ("unicode/utf8.first", laid_unicode_utf8_first)], narrowed := true }
def LabelTextsUptoSaid : Prop := labelTextsUptoRow.holds Tryd.pinned (OpenSpec.upto labelTextsSpec)

/-- 'sizarlaw1.LabelKnown', WHERE WHAT IT READS IS OF BULK AT MOST 1048576: true; the input reads as it did. -/
def labelKnownUptoRow : OpenClaim := { program := "ytnkafagfkblfeaadoor", sum := "b8f79e1a99b55ce1b8b6bd6ea69566507cc0f0dcf2922c7c99f2afb534e8114c", func := "sizar/sizarlaw1.LabelKnown", spec := "labelKnown", inPlace := ["internal/bytealg.IndexByteString", "internal/bytealg.IndexString", "internal/bytealg.CountString", "internal/abi.NoEscape", "internal/bytealg.MakeNoZero"], named := ["unicode/utf8.first", "unicode/utf8.acceptRanges", "internal/bytealg.MaxLen"], apart := false, laid := [("unicode/utf8.acceptRanges", laid_unicode_utf8_acceptRanges), ("unicode/utf8.first", laid_unicode_utf8_first)], narrowed := true }
def LabelKnownUptoSaid : Prop := labelKnownUptoRow.holds Tryd.pinned (OpenSpec.upto labelKnownSpec)

/-- 'sizarlaw1.LabelLattice', WHERE WHAT IT READS IS OF BULK AT MOST 1048576: true; the input reads as it did. -/
def labelLatticeUptoRow : OpenClaim := { program := "ytnkafagfkblfeaadoor", sum := "b8f79e1a99b55ce1b8b6bd6ea69566507cc0f0dcf2922c7c99f2afb534e8114c", func := "sizar/sizarlaw1.LabelLattice", spec := "labelLattice", inPlace := ["internal/bytealg.IndexByteString", "internal/bytealg.IndexString", "internal/bytealg.CountString", "internal/abi.NoEscape", "internal/bytealg.MakeNoZero"], named := ["unicode/utf8.first", "unicode/utf8.acceptRanges", "internal/bytealg.MaxLen"], apart := false, laid := [("unicode/utf8.acceptRanges", laid_unicode_utf8_acceptRanges), ("unicode/utf8.first", laid_unicode_utf8_first)], narrowed := true }
def LabelLatticeUptoSaid : Prop := labelLatticeUptoRow.holds Tryd.pinned (OpenSpec.upto labelLatticeSpec)

/-- 'sizarlaw17.SigPlain', WHERE WHAT IT READS IS OF BULK AT MOST 1048576: true; the input reads as it did. -/
def sigPlainUptoRow : OpenClaim := { program := "ytnkafagfkblfeaadoor", sum := "b8f79e1a99b55ce1b8b6bd6ea69566507cc0f0dcf2922c7c99f2afb534e8114c", func := "sizar/sizarlaw17.SigPlain", spec := "sigPlain", inPlace := ["internal/bytealg.IndexByteString", "internal/bytealg.IndexString"], unfollowed := true, recurses := true, named := ["unicode/utf8.first", "unicode/utf8.acceptRanges", "internal/bytealg.MaxLen", "internal/strconv.uint64pow10", "math/bits.deBruijn32tab", "math/bits.deBruijn64tab"], apart := false, laid := [("math/bits.deBruijn32tab", laid_math_bits_deBruijn32tab), ("math/bits.deBruijn64tab", laid_math_bits_deBruijn64tab), ("internal/strconv.uint64pow10", laid_internal_strconv_uint64pow10), ("unicode/utf8.acceptRanges", laid_unicode_utf8_acceptRanges), ("unicode/utf8.first", laid_unicode_utf8_first)], narrowed := true }
def SigPlainUptoSaid : Prop := sigPlainUptoRow.holds Tryd.pinned (OpenSpec.upto sigPlainSpec)

/-- 'sizarlaw17.SigFinds', WHERE WHAT IT READS IS OF BULK AT MOST 1048576: true; the input reads as it did. -/
def sigFindsUptoRow : OpenClaim := { program := "ytnkafagfkblfeaadoor", sum := "b8f79e1a99b55ce1b8b6bd6ea69566507cc0f0dcf2922c7c99f2afb534e8114c", func := "sizar/sizarlaw17.SigFinds", spec := "sigFinds", inPlace := ["internal/bytealg.IndexByteString", "internal/bytealg.IndexString"], unfollowed := true, recurses := true, named := ["unicode/utf8.first", "unicode/utf8.acceptRanges", "internal/bytealg.MaxLen", "internal/strconv.uint64pow10", "math/bits.deBruijn32tab", "math/bits.deBruijn64tab"], apart := false, laid := [("math/bits.deBruijn32tab", laid_math_bits_deBruijn32tab), ("math/bits.deBruijn64tab", laid_math_bits_deBruijn64tab), ("internal/strconv.uint64pow10", laid_internal_strconv_uint64pow10), ("unicode/utf8.acceptRanges", laid_unicode_utf8_acceptRanges), ("unicode/utf8.first", laid_unicode_utf8_first)], narrowed := true }
def SigFindsUptoSaid : Prop := sigFindsUptoRow.holds Tryd.pinned (OpenSpec.upto sigFindsSpec)

/-- 'sizarlaw17.SigKnown', WHERE WHAT IT READS IS OF BULK AT MOST 1048576: true; the input reads as it did. -/
def sigKnownUptoRow : OpenClaim := { program := "ytnkafagfkblfeaadoor", sum := "b8f79e1a99b55ce1b8b6bd6ea69566507cc0f0dcf2922c7c99f2afb534e8114c", func := "sizar/sizarlaw17.SigKnown", spec := "sigKnown", inPlace := ["internal/bytealg.IndexByteString", "internal/bytealg.IndexString"], unfollowed := true, recurses := true, named := ["unicode/utf8.first", "unicode/utf8.acceptRanges", "internal/bytealg.MaxLen", "internal/strconv.uint64pow10", "math/bits.deBruijn32tab", "math/bits.deBruijn64tab"], apart := false, laid := [("math/bits.deBruijn32tab", laid_math_bits_deBruijn32tab), ("math/bits.deBruijn64tab", laid_math_bits_deBruijn64tab), ("internal/strconv.uint64pow10", laid_internal_strconv_uint64pow10), ("unicode/utf8.acceptRanges", laid_unicode_utf8_acceptRanges), ("unicode/utf8.first", laid_unicode_utf8_first)], narrowed := true }
def SigKnownUptoSaid : Prop := sigKnownUptoRow.holds Tryd.pinned (OpenSpec.upto sigKnownSpec)

end Rows
end Go.Proofs.YtnkafagfkblfeaaDoor
