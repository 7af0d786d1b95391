/-
  DERIVED. GIVEN WITH THE SEED: THE CARDS: each row of YtnkafagfkblfeaaDoorRows.lean that lists a variable, with what it lists TIED to the program's text (the seventh form; the later family's looks); each row that meets fmt, with fmt's text TOLD by the authors' own Lean function (tested against real Go, not proved from fmt's source: count such statements apart). THE CARD IS WHAT COUNTS. Prove the row's statement (the work); the ties are given (YtnkafagfkblfeaaDoorTie.lean); close each card by the builder's one call (the guide's Derived/Test/ToyasCard.lean, 'card_holds'). Laid BY PROGRAM, IN A SANDBOX (cutbox-door.mjs). By AI agents, Wed Nov 11 2026. No macro, syntax, notation, axiom, sorry.
-/
import Derived.Test.YtnkafagfkblfeaaDoorRows
import GoSem.ClaimSeven
namespace Go.Proofs.YtnkafagfkblfeaaDoor
namespace Rows

/-- THE TIED CARD OF 'sizarlaw24.BoxNumbers'. -/
def boxNumbersCard : Claim7 := { stood := { row := boxNumbersRow, standIns := [], harness := (true, "2a7a2762f4821b439de19dcb19480a1f522d1778728198f2f129fc29a4128cf6"), looks := false }, kinds := [], alts := [], laidByText := true, laidKinds := [.data, .pinned], laidTests := true, laidLooks := .later }
def BoxNumbersCardSaid : Prop := Claim7.holds Tryd.pinned (.plain (OpenSpec.ofChange boxNumbersSpec)) boxNumbersCard

/-- THE TIED CARD OF 'sizarlaw24.BoxKeeps'. -/
def boxKeepsCard : Claim7 := { stood := { row := boxKeepsRow, standIns := [], harness := (true, "2a7a2762f4821b439de19dcb19480a1f522d1778728198f2f129fc29a4128cf6"), looks := false }, kinds := [], alts := [], laidByText := true, laidKinds := [.data, .pinned], laidTests := true, laidLooks := .later }
def BoxKeepsCardSaid : Prop := Claim7.holds Tryd.pinned (.plain (OpenSpec.ofChange boxKeepsSpec)) boxKeepsCard

/-- THE TIED CARD OF 'sizarlaw24.BoxKnown'. -/
def boxKnownCard : Claim7 := { stood := { row := boxKnownRow, standIns := [], harness := (true, "2a7a2762f4821b439de19dcb19480a1f522d1778728198f2f129fc29a4128cf6"), looks := false }, kinds := [], alts := [], laidByText := true, laidKinds := [.data, .pinned], laidTests := true, laidLooks := .later }
def BoxKnownCardSaid : Prop := Claim7.holds Tryd.pinned (.plain (OpenSpec.ofChange boxKnownSpec)) boxKnownCard

/-- THE TIED CARD OF 'sizarlaw1.LabelJoins'. -/
def labelJoinsCard : Claim7 := { stood := { row := labelJoinsRow, standIns := [], harness := (true, "2a7a2762f4821b439de19dcb19480a1f522d1778728198f2f129fc29a4128cf6"), looks := false }, kinds := [], alts := [], laidByText := true, laidKinds := [.data, .pinned], laidTests := true, laidLooks := .later }
def LabelJoinsCardSaid : Prop := Claim7.holds Tryd.pinned (.plain (OpenSpec.ofChange labelJoinsSpec)) labelJoinsCard

/-- THE TIED CARD OF 'sizarlaw1.LabelSays'. -/
def labelSaysCard : Claim7 := { stood := { row := labelSaysRow, standIns := [], harness := (true, "2a7a2762f4821b439de19dcb19480a1f522d1778728198f2f129fc29a4128cf6"), looks := false }, kinds := [], alts := [], laidByText := true, laidKinds := [.data, .pinned], laidTests := true, laidLooks := .later }
def LabelSaysCardSaid : Prop := Claim7.holds Tryd.pinned (.plain (OpenSpec.ofChange labelSaysSpec)) labelSaysCard

/-- THE TIED CARD OF 'sizarlaw1.LabelTexts'. -/
def labelTextsCard : Claim7 := { stood := { row := labelTextsRow, standIns := [], harness := (true, "2a7a2762f4821b439de19dcb19480a1f522d1778728198f2f129fc29a4128cf6"), looks := false }, kinds := [], alts := [], laidByText := true, laidKinds := [.data, .pinned], laidTests := true, laidLooks := .later }
def LabelTextsCardSaid : Prop := Claim7.holds Tryd.pinned (.plain (OpenSpec.ofChange labelTextsSpec)) labelTextsCard

/-- THE TIED CARD OF 'sizarlaw1.LabelKnown'. -/
def labelKnownCard : Claim7 := { stood := { row := labelKnownRow, standIns := [], harness := (true, "2a7a2762f4821b439de19dcb19480a1f522d1778728198f2f129fc29a4128cf6"), looks := false }, kinds := [], alts := [], laidByText := true, laidKinds := [.data, .pinned], laidTests := true, laidLooks := .later }
def LabelKnownCardSaid : Prop := Claim7.holds Tryd.pinned (.plain (OpenSpec.ofChange labelKnownSpec)) labelKnownCard

/-- THE TIED CARD OF 'sizarlaw1.LabelLattice'. -/
def labelLatticeCard : Claim7 := { stood := { row := labelLatticeRow, standIns := [], harness := (true, "2a7a2762f4821b439de19dcb19480a1f522d1778728198f2f129fc29a4128cf6"), looks := false }, kinds := [], alts := [], laidByText := true, laidKinds := [.data, .pinned], laidTests := true, laidLooks := .later }
def LabelLatticeCardSaid : Prop := Claim7.holds Tryd.pinned (.plain (OpenSpec.ofChange labelLatticeSpec)) labelLatticeCard

/-- THE TIED CARD OF 'sizarlaw17.SigPlain'. -/
def sigPlainCard : Claim7 := { stood := { row := sigPlainRow, standIns := [], harness := (true, "2a7a2762f4821b439de19dcb19480a1f522d1778728198f2f129fc29a4128cf6"), looks := false }, kinds := [], alts := [], laidByText := true, laidKinds := [.data, .data, .data, .data, .pinned], laidTests := true, laidLooks := .later }
def SigPlainCardSaid : Prop := Claim7.holds Tryd.pinned (.plain (OpenSpec.ofChange sigPlainSpec)) sigPlainCard

/-- THE TIED CARD OF 'sizarlaw17.SigFinds'. -/
def sigFindsCard : Claim7 := { stood := { row := sigFindsRow, standIns := [], harness := (true, "2a7a2762f4821b439de19dcb19480a1f522d1778728198f2f129fc29a4128cf6"), looks := false }, kinds := [], alts := [], laidByText := true, laidKinds := [.data, .data, .data, .data, .pinned], laidTests := true, laidLooks := .later }
def SigFindsCardSaid : Prop := Claim7.holds Tryd.pinned (.plain (OpenSpec.ofChange sigFindsSpec)) sigFindsCard

/-- THE TIED CARD OF 'sizarlaw17.SigKnown'. -/
def sigKnownCard : Claim7 := { stood := { row := sigKnownRow, standIns := [], harness := (true, "2a7a2762f4821b439de19dcb19480a1f522d1778728198f2f129fc29a4128cf6"), looks := false }, kinds := [], alts := [], laidByText := true, laidKinds := [.data, .data, .data, .data, .pinned], laidTests := true, laidLooks := .later }
def SigKnownCardSaid : Prop := Claim7.holds Tryd.pinned (.plain (OpenSpec.ofChange sigKnownSpec)) sigKnownCard

/-- THE SECOND FORM's CARD OF 'sizarlaw24.BoxNumbers'. -/
def boxNumbersUptoCard : Claim7 := { stood := { row := boxNumbersUptoRow, standIns := [], harness := (true, "2a7a2762f4821b439de19dcb19480a1f522d1778728198f2f129fc29a4128cf6"), looks := false }, kinds := [], alts := [], laidByText := true, laidKinds := [.data, .pinned], laidTests := true, laidLooks := .later }
def BoxNumbersUptoCardSaid : Prop := Claim7.holds Tryd.pinned (.plain (OpenSpec.upto boxNumbersSpec)) boxNumbersUptoCard

/-- THE SECOND FORM's CARD OF 'sizarlaw24.BoxKeeps'. -/
def boxKeepsUptoCard : Claim7 := { stood := { row := boxKeepsUptoRow, standIns := [], harness := (true, "2a7a2762f4821b439de19dcb19480a1f522d1778728198f2f129fc29a4128cf6"), looks := false }, kinds := [], alts := [], laidByText := true, laidKinds := [.data, .pinned], laidTests := true, laidLooks := .later }
def BoxKeepsUptoCardSaid : Prop := Claim7.holds Tryd.pinned (.plain (OpenSpec.upto boxKeepsSpec)) boxKeepsUptoCard

/-- THE SECOND FORM's CARD OF 'sizarlaw24.BoxKnown'. -/
def boxKnownUptoCard : Claim7 := { stood := { row := boxKnownUptoRow, standIns := [], harness := (true, "2a7a2762f4821b439de19dcb19480a1f522d1778728198f2f129fc29a4128cf6"), looks := false }, kinds := [], alts := [], laidByText := true, laidKinds := [.data, .pinned], laidTests := true, laidLooks := .later }
def BoxKnownUptoCardSaid : Prop := Claim7.holds Tryd.pinned (.plain (OpenSpec.upto boxKnownSpec)) boxKnownUptoCard

/-- THE SECOND FORM's CARD OF 'sizarlaw1.LabelJoins'. -/
def labelJoinsUptoCard : Claim7 := { stood := { row := labelJoinsUptoRow, standIns := [], harness := (true, "2a7a2762f4821b439de19dcb19480a1f522d1778728198f2f129fc29a4128cf6"), looks := false }, kinds := [], alts := [], laidByText := true, laidKinds := [.data, .pinned], laidTests := true, laidLooks := .later }
def LabelJoinsUptoCardSaid : Prop := Claim7.holds Tryd.pinned (.plain (OpenSpec.upto labelJoinsSpec)) labelJoinsUptoCard

/-- THE SECOND FORM's CARD OF 'sizarlaw1.LabelSays'. -/
def labelSaysUptoCard : Claim7 := { stood := { row := labelSaysUptoRow, standIns := [], harness := (true, "2a7a2762f4821b439de19dcb19480a1f522d1778728198f2f129fc29a4128cf6"), looks := false }, kinds := [], alts := [], laidByText := true, laidKinds := [.data, .pinned], laidTests := true, laidLooks := .later }
def LabelSaysUptoCardSaid : Prop := Claim7.holds Tryd.pinned (.plain (OpenSpec.upto labelSaysSpec)) labelSaysUptoCard

/-- THE SECOND FORM's CARD OF 'sizarlaw1.LabelTexts'. -/
def labelTextsUptoCard : Claim7 := { stood := { row := labelTextsUptoRow, standIns := [], harness := (true, "2a7a2762f4821b439de19dcb19480a1f522d1778728198f2f129fc29a4128cf6"), looks := false }, kinds := [], alts := [], laidByText := true, laidKinds := [.data, .pinned], laidTests := true, laidLooks := .later }
def LabelTextsUptoCardSaid : Prop := Claim7.holds Tryd.pinned (.plain (OpenSpec.upto labelTextsSpec)) labelTextsUptoCard

/-- THE SECOND FORM's CARD OF 'sizarlaw1.LabelKnown'. -/
def labelKnownUptoCard : Claim7 := { stood := { row := labelKnownUptoRow, standIns := [], harness := (true, "2a7a2762f4821b439de19dcb19480a1f522d1778728198f2f129fc29a4128cf6"), looks := false }, kinds := [], alts := [], laidByText := true, laidKinds := [.data, .pinned], laidTests := true, laidLooks := .later }
def LabelKnownUptoCardSaid : Prop := Claim7.holds Tryd.pinned (.plain (OpenSpec.upto labelKnownSpec)) labelKnownUptoCard

/-- THE SECOND FORM's CARD OF 'sizarlaw1.LabelLattice'. -/
def labelLatticeUptoCard : Claim7 := { stood := { row := labelLatticeUptoRow, standIns := [], harness := (true, "2a7a2762f4821b439de19dcb19480a1f522d1778728198f2f129fc29a4128cf6"), looks := false }, kinds := [], alts := [], laidByText := true, laidKinds := [.data, .pinned], laidTests := true, laidLooks := .later }
def LabelLatticeUptoCardSaid : Prop := Claim7.holds Tryd.pinned (.plain (OpenSpec.upto labelLatticeSpec)) labelLatticeUptoCard

/-- THE SECOND FORM's CARD OF 'sizarlaw17.SigPlain'. -/
def sigPlainUptoCard : Claim7 := { stood := { row := sigPlainUptoRow, standIns := [], harness := (true, "2a7a2762f4821b439de19dcb19480a1f522d1778728198f2f129fc29a4128cf6"), looks := false }, kinds := [], alts := [], laidByText := true, laidKinds := [.data, .data, .data, .data, .pinned], laidTests := true, laidLooks := .later }
def SigPlainUptoCardSaid : Prop := Claim7.holds Tryd.pinned (.plain (OpenSpec.upto sigPlainSpec)) sigPlainUptoCard

/-- THE SECOND FORM's CARD OF 'sizarlaw17.SigFinds'. -/
def sigFindsUptoCard : Claim7 := { stood := { row := sigFindsUptoRow, standIns := [], harness := (true, "2a7a2762f4821b439de19dcb19480a1f522d1778728198f2f129fc29a4128cf6"), looks := false }, kinds := [], alts := [], laidByText := true, laidKinds := [.data, .data, .data, .data, .pinned], laidTests := true, laidLooks := .later }
def SigFindsUptoCardSaid : Prop := Claim7.holds Tryd.pinned (.plain (OpenSpec.upto sigFindsSpec)) sigFindsUptoCard

/-- THE SECOND FORM's CARD OF 'sizarlaw17.SigKnown'. -/
def sigKnownUptoCard : Claim7 := { stood := { row := sigKnownUptoRow, standIns := [], harness := (true, "2a7a2762f4821b439de19dcb19480a1f522d1778728198f2f129fc29a4128cf6"), looks := false }, kinds := [], alts := [], laidByText := true, laidKinds := [.data, .data, .data, .data, .pinned], laidTests := true, laidLooks := .later }
def SigKnownUptoCardSaid : Prop := Claim7.holds Tryd.pinned (.plain (OpenSpec.upto sigKnownSpec)) sigKnownUptoCard
end Rows
end Go.Proofs.YtnkafagfkblfeaaDoor
