/-
  DERIVED. GIVEN WITH THE SEED: THE CARDS: each row of YtjmeonoabiliiaaGreatDoorRows.lean that lists a variable, with what it lists TIED to the program's text (the seventh form; the later family's looks); each row that meets fmt, with fmt's text TOLD by the authors' own Lean function (tested against real Go, not proved from fmt's source: count such statements apart). THE CARD IS WHAT COUNTS. Prove the row's statement (the work); the ties are given (YtjmeonoabiliiaaGreatDoorTie.lean); close each card by the builder's one call (the guide's Derived/Test/ToyasCard.lean, 'card_holds'). Laid BY PROGRAM, IN A SANDBOX (cutbox-door.mjs). By AI agents, Wed Nov 11 2026. No macro, syntax, notation, axiom, sorry.
-/
import Derived.Test.YtjmeonoabiliiaaGreatDoorRows
import GoSem.ClaimSeven
namespace Go.Proofs.YtjmeonoabiliiaaGreatDoor
namespace Rows

/-- THE TIED CARD OF 'sizarlaw8.ReadPlain'. -/
def readPlainCard : Claim7 := { stood := { row := readPlainRow, standIns := [], harness := (true, "8dfc36e6af6f3668cbc6b9939f6cfe8c1617a68e1b52fa2ee4e5cfacdf514f4e"), looks := true }, kinds := [], alts := [], laidByText := true, laidKinds := [.data, .data, .data, .data, .sentinel, .sentinel, .pinned], laidTests := true, laidLooks := .later }
def ReadPlainCardSaid : Prop := Claim7.holds Tryz.pinned (.plain (OpenSpec.ofChange readPlainSpec)) readPlainCard

/-- THE TIED CARD OF 'sizarlaw8.ReadBrackets'. -/
def readBracketsCard : Claim7 := { stood := { row := readBracketsRow, standIns := [], harness := (true, "8dfc36e6af6f3668cbc6b9939f6cfe8c1617a68e1b52fa2ee4e5cfacdf514f4e"), looks := true }, kinds := [], alts := [], laidByText := true, laidKinds := [.data, .data, .data, .data, .sentinel, .sentinel, .pinned], laidTests := true, laidLooks := .later }
def ReadBracketsCardSaid : Prop := Claim7.holds Tryz.pinned (.plain (OpenSpec.ofChange readBracketsSpec)) readBracketsCard

/-- THE TIED CARD OF 'sizarlaw8.ReadParts'. -/
def readPartsCard : Claim7 := { stood := { row := readPartsRow, standIns := [], harness := (true, "8dfc36e6af6f3668cbc6b9939f6cfe8c1617a68e1b52fa2ee4e5cfacdf514f4e"), looks := true }, kinds := [], alts := [], laidByText := true, laidKinds := [.data, .data, .data, .data, .sentinel, .sentinel, .pinned], laidTests := true, laidLooks := .later }
def ReadPartsCardSaid : Prop := Claim7.holds Tryz.pinned (.plain (OpenSpec.ofChange readPartsSpec)) readPartsCard

/-- THE TIED CARD OF 'sizarlaw9.WriteSays'. -/
def writeSaysCard : Claim7 := { stood := { row := writeSaysRow, standIns := [], harness := (true, "8dfc36e6af6f3668cbc6b9939f6cfe8c1617a68e1b52fa2ee4e5cfacdf514f4e"), looks := true }, kinds := [], alts := [], laidByText := true, laidKinds := [.data, .data, .data, .data, .sentinel, .sentinel, .pinned], laidTests := true, laidLooks := .later }
def WriteSaysCardSaid : Prop := Claim7.holds Tryz.pinned (.plain (OpenSpec.ofChange writeSaysSpec)) writeSaysCard

/-- THE TIED CARD OF 'sizarlaw9.WriteBack'. -/
def writeBackCard : Claim7 := { stood := { row := writeBackRow, standIns := [], harness := (true, "8dfc36e6af6f3668cbc6b9939f6cfe8c1617a68e1b52fa2ee4e5cfacdf514f4e"), looks := true }, kinds := [], alts := [], laidByText := true, laidKinds := [.data, .data, .data, .data, .sentinel, .sentinel, .pinned], laidTests := true, laidLooks := .later }
def WriteBackCardSaid : Prop := Claim7.holds Tryz.pinned (.plain (OpenSpec.ofChange writeBackSpec)) writeBackCard

/-- THE TIED CARD OF 'sizarlaw9.WritePlain'. -/
def writePlainCard : Claim7 := { stood := { row := writePlainRow, standIns := [], harness := (true, "8dfc36e6af6f3668cbc6b9939f6cfe8c1617a68e1b52fa2ee4e5cfacdf514f4e"), looks := true }, kinds := [], alts := [], laidByText := true, laidKinds := [.data, .data, .data, .data, .sentinel, .sentinel, .pinned], laidTests := true, laidLooks := .later }
def WritePlainCardSaid : Prop := Claim7.holds Tryz.pinned (.plain (OpenSpec.ofChange writePlainSpec)) writePlainCard

/-- THE TIED CARD OF 'sizarlaw9.WriteLists'. -/
def writeListsCard : Claim7 := { stood := { row := writeListsRow, standIns := [], harness := (true, "8dfc36e6af6f3668cbc6b9939f6cfe8c1617a68e1b52fa2ee4e5cfacdf514f4e"), looks := true }, kinds := [], alts := [], laidByText := true, laidKinds := [.data, .data, .data, .data, .sentinel, .sentinel, .pinned], laidTests := true, laidLooks := .later }
def WriteListsCardSaid : Prop := Claim7.holds Tryz.pinned (.plain (OpenSpec.ofChange writeListsSpec)) writeListsCard

/-- THE TIED CARD OF 'sizarlaw9.WriteSettles'. -/
def writeSettlesCard : Claim7 := { stood := { row := writeSettlesRow, standIns := [], harness := (true, "8dfc36e6af6f3668cbc6b9939f6cfe8c1617a68e1b52fa2ee4e5cfacdf514f4e"), looks := true }, kinds := [], alts := [], laidByText := true, laidKinds := [.data, .data, .data, .data, .sentinel, .sentinel, .pinned], laidTests := true, laidLooks := .later }
def WriteSettlesCardSaid : Prop := Claim7.holds Tryz.pinned (.plain (OpenSpec.ofChange writeSettlesSpec)) writeSettlesCard

/-- THE SECOND FORM's CARD OF 'sizarlaw8.ReadPlain'. -/
def readPlainUptoCard : Claim7 := { stood := { row := readPlainUptoRow, standIns := [], harness := (true, "8dfc36e6af6f3668cbc6b9939f6cfe8c1617a68e1b52fa2ee4e5cfacdf514f4e"), looks := true }, kinds := [], alts := [], laidByText := true, laidKinds := [.data, .data, .data, .data, .sentinel, .sentinel, .pinned], laidTests := true, laidLooks := .later }
def ReadPlainUptoCardSaid : Prop := Claim7.holds Tryz.pinned (.plain (OpenSpec.upto readPlainSpec)) readPlainUptoCard

/-- THE SECOND FORM's CARD OF 'sizarlaw8.ReadBrackets'. -/
def readBracketsUptoCard : Claim7 := { stood := { row := readBracketsUptoRow, standIns := [], harness := (true, "8dfc36e6af6f3668cbc6b9939f6cfe8c1617a68e1b52fa2ee4e5cfacdf514f4e"), looks := true }, kinds := [], alts := [], laidByText := true, laidKinds := [.data, .data, .data, .data, .sentinel, .sentinel, .pinned], laidTests := true, laidLooks := .later }
def ReadBracketsUptoCardSaid : Prop := Claim7.holds Tryz.pinned (.plain (OpenSpec.upto readBracketsSpec)) readBracketsUptoCard

/-- THE SECOND FORM's CARD OF 'sizarlaw8.ReadParts'. -/
def readPartsUptoCard : Claim7 := { stood := { row := readPartsUptoRow, standIns := [], harness := (true, "8dfc36e6af6f3668cbc6b9939f6cfe8c1617a68e1b52fa2ee4e5cfacdf514f4e"), looks := true }, kinds := [], alts := [], laidByText := true, laidKinds := [.data, .data, .data, .data, .sentinel, .sentinel, .pinned], laidTests := true, laidLooks := .later }
def ReadPartsUptoCardSaid : Prop := Claim7.holds Tryz.pinned (.plain (OpenSpec.upto readPartsSpec)) readPartsUptoCard

/-- THE SECOND FORM's CARD OF 'sizarlaw9.WriteSays'. -/
def writeSaysUptoCard : Claim7 := { stood := { row := writeSaysUptoRow, standIns := [], harness := (true, "8dfc36e6af6f3668cbc6b9939f6cfe8c1617a68e1b52fa2ee4e5cfacdf514f4e"), looks := true }, kinds := [], alts := [], laidByText := true, laidKinds := [.data, .data, .data, .data, .sentinel, .sentinel, .pinned], laidTests := true, laidLooks := .later }
def WriteSaysUptoCardSaid : Prop := Claim7.holds Tryz.pinned (.plain (OpenSpec.upto writeSaysSpec)) writeSaysUptoCard

/-- THE SECOND FORM's CARD OF 'sizarlaw9.WriteBack'. -/
def writeBackUptoCard : Claim7 := { stood := { row := writeBackUptoRow, standIns := [], harness := (true, "8dfc36e6af6f3668cbc6b9939f6cfe8c1617a68e1b52fa2ee4e5cfacdf514f4e"), looks := true }, kinds := [], alts := [], laidByText := true, laidKinds := [.data, .data, .data, .data, .sentinel, .sentinel, .pinned], laidTests := true, laidLooks := .later }
def WriteBackUptoCardSaid : Prop := Claim7.holds Tryz.pinned (.plain (OpenSpec.upto writeBackSpec)) writeBackUptoCard

/-- THE SECOND FORM's CARD OF 'sizarlaw9.WritePlain'. -/
def writePlainUptoCard : Claim7 := { stood := { row := writePlainUptoRow, standIns := [], harness := (true, "8dfc36e6af6f3668cbc6b9939f6cfe8c1617a68e1b52fa2ee4e5cfacdf514f4e"), looks := true }, kinds := [], alts := [], laidByText := true, laidKinds := [.data, .data, .data, .data, .sentinel, .sentinel, .pinned], laidTests := true, laidLooks := .later }
def WritePlainUptoCardSaid : Prop := Claim7.holds Tryz.pinned (.plain (OpenSpec.upto writePlainSpec)) writePlainUptoCard

/-- THE SECOND FORM's CARD OF 'sizarlaw9.WriteLists'. -/
def writeListsUptoCard : Claim7 := { stood := { row := writeListsUptoRow, standIns := [], harness := (true, "8dfc36e6af6f3668cbc6b9939f6cfe8c1617a68e1b52fa2ee4e5cfacdf514f4e"), looks := true }, kinds := [], alts := [], laidByText := true, laidKinds := [.data, .data, .data, .data, .sentinel, .sentinel, .pinned], laidTests := true, laidLooks := .later }
def WriteListsUptoCardSaid : Prop := Claim7.holds Tryz.pinned (.plain (OpenSpec.upto writeListsSpec)) writeListsUptoCard

/-- THE SECOND FORM's CARD OF 'sizarlaw9.WriteSettles'. -/
def writeSettlesUptoCard : Claim7 := { stood := { row := writeSettlesUptoRow, standIns := [], harness := (true, "8dfc36e6af6f3668cbc6b9939f6cfe8c1617a68e1b52fa2ee4e5cfacdf514f4e"), looks := true }, kinds := [], alts := [], laidByText := true, laidKinds := [.data, .data, .data, .data, .sentinel, .sentinel, .pinned], laidTests := true, laidLooks := .later }
def WriteSettlesUptoCardSaid : Prop := Claim7.holds Tryz.pinned (.plain (OpenSpec.upto writeSettlesSpec)) writeSettlesUptoCard
end Rows
end Go.Proofs.YtjmeonoabiliiaaGreatDoor
