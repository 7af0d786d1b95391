/-
  DERIVED. GIVEN WITH THE SEED: THE CARDS: each row of YtlakiipofcibhaaGreatDoorRows.lean that lists a variable, with what it lists TIED to the program's text (the seventh form; the later family's looks); each row that meets fmt, with fmt's text TOLD by the authors' own Lean function (tested against real Go, not proved from fmt's source: count such statements apart). THE CARD IS WHAT COUNTS. Prove the row's statement (the work); the ties are given (YtlakiipofcibhaaGreatDoorTie.lean); close each card by the builder's one call (the guide's Derived/Test/ToyasCard.lean, 'card_holds'). Laid BY PROGRAM, IN A SANDBOX (cutbox-door.mjs). By AI agents, Wed Nov 11 2026. No macro, syntax, notation, axiom, sorry.
-/
import Derived.Test.YtlakiipofcibhaaGreatDoorRows
import GoSem.ClaimSeven
namespace Go.Proofs.YtlakiipofcibhaaGreatDoor
namespace Rows

/-- THE TIED CARD OF 'sizarlaw8.ReadKnown'. -/
def readKnownCard : Claim7 := { stood := { row := readKnownRow, standIns := [], harness := (true, "21388c867916b1f1118d35ed6c04f5c2cc6b46d4dfe8319b1cccc940d8c7d31e"), looks := true }, kinds := [], alts := [], laidByText := true, laidKinds := [.data, .data, .data, .data, .sentinel, .sentinel, .pinned], laidTests := true, laidLooks := .later }
def ReadKnownCardSaid : Prop := Claim7.holds Tryz.pinned (.plain (OpenSpec.ofChange readKnownSpec)) readKnownCard

/-- THE TIED CARD OF 'sizarlaw9.WriteKnown'. -/
def writeKnownCard : Claim7 := { stood := { row := writeKnownRow, standIns := [], harness := (true, "21388c867916b1f1118d35ed6c04f5c2cc6b46d4dfe8319b1cccc940d8c7d31e"), looks := true }, kinds := [], alts := [], laidByText := true, laidKinds := [.data, .data, .data, .data, .sentinel, .sentinel, .pinned], laidTests := true, laidLooks := .later }
def WriteKnownCardSaid : Prop := Claim7.holds Tryz.pinned (.plain (OpenSpec.ofChange writeKnownSpec)) writeKnownCard

/-- THE TIED CARD OF 'sizarlaw23.SortOrders'. -/
def sortOrdersCard : Claim7 := { stood := { row := sortOrdersRow, standIns := [], harness := (true, "21388c867916b1f1118d35ed6c04f5c2cc6b46d4dfe8319b1cccc940d8c7d31e"), looks := true }, kinds := [], alts := [], laidByText := true, laidKinds := [.data, .data, .data, .data, .sentinel, .sentinel, .pinned], laidTests := true, laidLooks := .later }
def SortOrdersCardSaid : Prop := Claim7.holds Tryz.pinned (.plain (OpenSpec.ofChange sortOrdersSpec)) sortOrdersCard

/-- THE TIED CARD OF 'sizarlaw23.SortTwice'. -/
def sortTwiceCard : Claim7 := { stood := { row := sortTwiceRow, standIns := [], harness := (true, "21388c867916b1f1118d35ed6c04f5c2cc6b46d4dfe8319b1cccc940d8c7d31e"), looks := true }, kinds := [], alts := [], laidByText := true, laidKinds := [.data, .data, .data, .data, .sentinel, .sentinel, .pinned], laidTests := true, laidLooks := .later }
def SortTwiceCardSaid : Prop := Claim7.holds Tryz.pinned (.plain (OpenSpec.ofChange sortTwiceSpec)) sortTwiceCard

/-- THE TIED CARD OF 'sizarlaw23.SortKeeps'. -/
def sortKeepsCard : Claim7 := { stood := { row := sortKeepsRow, standIns := [], harness := (true, "21388c867916b1f1118d35ed6c04f5c2cc6b46d4dfe8319b1cccc940d8c7d31e"), looks := true }, kinds := [], alts := [], laidByText := true, laidKinds := [.data, .data, .data, .data, .sentinel, .sentinel, .pinned], laidTests := true, laidLooks := .later }
def SortKeepsCardSaid : Prop := Claim7.holds Tryz.pinned (.plain (OpenSpec.ofChange sortKeepsSpec)) sortKeepsCard

/-- THE TIED CARD OF 'sizarlaw23.SortKnown'. -/
def sortKnownCard : Claim7 := { stood := { row := sortKnownRow, standIns := [], harness := (true, "21388c867916b1f1118d35ed6c04f5c2cc6b46d4dfe8319b1cccc940d8c7d31e"), looks := true }, kinds := [], alts := [], laidByText := true, laidKinds := [.data, .data, .data, .data, .sentinel, .sentinel, .pinned], laidTests := true, laidLooks := .later }
def SortKnownCardSaid : Prop := Claim7.holds Tryz.pinned (.plain (OpenSpec.ofChange sortKnownSpec)) sortKnownCard

/-- THE TIED CARD OF 'sizarlaw23.SortSays'. -/
def sortSaysCard : Claim7 := { stood := { row := sortSaysRow, standIns := [], harness := (true, "21388c867916b1f1118d35ed6c04f5c2cc6b46d4dfe8319b1cccc940d8c7d31e"), looks := true }, kinds := [], alts := [], laidByText := true, laidKinds := [.data, .data, .data, .data, .sentinel, .sentinel, .pinned], laidTests := true, laidLooks := .later }
def SortSaysCardSaid : Prop := Claim7.holds Tryz.pinned (.plain (OpenSpec.ofChange sortSaysSpec)) sortSaysCard

/-- THE SECOND FORM's CARD OF 'sizarlaw8.ReadKnown'. -/
def readKnownUptoCard : Claim7 := { stood := { row := readKnownUptoRow, standIns := [], harness := (true, "21388c867916b1f1118d35ed6c04f5c2cc6b46d4dfe8319b1cccc940d8c7d31e"), looks := true }, kinds := [], alts := [], laidByText := true, laidKinds := [.data, .data, .data, .data, .sentinel, .sentinel, .pinned], laidTests := true, laidLooks := .later }
def ReadKnownUptoCardSaid : Prop := Claim7.holds Tryz.pinned (.plain (OpenSpec.upto readKnownSpec)) readKnownUptoCard

/-- THE SECOND FORM's CARD OF 'sizarlaw9.WriteKnown'. -/
def writeKnownUptoCard : Claim7 := { stood := { row := writeKnownUptoRow, standIns := [], harness := (true, "21388c867916b1f1118d35ed6c04f5c2cc6b46d4dfe8319b1cccc940d8c7d31e"), looks := true }, kinds := [], alts := [], laidByText := true, laidKinds := [.data, .data, .data, .data, .sentinel, .sentinel, .pinned], laidTests := true, laidLooks := .later }
def WriteKnownUptoCardSaid : Prop := Claim7.holds Tryz.pinned (.plain (OpenSpec.upto writeKnownSpec)) writeKnownUptoCard

/-- THE SECOND FORM's CARD OF 'sizarlaw23.SortOrders'. -/
def sortOrdersUptoCard : Claim7 := { stood := { row := sortOrdersUptoRow, standIns := [], harness := (true, "21388c867916b1f1118d35ed6c04f5c2cc6b46d4dfe8319b1cccc940d8c7d31e"), looks := true }, kinds := [], alts := [], laidByText := true, laidKinds := [.data, .data, .data, .data, .sentinel, .sentinel, .pinned], laidTests := true, laidLooks := .later }
def SortOrdersUptoCardSaid : Prop := Claim7.holds Tryz.pinned (.plain (OpenSpec.upto sortOrdersSpec)) sortOrdersUptoCard

/-- THE SECOND FORM's CARD OF 'sizarlaw23.SortTwice'. -/
def sortTwiceUptoCard : Claim7 := { stood := { row := sortTwiceUptoRow, standIns := [], harness := (true, "21388c867916b1f1118d35ed6c04f5c2cc6b46d4dfe8319b1cccc940d8c7d31e"), looks := true }, kinds := [], alts := [], laidByText := true, laidKinds := [.data, .data, .data, .data, .sentinel, .sentinel, .pinned], laidTests := true, laidLooks := .later }
def SortTwiceUptoCardSaid : Prop := Claim7.holds Tryz.pinned (.plain (OpenSpec.upto sortTwiceSpec)) sortTwiceUptoCard

/-- THE SECOND FORM's CARD OF 'sizarlaw23.SortKeeps'. -/
def sortKeepsUptoCard : Claim7 := { stood := { row := sortKeepsUptoRow, standIns := [], harness := (true, "21388c867916b1f1118d35ed6c04f5c2cc6b46d4dfe8319b1cccc940d8c7d31e"), looks := true }, kinds := [], alts := [], laidByText := true, laidKinds := [.data, .data, .data, .data, .sentinel, .sentinel, .pinned], laidTests := true, laidLooks := .later }
def SortKeepsUptoCardSaid : Prop := Claim7.holds Tryz.pinned (.plain (OpenSpec.upto sortKeepsSpec)) sortKeepsUptoCard

/-- THE SECOND FORM's CARD OF 'sizarlaw23.SortKnown'. -/
def sortKnownUptoCard : Claim7 := { stood := { row := sortKnownUptoRow, standIns := [], harness := (true, "21388c867916b1f1118d35ed6c04f5c2cc6b46d4dfe8319b1cccc940d8c7d31e"), looks := true }, kinds := [], alts := [], laidByText := true, laidKinds := [.data, .data, .data, .data, .sentinel, .sentinel, .pinned], laidTests := true, laidLooks := .later }
def SortKnownUptoCardSaid : Prop := Claim7.holds Tryz.pinned (.plain (OpenSpec.upto sortKnownSpec)) sortKnownUptoCard

/-- THE SECOND FORM's CARD OF 'sizarlaw23.SortSays'. -/
def sortSaysUptoCard : Claim7 := { stood := { row := sortSaysUptoRow, standIns := [], harness := (true, "21388c867916b1f1118d35ed6c04f5c2cc6b46d4dfe8319b1cccc940d8c7d31e"), looks := true }, kinds := [], alts := [], laidByText := true, laidKinds := [.data, .data, .data, .data, .sentinel, .sentinel, .pinned], laidTests := true, laidLooks := .later }
def SortSaysUptoCardSaid : Prop := Claim7.holds Tryz.pinned (.plain (OpenSpec.upto sortSaysSpec)) sortSaysUptoCard
end Rows
end Go.Proofs.YtlakiipofcibhaaGreatDoor
