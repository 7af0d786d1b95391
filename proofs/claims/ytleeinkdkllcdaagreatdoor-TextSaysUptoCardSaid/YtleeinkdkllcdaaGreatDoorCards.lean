/-
  DERIVED. GIVEN WITH THE SEED: THE CARDS: each row of YtleeinkdkllcdaaGreatDoorRows.lean that lists a variable, with what it lists TIED to the program's text (the seventh form; the later family's looks); each row that meets fmt, with fmt's text TOLD by the authors' own Lean function (tested against real Go, not proved from fmt's source: count such statements apart). THE CARD IS WHAT COUNTS. Prove the row's statement (the work); the ties are given (YtleeinkdkllcdaaGreatDoorTie.lean); close each card by the builder's one call (the guide's Derived/Test/ToyasCard.lean, 'card_holds'). Laid BY PROGRAM, IN A SANDBOX (cutbox-door.mjs). By AI agents, Wed Nov 11 2026. No macro, syntax, notation, axiom, sorry.
-/
import Derived.Test.YtleeinkdkllcdaaGreatDoorRows
import GoSem.ClaimSeven
namespace Go.Proofs.YtleeinkdkllcdaaGreatDoor
namespace Rows

/-- THE TIED CARD OF 'sizarlaw22.ShapeMakes'. -/
def shapeMakesCard : Claim7 := { stood := { row := shapeMakesRow, standIns := [], harness := (true, "e778a12951bf34ad19357516f4b919b367ab2b97756ba52991a4c22ee7cb9e2f"), looks := true }, kinds := [], alts := [], laidByText := true, laidKinds := [.data, .data, .data, .data, .sentinel, .sentinel, .pinned], laidTests := true, laidLooks := .later }
def ShapeMakesCardSaid : Prop := Claim7.holds Tryz.pinned (.plain (OpenSpec.ofChange shapeMakesSpec)) shapeMakesCard

/-- THE TIED CARD OF 'sizarlaw21.TextJoins'. -/
def textJoinsCard : Claim7 := { stood := { row := textJoinsRow, standIns := [], harness := (true, "e778a12951bf34ad19357516f4b919b367ab2b97756ba52991a4c22ee7cb9e2f"), looks := true }, kinds := [], alts := [], laidByText := true, laidKinds := [.data, .data, .data, .data, .sentinel, .sentinel, .pinned], laidTests := true, laidLooks := .later }
def TextJoinsCardSaid : Prop := Claim7.holds Tryz.pinned (.plain (OpenSpec.ofChange textJoinsSpec)) textJoinsCard

/-- THE TIED CARD OF 'sizarlaw21.TextNumbers'. -/
def textNumbersCard : Claim7 := { stood := { row := textNumbersRow, standIns := [], harness := (true, "e778a12951bf34ad19357516f4b919b367ab2b97756ba52991a4c22ee7cb9e2f"), looks := true }, kinds := [], alts := [], laidByText := true, laidKinds := [.data, .data, .data, .data, .sentinel, .sentinel, .pinned], laidTests := true, laidLooks := .later }
def TextNumbersCardSaid : Prop := Claim7.holds Tryz.pinned (.plain (OpenSpec.ofChange textNumbersSpec)) textNumbersCard

/-- THE TIED CARD OF 'sizarlaw21.TextKnown'. -/
def textKnownCard : Claim7 := { stood := { row := textKnownRow, standIns := [], harness := (true, "e778a12951bf34ad19357516f4b919b367ab2b97756ba52991a4c22ee7cb9e2f"), looks := true }, kinds := [], alts := [], laidByText := true, laidKinds := [.data, .data, .data, .data, .sentinel, .sentinel, .pinned], laidTests := true, laidLooks := .later }
def TextKnownCardSaid : Prop := Claim7.holds Tryz.pinned (.plain (OpenSpec.ofChange textKnownSpec)) textKnownCard

/-- THE TIED CARD OF 'sizarlaw21.TextSays'. -/
def textSaysCard : Claim7 := { stood := { row := textSaysRow, standIns := [], harness := (true, "e778a12951bf34ad19357516f4b919b367ab2b97756ba52991a4c22ee7cb9e2f"), looks := true }, kinds := [], alts := [], laidByText := true, laidKinds := [.data, .data, .data, .data, .sentinel, .sentinel, .pinned], laidTests := true, laidLooks := .later }
def TextSaysCardSaid : Prop := Claim7.holds Tryz.pinned (.plain (OpenSpec.ofChange textSaysSpec)) textSaysCard

/-- THE TIED CARD OF 'sizarlaw21.TextBack'. -/
def textBackCard : Claim7 := { stood := { row := textBackRow, standIns := [], harness := (true, "e778a12951bf34ad19357516f4b919b367ab2b97756ba52991a4c22ee7cb9e2f"), looks := true }, kinds := [], alts := [], laidByText := true, laidKinds := [.data, .data, .data, .data, .sentinel, .sentinel, .pinned], laidTests := true, laidLooks := .later }
def TextBackCardSaid : Prop := Claim7.holds Tryz.pinned (.plain (OpenSpec.ofChange textBackSpec)) textBackCard

/-- THE TIED CARD OF 'sizarlaw22.ShapeKnown'. -/
def shapeKnownCard : Claim7 := { stood := { row := shapeKnownRow, standIns := [], harness := (true, "e778a12951bf34ad19357516f4b919b367ab2b97756ba52991a4c22ee7cb9e2f"), looks := true }, kinds := [], alts := [], laidByText := true, laidKinds := [.data, .data, .data, .data, .sentinel, .sentinel, .pinned], laidTests := true, laidLooks := .later }
def ShapeKnownCardSaid : Prop := Claim7.holds Tryz.pinned (.plain (OpenSpec.ofChange shapeKnownSpec)) shapeKnownCard

/-- THE TIED CARD OF 'sizarlaw22.ShapeBack'. -/
def shapeBackCard : Claim7 := { stood := { row := shapeBackRow, standIns := [], harness := (true, "e778a12951bf34ad19357516f4b919b367ab2b97756ba52991a4c22ee7cb9e2f"), looks := true }, kinds := [], alts := [], laidByText := true, laidKinds := [.data, .data, .data, .data, .sentinel, .sentinel, .pinned], laidTests := true, laidLooks := .later }
def ShapeBackCardSaid : Prop := Claim7.holds Tryz.pinned (.plain (OpenSpec.ofChange shapeBackSpec)) shapeBackCard

/-- THE SECOND FORM's CARD OF 'sizarlaw22.ShapeMakes'. -/
def shapeMakesUptoCard : Claim7 := { stood := { row := shapeMakesUptoRow, standIns := [], harness := (true, "e778a12951bf34ad19357516f4b919b367ab2b97756ba52991a4c22ee7cb9e2f"), looks := true }, kinds := [], alts := [], laidByText := true, laidKinds := [.data, .data, .data, .data, .sentinel, .sentinel, .pinned], laidTests := true, laidLooks := .later }
def ShapeMakesUptoCardSaid : Prop := Claim7.holds Tryz.pinned (.plain (OpenSpec.upto shapeMakesSpec)) shapeMakesUptoCard

/-- THE SECOND FORM's CARD OF 'sizarlaw21.TextJoins'. -/
def textJoinsUptoCard : Claim7 := { stood := { row := textJoinsUptoRow, standIns := [], harness := (true, "e778a12951bf34ad19357516f4b919b367ab2b97756ba52991a4c22ee7cb9e2f"), looks := true }, kinds := [], alts := [], laidByText := true, laidKinds := [.data, .data, .data, .data, .sentinel, .sentinel, .pinned], laidTests := true, laidLooks := .later }
def TextJoinsUptoCardSaid : Prop := Claim7.holds Tryz.pinned (.plain (OpenSpec.upto textJoinsSpec)) textJoinsUptoCard

/-- THE SECOND FORM's CARD OF 'sizarlaw21.TextNumbers'. -/
def textNumbersUptoCard : Claim7 := { stood := { row := textNumbersUptoRow, standIns := [], harness := (true, "e778a12951bf34ad19357516f4b919b367ab2b97756ba52991a4c22ee7cb9e2f"), looks := true }, kinds := [], alts := [], laidByText := true, laidKinds := [.data, .data, .data, .data, .sentinel, .sentinel, .pinned], laidTests := true, laidLooks := .later }
def TextNumbersUptoCardSaid : Prop := Claim7.holds Tryz.pinned (.plain (OpenSpec.upto textNumbersSpec)) textNumbersUptoCard

/-- THE SECOND FORM's CARD OF 'sizarlaw21.TextKnown'. -/
def textKnownUptoCard : Claim7 := { stood := { row := textKnownUptoRow, standIns := [], harness := (true, "e778a12951bf34ad19357516f4b919b367ab2b97756ba52991a4c22ee7cb9e2f"), looks := true }, kinds := [], alts := [], laidByText := true, laidKinds := [.data, .data, .data, .data, .sentinel, .sentinel, .pinned], laidTests := true, laidLooks := .later }
def TextKnownUptoCardSaid : Prop := Claim7.holds Tryz.pinned (.plain (OpenSpec.upto textKnownSpec)) textKnownUptoCard

/-- THE SECOND FORM's CARD OF 'sizarlaw21.TextSays'. -/
def textSaysUptoCard : Claim7 := { stood := { row := textSaysUptoRow, standIns := [], harness := (true, "e778a12951bf34ad19357516f4b919b367ab2b97756ba52991a4c22ee7cb9e2f"), looks := true }, kinds := [], alts := [], laidByText := true, laidKinds := [.data, .data, .data, .data, .sentinel, .sentinel, .pinned], laidTests := true, laidLooks := .later }
def TextSaysUptoCardSaid : Prop := Claim7.holds Tryz.pinned (.plain (OpenSpec.upto textSaysSpec)) textSaysUptoCard

/-- THE SECOND FORM's CARD OF 'sizarlaw21.TextBack'. -/
def textBackUptoCard : Claim7 := { stood := { row := textBackUptoRow, standIns := [], harness := (true, "e778a12951bf34ad19357516f4b919b367ab2b97756ba52991a4c22ee7cb9e2f"), looks := true }, kinds := [], alts := [], laidByText := true, laidKinds := [.data, .data, .data, .data, .sentinel, .sentinel, .pinned], laidTests := true, laidLooks := .later }
def TextBackUptoCardSaid : Prop := Claim7.holds Tryz.pinned (.plain (OpenSpec.upto textBackSpec)) textBackUptoCard

/-- THE SECOND FORM's CARD OF 'sizarlaw22.ShapeKnown'. -/
def shapeKnownUptoCard : Claim7 := { stood := { row := shapeKnownUptoRow, standIns := [], harness := (true, "e778a12951bf34ad19357516f4b919b367ab2b97756ba52991a4c22ee7cb9e2f"), looks := true }, kinds := [], alts := [], laidByText := true, laidKinds := [.data, .data, .data, .data, .sentinel, .sentinel, .pinned], laidTests := true, laidLooks := .later }
def ShapeKnownUptoCardSaid : Prop := Claim7.holds Tryz.pinned (.plain (OpenSpec.upto shapeKnownSpec)) shapeKnownUptoCard

/-- THE SECOND FORM's CARD OF 'sizarlaw22.ShapeBack'. -/
def shapeBackUptoCard : Claim7 := { stood := { row := shapeBackUptoRow, standIns := [], harness := (true, "e778a12951bf34ad19357516f4b919b367ab2b97756ba52991a4c22ee7cb9e2f"), looks := true }, kinds := [], alts := [], laidByText := true, laidKinds := [.data, .data, .data, .data, .sentinel, .sentinel, .pinned], laidTests := true, laidLooks := .later }
def ShapeBackUptoCardSaid : Prop := Claim7.holds Tryz.pinned (.plain (OpenSpec.upto shapeBackSpec)) shapeBackUptoCard
end Rows
end Go.Proofs.YtleeinkdkllcdaaGreatDoor
