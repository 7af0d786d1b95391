/-
  No cell of these rows narrows 'for every input' (looked for: loops, veiled, ifaces, maps, wideKeys, modest, calm, conditions, laid).
  DERIVED. THE GIVEN ROWS OF THIS SEAT. 4 by the template 'for every input the law returns true; each argument reads behind the call as it read before'; 0 by the template 'total and deterministic' (their statements: YtlofbalilhohmaaTotals.lean).
  GIVEN WITH THE SEED: the statements are not yours to turn. If you find one false, say at which input.
  Laid BY PROGRAM, IN A SANDBOX (cutbox-rows.mjs): the forced cells as the released guide's own fill.sh prints them over the translation 3f4176b2e724254e… (all of the seat's roots in one cut). By AI agents, Wed Nov 11 2026. No macro, syntax, notation, axiom, sorry.
-/
import Derived.Test.YtlofbalilhohmaaChecked
import GoSem.Claim
import GoSem.ClaimJoined
import GoSem.ClaimMapViews
import Derived.JoinedTies
import Derived.KernelRfl
namespace Go.Proofs.Ytlofbalilhohmaa
/- THE CELL 'sum', in the pinned program and in every row, IS THE sha256 OF THE DUMP (.gsa) THAT YtlofbalilhohmaaProg.lean LOADS. Nothing in Lean hashes anything: it is a label: what it is worth is what the hold of that sum in a sandbox is worth. -/
noncomputable def Try.pinned : Pinned := { name := "ytlofbalilhohmaa", sum := "3f4176b2e724254e5fd587634e6ef568e6d9cb18c96495e02718d3345b0392aa", checked := Try.checked }
namespace Rows
def none {H : Type} : Left H := { results := [], args := [] }

/-- 'sizarlaw5.OpSides': WHATEVER THE INPUT: true; the input reads as it did. -/
def opSidesSpec : ChangeSpec := { name := "opSides", fn := fun _ => fun
  | [d] => { results := [.lit (.bool true)], args := [d] }
  | _ => none }
def opSidesRow : OpenClaim := { program := "ytlofbalilhohmaa", sum := "3f4176b2e724254e5fd587634e6ef568e6d9cb18c96495e02718d3345b0392aa", func := "sizar/sizarlaw5.OpSides", spec := "opSides", unfollowed := true, recurses := true, apart := false }
def OpSidesSaid : Prop := opSidesRow.holds Try.pinned (OpenSpec.ofChange opSidesSpec)

/-- ITS FALSE NEIGHBOUR: 'it returns false'. Refute it at one input. -/
def opSidesWrong : ChangeSpec := { name := "opSides", fn := fun _ => fun
  | [d] => { results := [.lit (.bool false)], args := [d] }
  | _ => none }
def OpSidesWrongFalsely : Prop := opSidesRow.holds Try.pinned (OpenSpec.ofChange opSidesWrong)

/-- 'sizarlaw5.OpKnown': WHATEVER THE INPUT: true; the input reads as it did. -/
def opKnownSpec : ChangeSpec := { name := "opKnown", fn := fun _ => fun
  | [] => { results := [.lit (.bool true)], args := [] }
  | _ => none }
def opKnownRow : OpenClaim := { program := "ytlofbalilhohmaa", sum := "3f4176b2e724254e5fd587634e6ef568e6d9cb18c96495e02718d3345b0392aa", func := "sizar/sizarlaw5.OpKnown", spec := "opKnown", unfollowed := true, recurses := true, apart := false }
def OpKnownSaid : Prop := opKnownRow.holds Try.pinned (OpenSpec.ofChange opKnownSpec)

/-- ITS FALSE NEIGHBOUR: 'it returns false'. Refute it at one input. -/
def opKnownWrong : ChangeSpec := { name := "opKnown", fn := fun _ => fun
  | [] => { results := [.lit (.bool false)], args := [] }
  | _ => none }
def OpKnownWrongFalsely : Prop := opKnownRow.holds Try.pinned (OpenSpec.ofChange opKnownWrong)

/-- 'sizarlaw5.OpSays': WHATEVER THE INPUT: true; the input reads as it did. -/
def opSaysSpec : ChangeSpec := { name := "opSays", fn := fun _ => fun
  | [d1, d2, d3] => { results := [.lit (.bool true)], args := [d1, d2, d3] }
  | _ => none }
def opSaysRow : OpenClaim := { program := "ytlofbalilhohmaa", sum := "3f4176b2e724254e5fd587634e6ef568e6d9cb18c96495e02718d3345b0392aa", func := "sizar/sizarlaw5.OpSays", spec := "opSays", unfollowed := true, recurses := true, apart := false }
def OpSaysSaid : Prop := opSaysRow.holds Try.pinned (OpenSpec.ofChange opSaysSpec)

/-- ITS FALSE NEIGHBOUR: 'it returns false'. Refute it at one input. -/
def opSaysWrong : ChangeSpec := { name := "opSays", fn := fun _ => fun
  | [d1, d2, d3] => { results := [.lit (.bool false)], args := [d1, d2, d3] }
  | _ => none }
def OpSaysWrongFalsely : Prop := opSaysRow.holds Try.pinned (OpenSpec.ofChange opSaysWrong)

/-- 'sizarlaw5.OpAdds': WHATEVER THE INPUT: true; the input reads as it did. -/
def opAddsSpec : ChangeSpec := { name := "opAdds", fn := fun _ => fun
  | [d1, d2, d3] => { results := [.lit (.bool true)], args := [d1, d2, d3] }
  | _ => none }
def opAddsRow : OpenClaim := { program := "ytlofbalilhohmaa", sum := "3f4176b2e724254e5fd587634e6ef568e6d9cb18c96495e02718d3345b0392aa", func := "sizar/sizarlaw5.OpAdds", spec := "opAdds", unfollowed := true, recurses := true, apart := false }
def OpAddsSaid : Prop := opAddsRow.holds Try.pinned (OpenSpec.ofChange opAddsSpec)

/-- ITS FALSE NEIGHBOUR: 'it returns false'. Refute it at one input. -/
def opAddsWrong : ChangeSpec := { name := "opAdds", fn := fun _ => fun
  | [d1, d2, d3] => { results := [.lit (.bool false)], args := [d1, d2, d3] }
  | _ => none }
def OpAddsWrongFalsely : Prop := opAddsRow.holds Try.pinned (OpenSpec.ofChange opAddsWrong)

/- THE SECOND FORM. 'bulk': how many values and letters a reading holds, each counted each time it is reached (what is shared counts as often as it is met; a slice's spare places count too). A statement '..UptoSaid' is the law's where the arguments, and the package variables that the reading takes, are together of bulk at most 1048576: NARROWER than '..Said'. Prove '..Said' where nothing that the law and all that it calls make is longer than what came in: it says more and counts as full. Else prove '..UptoSaid'. A law counts once. -/
mutual
def uptoBulk {H : Type} : DataW H → Nat
  | .lit (.string bytes) => bytes.length + 1
  | .lit _ => 1
  | .nil => 1
  | .ptr d => uptoBulk d + 1
  | .slice elems spare => uptoBulkAll elems + uptoBulkAll spare + 1
  | .agg parts => uptoBulkAll parts + 1
  | .iface _ d => uptoBulk d + 1
  | .map entries => uptoBulkEntries entries + 1
  | .held _ => 1
def uptoBulkAll {H : Type} : List (DataW H) → Nat
  | [] => 0
  | d :: r => uptoBulk d + uptoBulkAll r
def uptoBulkEntries {H : Type} : List (Lit × DataW H) → Nat
  | [] => 0
  | x :: r => uptoBulkEntry x + uptoBulkEntries r
def uptoBulkEntry {H : Type} : Lit × DataW H → Nat
  | (.string bytes, d) => bytes.length + uptoBulk d + 1
  | (_, d) => uptoBulk d + 1
 end
def uptoSmall : (H : Type) → List (DataW H) → Bool := fun _ ds => decide (uptoBulkAll ds ≤ 1048576)
def OpenSpec.upto (s : _root_.Go.ChangeSpec) : _root_.Go.OpenSpec := { _root_.Go.OpenSpec.ofChange s with cond := some uptoSmall }

/-- 'sizarlaw5.OpSides', WHERE WHAT IT READS IS OF BULK AT MOST 1048576: true; the input reads as it did. -/
def opSidesUptoRow : OpenClaim := { program := "ytlofbalilhohmaa", sum := "3f4176b2e724254e5fd587634e6ef568e6d9cb18c96495e02718d3345b0392aa", func := "sizar/sizarlaw5.OpSides", spec := "opSides", unfollowed := true, recurses := true, apart := false, narrowed := true }
def OpSidesUptoSaid : Prop := opSidesUptoRow.holds Try.pinned (OpenSpec.upto opSidesSpec)

/-- 'sizarlaw5.OpKnown', WHERE WHAT IT READS IS OF BULK AT MOST 1048576: true; the input reads as it did. -/
def opKnownUptoRow : OpenClaim := { program := "ytlofbalilhohmaa", sum := "3f4176b2e724254e5fd587634e6ef568e6d9cb18c96495e02718d3345b0392aa", func := "sizar/sizarlaw5.OpKnown", spec := "opKnown", unfollowed := true, recurses := true, apart := false, narrowed := true }
def OpKnownUptoSaid : Prop := opKnownUptoRow.holds Try.pinned (OpenSpec.upto opKnownSpec)

/-- 'sizarlaw5.OpSays', WHERE WHAT IT READS IS OF BULK AT MOST 1048576: true; the input reads as it did. -/
def opSaysUptoRow : OpenClaim := { program := "ytlofbalilhohmaa", sum := "3f4176b2e724254e5fd587634e6ef568e6d9cb18c96495e02718d3345b0392aa", func := "sizar/sizarlaw5.OpSays", spec := "opSays", unfollowed := true, recurses := true, apart := false, narrowed := true }
def OpSaysUptoSaid : Prop := opSaysUptoRow.holds Try.pinned (OpenSpec.upto opSaysSpec)

/-- 'sizarlaw5.OpAdds', WHERE WHAT IT READS IS OF BULK AT MOST 1048576: true; the input reads as it did. -/
def opAddsUptoRow : OpenClaim := { program := "ytlofbalilhohmaa", sum := "3f4176b2e724254e5fd587634e6ef568e6d9cb18c96495e02718d3345b0392aa", func := "sizar/sizarlaw5.OpAdds", spec := "opAdds", unfollowed := true, recurses := true, apart := false, narrowed := true }
def OpAddsUptoSaid : Prop := opAddsUptoRow.holds Try.pinned (OpenSpec.upto opAddsSpec)

end Rows
end Go.Proofs.Ytlofbalilhohmaa
