import Derived.Test.YtnkafagfkblfeaaDoorFn
import Derived.Test.YtnkafagfkblfeaaDoorArg
import Derived.Test.YtnkafagfkblfeaaDoorRows
set_option linter.unusedVariables false
set_option linter.unusedSimpArgs false
set_option linter.unusedSectionVars false

namespace Go.Proofs.YtnkafagfkblfeaaDoor
open Go Sz Go.ChangeShapes Go.WideShapes Go.ChangeAt Go.RowKit

theorem Tryd.own : ownKnob Tryd.prog.godebug = none := by kernel_rfl
theorem Tryd.laidOut : laidOutB Tryd.prog = true := by kernel_rfl

theorem lab_of {v : AV} (h : HasTy Tryd.prog 36 v) : ∃ x : BitVec 64, v = labA x := ty_u64 Tryd.underlying36 h
theorem labs_of {v : AV} (h : HasTy Tryd.prog 22 v) : ∃ l : List (BitVec 64), v = .sl (l.map labA) ∧ l.length ≤ maxLen := by
  obtain ⟨xs, rfl, hl, hx⟩ := ty_sl Tryd.underlying22 h
  obtain ⟨l, rfl⟩ := ty_map (f := labA) fun x h => lab_of (hx x h)
  exact ⟨l, rfl, by simpa using hl⟩
theorem strs_of {v : AV} (h : HasTy Tryd.prog 29 v) : ∃ l : List (List UInt8), v = .sl (l.map .str) ∧ l.length ≤ maxLen := by
  obtain ⟨xs, rfl, hl, hx⟩ := ty_sl Tryd.underlying29 h
  obtain ⟨l, rfl⟩ := ty_map (f := AV.str) fun x h => by
    obtain ⟨s, rfl, _⟩ := ty_str Tryd.underlying9 (hx x h)
    exact ⟨s, rfl⟩
  exact ⟨l, rfl, by simpa using hl⟩
end Go.Proofs.YtnkafagfkblfeaaDoor
