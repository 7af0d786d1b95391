import Derived.Test.YtnkafagfkblfeaaDoorFn
import Derived.Test.YtnkafagfkblfeaaDoorArg
import Derived.Test.YtnkafagfkblfeaaDoorRows
set_option linter.unusedVariables false
set_option linter.unusedSimpArgs false
set_option linter.unusedSectionVars false

namespace Go.Proofs.YtnkafagfkblfeaaDoor
open Go Sz Go.ChangeShapes Go.WideShapes Go.ChangeAt Go.RowKit

theorem Tryd.own : ownKnob Tryd.prog.godebug = none := by kernel_rfl
theorem Tryd.laidOut : laidOutB Tryd.prog = true := by kernel_rfl

theorem lab_of {v : AV} (h : HasTy Tryd.prog 36 v) : ∃ x : BitVec 64, v = labA x := ty_u64 Tryd.underlying36 h
theorem labs_of {v : AV} (h : HasTy Tryd.prog 22 v) : ∃ l : List (BitVec 64), v = .sl (l.map labA) ∧ l.length ≤ maxLen := by
  obtain ⟨xs, rfl, hl, hx⟩ := ty_sl Tryd.underlying22 h
  obtain ⟨l, rfl⟩ := ty_map (f := labA) fun x h => lab_of (hx x h)
  exact ⟨l, rfl, by simpa using hl⟩
theorem strs_of {v : AV} (h : HasTy Tryd.prog 29 v) : ∃ l : List (List UInt8), v = .sl (l.map .str) ∧ l.length ≤ maxLen := by
  obtain ⟨xs, rfl, hl, hx⟩ := ty_sl Tryd.underlying29 h
  obtain ⟨l, rfl⟩ := ty_map (f := AV.str) fun x h => by
    obtain ⟨s, rfl, _⟩ := ty_str Tryd.underlying9 (hx x h)
    exact ⟨s, rfl⟩
  exact ⟨l, rfl, by simpa using hl⟩
end Go.Proofs.YtnkafagfkblfeaaDoor

namespace Go.Proofs.YtnkafagfkblfeaaDoor
open Go Sz

theorem labelJoins_law (avs : List AV) (h : HasTys Tryd.prog Tryd.f6.params.toList avs) : PrimOK Tryd.prog 6 avs (.bool true) := by
  rw [Tryd.params6] at h
  cases h with
  | cons h1 r1 =>
    cases r1 with
    | cons h2 r2 =>
      cases r2
      obtain ⟨l, rfl, _⟩ := labs_of h1
      obtain ⟨t, rfl⟩ := lab_of h2
      exact labelJoins_prim trimS_ok l t
theorem labelTexts_law (avs : List AV) (h : HasTys Tryd.prog Tryd.f8.params.toList avs) : PrimOK Tryd.prog 8 avs (.bool true) := by
  rw [Tryd.params8] at h
  cases h with
  | cons h1 r1 =>
    cases r1 with
    | cons h2 r2 =>
      cases r2
      obtain ⟨a, rfl⟩ := lab_of h1
      obtain ⟨b, rfl⟩ := lab_of h2
      exact labelTexts_prim trimS_ok a b
theorem labelKnown_law (avs : List AV) (h : HasTys Tryd.prog Tryd.f9.params.toList avs) : PrimOK Tryd.prog 9 avs (.bool true) := by
  rw [Tryd.params9] at h
  cases h
  exact labelKnown_prim trimS_ok
end Go.Proofs.YtnkafagfkblfeaaDoor
