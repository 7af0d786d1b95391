import Derived.Test.YtnkafagfkblfeaaDoorFnB
import Derived.Test.YtnkafagfkblfeaaDoorFn
import Derived.Test.YtnkafagfkblfeaaDoorTy
set_option linter.unusedVariables false
set_option linter.unusedSimpArgs false
set_option linter.unusedSectionVars false

namespace Go.Proofs.YtnkafagfkblfeaaDoor
open Go Sz

theorem labelLattice_law (avs : List AV) (h : HasTys Tryd.prog Tryd.f10.params.toList avs) : PrimOK Tryd.prog 10 avs (.bool true) := by
  rw [Tryd.params10] at h
  cases h with
  | cons h1 r1 => cases r1 with
    | cons h2 r2 => cases r2 with
      | cons h3 r3 =>
        cases r3
        obtain ⟨a, rfl⟩ := lab_of h1
        obtain ⟨b, rfl⟩ := lab_of h2
        obtain ⟨c, rfl⟩ := lab_of h3
        exact labelLattice_prim trimS_ok a b c
theorem labelSays_law (avs : List AV) (h : HasTys Tryd.prog Tryd.f7.params.toList avs) : PrimOK Tryd.prog 7 avs (.bool true) := by
  rw [Tryd.params7] at h
  cases h with
  | cons h1 r1 => cases r1 with
    | cons h2 r2 => cases r2 with
      | cons h3 r3 => cases r3 with
        | cons h4 r4 =>
          cases r4
          obtain ⟨l, rfl, _⟩ := strs_of h1
          obtain ⟨a, rfl⟩ := lab_of h2
          obtain ⟨b, rfl⟩ := lab_of h3
          obtain ⟨s, rfl, _⟩ := ty_str Tryd.underlying9 h4
          exact labelSays_prim trimS_ok l a b s
end Go.Proofs.YtnkafagfkblfeaaDoor
