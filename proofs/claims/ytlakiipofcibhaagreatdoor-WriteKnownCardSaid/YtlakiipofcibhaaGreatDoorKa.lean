import Derived.Test.YtlakiipofcibhaaGreatDoorFn
set_option linter.unusedVariables false
set_option linter.unusedSimpArgs false
set_option linter.unusedSectionVars false

namespace Go.Proofs.YtlakiipofcibhaaGreatDoor
open Go Sz

/-! Known calls of closed runs. -/
def ssA : List KSpec := [goodTS, sameS, compS, atomS, intS, varS, listS, itemsS, indexByteS, hasPrefixS, trimPrefixS, trimS, parseS, goodOpS, findS, joinS, formatS]
theorem ssA_ok : ∀ s ∈ ssA, KSpecOKX Tryz.prog TabX s := by simp [ssA, goodTS_ok.lift, sameS_ok.lift, compS_ok.lift, atomS_ok.lift, intS_ok.lift, varS_ok.lift, listS_ok.lift, itemsS_ok.lift, indexByteS_ok.lift, hasPrefixS_ok.lift, trimPrefixS_ok.lift, trimS_ok.lift, parseS_ok, goodOpS_ok.lift, findS_ok.lift, joinS_ok.lift, formatS_ok]
end Go.Proofs.YtlakiipofcibhaaGreatDoor
