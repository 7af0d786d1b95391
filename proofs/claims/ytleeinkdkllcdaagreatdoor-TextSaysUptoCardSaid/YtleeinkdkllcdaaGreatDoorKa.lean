import Derived.Test.YtleeinkdkllcdaaGreatDoorFn
set_option linter.unusedVariables false
set_option linter.unusedSimpArgs false
set_option linter.unusedSectionVars false
set_option maxHeartbeats 16000000
set_option maxRecDepth 100000

namespace Go.Proofs.YtleeinkdkllcdaaGreatDoor
open Go Sz
def ssA : List KSpec := [goodTS, sameS, compS, atomS, intS, varS, listS, itemsS, indexByteS, hasPrefixS, trimPrefixS, trimS, parseS, goodOpS, findS]
theorem ssA_ok : ∀ s ∈ ssA, KSpecOKX Tryz.prog TabX s := by simp [ssA, goodTS_ok.lift, sameS_ok.lift, compS_ok.lift, atomS_ok.lift, intS_ok.lift, varS_ok.lift, listS_ok.lift, itemsS_ok.lift, indexByteS_ok.lift, hasPrefixS_ok.lift, trimPrefixS_ok.lift, trimS_ok.lift, parseS_ok, goodOpS_ok.lift, findS_ok.lift]
end Go.Proofs.YtleeinkdkllcdaaGreatDoor
