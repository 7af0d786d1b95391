import Derived.Test.YtleeinkdkllcdaaGreatDoorFn
set_option linter.unusedVariables false
set_option linter.unusedSimpArgs false
set_option linter.unusedSectionVars false

namespace Go.Proofs.YtleeinkdkllcdaaGreatDoor
open Go Sz

/-! Known calls of closed runs. -/
def ssA : List KSpec := [goodTS, sameS, compS, atomS, intS, varS, listS, itemsS, indexByteS, hasPrefixS, trimPrefixS, trimS, parseS, goodOpS, findS]
theorem ssA_ok : ∀ s ∈ ssA, KSpecOKX Tryz.prog TabX s := by simp [ssA, goodTS_ok.lift, sameS_ok.lift, compS_ok.lift, atomS_ok.lift, intS_ok.lift, varS_ok.lift, listS_ok.lift, itemsS_ok.lift, indexByteS_ok.lift, hasPrefixS_ok.lift, trimPrefixS_ok.lift, trimS_ok.lift, parseS_ok, goodOpS_ok.lift, findS_ok.lift]
end Go.Proofs.YtleeinkdkllcdaaGreatDoor

namespace Go.Proofs.YtleeinkdkllcdaaGreatDoor
open Go Sz
set_option maxRecDepth 100000

/-! Constants of closed runs. -/
def kbV0 : AV := .agg [.sl [.agg [.str [58, 45], .str [120, 102, 120], .int .i64 1200], .agg [.str [59], .str [120, 102, 121], .int .i64 1100], .agg [.str [45, 62], .str [120, 102, 121], .int .i64 1050], .agg [.str [44], .str [120, 102, 121], .int .i64 1000], .agg [.str [92, 43], .str [102, 121], .int .i64 900], .agg [.str [61], .str [120, 102, 120], .int .i64 700], .agg [.str [92, 61], .str [120, 102, 120], .int .i64 700], .agg [.str [61, 61], .str [120, 102, 120], .int .i64 700], .agg [.str [92, 61, 61], .str [120, 102, 120], .int .i64 700], .agg [.str [64, 60], .str [120, 102, 120], .int .i64 700], .agg [.str [64, 62], .str [120, 102, 120], .int .i64 700], .agg [.str [64, 61, 60], .str [120, 102, 120], .int .i64 700], .agg [.str [64, 62, 61], .str [120, 102, 120], .int .i64 700], .agg [.str [61, 46, 46], .str [120, 102, 120], .int .i64 700], .agg [.str [105, 115], .str [120, 102, 120], .int .i64 700], .agg [.str [61, 58, 61], .str [120, 102, 120], .int .i64 700], .agg [.str [61, 92, 61], .str [120, 102, 120], .int .i64 700], .agg [.str [60], .str [120, 102, 120], .int .i64 700], .agg [.str [62], .str [120, 102, 120], .int .i64 700], .agg [.str [61, 60], .str [120, 102, 120], .int .i64 700], .agg [.str [62, 61], .str [120, 102, 120], .int .i64 700], .agg [.str [43], .str [121, 102, 120], .int .i64 500], .agg [.str [45], .str [121, 102, 120], .int .i64 500], .agg [.str [47, 92], .str [121, 102, 120], .int .i64 500], .agg [.str [92, 47], .str [121, 102, 120], .int .i64 500], .agg [.str [120, 111, 114], .str [121, 102, 120], .int .i64 500], .agg [.str [42], .str [121, 102, 120], .int .i64 400], .agg [.str [47, 47], .str [121, 102, 120], .int .i64 400], .agg [.str [109, 111, 100], .str [121, 102, 120], .int .i64 400], .agg [.str [114, 101, 109], .str [121, 102, 120], .int .i64 400], .agg [.str [62, 62], .str [121, 102, 120], .int .i64 400], .agg [.str [60, 60], .str [121, 102, 120], .int .i64 400], .agg [.str [94], .str [120, 102, 121], .int .i64 200], .agg [.str [45], .str [102, 121], .int .i64 200], .agg [.str [92], .str [102, 121], .int .i64 200]]]

end Go.Proofs.YtleeinkdkllcdaaGreatDoor
