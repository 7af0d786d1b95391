import Derived.Test.YtleeinkdkllcdaaGreatDoorKc
set_option linter.unusedVariables false
set_option linter.unusedSimpArgs false
set_option linter.unusedSectionVars false

namespace Go.Proofs.YtleeinkdkllcdaaGreatDoor
open Go Sz
set_option maxRecDepth 100000

/-! Closed runs. -/
theorem kbe2_0 : evCall (envOf kbS1) 90 51 [kbV0, .str [102, 40, 97, 41, 32, 46]] h0 = some (.tuple [.agg [.int .i64 2, .int .i64 0, .str [102], .sl [.agg [.int .i64 2, .int .i64 0, .str [97], .nils]]], .nils, .int .i64 0], h0) := by kernel_rfl
theorem kbe2_1 : evCall (envOf kbS1) 90 51 [kbV0, .str [91, 102, 44, 97, 93, 32, 46]] h0 = some (.tuple [.agg [.int .i64 2, .int .i64 0, .str [46], .sl [.agg [.int .i64 2, .int .i64 0, .str [102], .nils], .agg [.int .i64 2, .int .i64 0, .str [46], .sl [.agg [.int .i64 2, .int .i64 0, .str [97], .nils], .agg [.int .i64 2, .int .i64 0, .str [91, 93], .nils]]]]], .nils, .int .i64 0], h0) := by kernel_rfl
theorem kbe2_2 : evCall (envOf kbS1) 90 51 [kbV0, .str [88, 32, 46]] h0 = some (.tuple [.agg [.int .i64 0, .int .i64 0, .str [], .nils], .sl [.agg [.str [88], .int .i64 0]], .int .i64 0], h0) := by kernel_rfl
theorem kbe2_3 : evCall (envOf kbS1) 90 51 [kbV0, .str [91, 88, 93, 32, 46]] h0 = some (.tuple [.agg [.int .i64 2, .int .i64 0, .str [46], .sl [.agg [.int .i64 0, .int .i64 0, .str [], .nils], .agg [.int .i64 2, .int .i64 0, .str [91, 93], .nils]]], .sl [.agg [.str [88], .int .i64 0]], .int .i64 0], h0) := by kernel_rfl

end Go.Proofs.YtleeinkdkllcdaaGreatDoor

namespace Go.Proofs.YtleeinkdkllcdaaGreatDoor
open Go Sz
set_option maxRecDepth 100000

/-! Closed runs. -/
theorem kbe2_4 : evCall (envOf kbS1) 90 51 [kbV0, .str [91, 102, 40, 97, 41, 93, 32, 46]] h0 = some (.tuple [.agg [.int .i64 2, .int .i64 0, .str [46], .sl [.agg [.int .i64 2, .int .i64 0, .str [102], .sl [.agg [.int .i64 2, .int .i64 0, .str [97], .nils]]], .agg [.int .i64 2, .int .i64 0, .str [91, 93], .nils]]], .nils, .int .i64 0], h0) := by kernel_rfl
theorem kbe2_5 : evCall (envOf kbS1) 90 51 [kbV0, .str [91, 51, 93, 32, 46]] h0 = some (.tuple [.agg [.int .i64 2, .int .i64 0, .str [46], .sl [.agg [.int .i64 1, .int .i64 3, .str [], .nils], .agg [.int .i64 2, .int .i64 0, .str [91, 93], .nils]]], .nils, .int .i64 0], h0) := by kernel_rfl
theorem kbe2_6 : evCall (envOf kbS1) 90 51 [kbV0, .str [91, 51, 44, 97, 93, 32, 46]] h0 = some (.tuple [.agg [.int .i64 2, .int .i64 0, .str [46], .sl [.agg [.int .i64 1, .int .i64 3, .str [], .nils], .agg [.int .i64 2, .int .i64 0, .str [46], .sl [.agg [.int .i64 2, .int .i64 0, .str [97], .nils], .agg [.int .i64 2, .int .i64 0, .str [91, 93], .nils]]]]], .nils, .int .i64 0], h0) := by kernel_rfl

end Go.Proofs.YtleeinkdkllcdaaGreatDoor

namespace Go.Proofs.YtleeinkdkllcdaaGreatDoor
open Go Sz
set_option maxRecDepth 100000

/-! Closed runs. -/
theorem kbe2_7 : evCall (envOf kbS1) 90 51 [kbV0, .str [91, 102, 40, 97, 41, 44, 98, 93, 32, 46]] h0 = some (.tuple [.agg [.int .i64 2, .int .i64 0, .str [46], .sl [.agg [.int .i64 2, .int .i64 0, .str [102], .sl [.agg [.int .i64 2, .int .i64 0, .str [97], .nils]]], .agg [.int .i64 2, .int .i64 0, .str [46], .sl [.agg [.int .i64 2, .int .i64 0, .str [98], .nils], .agg [.int .i64 2, .int .i64 0, .str [91, 93], .nils]]]]], .nils, .int .i64 0], h0) := by kernel_rfl
theorem kbe2_8 : evCall (envOf kbS1) 90 51 [kbV0, .str [91, 93, 32, 46]] h0 = some (.tuple [.agg [.int .i64 2, .int .i64 0, .str [91, 93], .nils], .nils, .int .i64 0], h0) := by kernel_rfl
theorem kbe2_9 : evCall (envOf kbS1) 90 51 [kbV0, .str [91, 102, 124, 88, 93, 32, 46]] h0 = some (.tuple [.agg [.int .i64 2, .int .i64 0, .str [46], .sl [.agg [.int .i64 2, .int .i64 0, .str [102], .nils], .agg [.int .i64 0, .int .i64 0, .str [], .nils]]], .sl [.agg [.str [88], .int .i64 0]], .int .i64 0], h0) := by kernel_rfl

end Go.Proofs.YtleeinkdkllcdaaGreatDoor
