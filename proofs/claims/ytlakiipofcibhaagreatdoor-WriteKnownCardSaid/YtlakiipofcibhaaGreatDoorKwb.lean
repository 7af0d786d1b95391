import Derived.Test.YtlakiipofcibhaaGreatDoorKwa
set_option linter.unusedVariables false
set_option linter.unusedSimpArgs false
set_option linter.unusedSectionVars false

namespace Go.Proofs.YtlakiipofcibhaaGreatDoor
open Go Sz
set_option maxRecDepth 100000

/-! Closed runs. -/
theorem kwe1_16 : evCall (envOf ssA) 90 149 [.str [91, 93]] h0 = some (.bool true, h0) := by kernel_rfl
theorem kwe1_17 : evCall (envOf ssA) 90 73 [.str [123, 97, 44, 98, 125, 32, 46]] h0 = some (.tuple [.sl [.agg [.int .i64 5, .str [123], .int .i64 0, .bool false, .int .i64 0], .agg [.int .i64 1, .str [97], .int .i64 0, .bool false, .int .i64 1], .agg [.int .i64 5, .str [44], .int .i64 0, .bool false, .int .i64 2], .agg [.int .i64 1, .str [98], .int .i64 0, .bool false, .int .i64 3], .agg [.int .i64 5, .str [125], .int .i64 0, .bool false, .int .i64 4], .agg [.int .i64 6, .str [], .int .i64 0, .bool false, .int .i64 6]], .int .i64 7, .int .i64 0], h0) := by kernel_rfl
theorem kwe1_18 : evCall (envOf ssA) 90 20 [kwV0, .agg [.int .i64 2, .int .i64 0, .str [123, 125], .sl [.agg [.int .i64 2, .int .i64 0, .str [44], .sl [.agg [.int .i64 2, .int .i64 0, .str [97], .nils], .agg [.int .i64 2, .int .i64 0, .str [98], .nils]]]]]] h0 = some (.tuple [.str [123, 97, 44, 98, 125], .int .i64 0], h0) := by kernel_rfl

end Go.Proofs.YtlakiipofcibhaaGreatDoor

namespace Go.Proofs.YtlakiipofcibhaaGreatDoor
open Go Sz
set_option maxRecDepth 100000

/-! Closed runs. -/
theorem kwe1_19 : evCall (envOf ssA) 90 73 [.str [39, 88, 39, 40, 98, 41, 32, 46]] h0 = some (.tuple [.sl [.agg [.int .i64 2, .str [88], .int .i64 0, .bool true, .int .i64 0], .agg [.int .i64 5, .str [40], .int .i64 0, .bool false, .int .i64 3], .agg [.int .i64 1, .str [98], .int .i64 0, .bool false, .int .i64 4], .agg [.int .i64 5, .str [41], .int .i64 0, .bool false, .int .i64 5], .agg [.int .i64 6, .str [], .int .i64 0, .bool false, .int .i64 7]], .int .i64 8, .int .i64 0], h0) := by kernel_rfl
theorem kwe1_20 : evCall (envOf ssA) 90 149 [.str [88]] h0 = some (.bool false, h0) := by kernel_rfl
theorem kwe1_21 : evCall (envOf ssA) 90 73 [.str [97, 44, 98, 44, 99, 32, 46]] h0 = some (.tuple [.sl [.agg [.int .i64 1, .str [97], .int .i64 0, .bool false, .int .i64 0], .agg [.int .i64 5, .str [44], .int .i64 0, .bool false, .int .i64 1], .agg [.int .i64 1, .str [98], .int .i64 0, .bool false, .int .i64 2], .agg [.int .i64 5, .str [44], .int .i64 0, .bool false, .int .i64 3], .agg [.int .i64 1, .str [99], .int .i64 0, .bool false, .int .i64 4], .agg [.int .i64 6, .str [], .int .i64 0, .bool false, .int .i64 6]], .int .i64 7, .int .i64 0], h0) := by kernel_rfl

end Go.Proofs.YtlakiipofcibhaaGreatDoor

namespace Go.Proofs.YtlakiipofcibhaaGreatDoor
open Go Sz
set_option maxRecDepth 100000

/-! Closed runs. -/
theorem kwe1_22 : evCall (envOf ssA) 90 20 [kwV0, .agg [.int .i64 2, .int .i64 0, .str [44], .sl [.agg [.int .i64 2, .int .i64 0, .str [97], .nils], .agg [.int .i64 2, .int .i64 0, .str [44], .sl [.agg [.int .i64 2, .int .i64 0, .str [98], .nils], .agg [.int .i64 2, .int .i64 0, .str [99], .nils]]]]]] h0 = some (.tuple [.str [97, 44, 98, 44, 99], .int .i64 0], h0) := by kernel_rfl
theorem kwe1_23 : evCall (envOf ssA) 90 73 [.str [40, 97, 44, 98, 41, 44, 99, 32, 46]] h0 = some (.tuple [.sl [.agg [.int .i64 5, .str [40], .int .i64 0, .bool false, .int .i64 0], .agg [.int .i64 1, .str [97], .int .i64 0, .bool false, .int .i64 1], .agg [.int .i64 5, .str [44], .int .i64 0, .bool false, .int .i64 2], .agg [.int .i64 1, .str [98], .int .i64 0, .bool false, .int .i64 3], .agg [.int .i64 5, .str [41], .int .i64 0, .bool false, .int .i64 4], .agg [.int .i64 5, .str [44], .int .i64 0, .bool false, .int .i64 5], .agg [.int .i64 1, .str [99], .int .i64 0, .bool false, .int .i64 6], .agg [.int .i64 6, .str [], .int .i64 0, .bool false, .int .i64 8]], .int .i64 9, .int .i64 0], h0) := by kernel_rfl

end Go.Proofs.YtlakiipofcibhaaGreatDoor

namespace Go.Proofs.YtlakiipofcibhaaGreatDoor
open Go Sz
set_option maxRecDepth 100000

/-! Closed runs. -/
theorem kwe1_24 : evCall (envOf ssA) 90 20 [kwV0, .agg [.int .i64 2, .int .i64 0, .str [44], .sl [.agg [.int .i64 2, .int .i64 0, .str [44], .sl [.agg [.int .i64 2, .int .i64 0, .str [97], .nils], .agg [.int .i64 2, .int .i64 0, .str [98], .nils]]], .agg [.int .i64 2, .int .i64 0, .str [99], .nils]]]] h0 = some (.tuple [.str [40, 97, 44, 98, 41, 44, 99], .int .i64 0], h0) := by kernel_rfl

end Go.Proofs.YtlakiipofcibhaaGreatDoor

namespace Go.Proofs.YtlakiipofcibhaaGreatDoor
open Go Sz
set_option maxRecDepth 100000

/-! Closed runs. -/
theorem kwe1_25 : evCall (envOf ssA) 90 73 [.str [102, 40, 40, 97, 44, 98, 41, 41, 32, 46]] h0 = some (.tuple [.sl [.agg [.int .i64 1, .str [102], .int .i64 0, .bool true, .int .i64 0], .agg [.int .i64 5, .str [40], .int .i64 0, .bool true, .int .i64 1], .agg [.int .i64 5, .str [40], .int .i64 0, .bool false, .int .i64 2], .agg [.int .i64 1, .str [97], .int .i64 0, .bool false, .int .i64 3], .agg [.int .i64 5, .str [44], .int .i64 0, .bool false, .int .i64 4], .agg [.int .i64 1, .str [98], .int .i64 0, .bool false, .int .i64 5], .agg [.int .i64 5, .str [41], .int .i64 0, .bool false, .int .i64 6], .agg [.int .i64 5, .str [41], .int .i64 0, .bool false, .int .i64 7], .agg [.int .i64 6, .str [], .int .i64 0, .bool false, .int .i64 9]], .int .i64 10, .int .i64 0], h0) := by kernel_rfl

end Go.Proofs.YtlakiipofcibhaaGreatDoor

namespace Go.Proofs.YtlakiipofcibhaaGreatDoor
open Go Sz
set_option maxRecDepth 100000

/-! Closed runs. -/
theorem kwe1_26 : evCall (envOf ssA) 90 20 [kwV0, .agg [.int .i64 2, .int .i64 0, .str [102], .sl [.agg [.int .i64 2, .int .i64 0, .str [44], .sl [.agg [.int .i64 2, .int .i64 0, .str [97], .nils], .agg [.int .i64 2, .int .i64 0, .str [98], .nils]]]]]] h0 = some (.tuple [.str [102, 40, 40, 97, 44, 98, 41, 41], .int .i64 0], h0) := by kernel_rfl

end Go.Proofs.YtlakiipofcibhaaGreatDoor
