import Derived.Test.YtlakiipofcibhaaGreatDoorKra
set_option linter.unusedVariables false
set_option linter.unusedSimpArgs false
set_option linter.unusedSectionVars false

namespace Go.Proofs.YtlakiipofcibhaaGreatDoor
open Go Sz
set_option maxRecDepth 100000

/-! Closed runs. -/
theorem kre1_39 : evCall (envOf ssA) 90 73 [.str [123, 97, 44, 98, 125, 46]] h0 = some (.tuple [.sl [.agg [.int .i64 5, .str [123], .int .i64 0, .bool false, .int .i64 0], .agg [.int .i64 1, .str [97], .int .i64 0, .bool false, .int .i64 1], .agg [.int .i64 5, .str [44], .int .i64 0, .bool false, .int .i64 2], .agg [.int .i64 1, .str [98], .int .i64 0, .bool false, .int .i64 3], .agg [.int .i64 5, .str [125], .int .i64 0, .bool false, .int .i64 4], .agg [.int .i64 6, .str [], .int .i64 0, .bool false, .int .i64 5]], .int .i64 6, .int .i64 0], h0) := by kernel_rfl
theorem kre1_40 : evCall (envOf ssA) 90 95 [.agg [.int .i64 2, .int .i64 0, .str [123, 125], .sl [.agg [.int .i64 2, .int .i64 0, .str [44], .sl [.agg [.int .i64 2, .int .i64 0, .str [97], .nils], .agg [.int .i64 2, .int .i64 0, .str [98], .nils]]]]]] h0 = some (.bool true, h0) := by kernel_rfl
theorem kre1_41 : evCall (envOf ssA) 90 98 [.str [44]] h0 = some (.str [39, 44, 39], h0) := by kernel_rfl
theorem kre1_42 : evCall (envOf ssA) 90 73 [.str [92, 43, 32, 97, 32, 61, 32, 98, 46]] h0 = some (.tuple [.sl [.agg [.int .i64 1, .str [92, 43], .int .i64 0, .bool false, .int .i64 0], .agg [.int .i64 1, .str [97], .int .i64 0, .bool false, .int .i64 3], .agg [.int .i64 1, .str [61], .int .i64 0, .bool false, .int .i64 5], .agg [.int .i64 1, .str [98], .int .i64 0, .bool false, .int .i64 7], .agg [.int .i64 6, .str [], .int .i64 0, .bool false, .int .i64 8]], .int .i64 9, .int .i64 0], h0) := by kernel_rfl
theorem kre1_43 : evCall (envOf ssA) 90 95 [.agg [.int .i64 2, .int .i64 0, .str [92, 43], .sl [.agg [.int .i64 2, .int .i64 0, .str [61], .sl [.agg [.int .i64 2, .int .i64 0, .str [97], .nils], .agg [.int .i64 2, .int .i64 0, .str [98], .nils]]]]]] h0 = some (.bool true, h0) := by kernel_rfl

end Go.Proofs.YtlakiipofcibhaaGreatDoor

namespace Go.Proofs.YtlakiipofcibhaaGreatDoor
open Go Sz
set_option maxRecDepth 100000

/-! Closed runs. -/
theorem kre1_44 : evCall (envOf ssA) 90 167 [.str [92, 43], .int .i64 0] h0 = some (.tuple [.agg [.int .i64 1, .str [92, 43], .int .i64 0, .bool false, .int .i64 0], .int .i64 2, .int .i64 0], h0) := by kernel_rfl
theorem kre1_45 : evCall (envOf ssA) 90 73 [.str [45, 32, 45, 32, 97, 46]] h0 = some (.tuple [.sl [.agg [.int .i64 1, .str [45], .int .i64 0, .bool false, .int .i64 0], .agg [.int .i64 1, .str [45], .int .i64 0, .bool false, .int .i64 2], .agg [.int .i64 1, .str [97], .int .i64 0, .bool false, .int .i64 4], .agg [.int .i64 6, .str [], .int .i64 0, .bool false, .int .i64 5]], .int .i64 6, .int .i64 0], h0) := by kernel_rfl
theorem kre1_46 : evCall (envOf ssA) 90 66 [.agg [.int .i64 2, .int .i64 0, .str [45], .sl [.agg [.int .i64 2, .int .i64 0, .str [45], .sl [.agg [.int .i64 2, .int .i64 0, .str [97], .nils]]]]]] h0 = some (.bool true, h0) := by kernel_rfl

end Go.Proofs.YtlakiipofcibhaaGreatDoor

namespace Go.Proofs.YtlakiipofcibhaaGreatDoor
open Go Sz
set_option maxRecDepth 100000

/-! Closed runs. -/
theorem kre1_47 : evCall (envOf ssA) 90 73 [.str [102, 40, 97, 44, 32, 40, 98, 32, 58, 45, 32, 99, 41, 41, 46]] h0 = some (.tuple [.sl [.agg [.int .i64 1, .str [102], .int .i64 0, .bool true, .int .i64 0], .agg [.int .i64 5, .str [40], .int .i64 0, .bool false, .int .i64 1], .agg [.int .i64 1, .str [97], .int .i64 0, .bool false, .int .i64 2], .agg [.int .i64 5, .str [44], .int .i64 0, .bool false, .int .i64 3], .agg [.int .i64 5, .str [40], .int .i64 0, .bool false, .int .i64 5], .agg [.int .i64 1, .str [98], .int .i64 0, .bool false, .int .i64 6], .agg [.int .i64 1, .str [58, 45], .int .i64 0, .bool false, .int .i64 8], .agg [.int .i64 1, .str [99], .int .i64 0, .bool false, .int .i64 11], .agg [.int .i64 5, .str [41], .int .i64 0, .bool false, .int .i64 12], .agg [.int .i64 5, .str [41], .int .i64 0, .bool false, .int .i64 13], .agg [.int .i64 6, .str [], .int .i64 0, .bool false, .int .i64 14]], .int .i64 15, .int .i64 0], h0) := by kernel_rfl
theorem kre1_48 : evCall (envOf ssA) 90 95 [.agg [.int .i64 2, .int .i64 0, .str [102], .sl [.agg [.int .i64 2, .int .i64 0, .str [97], .nils], .agg [.int .i64 2, .int .i64 0, .str [58, 45], .sl [.agg [.int .i64 2, .int .i64 0, .str [98], .nils], .agg [.int .i64 2, .int .i64 0, .str [99], .nils]]]]]] h0 = some (.bool true, h0) := by kernel_rfl
theorem kre1_49 : evCall (envOf ssA) 90 167 [.str [58, 45], .int .i64 0] h0 = some (.tuple [.agg [.int .i64 1, .str [58, 45], .int .i64 0, .bool false, .int .i64 0], .int .i64 2, .int .i64 0], h0) := by kernel_rfl

end Go.Proofs.YtlakiipofcibhaaGreatDoor

namespace Go.Proofs.YtlakiipofcibhaaGreatDoor
open Go Sz
set_option maxRecDepth 100000

/-! Closed runs. -/
theorem kre1_50 : evCall (envOf ssA) 90 73 [.str [39, 43, 39, 40, 49, 44, 50, 41, 46]] h0 = some (.tuple [.sl [.agg [.int .i64 2, .str [43], .int .i64 0, .bool true, .int .i64 0], .agg [.int .i64 5, .str [40], .int .i64 0, .bool false, .int .i64 3], .agg [.int .i64 4, .str [], .int .i64 1, .bool false, .int .i64 4], .agg [.int .i64 5, .str [44], .int .i64 0, .bool false, .int .i64 5], .agg [.int .i64 4, .str [], .int .i64 2, .bool false, .int .i64 6], .agg [.int .i64 5, .str [41], .int .i64 0, .bool false, .int .i64 7], .agg [.int .i64 6, .str [], .int .i64 0, .bool false, .int .i64 8]], .int .i64 9, .int .i64 0], h0) := by kernel_rfl
theorem kre1_51 : evCall (envOf ssA) 90 66 [.agg [.int .i64 2, .int .i64 0, .str [43], .sl [.agg [.int .i64 1, .int .i64 1, .str [], .nils], .agg [.int .i64 1, .int .i64 2, .str [], .nils]]]] h0 = some (.bool true, h0) := by kernel_rfl

end Go.Proofs.YtlakiipofcibhaaGreatDoor

namespace Go.Proofs.YtlakiipofcibhaaGreatDoor
open Go Sz
set_option maxRecDepth 100000

/-! Closed runs. -/
theorem kre1_52 : evCall (envOf ssA) 90 73 [.str [97, 58, 45, 98, 44, 99, 59, 100, 45, 62, 101, 46]] h0 = some (.tuple [.sl [.agg [.int .i64 1, .str [97], .int .i64 0, .bool false, .int .i64 0], .agg [.int .i64 1, .str [58, 45], .int .i64 0, .bool false, .int .i64 1], .agg [.int .i64 1, .str [98], .int .i64 0, .bool false, .int .i64 3], .agg [.int .i64 5, .str [44], .int .i64 0, .bool false, .int .i64 4], .agg [.int .i64 1, .str [99], .int .i64 0, .bool false, .int .i64 5], .agg [.int .i64 1, .str [59], .int .i64 0, .bool false, .int .i64 6], .agg [.int .i64 1, .str [100], .int .i64 0, .bool false, .int .i64 7], .agg [.int .i64 1, .str [45, 62], .int .i64 0, .bool false, .int .i64 8], .agg [.int .i64 1, .str [101], .int .i64 0, .bool false, .int .i64 10], .agg [.int .i64 6, .str [], .int .i64 0, .bool false, .int .i64 11]], .int .i64 12, .int .i64 0], h0) := by kernel_rfl
theorem kre1_53 : evCall (envOf ssA) 90 41 [.agg [.int .i64 2, .int .i64 0, .str [58, 45], .sl [.agg [.int .i64 2, .int .i64 0, .str [97], .nils], .agg [.int .i64 2, .int .i64 0, .str [59], .sl [.agg [.int .i64 2, .int .i64 0, .str [44], .sl [.agg [.int .i64 2, .int .i64 0, .str [98], .nils], .agg [.int .i64 2, .int .i64 0, .str [99], .nils]]], .agg [.int .i64 2, .int .i64 0, .str [45, 62], .sl [.agg [.int .i64 2, .int .i64 0, .str [100], .nils], .agg [.int .i64 2, .int .i64 0, .str [101], .nils]]]]]]]] h0 = some (.agg [.int .i64 2, .int .i64 0, .str [58, 45], .sl [.agg [.int .i64 2, .int .i64 0, .str [97], .nils], .agg [.int .i64 2, .int .i64 0, .str [59], .sl [.agg [.int .i64 2, .int .i64 0, .str [44], .sl [.agg [.int .i64 2, .int .i64 0, .str [98], .nils], .agg [.int .i64 2, .int .i64 0, .str [99], .nils]]], .agg [.int .i64 2, .int .i64 0, .str [45, 62], .sl [.agg [.int .i64 2, .int .i64 0, .str [100], .nils], .agg [.int .i64 2, .int .i64 0, .str [101], .nils]]]]]]], h0) := by kernel_rfl
theorem kre1_54 : evCall (envOf ssA) 90 93 [.agg [.int .i64 2, .int .i64 0, .str [58, 45], .sl [.agg [.int .i64 2, .int .i64 0, .str [97], .nils], .agg [.int .i64 2, .int .i64 0, .str [59], .sl [.agg [.int .i64 2, .int .i64 0, .str [44], .sl [.agg [.int .i64 2, .int .i64 0, .str [98], .nils], .agg [.int .i64 2, .int .i64 0, .str [99], .nils]]], .agg [.int .i64 2, .int .i64 0, .str [45, 62], .sl [.agg [.int .i64 2, .int .i64 0, .str [100], .nils], .agg [.int .i64 2, .int .i64 0, .str [101], .nils]]]]]]], .int .i64 2000] h0 = some (.int .i64 9, h0) := by kernel_rfl
theorem kre1_55 : evCall (envOf ssA) 90 95 [.agg [.int .i64 2, .int .i64 0, .str [59], .sl [.agg [.int .i64 2, .int .i64 0, .str [44], .sl [.agg [.int .i64 2, .int .i64 0, .str [98], .nils], .agg [.int .i64 2, .int .i64 0, .str [99], .nils]]], .agg [.int .i64 2, .int .i64 0, .str [45, 62], .sl [.agg [.int .i64 2, .int .i64 0, .str [100], .nils], .agg [.int .i64 2, .int .i64 0, .str [101], .nils]]]]]] h0 = some (.bool true, h0) := by kernel_rfl

end Go.Proofs.YtlakiipofcibhaaGreatDoor

namespace Go.Proofs.YtlakiipofcibhaaGreatDoor
open Go Sz
set_option maxRecDepth 100000

/-! Closed runs. -/
theorem kre1_56 : evCall (envOf ssA) 90 167 [.str [45, 62], .int .i64 0] h0 = some (.tuple [.agg [.int .i64 1, .str [45, 62], .int .i64 0, .bool false, .int .i64 0], .int .i64 2, .int .i64 0], h0) := by kernel_rfl
theorem kre1_57 : evCall (envOf ssA) 90 73 [.str [88, 32, 61, 32, 39, 61, 39, 46]] h0 = some (.tuple [.sl [.agg [.int .i64 3, .str [88], .int .i64 0, .bool false, .int .i64 0], .agg [.int .i64 1, .str [61], .int .i64 0, .bool false, .int .i64 2], .agg [.int .i64 2, .str [61], .int .i64 0, .bool false, .int .i64 4], .agg [.int .i64 6, .str [], .int .i64 0, .bool false, .int .i64 7]], .int .i64 8, .int .i64 0], h0) := by kernel_rfl
theorem kre1_58 : evCall (envOf ssA) 90 66 [.agg [.int .i64 2, .int .i64 0, .str [61], .sl [.agg [.int .i64 0, .int .i64 0, .str [], .nils], .agg [.int .i64 2, .int .i64 0, .str [61], .nils]]]] h0 = some (.bool true, h0) := by kernel_rfl
theorem kre1_59 : evCall (envOf ssA) 90 73 [.str [91, 93, 46]] h0 = some (.tuple [.sl [.agg [.int .i64 1, .str [91, 93], .int .i64 0, .bool false, .int .i64 0], .agg [.int .i64 6, .str [], .int .i64 0, .bool false, .int .i64 2]], .int .i64 3, .int .i64 0], h0) := by kernel_rfl
theorem kre1_60 : evCall (envOf ssA) 90 40 [.agg [.int .i64 2, .int .i64 0, .str [91, 93], .nils]] h0 = some (.tuple [.str [91, 93], .int .i64 0], h0) := by kernel_rfl

end Go.Proofs.YtlakiipofcibhaaGreatDoor
