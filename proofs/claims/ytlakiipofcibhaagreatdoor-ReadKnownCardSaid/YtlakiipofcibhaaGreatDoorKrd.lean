import Derived.Test.YtlakiipofcibhaaGreatDoorKra
set_option linter.unusedVariables false
set_option linter.unusedSimpArgs false
set_option linter.unusedSectionVars false

namespace Go.Proofs.YtlakiipofcibhaaGreatDoor
open Go Sz
set_option maxRecDepth 100000

/-! Closed runs. -/
theorem kre1_61 : evCall (envOf ssA) 90 73 [.str [102, 40, 43, 41, 46]] h0 = some (.tuple [.sl [.agg [.int .i64 1, .str [102], .int .i64 0, .bool true, .int .i64 0], .agg [.int .i64 5, .str [40], .int .i64 0, .bool false, .int .i64 1], .agg [.int .i64 1, .str [43], .int .i64 0, .bool false, .int .i64 2], .agg [.int .i64 5, .str [41], .int .i64 0, .bool false, .int .i64 3], .agg [.int .i64 6, .str [], .int .i64 0, .bool false, .int .i64 4]], .int .i64 5, .int .i64 0], h0) := by kernel_rfl
theorem kre1_62 : evCall (envOf ssA) 90 70 [.agg [.int .i64 2, .int .i64 0, .str [102], .sl [.agg [.int .i64 2, .int .i64 0, .str [43], .nils]]]] h0 = some (.nils, h0) := by kernel_rfl
theorem kre1_63 : evCall (envOf ssA) 90 73 [.str [45, 32, 97, 32, 42, 32, 98, 46]] h0 = some (.tuple [.sl [.agg [.int .i64 1, .str [45], .int .i64 0, .bool false, .int .i64 0], .agg [.int .i64 1, .str [97], .int .i64 0, .bool false, .int .i64 2], .agg [.int .i64 1, .str [42], .int .i64 0, .bool false, .int .i64 4], .agg [.int .i64 1, .str [98], .int .i64 0, .bool false, .int .i64 6], .agg [.int .i64 6, .str [], .int .i64 0, .bool false, .int .i64 7]], .int .i64 8, .int .i64 0], h0) := by kernel_rfl
theorem kre1_64 : evCall (envOf ssA) 90 95 [.agg [.int .i64 2, .int .i64 0, .str [42], .sl [.agg [.int .i64 2, .int .i64 0, .str [45], .sl [.agg [.int .i64 2, .int .i64 0, .str [97], .nils]]], .agg [.int .i64 2, .int .i64 0, .str [98], .nils]]]] h0 = some (.bool true, h0) := by kernel_rfl
theorem kre1_65 : evCall (envOf ssA) 90 167 [.str [42], .int .i64 0] h0 = some (.tuple [.agg [.int .i64 1, .str [42], .int .i64 0, .bool false, .int .i64 0], .int .i64 1, .int .i64 0], h0) := by kernel_rfl

end Go.Proofs.YtlakiipofcibhaaGreatDoor

namespace Go.Proofs.YtlakiipofcibhaaGreatDoor
open Go Sz
set_option maxRecDepth 100000

/-! Closed runs. -/
theorem kre1_66 : evCall (envOf ssA) 90 73 [.str [91, 45, 93, 46]] h0 = some (.tuple [.sl [.agg [.int .i64 5, .str [91], .int .i64 0, .bool false, .int .i64 0], .agg [.int .i64 1, .str [45], .int .i64 0, .bool false, .int .i64 1], .agg [.int .i64 5, .str [93], .int .i64 0, .bool false, .int .i64 2], .agg [.int .i64 6, .str [], .int .i64 0, .bool false, .int .i64 3]], .int .i64 4, .int .i64 0], h0) := by kernel_rfl
theorem kre1_67 : evCall (envOf ssA) 90 66 [.agg [.int .i64 2, .int .i64 0, .str [46], .sl [.agg [.int .i64 2, .int .i64 0, .str [45], .nils], .agg [.int .i64 2, .int .i64 0, .str [91, 93], .nils]]]] h0 = some (.bool true, h0) := by kernel_rfl
theorem kre1_68 : evCall (envOf ssA) 90 73 [.str [45, 40, 49, 44, 50, 41, 46]] h0 = some (.tuple [.sl [.agg [.int .i64 1, .str [45], .int .i64 0, .bool true, .int .i64 0], .agg [.int .i64 5, .str [40], .int .i64 0, .bool false, .int .i64 1], .agg [.int .i64 4, .str [], .int .i64 1, .bool false, .int .i64 2], .agg [.int .i64 5, .str [44], .int .i64 0, .bool false, .int .i64 3], .agg [.int .i64 4, .str [], .int .i64 2, .bool false, .int .i64 4], .agg [.int .i64 5, .str [41], .int .i64 0, .bool false, .int .i64 5], .agg [.int .i64 6, .str [], .int .i64 0, .bool false, .int .i64 6]], .int .i64 7, .int .i64 0], h0) := by kernel_rfl
theorem kre1_69 : evCall (envOf ssA) 90 66 [.agg [.int .i64 2, .int .i64 0, .str [45], .sl [.agg [.int .i64 1, .int .i64 1, .str [], .nils], .agg [.int .i64 1, .int .i64 2, .str [], .nils]]]] h0 = some (.bool true, h0) := by kernel_rfl

end Go.Proofs.YtlakiipofcibhaaGreatDoor

namespace Go.Proofs.YtlakiipofcibhaaGreatDoor
open Go Sz
set_option maxRecDepth 100000

/-! Closed runs. -/
theorem kre1_70 : evCall (envOf ssA) 90 73 [.str [95, 32, 61, 32, 95, 46]] h0 = some (.tuple [.sl [.agg [.int .i64 3, .str [95], .int .i64 0, .bool false, .int .i64 0], .agg [.int .i64 1, .str [61], .int .i64 0, .bool false, .int .i64 2], .agg [.int .i64 3, .str [95], .int .i64 0, .bool false, .int .i64 4], .agg [.int .i64 6, .str [], .int .i64 0, .bool false, .int .i64 5]], .int .i64 6, .int .i64 0], h0) := by kernel_rfl
theorem kre1_71 : evCall (envOf ssA) 90 66 [.agg [.int .i64 2, .int .i64 0, .str [61], .sl [.agg [.int .i64 0, .int .i64 0, .str [], .nils], .agg [.int .i64 0, .int .i64 1, .str [], .nils]]]] h0 = some (.bool true, h0) := by kernel_rfl
theorem kre1_72 : evCall (envOf ssA) 90 73 [.str [50, 32, 45, 32, 45, 49, 46]] h0 = some (.tuple [.sl [.agg [.int .i64 4, .str [], .int .i64 2, .bool false, .int .i64 0], .agg [.int .i64 1, .str [45], .int .i64 0, .bool false, .int .i64 2], .agg [.int .i64 1, .str [45], .int .i64 0, .bool false, .int .i64 4], .agg [.int .i64 4, .str [], .int .i64 1, .bool false, .int .i64 5], .agg [.int .i64 6, .str [], .int .i64 0, .bool false, .int .i64 6]], .int .i64 7, .int .i64 0], h0) := by kernel_rfl
theorem kre1_73 : evCall (envOf ssA) 90 66 [.agg [.int .i64 2, .int .i64 0, .str [45], .sl [.agg [.int .i64 1, .int .i64 2, .str [], .nils], .agg [.int .i64 1, .int .i64 (-1), .str [], .nils]]]] h0 = some (.bool true, h0) := by kernel_rfl

end Go.Proofs.YtlakiipofcibhaaGreatDoor

namespace Go.Proofs.YtlakiipofcibhaaGreatDoor
open Go Sz
set_option maxRecDepth 100000

/-! Closed runs. -/
theorem kre1_74 : evCall (envOf ssA) 90 73 [.str [97, 32, 105, 115, 32, 98, 32, 109, 111, 100, 32, 99, 46]] h0 = some (.tuple [.sl [.agg [.int .i64 1, .str [97], .int .i64 0, .bool false, .int .i64 0], .agg [.int .i64 1, .str [105, 115], .int .i64 0, .bool false, .int .i64 2], .agg [.int .i64 1, .str [98], .int .i64 0, .bool false, .int .i64 5], .agg [.int .i64 1, .str [109, 111, 100], .int .i64 0, .bool false, .int .i64 7], .agg [.int .i64 1, .str [99], .int .i64 0, .bool false, .int .i64 11], .agg [.int .i64 6, .str [], .int .i64 0, .bool false, .int .i64 12]], .int .i64 13, .int .i64 0], h0) := by kernel_rfl
theorem kre1_75 : evCall (envOf ssA) 90 95 [.agg [.int .i64 2, .int .i64 0, .str [105, 115], .sl [.agg [.int .i64 2, .int .i64 0, .str [97], .nils], .agg [.int .i64 2, .int .i64 0, .str [109, 111, 100], .sl [.agg [.int .i64 2, .int .i64 0, .str [98], .nils], .agg [.int .i64 2, .int .i64 0, .str [99], .nils]]]]]] h0 = some (.bool true, h0) := by kernel_rfl

end Go.Proofs.YtlakiipofcibhaaGreatDoor

namespace Go.Proofs.YtlakiipofcibhaaGreatDoor
open Go Sz
set_option maxRecDepth 100000

/-! Closed runs. -/
theorem kre1_76 : evCall (envOf ssA) 90 73 [.str [112, 40, 88, 41, 46, 32, 113, 40, 89, 44, 32, 88, 41, 32, 58, 45, 32, 114, 46]] h0 = some (.tuple [.sl [.agg [.int .i64 1, .str [112], .int .i64 0, .bool true, .int .i64 0], .agg [.int .i64 5, .str [40], .int .i64 0, .bool false, .int .i64 1], .agg [.int .i64 3, .str [88], .int .i64 0, .bool false, .int .i64 2], .agg [.int .i64 5, .str [41], .int .i64 0, .bool false, .int .i64 3], .agg [.int .i64 6, .str [], .int .i64 0, .bool false, .int .i64 4], .agg [.int .i64 1, .str [113], .int .i64 0, .bool true, .int .i64 6], .agg [.int .i64 5, .str [40], .int .i64 0, .bool false, .int .i64 7], .agg [.int .i64 3, .str [89], .int .i64 0, .bool false, .int .i64 8], .agg [.int .i64 5, .str [44], .int .i64 0, .bool false, .int .i64 9], .agg [.int .i64 3, .str [88], .int .i64 0, .bool false, .int .i64 11], .agg [.int .i64 5, .str [41], .int .i64 0, .bool false, .int .i64 12], .agg [.int .i64 1, .str [58, 45], .int .i64 0, .bool false, .int .i64 14], .agg [.int .i64 1, .str [114], .int .i64 0, .bool false, .int .i64 17], .agg [.int .i64 6, .str [], .int .i64 0, .bool false, .int .i64 18]], .int .i64 19, .int .i64 0], h0) := by kernel_rfl

end Go.Proofs.YtlakiipofcibhaaGreatDoor

namespace Go.Proofs.YtlakiipofcibhaaGreatDoor
open Go Sz
set_option maxRecDepth 100000

/-! Closed runs. -/
theorem kre1_77 : evCall (envOf ssA) 90 73 [.str [32, 37, 32, 110, 111, 116, 104, 105, 110, 103]] h0 = some (.tuple [.nils, .int .i64 10, .int .i64 0], h0) := by kernel_rfl
theorem kre1_78 : evCall (envOf ssA) 90 73 [.str [112, 46, 32, 113]] h0 = some (.tuple [.sl [.agg [.int .i64 1, .str [112], .int .i64 0, .bool false, .int .i64 0], .agg [.int .i64 6, .str [], .int .i64 0, .bool false, .int .i64 1], .agg [.int .i64 1, .str [113], .int .i64 0, .bool false, .int .i64 3]], .int .i64 4, .int .i64 0], h0) := by kernel_rfl
theorem kre1_79 : evCall (envOf ssA) 90 18 [.agg [.int .i64 2, .int .i64 0, .str [58, 45], .sl [.agg [.int .i64 2, .int .i64 0, .str [113], .sl [.agg [.int .i64 0, .int .i64 0, .str [], .nils], .agg [.int .i64 0, .int .i64 1, .str [], .nils]]], .agg [.int .i64 2, .int .i64 0, .str [114], .nils]]]] h0 = some (.sl [.int .i64 0, .int .i64 1], h0) := by kernel_rfl

end Go.Proofs.YtlakiipofcibhaaGreatDoor
