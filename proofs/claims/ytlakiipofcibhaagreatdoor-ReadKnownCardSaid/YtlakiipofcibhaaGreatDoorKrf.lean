import Derived.Test.YtlakiipofcibhaaGreatDoorKre
set_option linter.unusedVariables false
set_option linter.unusedSimpArgs false
set_option linter.unusedSectionVars false

namespace Go.Proofs.YtlakiipofcibhaaGreatDoor
open Go Sz
set_option maxRecDepth 100000

/-! Closed runs. -/
theorem kre2_26 : evCall (envOf krS1) 90 12 [krV0, .str [45, 32, 40, 49, 41, 46]] h0 = some (.tuple [.agg [.int .i64 2, .int .i64 0, .str [45], .sl [.agg [.int .i64 1, .int .i64 1, .str [], .nils]]], .nils, .int .i64 0], h0) := by kernel_rfl
theorem kre2_27 : evCall (envOf krS1) 90 12 [krV0, .str [97, 32, 45, 32, 49, 46]] h0 = some (.tuple [.agg [.int .i64 2, .int .i64 0, .str [45], .sl [.agg [.int .i64 2, .int .i64 0, .str [97], .nils], .agg [.int .i64 1, .int .i64 1, .str [], .nils]]], .nils, .int .i64 0], h0) := by kernel_rfl
theorem kre2_28 : evCall (envOf krS1) 90 40 [.agg [.int .i64 2, .int .i64 0, .str [45], .sl [.agg [.int .i64 2, .int .i64 0, .str [97], .nils], .agg [.int .i64 1, .int .i64 1, .str [], .nils]]]] h0 = some (.tuple [.str [45, 40, 97, 44, 49, 41], .int .i64 0], h0) := by kernel_rfl
theorem kre2_29 : evCall (envOf krS1) 90 12 [krV0, .str [97, 32, 45, 49, 46]] h0 = some (.tuple [.agg [.int .i64 2, .int .i64 0, .str [45], .sl [.agg [.int .i64 2, .int .i64 0, .str [97], .nils], .agg [.int .i64 1, .int .i64 1, .str [], .nils]]], .nils, .int .i64 0], h0) := by kernel_rfl
theorem kre2_30 : evCall (envOf krS1) 90 12 [krV0, .str [102, 40, 45, 41, 46]] h0 = some (.tuple [.agg [.int .i64 2, .int .i64 0, .str [102], .sl [.agg [.int .i64 2, .int .i64 0, .str [45], .nils]]], .nils, .int .i64 0], h0) := by kernel_rfl

end Go.Proofs.YtlakiipofcibhaaGreatDoor

namespace Go.Proofs.YtlakiipofcibhaaGreatDoor
open Go Sz
set_option maxRecDepth 100000

/-! Closed runs. -/
theorem kre2_31 : evCall (envOf krS1) 90 40 [.agg [.int .i64 2, .int .i64 0, .str [102], .sl [.agg [.int .i64 2, .int .i64 0, .str [45], .nils]]]] h0 = some (.tuple [.str [102, 40, 45, 41], .int .i64 0], h0) := by kernel_rfl
theorem kre2_32 : evCall (envOf krS1) 90 12 [krV0, .str [91, 97, 44, 98, 124, 84, 93, 46]] h0 = some (.tuple [.agg [.int .i64 2, .int .i64 0, .str [46], .sl [.agg [.int .i64 2, .int .i64 0, .str [97], .nils], .agg [.int .i64 2, .int .i64 0, .str [46], .sl [.agg [.int .i64 2, .int .i64 0, .str [98], .nils], .agg [.int .i64 0, .int .i64 0, .str [], .nils]]]]], .sl [.agg [.str [84], .int .i64 0]], .int .i64 0], h0) := by kernel_rfl
theorem kre2_33 : evCall (envOf krS1) 90 66 [.agg [.int .i64 2, .int .i64 0, .str [46], .sl [.agg [.int .i64 2, .int .i64 0, .str [97], .nils], .agg [.int .i64 2, .int .i64 0, .str [46], .sl [.agg [.int .i64 2, .int .i64 0, .str [98], .nils], .agg [.int .i64 0, .int .i64 0, .str [], .nils]]]]]] h0 = some (.bool true, h0) := by kernel_rfl
theorem kre2_34 : evCall (envOf krS1) 90 12 [krV0, .str [123, 97, 44, 98, 125, 46]] h0 = some (.tuple [.agg [.int .i64 2, .int .i64 0, .str [123, 125], .sl [.agg [.int .i64 2, .int .i64 0, .str [44], .sl [.agg [.int .i64 2, .int .i64 0, .str [97], .nils], .agg [.int .i64 2, .int .i64 0, .str [98], .nils]]]]], .nils, .int .i64 0], h0) := by kernel_rfl

end Go.Proofs.YtlakiipofcibhaaGreatDoor

namespace Go.Proofs.YtlakiipofcibhaaGreatDoor
open Go Sz
set_option maxRecDepth 100000

/-! Closed runs. -/
theorem kre2_35 : evCall (envOf krS1) 90 70 [.agg [.int .i64 2, .int .i64 0, .str [123, 125], .sl [.agg [.int .i64 2, .int .i64 0, .str [44], .sl [.agg [.int .i64 2, .int .i64 0, .str [97], .nils], .agg [.int .i64 2, .int .i64 0, .str [98], .nils]]]]]] h0 = some (.nils, h0) := by kernel_rfl
theorem kre2_36 : evCall (envOf krS1) 90 12 [krV0, .str [92, 43, 32, 97, 32, 61, 32, 98, 46]] h0 = some (.tuple [.agg [.int .i64 2, .int .i64 0, .str [92, 43], .sl [.agg [.int .i64 2, .int .i64 0, .str [61], .sl [.agg [.int .i64 2, .int .i64 0, .str [97], .nils], .agg [.int .i64 2, .int .i64 0, .str [98], .nils]]]]], .nils, .int .i64 0], h0) := by kernel_rfl
theorem kre2_37 : evCall (envOf krS1) 90 70 [.agg [.int .i64 2, .int .i64 0, .str [92, 43], .sl [.agg [.int .i64 2, .int .i64 0, .str [61], .sl [.agg [.int .i64 2, .int .i64 0, .str [97], .nils], .agg [.int .i64 2, .int .i64 0, .str [98], .nils]]]]]] h0 = some (.nils, h0) := by kernel_rfl
theorem kre2_38 : evCall (envOf krS1) 90 12 [krV0, .str [45, 32, 45, 32, 97, 46]] h0 = some (.tuple [.agg [.int .i64 2, .int .i64 0, .str [45], .sl [.agg [.int .i64 2, .int .i64 0, .str [45], .sl [.agg [.int .i64 2, .int .i64 0, .str [97], .nils]]]]], .nils, .int .i64 0], h0) := by kernel_rfl

end Go.Proofs.YtlakiipofcibhaaGreatDoor

namespace Go.Proofs.YtlakiipofcibhaaGreatDoor
open Go Sz
set_option maxRecDepth 100000

/-! Closed runs. -/
theorem kre2_39 : evCall (envOf krS1) 90 40 [.agg [.int .i64 2, .int .i64 0, .str [45], .sl [.agg [.int .i64 2, .int .i64 0, .str [45], .sl [.agg [.int .i64 2, .int .i64 0, .str [97], .nils]]]]]] h0 = some (.tuple [.str [45, 40, 45, 40, 97, 41, 41], .int .i64 0], h0) := by kernel_rfl
theorem kre2_40 : evCall (envOf krS1) 90 12 [krV0, .str [102, 40, 97, 44, 32, 40, 98, 32, 58, 45, 32, 99, 41, 41, 46]] h0 = some (.tuple [.agg [.int .i64 2, .int .i64 0, .str [102], .sl [.agg [.int .i64 2, .int .i64 0, .str [97], .nils], .agg [.int .i64 2, .int .i64 0, .str [58, 45], .sl [.agg [.int .i64 2, .int .i64 0, .str [98], .nils], .agg [.int .i64 2, .int .i64 0, .str [99], .nils]]]]], .nils, .int .i64 0], h0) := by kernel_rfl
theorem kre2_41 : evCall (envOf krS1) 90 66 [.agg [.int .i64 2, .int .i64 0, .str [102], .sl [.agg [.int .i64 2, .int .i64 0, .str [97], .nils], .agg [.int .i64 2, .int .i64 0, .str [58, 45], .sl [.agg [.int .i64 2, .int .i64 0, .str [98], .nils], .agg [.int .i64 2, .int .i64 0, .str [99], .nils]]]]]] h0 = some (.bool true, h0) := by kernel_rfl
theorem kre2_42 : evCall (envOf krS1) 90 12 [krV0, .str [39, 43, 39, 40, 49, 44, 50, 41, 46]] h0 = some (.tuple [.agg [.int .i64 2, .int .i64 0, .str [43], .sl [.agg [.int .i64 1, .int .i64 1, .str [], .nils], .agg [.int .i64 1, .int .i64 2, .str [], .nils]]], .nils, .int .i64 0], h0) := by kernel_rfl

end Go.Proofs.YtlakiipofcibhaaGreatDoor

namespace Go.Proofs.YtlakiipofcibhaaGreatDoor
open Go Sz
set_option maxRecDepth 100000

/-! Closed runs. -/
theorem kre2_43 : evCall (envOf krS1) 90 12 [krV0, .str [97, 58, 45, 98, 44, 99, 59, 100, 45, 62, 101, 46]] h0 = some (.tuple [.agg [.int .i64 2, .int .i64 0, .str [58, 45], .sl [.agg [.int .i64 2, .int .i64 0, .str [97], .nils], .agg [.int .i64 2, .int .i64 0, .str [59], .sl [.agg [.int .i64 2, .int .i64 0, .str [44], .sl [.agg [.int .i64 2, .int .i64 0, .str [98], .nils], .agg [.int .i64 2, .int .i64 0, .str [99], .nils]]], .agg [.int .i64 2, .int .i64 0, .str [45, 62], .sl [.agg [.int .i64 2, .int .i64 0, .str [100], .nils], .agg [.int .i64 2, .int .i64 0, .str [101], .nils]]]]]]], .nils, .int .i64 0], h0) := by kernel_rfl
theorem kre2_44 : evCall (envOf krS1) 90 66 [.agg [.int .i64 2, .int .i64 0, .str [58, 45], .sl [.agg [.int .i64 2, .int .i64 0, .str [97], .nils], .agg [.int .i64 2, .int .i64 0, .str [59], .sl [.agg [.int .i64 2, .int .i64 0, .str [44], .sl [.agg [.int .i64 2, .int .i64 0, .str [98], .nils], .agg [.int .i64 2, .int .i64 0, .str [99], .nils]]], .agg [.int .i64 2, .int .i64 0, .str [45, 62], .sl [.agg [.int .i64 2, .int .i64 0, .str [100], .nils], .agg [.int .i64 2, .int .i64 0, .str [101], .nils]]]]]]]] h0 = some (.bool true, h0) := by kernel_rfl
theorem kre2_45 : evCall (envOf krS1) 90 12 [krV0, .str [88, 32, 61, 32, 39, 61, 39, 46]] h0 = some (.tuple [.agg [.int .i64 2, .int .i64 0, .str [61], .sl [.agg [.int .i64 0, .int .i64 0, .str [], .nils], .agg [.int .i64 2, .int .i64 0, .str [61], .nils]]], .sl [.agg [.str [88], .int .i64 0]], .int .i64 0], h0) := by kernel_rfl

end Go.Proofs.YtlakiipofcibhaaGreatDoor

namespace Go.Proofs.YtlakiipofcibhaaGreatDoor
open Go Sz
set_option maxRecDepth 100000

/-! Closed runs. -/
theorem kre2_46 : evCall (envOf krS1) 90 40 [.agg [.int .i64 2, .int .i64 0, .str [61], .sl [.agg [.int .i64 0, .int .i64 0, .str [], .nils], .agg [.int .i64 2, .int .i64 0, .str [61], .nils]]]] h0 = some (.tuple [.str [61, 40, 95, 48, 44, 61, 41], .int .i64 0], h0) := by kernel_rfl
theorem kre2_47 : evCall (envOf krS1) 90 12 [krV0, .str [91, 93, 46]] h0 = some (.tuple [.agg [.int .i64 2, .int .i64 0, .str [91, 93], .nils], .nils, .int .i64 0], h0) := by kernel_rfl
theorem kre2_48 : evCall (envOf krS1) 90 12 [krV0, .str [102, 40, 43, 41, 46]] h0 = some (.tuple [.agg [.int .i64 2, .int .i64 0, .str [102], .sl [.agg [.int .i64 2, .int .i64 0, .str [43], .nils]]], .nils, .int .i64 0], h0) := by kernel_rfl
theorem kre2_49 : evCall (envOf krS1) 90 40 [.agg [.int .i64 2, .int .i64 0, .str [102], .sl [.agg [.int .i64 2, .int .i64 0, .str [43], .nils]]]] h0 = some (.tuple [.str [102, 40, 43, 41], .int .i64 0], h0) := by kernel_rfl
theorem kre2_50 : evCall (envOf krS1) 90 12 [krV0, .str [45, 32, 97, 32, 42, 32, 98, 46]] h0 = some (.tuple [.agg [.int .i64 2, .int .i64 0, .str [42], .sl [.agg [.int .i64 2, .int .i64 0, .str [45], .sl [.agg [.int .i64 2, .int .i64 0, .str [97], .nils]]], .agg [.int .i64 2, .int .i64 0, .str [98], .nils]]], .nils, .int .i64 0], h0) := by kernel_rfl

end Go.Proofs.YtlakiipofcibhaaGreatDoor
