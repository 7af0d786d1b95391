import Derived.Test.YtlakiipofcibhaaGreatDoorKwc
set_option linter.unusedVariables false
set_option linter.unusedSimpArgs false
set_option linter.unusedSectionVars false

namespace Go.Proofs.YtlakiipofcibhaaGreatDoor
open Go Sz
set_option maxRecDepth 100000

/-! Closed runs. -/
theorem kwe2_0 : evCall (envOf kwS1) 90 20 [kwV0, .agg [.int .i64 2, .int .i64 0, .str [43], .sl [.agg [.int .i64 2, .int .i64 0, .str [97], .nils], .agg [.int .i64 2, .int .i64 0, .str [42], .sl [.agg [.int .i64 2, .int .i64 0, .str [98], .nils], .agg [.int .i64 2, .int .i64 0, .str [99], .nils]]]]]] h0 = some (.tuple [.str [97, 32, 43, 32, 98, 32, 42, 32, 99], .int .i64 0], h0) := by kernel_rfl
theorem kwe2_1 : evCall (envOf kwS1) 90 12 [kwV0, .str [97, 32, 43, 32, 98, 32, 43, 32, 99, 32, 46]] h0 = some (.tuple [.agg [.int .i64 2, .int .i64 0, .str [43], .sl [.agg [.int .i64 2, .int .i64 0, .str [43], .sl [.agg [.int .i64 2, .int .i64 0, .str [97], .nils], .agg [.int .i64 2, .int .i64 0, .str [98], .nils]]], .agg [.int .i64 2, .int .i64 0, .str [99], .nils]]], .nils, .int .i64 0], h0) := by kernel_rfl

end Go.Proofs.YtlakiipofcibhaaGreatDoor

namespace Go.Proofs.YtlakiipofcibhaaGreatDoor
open Go Sz
set_option maxRecDepth 100000

/-! Closed runs. -/
theorem kwe2_2 : evCall (envOf kwS1) 90 20 [kwV0, .agg [.int .i64 2, .int .i64 0, .str [43], .sl [.agg [.int .i64 2, .int .i64 0, .str [43], .sl [.agg [.int .i64 2, .int .i64 0, .str [97], .nils], .agg [.int .i64 2, .int .i64 0, .str [98], .nils]]], .agg [.int .i64 2, .int .i64 0, .str [99], .nils]]]] h0 = some (.tuple [.str [97, 32, 43, 32, 98, 32, 43, 32, 99], .int .i64 0], h0) := by kernel_rfl
theorem kwe2_3 : evCall (envOf kwS1) 90 12 [kwV0, .str [97, 32, 43, 32, 40, 98, 32, 43, 32, 99, 41, 32, 46]] h0 = some (.tuple [.agg [.int .i64 2, .int .i64 0, .str [43], .sl [.agg [.int .i64 2, .int .i64 0, .str [97], .nils], .agg [.int .i64 2, .int .i64 0, .str [43], .sl [.agg [.int .i64 2, .int .i64 0, .str [98], .nils], .agg [.int .i64 2, .int .i64 0, .str [99], .nils]]]]], .nils, .int .i64 0], h0) := by kernel_rfl

end Go.Proofs.YtlakiipofcibhaaGreatDoor

namespace Go.Proofs.YtlakiipofcibhaaGreatDoor
open Go Sz
set_option maxRecDepth 100000

/-! Closed runs. -/
theorem kwe2_4 : evCall (envOf kwS1) 90 20 [kwV0, .agg [.int .i64 2, .int .i64 0, .str [43], .sl [.agg [.int .i64 2, .int .i64 0, .str [97], .nils], .agg [.int .i64 2, .int .i64 0, .str [43], .sl [.agg [.int .i64 2, .int .i64 0, .str [98], .nils], .agg [.int .i64 2, .int .i64 0, .str [99], .nils]]]]]] h0 = some (.tuple [.str [97, 32, 43, 32, 40, 98, 32, 43, 32, 99, 41], .int .i64 0], h0) := by kernel_rfl
theorem kwe2_5 : evCall (envOf kwS1) 90 12 [kwV0, .str [40, 97, 32, 58, 45, 32, 98, 41, 32, 43, 32, 99, 32, 46]] h0 = some (.tuple [.agg [.int .i64 2, .int .i64 0, .str [43], .sl [.agg [.int .i64 2, .int .i64 0, .str [58, 45], .sl [.agg [.int .i64 2, .int .i64 0, .str [97], .nils], .agg [.int .i64 2, .int .i64 0, .str [98], .nils]]], .agg [.int .i64 2, .int .i64 0, .str [99], .nils]]], .nils, .int .i64 0], h0) := by kernel_rfl

end Go.Proofs.YtlakiipofcibhaaGreatDoor

namespace Go.Proofs.YtlakiipofcibhaaGreatDoor
open Go Sz
set_option maxRecDepth 100000

/-! Closed runs. -/
theorem kwe2_6 : evCall (envOf kwS1) 90 20 [kwV0, .agg [.int .i64 2, .int .i64 0, .str [43], .sl [.agg [.int .i64 2, .int .i64 0, .str [58, 45], .sl [.agg [.int .i64 2, .int .i64 0, .str [97], .nils], .agg [.int .i64 2, .int .i64 0, .str [98], .nils]]], .agg [.int .i64 2, .int .i64 0, .str [99], .nils]]]] h0 = some (.tuple [.str [40, 97, 32, 58, 45, 32, 98, 41, 32, 43, 32, 99], .int .i64 0], h0) := by kernel_rfl
theorem kwe2_7 : evCall (envOf kwS1) 90 12 [kwV0, .str [45, 40, 49, 41, 32, 46]] h0 = some (.tuple [.agg [.int .i64 2, .int .i64 0, .str [45], .sl [.agg [.int .i64 1, .int .i64 1, .str [], .nils]]], .nils, .int .i64 0], h0) := by kernel_rfl
theorem kwe2_8 : evCall (envOf kwS1) 90 20 [kwV0, .agg [.int .i64 2, .int .i64 0, .str [45], .sl [.agg [.int .i64 1, .int .i64 1, .str [], .nils]]]] h0 = some (.tuple [.str [45, 40, 49, 41], .int .i64 0], h0) := by kernel_rfl

end Go.Proofs.YtlakiipofcibhaaGreatDoor

namespace Go.Proofs.YtlakiipofcibhaaGreatDoor
open Go Sz
set_option maxRecDepth 100000

/-! Closed runs. -/
theorem kwe2_9 : evCall (envOf kwS1) 90 12 [kwV0, .str [45, 32, 97, 32, 46]] h0 = some (.tuple [.agg [.int .i64 2, .int .i64 0, .str [45], .sl [.agg [.int .i64 2, .int .i64 0, .str [97], .nils]]], .nils, .int .i64 0], h0) := by kernel_rfl
theorem kwe2_10 : evCall (envOf kwS1) 90 20 [kwV0, .agg [.int .i64 2, .int .i64 0, .str [45], .sl [.agg [.int .i64 2, .int .i64 0, .str [97], .nils]]]] h0 = some (.tuple [.str [45, 32, 97], .int .i64 0], h0) := by kernel_rfl
theorem kwe2_11 : evCall (envOf kwS1) 90 12 [kwV0, .str [50, 32, 45, 32, 40, 45, 49, 41, 32, 46]] h0 = some (.tuple [.agg [.int .i64 2, .int .i64 0, .str [45], .sl [.agg [.int .i64 1, .int .i64 2, .str [], .nils], .agg [.int .i64 1, .int .i64 (-1), .str [], .nils]]], .nils, .int .i64 0], h0) := by kernel_rfl
theorem kwe2_12 : evCall (envOf kwS1) 90 20 [kwV0, .agg [.int .i64 2, .int .i64 0, .str [45], .sl [.agg [.int .i64 1, .int .i64 2, .str [], .nils], .agg [.int .i64 1, .int .i64 (-1), .str [], .nils]]]] h0 = some (.tuple [.str [50, 32, 45, 32, 40, 45, 49, 41], .int .i64 0], h0) := by kernel_rfl

end Go.Proofs.YtlakiipofcibhaaGreatDoor

namespace Go.Proofs.YtlakiipofcibhaaGreatDoor
open Go Sz
set_option maxRecDepth 100000

/-! Closed runs. -/
theorem kwe2_13 : evCall (envOf kwS1) 90 12 [kwV0, .str [102, 40, 45, 49, 44, 45, 32, 97, 41, 32, 46]] h0 = some (.tuple [.agg [.int .i64 2, .int .i64 0, .str [102], .sl [.agg [.int .i64 1, .int .i64 (-1), .str [], .nils], .agg [.int .i64 2, .int .i64 0, .str [45], .sl [.agg [.int .i64 2, .int .i64 0, .str [97], .nils]]]]], .nils, .int .i64 0], h0) := by kernel_rfl
theorem kwe2_14 : evCall (envOf kwS1) 90 20 [kwV0, .agg [.int .i64 2, .int .i64 0, .str [102], .sl [.agg [.int .i64 1, .int .i64 (-1), .str [], .nils], .agg [.int .i64 2, .int .i64 0, .str [45], .sl [.agg [.int .i64 2, .int .i64 0, .str [97], .nils]]]]]] h0 = some (.tuple [.str [102, 40, 45, 49, 44, 45, 32, 97, 41], .int .i64 0], h0) := by kernel_rfl

end Go.Proofs.YtlakiipofcibhaaGreatDoor

namespace Go.Proofs.YtlakiipofcibhaaGreatDoor
open Go Sz
set_option maxRecDepth 100000

/-! Closed runs. -/
theorem kwe2_15 : evCall (envOf kwS1) 90 12 [kwV0, .str [91, 97, 44, 98, 124, 95, 48, 93, 32, 46]] h0 = some (.tuple [.agg [.int .i64 2, .int .i64 0, .str [46], .sl [.agg [.int .i64 2, .int .i64 0, .str [97], .nils], .agg [.int .i64 2, .int .i64 0, .str [46], .sl [.agg [.int .i64 2, .int .i64 0, .str [98], .nils], .agg [.int .i64 0, .int .i64 0, .str [], .nils]]]]], .sl [.agg [.str [95, 48], .int .i64 0]], .int .i64 0], h0) := by kernel_rfl
theorem kwe2_16 : evCall (envOf kwS1) 90 12 [kwV0, .str [91, 93, 32, 46]] h0 = some (.tuple [.agg [.int .i64 2, .int .i64 0, .str [91, 93], .nils], .nils, .int .i64 0], h0) := by kernel_rfl
theorem kwe2_17 : evCall (envOf kwS1) 90 12 [kwV0, .str [123, 97, 44, 98, 125, 32, 46]] h0 = some (.tuple [.agg [.int .i64 2, .int .i64 0, .str [123, 125], .sl [.agg [.int .i64 2, .int .i64 0, .str [44], .sl [.agg [.int .i64 2, .int .i64 0, .str [97], .nils], .agg [.int .i64 2, .int .i64 0, .str [98], .nils]]]]], .nils, .int .i64 0], h0) := by kernel_rfl

end Go.Proofs.YtlakiipofcibhaaGreatDoor

namespace Go.Proofs.YtlakiipofcibhaaGreatDoor
open Go Sz
set_option maxRecDepth 100000

/-! Closed runs. -/
theorem kwe2_18 : evCall (envOf kwS1) 90 12 [kwV0, .str [39, 88, 39, 40, 98, 41, 32, 46]] h0 = some (.tuple [.agg [.int .i64 2, .int .i64 0, .str [88], .sl [.agg [.int .i64 2, .int .i64 0, .str [98], .nils]]], .nils, .int .i64 0], h0) := by kernel_rfl
theorem kwe2_19 : evCall (envOf kwS1) 90 20 [kwV0, .agg [.int .i64 2, .int .i64 0, .str [88], .sl [.agg [.int .i64 2, .int .i64 0, .str [98], .nils]]]] h0 = some (.tuple [.str [39, 88, 39, 40, 98, 41], .int .i64 0], h0) := by kernel_rfl
theorem kwe2_20 : evCall (envOf kwS1) 90 12 [kwV0, .str [97, 44, 98, 44, 99, 32, 46]] h0 = some (.tuple [.agg [.int .i64 2, .int .i64 0, .str [44], .sl [.agg [.int .i64 2, .int .i64 0, .str [97], .nils], .agg [.int .i64 2, .int .i64 0, .str [44], .sl [.agg [.int .i64 2, .int .i64 0, .str [98], .nils], .agg [.int .i64 2, .int .i64 0, .str [99], .nils]]]]], .nils, .int .i64 0], h0) := by kernel_rfl

end Go.Proofs.YtlakiipofcibhaaGreatDoor
