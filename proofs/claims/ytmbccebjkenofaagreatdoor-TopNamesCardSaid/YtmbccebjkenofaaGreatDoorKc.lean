import Derived.Test.YtmbccebjkenofaaGreatDoorKb
set_option linter.unusedVariables false
set_option linter.unusedSimpArgs false
set_option linter.unusedSectionVars false

namespace Go.Proofs.YtmbccebjkenofaaGreatDoor
open Go Sz
set_option maxRecDepth 100000
theorem kte2_0 : evCall (envOf ktS1) 90 75 [.agg [.int .i64 2, .int .i64 0, .str [112], .nils]] h0 = some (.bool true, h0) := by kernel_rfl
theorem kte2_1 : evCall (envOf ktS1) 90 75 [.agg [.int .i64 2, .int .i64 0, .str [113], .nils]] h0 = some (.bool true, h0) := by kernel_rfl
theorem kte2_2 : evCall (envOf ktS1) 90 75 [.agg [.int .i64 2, .int .i64 0, .str [114], .nils]] h0 = some (.bool true, h0) := by kernel_rfl
theorem kte2_3 : evCall (envOf ktS1) 90 75 [.agg [.int .i64 2, .int .i64 0, .str [115], .nils]] h0 = some (.bool true, h0) := by kernel_rfl
theorem kte2_4 : evCall (envOf ktS1) 90 75 [.agg [.int .i64 2, .int .i64 0, .str [116], .nils]] h0 = some (.bool true, h0) := by kernel_rfl
theorem kte2_5 : evCall (envOf ktS1) 90 75 [.agg [.int .i64 2, .int .i64 0, .str [97, 112, 112], .nils]] h0 = some (.bool true, h0) := by kernel_rfl
theorem kte2_6 : evCall (envOf ktS1) 90 19 [.str [112], .int .i64 1] h0 = some (.bool false, h0) := by kernel_rfl
theorem kte2_7 : evCall (envOf ktS1) 90 19 [.str [113], .int .i64 2] h0 = some (.bool false, h0) := by kernel_rfl
theorem kte2_8 : evCall (envOf ktS1) 90 19 [.str [114], .int .i64 0] h0 = some (.bool false, h0) := by kernel_rfl
theorem kte2_9 : evCall (envOf ktS1) 90 19 [.str [115], .int .i64 1] h0 = some (.bool false, h0) := by kernel_rfl
theorem kte2_10 : evCall (envOf ktS1) 90 19 [.str [116], .int .i64 1] h0 = some (.bool false, h0) := by kernel_rfl
theorem kte2_11 : evCall (envOf ktS1) 90 19 [.str [97, 112, 112], .int .i64 3] h0 = some (.bool false, h0) := by kernel_rfl
theorem kte2_12 : evCall (envOf ktS1) 90 20 [.sl [.str [97], .str [98]]] h0 = some (.bool true, h0) := by kernel_rfl
theorem kte2_14 : evCall (envOf ktS1) 90 243 [.str [49], .int .i64 10, .int .i64 64] h0 = some (.tuple [.int .i64 1, .nili], h0) := by kernel_rfl
theorem kte2_15 : evCall (envOf ktS1) 90 75 [.agg [.int .i64 2, .int .i64 0, .str [112], .sl [.agg [.int .i64 1, .int .i64 1, .str [], .nils]]]] h0 = some (.bool true, h0) := by kernel_rfl
theorem kte2_16 : evCall (envOf ktS1) 90 75 [.agg [.int .i64 2, .int .i64 0, .str [116, 114, 117, 101], .nils]] h0 = some (.bool true, h0) := by kernel_rfl
theorem kte2_17 : evCall (envOf ktS1) 90 85 [.str [112, 40, 88, 41, 46]] h0 = some (.tuple [.sl [.agg [.int .i64 1, .str [112], .int .i64 0, .bool true, .int .i64 0], .agg [.int .i64 5, .str [40], .int .i64 0, .bool false, .int .i64 1], .agg [.int .i64 3, .str [88], .int .i64 0, .bool false, .int .i64 2], .agg [.int .i64 5, .str [41], .int .i64 0, .bool false, .int .i64 3], .agg [.int .i64 6, .str [], .int .i64 0, .bool false, .int .i64 4]], .int .i64 5, .int .i64 0], h0) := by kernel_rfl
theorem kte2_18 : evCall (envOf ktS1) 90 75 [.agg [.int .i64 2, .int .i64 0, .str [112], .sl [.agg [.int .i64 0, .int .i64 0, .str [], .nils]]]] h0 = some (.bool true, h0) := by kernel_rfl
theorem kte2_19 : evCall (envOf ktS1) 90 109 [.agg [.int .i64 1, .int .u64 0, .int .i64 2, .int .i64 0, .str [112], .sl [.agg [.int .i64 1, .int .i64 1, .str [], .nils]], .int .i64 2, .int .i64 0, .str [116, 114, 117, 101], .nils]] h0 = some (.agg [.int .i64 1, .int .u64 0, .int .i64 2, .int .i64 0, .str [112], .sl [.agg [.int .i64 1, .int .i64 1, .str [], .nils]], .int .i64 2, .int .i64 0, .str [116, 114, 117, 101], .nils], h0) := by kernel_rfl
theorem kte2_20 : evCall (envOf ktS1) 90 40 [.agg [.int .i64 1, .int .i64 1, .str [], .nils]] h0 = some (.bool true, h0) := by kernel_rfl
end Go.Proofs.YtmbccebjkenofaaGreatDoor
