import Derived.Test.YtmbccebjkenofaaGreatDoorEnv
set_option linter.unusedVariables false
set_option linter.unusedSimpArgs false
set_option linter.unusedSectionVars false

namespace Go.Proofs.YtmbccebjkenofaaGreatDoor
open Go Sz
set_option maxRecDepth 100000
def ktV0 : AV := .agg [.sl [.agg [.str [58, 45], .str [120, 102, 120], .int .i64 1200], .agg [.str [59], .str [120, 102, 121], .int .i64 1100], .agg [.str [45, 62], .str [120, 102, 121], .int .i64 1050], .agg [.str [44], .str [120, 102, 121], .int .i64 1000], .agg [.str [92, 43], .str [102, 121], .int .i64 900], .agg [.str [61], .str [120, 102, 120], .int .i64 700], .agg [.str [92, 61], .str [120, 102, 120], .int .i64 700], .agg [.str [61, 61], .str [120, 102, 120], .int .i64 700], .agg [.str [92, 61, 61], .str [120, 102, 120], .int .i64 700], .agg [.str [64, 60], .str [120, 102, 120], .int .i64 700], .agg [.str [64, 62], .str [120, 102, 120], .int .i64 700], .agg [.str [64, 61, 60], .str [120, 102, 120], .int .i64 700], .agg [.str [64, 62, 61], .str [120, 102, 120], .int .i64 700], .agg [.str [61, 46, 46], .str [120, 102, 120], .int .i64 700], .agg [.str [105, 115], .str [120, 102, 120], .int .i64 700], .agg [.str [61, 58, 61], .str [120, 102, 120], .int .i64 700], .agg [.str [61, 92, 61], .str [120, 102, 120], .int .i64 700], .agg [.str [60], .str [120, 102, 120], .int .i64 700], .agg [.str [62], .str [120, 102, 120], .int .i64 700], .agg [.str [61, 60], .str [120, 102, 120], .int .i64 700], .agg [.str [62, 61], .str [120, 102, 120], .int .i64 700], .agg [.str [43], .str [121, 102, 120], .int .i64 500], .agg [.str [45], .str [121, 102, 120], .int .i64 500], .agg [.str [47, 92], .str [121, 102, 120], .int .i64 500], .agg [.str [92, 47], .str [121, 102, 120], .int .i64 500], .agg [.str [120, 111, 114], .str [121, 102, 120], .int .i64 500], .agg [.str [42], .str [121, 102, 120], .int .i64 400], .agg [.str [47, 47], .str [121, 102, 120], .int .i64 400], .agg [.str [109, 111, 100], .str [121, 102, 120], .int .i64 400], .agg [.str [114, 101, 109], .str [121, 102, 120], .int .i64 400], .agg [.str [62, 62], .str [121, 102, 120], .int .i64 400], .agg [.str [60, 60], .str [121, 102, 120], .int .i64 400], .agg [.str [94], .str [120, 102, 121], .int .i64 200], .agg [.str [45], .str [102, 121], .int .i64 200], .agg [.str [92], .str [102, 121], .int .i64 200]]]
end Go.Proofs.YtmbccebjkenofaaGreatDoor

namespace Go.Proofs.YtmbccebjkenofaaGreatDoor
open Go Sz
set_option maxRecDepth 100000
theorem kte1_0 : evCall (envOf ssA) 90 43 [.str [97]] h0 = some (.bool true, h0) := by kernel_rfl
theorem kte1_1 : evCall (envOf ssA) 90 43 [.str [98]] h0 = some (.bool true, h0) := by kernel_rfl
theorem kte1_2 : evCall (envOf ssA) 90 72 [.agg [.int .i64 2, .int .i64 0, .str [112], .nils]] h0 = some (.int .i64 1, h0) := by kernel_rfl
theorem kte1_3 : evCall (envOf ssA) 90 116 [.str [112]] h0 = some (.bool true, h0) := by kernel_rfl
theorem kte1_4 : evCall (envOf ssA) 90 72 [.agg [.int .i64 2, .int .i64 0, .str [113], .nils]] h0 = some (.int .i64 1, h0) := by kernel_rfl
theorem kte1_5 : evCall (envOf ssA) 90 116 [.str [113]] h0 = some (.bool true, h0) := by kernel_rfl
theorem kte1_6 : evCall (envOf ssA) 90 72 [.agg [.int .i64 2, .int .i64 0, .str [114], .nils]] h0 = some (.int .i64 1, h0) := by kernel_rfl
theorem kte1_7 : evCall (envOf ssA) 90 116 [.str [114]] h0 = some (.bool true, h0) := by kernel_rfl
theorem kte1_8 : evCall (envOf ssA) 90 72 [.agg [.int .i64 2, .int .i64 0, .str [115], .nils]] h0 = some (.int .i64 1, h0) := by kernel_rfl
theorem kte1_9 : evCall (envOf ssA) 90 116 [.str [115]] h0 = some (.bool true, h0) := by kernel_rfl
theorem kte1_10 : evCall (envOf ssA) 90 72 [.agg [.int .i64 2, .int .i64 0, .str [116], .nils]] h0 = some (.int .i64 1, h0) := by kernel_rfl
theorem kte1_11 : evCall (envOf ssA) 90 116 [.str [116]] h0 = some (.bool true, h0) := by kernel_rfl
theorem kte1_12 : evCall (envOf ssA) 90 72 [.agg [.int .i64 2, .int .i64 0, .str [97, 112, 112], .nils]] h0 = some (.int .i64 1, h0) := by kernel_rfl
theorem kte1_13 : evCall (envOf ssA) 90 116 [.str [97, 112, 112]] h0 = some (.bool true, h0) := by kernel_rfl
theorem kte1_14 : evCall (envOf ssA) 90 83 [.int .i64 1, .int .i64 10] h0 = some (.str [49], h0) := by kernel_rfl
theorem kte1_15 : evCall (envOf ssA) 90 83 [.int .i64 2, .int .i64 10] h0 = some (.str [50], h0) := by kernel_rfl
theorem kte1_16 : evCall (envOf ssA) 90 83 [.int .i64 0, .int .i64 10] h0 = some (.str [48], h0) := by kernel_rfl
theorem kte1_17 : evCall (envOf ssA) 90 83 [.int .i64 3, .int .i64 10] h0 = some (.str [51], h0) := by kernel_rfl
theorem kte1_18 : evCall (envOf ssA) 90 44 [.sl [.str [97]], .str [98]] h0 = some (.bool false, h0) := by kernel_rfl
theorem kte1_19 : evCall (envOf ssA) 90 28 [] h0 = some (ktV0, h0) := by kernel_rfl
theorem kte1_20 : evCall (envOf ssA) 90 29 [.str [99, 111, 110, 115, 117, 108, 116, 32, 112, 40, 49, 41, 46], .str [32]] h0 = some (.tuple [.str [99, 111, 110, 115, 117, 108, 116], .str [112, 40, 49, 41, 46], .bool true], h0) := by kernel_rfl
theorem kte1_21 : evCall (envOf ssA) 90 132 [.agg [.str [58, 45], .str [120, 102, 120], .int .i64 1200]] h0 = some (.bool true, h0) := by kernel_rfl
theorem kte1_22 : evCall (envOf ssA) 90 132 [.agg [.str [59], .str [120, 102, 121], .int .i64 1100]] h0 = some (.bool true, h0) := by kernel_rfl
theorem kte1_23 : evCall (envOf ssA) 90 132 [.agg [.str [45, 62], .str [120, 102, 121], .int .i64 1050]] h0 = some (.bool true, h0) := by kernel_rfl
theorem kte1_24 : evCall (envOf ssA) 90 132 [.agg [.str [92, 43], .str [102, 121], .int .i64 900]] h0 = some (.bool true, h0) := by kernel_rfl
theorem kte1_25 : evCall (envOf ssA) 90 132 [.agg [.str [61], .str [120, 102, 120], .int .i64 700]] h0 = some (.bool true, h0) := by kernel_rfl
theorem kte1_26 : evCall (envOf ssA) 90 132 [.agg [.str [92, 61], .str [120, 102, 120], .int .i64 700]] h0 = some (.bool true, h0) := by kernel_rfl
theorem kte1_27 : evCall (envOf ssA) 90 132 [.agg [.str [61, 61], .str [120, 102, 120], .int .i64 700]] h0 = some (.bool true, h0) := by kernel_rfl
theorem kte1_28 : evCall (envOf ssA) 90 132 [.agg [.str [92, 61, 61], .str [120, 102, 120], .int .i64 700]] h0 = some (.bool true, h0) := by kernel_rfl
theorem kte1_29 : evCall (envOf ssA) 90 132 [.agg [.str [64, 60], .str [120, 102, 120], .int .i64 700]] h0 = some (.bool true, h0) := by kernel_rfl
theorem kte1_30 : evCall (envOf ssA) 90 132 [.agg [.str [64, 62], .str [120, 102, 120], .int .i64 700]] h0 = some (.bool true, h0) := by kernel_rfl
theorem kte1_31 : evCall (envOf ssA) 90 132 [.agg [.str [64, 61, 60], .str [120, 102, 120], .int .i64 700]] h0 = some (.bool true, h0) := by kernel_rfl
theorem kte1_32 : evCall (envOf ssA) 90 132 [.agg [.str [64, 62, 61], .str [120, 102, 120], .int .i64 700]] h0 = some (.bool true, h0) := by kernel_rfl
theorem kte1_33 : evCall (envOf ssA) 90 132 [.agg [.str [61, 46, 46], .str [120, 102, 120], .int .i64 700]] h0 = some (.bool true, h0) := by kernel_rfl
theorem kte1_34 : evCall (envOf ssA) 90 132 [.agg [.str [105, 115], .str [120, 102, 120], .int .i64 700]] h0 = some (.bool true, h0) := by kernel_rfl
theorem kte1_35 : evCall (envOf ssA) 90 132 [.agg [.str [61, 58, 61], .str [120, 102, 120], .int .i64 700]] h0 = some (.bool true, h0) := by kernel_rfl
theorem kte1_36 : evCall (envOf ssA) 90 132 [.agg [.str [61, 92, 61], .str [120, 102, 120], .int .i64 700]] h0 = some (.bool true, h0) := by kernel_rfl
theorem kte1_37 : evCall (envOf ssA) 90 132 [.agg [.str [60], .str [120, 102, 120], .int .i64 700]] h0 = some (.bool true, h0) := by kernel_rfl
theorem kte1_38 : evCall (envOf ssA) 90 132 [.agg [.str [62], .str [120, 102, 120], .int .i64 700]] h0 = some (.bool true, h0) := by kernel_rfl
theorem kte1_39 : evCall (envOf ssA) 90 132 [.agg [.str [61, 60], .str [120, 102, 120], .int .i64 700]] h0 = some (.bool true, h0) := by kernel_rfl
theorem kte1_40 : evCall (envOf ssA) 90 132 [.agg [.str [62, 61], .str [120, 102, 120], .int .i64 700]] h0 = some (.bool true, h0) := by kernel_rfl
theorem kte1_41 : evCall (envOf ssA) 90 132 [.agg [.str [43], .str [121, 102, 120], .int .i64 500]] h0 = some (.bool true, h0) := by kernel_rfl
theorem kte1_42 : evCall (envOf ssA) 90 132 [.agg [.str [45], .str [121, 102, 120], .int .i64 500]] h0 = some (.bool true, h0) := by kernel_rfl
end Go.Proofs.YtmbccebjkenofaaGreatDoor
