import Derived.Test.YtlakiipofcibhaaGreatDoorKre
import Derived.Test.YtlakiipofcibhaaGreatDoorKrf
set_option linter.unusedVariables false
set_option linter.unusedSimpArgs false
set_option linter.unusedSectionVars false

namespace Go.Proofs.YtlakiipofcibhaaGreatDoor
open Go Sz
set_option maxRecDepth 100000

/-! Closed runs. -/
theorem kre2_51 : evCall (envOf krS1) 90 70 [.agg [.int .i64 2, .int .i64 0, .str [42], .sl [.agg [.int .i64 2, .int .i64 0, .str [45], .sl [.agg [.int .i64 2, .int .i64 0, .str [97], .nils]]], .agg [.int .i64 2, .int .i64 0, .str [98], .nils]]]] h0 = some (.nils, h0) := by kernel_rfl
theorem kre2_52 : evCall (envOf krS1) 90 12 [krV0, .str [91, 45, 93, 46]] h0 = some (.tuple [.agg [.int .i64 2, .int .i64 0, .str [46], .sl [.agg [.int .i64 2, .int .i64 0, .str [45], .nils], .agg [.int .i64 2, .int .i64 0, .str [91, 93], .nils]]], .nils, .int .i64 0], h0) := by kernel_rfl
theorem kre2_53 : evCall (envOf krS1) 90 40 [.agg [.int .i64 2, .int .i64 0, .str [46], .sl [.agg [.int .i64 2, .int .i64 0, .str [45], .nils], .agg [.int .i64 2, .int .i64 0, .str [91, 93], .nils]]]] h0 = some (.tuple [.str [39, 46, 39, 40, 45, 44, 91, 93, 41], .int .i64 0], h0) := by kernel_rfl
theorem kre2_54 : evCall (envOf krS1) 90 12 [krV0, .str [45, 40, 49, 44, 50, 41, 46]] h0 = some (.tuple [.agg [.int .i64 2, .int .i64 0, .str [45], .sl [.agg [.int .i64 1, .int .i64 1, .str [], .nils], .agg [.int .i64 1, .int .i64 2, .str [], .nils]]], .nils, .int .i64 0], h0) := by kernel_rfl
theorem kre2_55 : evCall (envOf krS1) 90 12 [krV0, .str [95, 32, 61, 32, 95, 46]] h0 = some (.tuple [.agg [.int .i64 2, .int .i64 0, .str [61], .sl [.agg [.int .i64 0, .int .i64 0, .str [], .nils], .agg [.int .i64 0, .int .i64 1, .str [], .nils]]], .nils, .int .i64 0], h0) := by kernel_rfl

end Go.Proofs.YtlakiipofcibhaaGreatDoor

namespace Go.Proofs.YtlakiipofcibhaaGreatDoor
open Go Sz
set_option maxRecDepth 100000

/-! Closed runs. -/
theorem kre2_56 : evCall (envOf krS1) 90 40 [.agg [.int .i64 2, .int .i64 0, .str [61], .sl [.agg [.int .i64 0, .int .i64 0, .str [], .nils], .agg [.int .i64 0, .int .i64 1, .str [], .nils]]]] h0 = some (.tuple [.str [61, 40, 95, 48, 44, 95, 49, 41], .int .i64 0], h0) := by kernel_rfl
theorem kre2_57 : evCall (envOf krS1) 90 12 [krV0, .str [50, 32, 45, 32, 45, 49, 46]] h0 = some (.tuple [.agg [.int .i64 2, .int .i64 0, .str [45], .sl [.agg [.int .i64 1, .int .i64 2, .str [], .nils], .agg [.int .i64 1, .int .i64 (-1), .str [], .nils]]], .nils, .int .i64 0], h0) := by kernel_rfl
theorem kre2_58 : evCall (envOf krS1) 90 12 [krV0, .str [97, 32, 105, 115, 32, 98, 32, 109, 111, 100, 32, 99, 46]] h0 = some (.tuple [.agg [.int .i64 2, .int .i64 0, .str [105, 115], .sl [.agg [.int .i64 2, .int .i64 0, .str [97], .nils], .agg [.int .i64 2, .int .i64 0, .str [109, 111, 100], .sl [.agg [.int .i64 2, .int .i64 0, .str [98], .nils], .agg [.int .i64 2, .int .i64 0, .str [99], .nils]]]]], .nils, .int .i64 0], h0) := by kernel_rfl
theorem kre2_59 : evCall (envOf krS1) 90 66 [.agg [.int .i64 2, .int .i64 0, .str [105, 115], .sl [.agg [.int .i64 2, .int .i64 0, .str [97], .nils], .agg [.int .i64 2, .int .i64 0, .str [109, 111, 100], .sl [.agg [.int .i64 2, .int .i64 0, .str [98], .nils], .agg [.int .i64 2, .int .i64 0, .str [99], .nils]]]]]] h0 = some (.bool true, h0) := by kernel_rfl

end Go.Proofs.YtlakiipofcibhaaGreatDoor

namespace Go.Proofs.YtlakiipofcibhaaGreatDoor
open Go Sz
set_option maxRecDepth 100000

/-! Closed runs. -/
theorem kre2_60 : evCall (envOf krS1) 90 13 [krV0, .str [112, 40, 88, 41, 46, 32, 113, 40, 89, 44, 32, 88, 41, 32, 58, 45, 32, 114, 46]] h0 = some (.tuple [.sl [.agg [.int .i64 2, .int .i64 0, .str [112], .sl [.agg [.int .i64 0, .int .i64 0, .str [], .nils]]], .agg [.int .i64 2, .int .i64 0, .str [58, 45], .sl [.agg [.int .i64 2, .int .i64 0, .str [113], .sl [.agg [.int .i64 0, .int .i64 0, .str [], .nils], .agg [.int .i64 0, .int .i64 1, .str [], .nils]]], .agg [.int .i64 2, .int .i64 0, .str [114], .nils]]]], .int .i64 0], h0) := by kernel_rfl
theorem kre2_61 : evCall (envOf krS1) 90 13 [krV0, .str [112, 46, 32, 113]] h0 = some (.tuple [.nils, .int .i64 2], h0) := by kernel_rfl

end Go.Proofs.YtlakiipofcibhaaGreatDoor

namespace Go.Proofs.YtlakiipofcibhaaGreatDoor
open Go Sz
set_option maxRecDepth 100000

def krT2_12 : KSpec := .tabP 12 krV0 [
 ([.str [88, 32, 61, 32, 97, 32, 43, 32, 89, 46]], .tuple [.agg [.int .i64 2, .int .i64 0, .str [61], .sl [.agg [.int .i64 0, .int .i64 0, .str [], .nils], .agg [.int .i64 2, .int .i64 0, .str [43], .sl [.agg [.int .i64 2, .int .i64 0, .str [97], .nils], .agg [.int .i64 0, .int .i64 1, .str [], .nils]]]]], .sl [.agg [.str [88], .int .i64 0], .agg [.str [89], .int .i64 1]], .int .i64 0]),
 ([.str [97, 32, 98, 46]], .tuple [.agg [.int .i64 0, .int .i64 0, .str [], .nils], .nils, .int .i64 2]),
 ([.str [97, 46, 98]], .tuple [.agg [.int .i64 0, .int .i64 0, .str [], .nils], .nils, .int .i64 2]),
 ([.str [97, 32, 61, 32, 98, 32, 61, 32, 99, 46]], .tuple [.agg [.int .i64 0, .int .i64 0, .str [], .nils], .nils, .int .i64 2]),
 ([.str [102, 40, 97, 46]], .tuple [.agg [.int .i64 0, .int .i64 0, .str [], .nils], .nils, .int .i64 2]),
 ([.str [91, 97, 124, 98, 44, 99, 93, 46]], .tuple [.agg [.int .i64 0, .int .i64 0, .str [], .nils], .nils, .int .i64 2]),
 ([.str [97, 32, 58, 45, 32, 98, 32, 58, 45, 32, 99, 46]], .tuple [.agg [.int .i64 0, .int .i64 0, .str [], .nils], .nils, .int .i64 2]),
 ([.str [61, 32, 97, 46]], .tuple [.agg [.int .i64 0, .int .i64 0, .str [], .nils], .nils, .int .i64 2]),
 ([.str [102, 40, 97, 32, 58, 45, 32, 98, 41, 46]], .tuple [.agg [.int .i64 0, .int .i64 0, .str [], .nils], .nils, .int .i64 2]),
 ([.str [40, 97, 46]], .tuple [.agg [.int .i64 0, .int .i64 0, .str [], .nils], .nils, .int .i64 2]),
 ([.str [97, 41, 46]], .tuple [.agg [.int .i64 0, .int .i64 0, .str [], .nils], .nils, .int .i64 2]),
 ([.str [97, 46, 32, 98, 46]], .tuple [.agg [.int .i64 0, .int .i64 0, .str [], .nils], .nils, .int .i64 2]),
 ([.str [123, 97, 46]], .tuple [.agg [.int .i64 0, .int .i64 0, .str [], .nils], .nils, .int .i64 2]),
 ([.str [88, 40, 97, 41, 46]], .tuple [.agg [.int .i64 0, .int .i64 0, .str [], .nils], .nils, .int .i64 2]),
 ([.str [102, 40, 41, 46]], .tuple [.agg [.int .i64 0, .int .i64 0, .str [], .nils], .nils, .int .i64 2]),
 ([.str [91, 97, 124, 93, 46]], .tuple [.agg [.int .i64 0, .int .i64 0, .str [], .nils], .nils, .int .i64 2]),
 ([.str [97, 32, 59, 32, 46]], .tuple [.agg [.int .i64 0, .int .i64 0, .str [], .nils], .nils, .int .i64 2]),
 ([.str [97, 32, 45, 62, 32, 46]], .tuple [.agg [.int .i64 0, .int .i64 0, .str [], .nils], .nils, .int .i64 2]),
 ([.str [97, 32, 43, 32, 98, 32, 43, 32, 99, 46]], .tuple [.agg [.int .i64 2, .int .i64 0, .str [43], .sl [.agg [.int .i64 2, .int .i64 0, .str [43], .sl [.agg [.int .i64 2, .int .i64 0, .str [97], .nils], .agg [.int .i64 2, .int .i64 0, .str [98], .nils]]], .agg [.int .i64 2, .int .i64 0, .str [99], .nils]]], .nils, .int .i64 0]),
 ([.str [97, 32, 59, 32, 98, 32, 59, 32, 99, 46]], .tuple [.agg [.int .i64 2, .int .i64 0, .str [59], .sl [.agg [.int .i64 2, .int .i64 0, .str [97], .nils], .agg [.int .i64 2, .int .i64 0, .str [59], .sl [.agg [.int .i64 2, .int .i64 0, .str [98], .nils], .agg [.int .i64 2, .int .i64 0, .str [99], .nils]]]]], .nils, .int .i64 0]),
 ([.str [45, 32, 49, 46]], .tuple [.agg [.int .i64 2, .int .i64 0, .str [45], .sl [.agg [.int .i64 1, .int .i64 1, .str [], .nils]]], .nils, .int .i64 0]),
 ([.str [45, 49, 46]], .tuple [.agg [.int .i64 1, .int .i64 (-1), .str [], .nils], .nils, .int .i64 0]),
 ([.str [45, 32, 40, 49, 41, 46]], .tuple [.agg [.int .i64 2, .int .i64 0, .str [45], .sl [.agg [.int .i64 1, .int .i64 1, .str [], .nils]]], .nils, .int .i64 0]),
 ([.str [97, 32, 45, 32, 49, 46]], .tuple [.agg [.int .i64 2, .int .i64 0, .str [45], .sl [.agg [.int .i64 2, .int .i64 0, .str [97], .nils], .agg [.int .i64 1, .int .i64 1, .str [], .nils]]], .nils, .int .i64 0]),
 ([.str [97, 32, 45, 49, 46]], .tuple [.agg [.int .i64 2, .int .i64 0, .str [45], .sl [.agg [.int .i64 2, .int .i64 0, .str [97], .nils], .agg [.int .i64 1, .int .i64 1, .str [], .nils]]], .nils, .int .i64 0]),
 ([.str [102, 40, 45, 41, 46]], .tuple [.agg [.int .i64 2, .int .i64 0, .str [102], .sl [.agg [.int .i64 2, .int .i64 0, .str [45], .nils]]], .nils, .int .i64 0]),
 ([.str [91, 97, 44, 98, 124, 84, 93, 46]], .tuple [.agg [.int .i64 2, .int .i64 0, .str [46], .sl [.agg [.int .i64 2, .int .i64 0, .str [97], .nils], .agg [.int .i64 2, .int .i64 0, .str [46], .sl [.agg [.int .i64 2, .int .i64 0, .str [98], .nils], .agg [.int .i64 0, .int .i64 0, .str [], .nils]]]]], .sl [.agg [.str [84], .int .i64 0]], .int .i64 0]),
 ([.str [123, 97, 44, 98, 125, 46]], .tuple [.agg [.int .i64 2, .int .i64 0, .str [123, 125], .sl [.agg [.int .i64 2, .int .i64 0, .str [44], .sl [.agg [.int .i64 2, .int .i64 0, .str [97], .nils], .agg [.int .i64 2, .int .i64 0, .str [98], .nils]]]]], .nils, .int .i64 0]),
 ([.str [92, 43, 32, 97, 32, 61, 32, 98, 46]], .tuple [.agg [.int .i64 2, .int .i64 0, .str [92, 43], .sl [.agg [.int .i64 2, .int .i64 0, .str [61], .sl [.agg [.int .i64 2, .int .i64 0, .str [97], .nils], .agg [.int .i64 2, .int .i64 0, .str [98], .nils]]]]], .nils, .int .i64 0]),
 ([.str [45, 32, 45, 32, 97, 46]], .tuple [.agg [.int .i64 2, .int .i64 0, .str [45], .sl [.agg [.int .i64 2, .int .i64 0, .str [45], .sl [.agg [.int .i64 2, .int .i64 0, .str [97], .nils]]]]], .nils, .int .i64 0]),
 ([.str [102, 40, 97, 44, 32, 40, 98, 32, 58, 45, 32, 99, 41, 41, 46]], .tuple [.agg [.int .i64 2, .int .i64 0, .str [102], .sl [.agg [.int .i64 2, .int .i64 0, .str [97], .nils], .agg [.int .i64 2, .int .i64 0, .str [58, 45], .sl [.agg [.int .i64 2, .int .i64 0, .str [98], .nils], .agg [.int .i64 2, .int .i64 0, .str [99], .nils]]]]], .nils, .int .i64 0]),
 ([.str [39, 43, 39, 40, 49, 44, 50, 41, 46]], .tuple [.agg [.int .i64 2, .int .i64 0, .str [43], .sl [.agg [.int .i64 1, .int .i64 1, .str [], .nils], .agg [.int .i64 1, .int .i64 2, .str [], .nils]]], .nils, .int .i64 0]),
 ([.str [97, 58, 45, 98, 44, 99, 59, 100, 45, 62, 101, 46]], .tuple [.agg [.int .i64 2, .int .i64 0, .str [58, 45], .sl [.agg [.int .i64 2, .int .i64 0, .str [97], .nils], .agg [.int .i64 2, .int .i64 0, .str [59], .sl [.agg [.int .i64 2, .int .i64 0, .str [44], .sl [.agg [.int .i64 2, .int .i64 0, .str [98], .nils], .agg [.int .i64 2, .int .i64 0, .str [99], .nils]]], .agg [.int .i64 2, .int .i64 0, .str [45, 62], .sl [.agg [.int .i64 2, .int .i64 0, .str [100], .nils], .agg [.int .i64 2, .int .i64 0, .str [101], .nils]]]]]]], .nils, .int .i64 0]),
 ([.str [88, 32, 61, 32, 39, 61, 39, 46]], .tuple [.agg [.int .i64 2, .int .i64 0, .str [61], .sl [.agg [.int .i64 0, .int .i64 0, .str [], .nils], .agg [.int .i64 2, .int .i64 0, .str [61], .nils]]], .sl [.agg [.str [88], .int .i64 0]], .int .i64 0]),
 ([.str [91, 93, 46]], .tuple [.agg [.int .i64 2, .int .i64 0, .str [91, 93], .nils], .nils, .int .i64 0]),
 ([.str [102, 40, 43, 41, 46]], .tuple [.agg [.int .i64 2, .int .i64 0, .str [102], .sl [.agg [.int .i64 2, .int .i64 0, .str [43], .nils]]], .nils, .int .i64 0]),
 ([.str [45, 32, 97, 32, 42, 32, 98, 46]], .tuple [.agg [.int .i64 2, .int .i64 0, .str [42], .sl [.agg [.int .i64 2, .int .i64 0, .str [45], .sl [.agg [.int .i64 2, .int .i64 0, .str [97], .nils]]], .agg [.int .i64 2, .int .i64 0, .str [98], .nils]]], .nils, .int .i64 0]),
 ([.str [91, 45, 93, 46]], .tuple [.agg [.int .i64 2, .int .i64 0, .str [46], .sl [.agg [.int .i64 2, .int .i64 0, .str [45], .nils], .agg [.int .i64 2, .int .i64 0, .str [91, 93], .nils]]], .nils, .int .i64 0]),
 ([.str [45, 40, 49, 44, 50, 41, 46]], .tuple [.agg [.int .i64 2, .int .i64 0, .str [45], .sl [.agg [.int .i64 1, .int .i64 1, .str [], .nils], .agg [.int .i64 1, .int .i64 2, .str [], .nils]]], .nils, .int .i64 0]),
 ([.str [95, 32, 61, 32, 95, 46]], .tuple [.agg [.int .i64 2, .int .i64 0, .str [61], .sl [.agg [.int .i64 0, .int .i64 0, .str [], .nils], .agg [.int .i64 0, .int .i64 1, .str [], .nils]]], .nils, .int .i64 0]),
 ([.str [50, 32, 45, 32, 45, 49, 46]], .tuple [.agg [.int .i64 2, .int .i64 0, .str [45], .sl [.agg [.int .i64 1, .int .i64 2, .str [], .nils], .agg [.int .i64 1, .int .i64 (-1), .str [], .nils]]], .nils, .int .i64 0]),
 ([.str [97, 32, 105, 115, 32, 98, 32, 109, 111, 100, 32, 99, 46]], .tuple [.agg [.int .i64 2, .int .i64 0, .str [105, 115], .sl [.agg [.int .i64 2, .int .i64 0, .str [97], .nils], .agg [.int .i64 2, .int .i64 0, .str [109, 111, 100], .sl [.agg [.int .i64 2, .int .i64 0, .str [98], .nils], .agg [.int .i64 2, .int .i64 0, .str [99], .nils]]]]], .nils, .int .i64 0])]
theorem krT2_12_ok : KSpecOKX Tryz.prog TabX krT2_12 := KSpec.tabP_ok (by
  have E := envOf_okX krS1_ok
  exact List.forall_mem_cons.2 ⟨prim_of E kre2_0 (by kernel_rfl) (by kernel_rfl), List.forall_mem_cons.2 ⟨prim_of E kre2_2 (by kernel_rfl) (by kernel_rfl), List.forall_mem_cons.2 ⟨prim_of E kre2_3 (by kernel_rfl) (by kernel_rfl), List.forall_mem_cons.2 ⟨prim_of E kre2_4 (by kernel_rfl) (by kernel_rfl), List.forall_mem_cons.2 ⟨prim_of E kre2_5 (by kernel_rfl) (by kernel_rfl), List.forall_mem_cons.2 ⟨prim_of E kre2_6 (by kernel_rfl) (by kernel_rfl), List.forall_mem_cons.2 ⟨prim_of E kre2_7 (by kernel_rfl) (by kernel_rfl), List.forall_mem_cons.2 ⟨prim_of E kre2_8 (by kernel_rfl) (by kernel_rfl), List.forall_mem_cons.2 ⟨prim_of E kre2_9 (by kernel_rfl) (by kernel_rfl), List.forall_mem_cons.2 ⟨prim_of E kre2_10 (by kernel_rfl) (by kernel_rfl), List.forall_mem_cons.2 ⟨prim_of E kre2_11 (by kernel_rfl) (by kernel_rfl), List.forall_mem_cons.2 ⟨prim_of E kre2_12 (by kernel_rfl) (by kernel_rfl), List.forall_mem_cons.2 ⟨prim_of E kre2_13 (by kernel_rfl) (by kernel_rfl), List.forall_mem_cons.2 ⟨prim_of E kre2_14 (by kernel_rfl) (by kernel_rfl), List.forall_mem_cons.2 ⟨prim_of E kre2_15 (by kernel_rfl) (by kernel_rfl), List.forall_mem_cons.2 ⟨prim_of E kre2_16 (by kernel_rfl) (by kernel_rfl), List.forall_mem_cons.2 ⟨prim_of E kre2_17 (by kernel_rfl) (by kernel_rfl), List.forall_mem_cons.2 ⟨prim_of E kre2_18 (by kernel_rfl) (by kernel_rfl), List.forall_mem_cons.2 ⟨prim_of E kre2_19 (by kernel_rfl) (by kernel_rfl), List.forall_mem_cons.2 ⟨prim_of E kre2_21 (by kernel_rfl) (by kernel_rfl), List.forall_mem_cons.2 ⟨prim_of E kre2_23 (by kernel_rfl) (by kernel_rfl), List.forall_mem_cons.2 ⟨prim_of E kre2_25 (by kernel_rfl) (by kernel_rfl), List.forall_mem_cons.2 ⟨prim_of E kre2_26 (by kernel_rfl) (by kernel_rfl), List.forall_mem_cons.2 ⟨prim_of E kre2_27 (by kernel_rfl) (by kernel_rfl), List.forall_mem_cons.2 ⟨prim_of E kre2_29 (by kernel_rfl) (by kernel_rfl), List.forall_mem_cons.2 ⟨prim_of E kre2_30 (by kernel_rfl) (by kernel_rfl), List.forall_mem_cons.2 ⟨prim_of E kre2_32 (by kernel_rfl) (by kernel_rfl), List.forall_mem_cons.2 ⟨prim_of E kre2_34 (by kernel_rfl) (by kernel_rfl), List.forall_mem_cons.2 ⟨prim_of E kre2_36 (by kernel_rfl) (by kernel_rfl), List.forall_mem_cons.2 ⟨prim_of E kre2_38 (by kernel_rfl) (by kernel_rfl), List.forall_mem_cons.2 ⟨prim_of E kre2_40 (by kernel_rfl) (by kernel_rfl), List.forall_mem_cons.2 ⟨prim_of E kre2_42 (by kernel_rfl) (by kernel_rfl), List.forall_mem_cons.2 ⟨prim_of E kre2_43 (by kernel_rfl) (by kernel_rfl), List.forall_mem_cons.2 ⟨prim_of E kre2_45 (by kernel_rfl) (by kernel_rfl), List.forall_mem_cons.2 ⟨prim_of E kre2_47 (by kernel_rfl) (by kernel_rfl), List.forall_mem_cons.2 ⟨prim_of E kre2_48 (by kernel_rfl) (by kernel_rfl), List.forall_mem_cons.2 ⟨prim_of E kre2_50 (by kernel_rfl) (by kernel_rfl), List.forall_mem_cons.2 ⟨prim_of E kre2_52 (by kernel_rfl) (by kernel_rfl), List.forall_mem_cons.2 ⟨prim_of E kre2_54 (by kernel_rfl) (by kernel_rfl), List.forall_mem_cons.2 ⟨prim_of E kre2_55 (by kernel_rfl) (by kernel_rfl), List.forall_mem_cons.2 ⟨prim_of E kre2_57 (by kernel_rfl) (by kernel_rfl), List.forall_mem_cons.2 ⟨prim_of E kre2_58 (by kernel_rfl) (by kernel_rfl), fun _ h => nomatch h⟩⟩⟩⟩⟩⟩⟩⟩⟩⟩⟩⟩⟩⟩⟩⟩⟩⟩⟩⟩⟩⟩⟩⟩⟩⟩⟩⟩⟩⟩⟩⟩⟩⟩⟩⟩⟩⟩⟩⟩⟩⟩)
def krT2_66 : KSpec := .tab 66 [
 ([.agg [.int .i64 2, .int .i64 0, .str [61], .sl [.agg [.int .i64 0, .int .i64 0, .str [], .nils], .agg [.int .i64 2, .int .i64 0, .str [43], .sl [.agg [.int .i64 2, .int .i64 0, .str [97], .nils], .agg [.int .i64 0, .int .i64 1, .str [], .nils]]]]]], .bool true),
 ([.agg [.int .i64 2, .int .i64 0, .str [43], .sl [.agg [.int .i64 2, .int .i64 0, .str [43], .sl [.agg [.int .i64 2, .int .i64 0, .str [97], .nils], .agg [.int .i64 2, .int .i64 0, .str [98], .nils]]], .agg [.int .i64 2, .int .i64 0, .str [99], .nils]]]], .bool true),
 ([.agg [.int .i64 2, .int .i64 0, .str [59], .sl [.agg [.int .i64 2, .int .i64 0, .str [97], .nils], .agg [.int .i64 2, .int .i64 0, .str [59], .sl [.agg [.int .i64 2, .int .i64 0, .str [98], .nils], .agg [.int .i64 2, .int .i64 0, .str [99], .nils]]]]]], .bool true),
 ([.agg [.int .i64 2, .int .i64 0, .str [46], .sl [.agg [.int .i64 2, .int .i64 0, .str [97], .nils], .agg [.int .i64 2, .int .i64 0, .str [46], .sl [.agg [.int .i64 2, .int .i64 0, .str [98], .nils], .agg [.int .i64 0, .int .i64 0, .str [], .nils]]]]]], .bool true),
 ([.agg [.int .i64 2, .int .i64 0, .str [102], .sl [.agg [.int .i64 2, .int .i64 0, .str [97], .nils], .agg [.int .i64 2, .int .i64 0, .str [58, 45], .sl [.agg [.int .i64 2, .int .i64 0, .str [98], .nils], .agg [.int .i64 2, .int .i64 0, .str [99], .nils]]]]]], .bool true),
 ([.agg [.int .i64 2, .int .i64 0, .str [58, 45], .sl [.agg [.int .i64 2, .int .i64 0, .str [97], .nils], .agg [.int .i64 2, .int .i64 0, .str [59], .sl [.agg [.int .i64 2, .int .i64 0, .str [44], .sl [.agg [.int .i64 2, .int .i64 0, .str [98], .nils], .agg [.int .i64 2, .int .i64 0, .str [99], .nils]]], .agg [.int .i64 2, .int .i64 0, .str [45, 62], .sl [.agg [.int .i64 2, .int .i64 0, .str [100], .nils], .agg [.int .i64 2, .int .i64 0, .str [101], .nils]]]]]]]], .bool true),
 ([.agg [.int .i64 2, .int .i64 0, .str [105, 115], .sl [.agg [.int .i64 2, .int .i64 0, .str [97], .nils], .agg [.int .i64 2, .int .i64 0, .str [109, 111, 100], .sl [.agg [.int .i64 2, .int .i64 0, .str [98], .nils], .agg [.int .i64 2, .int .i64 0, .str [99], .nils]]]]]], .bool true)]
theorem krT2_66_ok : KSpecOKX Tryz.prog TabX krT2_66 := KSpec.tab_ok (by
  have E := envOf_okX krS1_ok
  exact List.forall_mem_cons.2 ⟨prim_of E kre2_1 (by kernel_rfl) (by kernel_rfl), List.forall_mem_cons.2 ⟨prim_of E kre2_20 (by kernel_rfl) (by kernel_rfl), List.forall_mem_cons.2 ⟨prim_of E kre2_22 (by kernel_rfl) (by kernel_rfl), List.forall_mem_cons.2 ⟨prim_of E kre2_33 (by kernel_rfl) (by kernel_rfl), List.forall_mem_cons.2 ⟨prim_of E kre2_41 (by kernel_rfl) (by kernel_rfl), List.forall_mem_cons.2 ⟨prim_of E kre2_44 (by kernel_rfl) (by kernel_rfl), List.forall_mem_cons.2 ⟨prim_of E kre2_59 (by kernel_rfl) (by kernel_rfl), fun _ h => nomatch h⟩⟩⟩⟩⟩⟩⟩)
def krT2_40 : KSpec := .tab 40 [
 ([.agg [.int .i64 2, .int .i64 0, .str [45], .sl [.agg [.int .i64 1, .int .i64 1, .str [], .nils]]]], .tuple [.str [45, 40, 49, 41], .int .i64 0]),
 ([.agg [.int .i64 2, .int .i64 0, .str [45], .sl [.agg [.int .i64 2, .int .i64 0, .str [97], .nils], .agg [.int .i64 1, .int .i64 1, .str [], .nils]]]], .tuple [.str [45, 40, 97, 44, 49, 41], .int .i64 0]),
 ([.agg [.int .i64 2, .int .i64 0, .str [102], .sl [.agg [.int .i64 2, .int .i64 0, .str [45], .nils]]]], .tuple [.str [102, 40, 45, 41], .int .i64 0]),
 ([.agg [.int .i64 2, .int .i64 0, .str [45], .sl [.agg [.int .i64 2, .int .i64 0, .str [45], .sl [.agg [.int .i64 2, .int .i64 0, .str [97], .nils]]]]]], .tuple [.str [45, 40, 45, 40, 97, 41, 41], .int .i64 0]),
 ([.agg [.int .i64 2, .int .i64 0, .str [61], .sl [.agg [.int .i64 0, .int .i64 0, .str [], .nils], .agg [.int .i64 2, .int .i64 0, .str [61], .nils]]]], .tuple [.str [61, 40, 95, 48, 44, 61, 41], .int .i64 0]),
 ([.agg [.int .i64 2, .int .i64 0, .str [102], .sl [.agg [.int .i64 2, .int .i64 0, .str [43], .nils]]]], .tuple [.str [102, 40, 43, 41], .int .i64 0]),
 ([.agg [.int .i64 2, .int .i64 0, .str [46], .sl [.agg [.int .i64 2, .int .i64 0, .str [45], .nils], .agg [.int .i64 2, .int .i64 0, .str [91, 93], .nils]]]], .tuple [.str [39, 46, 39, 40, 45, 44, 91, 93, 41], .int .i64 0]),
 ([.agg [.int .i64 2, .int .i64 0, .str [61], .sl [.agg [.int .i64 0, .int .i64 0, .str [], .nils], .agg [.int .i64 0, .int .i64 1, .str [], .nils]]]], .tuple [.str [61, 40, 95, 48, 44, 95, 49, 41], .int .i64 0])]
theorem krT2_40_ok : KSpecOKX Tryz.prog TabX krT2_40 := KSpec.tab_ok (by
  have E := envOf_okX krS1_ok
  exact List.forall_mem_cons.2 ⟨prim_of E kre2_24 (by kernel_rfl) (by kernel_rfl), List.forall_mem_cons.2 ⟨prim_of E kre2_28 (by kernel_rfl) (by kernel_rfl), List.forall_mem_cons.2 ⟨prim_of E kre2_31 (by kernel_rfl) (by kernel_rfl), List.forall_mem_cons.2 ⟨prim_of E kre2_39 (by kernel_rfl) (by kernel_rfl), List.forall_mem_cons.2 ⟨prim_of E kre2_46 (by kernel_rfl) (by kernel_rfl), List.forall_mem_cons.2 ⟨prim_of E kre2_49 (by kernel_rfl) (by kernel_rfl), List.forall_mem_cons.2 ⟨prim_of E kre2_53 (by kernel_rfl) (by kernel_rfl), List.forall_mem_cons.2 ⟨prim_of E kre2_56 (by kernel_rfl) (by kernel_rfl), fun _ h => nomatch h⟩⟩⟩⟩⟩⟩⟩⟩)
def krT2_70 : KSpec := .tab 70 [
 ([.agg [.int .i64 2, .int .i64 0, .str [123, 125], .sl [.agg [.int .i64 2, .int .i64 0, .str [44], .sl [.agg [.int .i64 2, .int .i64 0, .str [97], .nils], .agg [.int .i64 2, .int .i64 0, .str [98], .nils]]]]]], .nils),
 ([.agg [.int .i64 2, .int .i64 0, .str [92, 43], .sl [.agg [.int .i64 2, .int .i64 0, .str [61], .sl [.agg [.int .i64 2, .int .i64 0, .str [97], .nils], .agg [.int .i64 2, .int .i64 0, .str [98], .nils]]]]]], .nils),
 ([.agg [.int .i64 2, .int .i64 0, .str [42], .sl [.agg [.int .i64 2, .int .i64 0, .str [45], .sl [.agg [.int .i64 2, .int .i64 0, .str [97], .nils]]], .agg [.int .i64 2, .int .i64 0, .str [98], .nils]]]], .nils)]
theorem krT2_70_ok : KSpecOKX Tryz.prog TabX krT2_70 := KSpec.tab_ok (by
  have E := envOf_okX krS1_ok
  exact List.forall_mem_cons.2 ⟨prim_of E kre2_35 (by kernel_rfl) (by kernel_rfl), List.forall_mem_cons.2 ⟨prim_of E kre2_37 (by kernel_rfl) (by kernel_rfl), List.forall_mem_cons.2 ⟨prim_of E kre2_51 (by kernel_rfl) (by kernel_rfl), fun _ h => nomatch h⟩⟩⟩)
def krT2_13 : KSpec := .tabP 13 krV0 [
 ([.str [112, 40, 88, 41, 46, 32, 113, 40, 89, 44, 32, 88, 41, 32, 58, 45, 32, 114, 46]], .tuple [.sl [.agg [.int .i64 2, .int .i64 0, .str [112], .sl [.agg [.int .i64 0, .int .i64 0, .str [], .nils]]], .agg [.int .i64 2, .int .i64 0, .str [58, 45], .sl [.agg [.int .i64 2, .int .i64 0, .str [113], .sl [.agg [.int .i64 0, .int .i64 0, .str [], .nils], .agg [.int .i64 0, .int .i64 1, .str [], .nils]]], .agg [.int .i64 2, .int .i64 0, .str [114], .nils]]]], .int .i64 0]),
 ([.str [112, 46, 32, 113]], .tuple [.nils, .int .i64 2])]
theorem krT2_13_ok : KSpecOKX Tryz.prog TabX krT2_13 := KSpec.tabP_ok (by
  have E := envOf_okX krS1_ok
  exact List.forall_mem_cons.2 ⟨prim_of E kre2_60 (by kernel_rfl) (by kernel_rfl), List.forall_mem_cons.2 ⟨prim_of E kre2_61 (by kernel_rfl) (by kernel_rfl), fun _ h => nomatch h⟩⟩)
def krS2 : List KSpec := [krT2_12, krT2_66, krT2_40, krT2_70, krT2_13] ++ krS1
theorem krS2_ok : ∀ s ∈ krS2, KSpecOKX Tryz.prog TabX s := fun s hs => by
  rcases List.mem_append.1 hs with h | h
  · revert s
    exact fun s _ h => (show ∀ s ∈ [krT2_12, krT2_66, krT2_40, krT2_70, krT2_13], KSpecOKX Tryz.prog TabX s from List.forall_mem_cons.2 ⟨krT2_12_ok, List.forall_mem_cons.2 ⟨krT2_66_ok, List.forall_mem_cons.2 ⟨krT2_40_ok, List.forall_mem_cons.2 ⟨krT2_70_ok, List.forall_mem_cons.2 ⟨krT2_13_ok, fun _ h => nomatch h⟩⟩⟩⟩⟩) s h
  · exact krS1_ok s h

end Go.Proofs.YtlakiipofcibhaaGreatDoor

namespace Go.Proofs.YtlakiipofcibhaaGreatDoor
open Go Sz
set_option maxRecDepth 100000

/-! Closed runs. -/
theorem kre3_0 : evCall (envOf krS2) 90 40 [.agg [.int .i64 2, .int .i64 0, .str [61], .sl [.agg [.int .i64 0, .int .i64 0, .str [], .nils], .agg [.int .i64 2, .int .i64 0, .str [43], .sl [.agg [.int .i64 2, .int .i64 0, .str [97], .nils], .agg [.int .i64 0, .int .i64 1, .str [], .nils]]]]]] h0 = some (.tuple [.str [61, 40, 95, 48, 44, 43, 40, 97, 44, 95, 49, 41, 41], .int .i64 0], h0) := by kernel_rfl
theorem kre3_1 : evCall (envOf krS2) 90 40 [.agg [.int .i64 2, .int .i64 0, .str [43], .sl [.agg [.int .i64 2, .int .i64 0, .str [43], .sl [.agg [.int .i64 2, .int .i64 0, .str [97], .nils], .agg [.int .i64 2, .int .i64 0, .str [98], .nils]]], .agg [.int .i64 2, .int .i64 0, .str [99], .nils]]]] h0 = some (.tuple [.str [43, 40, 43, 40, 97, 44, 98, 41, 44, 99, 41], .int .i64 0], h0) := by kernel_rfl
theorem kre3_2 : evCall (envOf krS2) 90 40 [.agg [.int .i64 2, .int .i64 0, .str [59], .sl [.agg [.int .i64 2, .int .i64 0, .str [97], .nils], .agg [.int .i64 2, .int .i64 0, .str [59], .sl [.agg [.int .i64 2, .int .i64 0, .str [98], .nils], .agg [.int .i64 2, .int .i64 0, .str [99], .nils]]]]]] h0 = some (.tuple [.str [59, 40, 97, 44, 59, 40, 98, 44, 99, 41, 41], .int .i64 0], h0) := by kernel_rfl

end Go.Proofs.YtlakiipofcibhaaGreatDoor

namespace Go.Proofs.YtlakiipofcibhaaGreatDoor
open Go Sz
set_option maxRecDepth 100000

/-! Closed runs. -/
theorem kre3_3 : evCall (envOf krS2) 90 40 [.agg [.int .i64 2, .int .i64 0, .str [46], .sl [.agg [.int .i64 2, .int .i64 0, .str [97], .nils], .agg [.int .i64 2, .int .i64 0, .str [46], .sl [.agg [.int .i64 2, .int .i64 0, .str [98], .nils], .agg [.int .i64 0, .int .i64 0, .str [], .nils]]]]]] h0 = some (.tuple [.str [39, 46, 39, 40, 97, 44, 39, 46, 39, 40, 98, 44, 95, 48, 41, 41], .int .i64 0], h0) := by kernel_rfl
theorem kre3_4 : evCall (envOf krS2) 90 40 [.agg [.int .i64 2, .int .i64 0, .str [123, 125], .sl [.agg [.int .i64 2, .int .i64 0, .str [44], .sl [.agg [.int .i64 2, .int .i64 0, .str [97], .nils], .agg [.int .i64 2, .int .i64 0, .str [98], .nils]]]]]] h0 = some (.tuple [.str [123, 125, 40, 39, 44, 39, 40, 97, 44, 98, 41, 41], .int .i64 0], h0) := by kernel_rfl
theorem kre3_5 : evCall (envOf krS2) 90 40 [.agg [.int .i64 2, .int .i64 0, .str [92, 43], .sl [.agg [.int .i64 2, .int .i64 0, .str [61], .sl [.agg [.int .i64 2, .int .i64 0, .str [97], .nils], .agg [.int .i64 2, .int .i64 0, .str [98], .nils]]]]]] h0 = some (.tuple [.str [92, 43, 40, 61, 40, 97, 44, 98, 41, 41], .int .i64 0], h0) := by kernel_rfl

end Go.Proofs.YtlakiipofcibhaaGreatDoor
