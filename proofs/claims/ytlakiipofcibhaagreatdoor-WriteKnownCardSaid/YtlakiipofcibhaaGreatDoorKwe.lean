import Derived.Test.YtlakiipofcibhaaGreatDoorKwc
import Derived.Test.YtlakiipofcibhaaGreatDoorKwd
set_option linter.unusedVariables false
set_option linter.unusedSimpArgs false
set_option linter.unusedSectionVars false

namespace Go.Proofs.YtlakiipofcibhaaGreatDoor
open Go Sz
set_option maxRecDepth 100000

/-! Closed runs. -/
theorem kwe2_21 : evCall (envOf kwS1) 90 12 [kwV0, .str [40, 97, 44, 98, 41, 44, 99, 32, 46]] h0 = some (.tuple [.agg [.int .i64 2, .int .i64 0, .str [44], .sl [.agg [.int .i64 2, .int .i64 0, .str [44], .sl [.agg [.int .i64 2, .int .i64 0, .str [97], .nils], .agg [.int .i64 2, .int .i64 0, .str [98], .nils]]], .agg [.int .i64 2, .int .i64 0, .str [99], .nils]]], .nils, .int .i64 0], h0) := by kernel_rfl
theorem kwe2_22 : evCall (envOf kwS1) 90 12 [kwV0, .str [102, 40, 40, 97, 44, 98, 41, 41, 32, 46]] h0 = some (.tuple [.agg [.int .i64 2, .int .i64 0, .str [102], .sl [.agg [.int .i64 2, .int .i64 0, .str [44], .sl [.agg [.int .i64 2, .int .i64 0, .str [97], .nils], .agg [.int .i64 2, .int .i64 0, .str [98], .nils]]]]], .nils, .int .i64 0], h0) := by kernel_rfl

end Go.Proofs.YtlakiipofcibhaaGreatDoor

namespace Go.Proofs.YtlakiipofcibhaaGreatDoor
open Go Sz
set_option maxRecDepth 100000

/-! Closed runs. -/
theorem kwe2_23 : evCall (envOf kwS1) 90 12 [kwV0, .str [91, 40, 97, 32, 58, 45, 32, 98, 41, 93, 32, 46]] h0 = some (.tuple [.agg [.int .i64 2, .int .i64 0, .str [46], .sl [.agg [.int .i64 2, .int .i64 0, .str [58, 45], .sl [.agg [.int .i64 2, .int .i64 0, .str [97], .nils], .agg [.int .i64 2, .int .i64 0, .str [98], .nils]]], .agg [.int .i64 2, .int .i64 0, .str [91, 93], .nils]]], .nils, .int .i64 0], h0) := by kernel_rfl
theorem kwe2_24 : evCall (envOf kwS1) 90 20 [kwV0, .agg [.int .i64 2, .int .i64 0, .str [46], .sl [.agg [.int .i64 2, .int .i64 0, .str [58, 45], .sl [.agg [.int .i64 2, .int .i64 0, .str [97], .nils], .agg [.int .i64 2, .int .i64 0, .str [98], .nils]]], .agg [.int .i64 2, .int .i64 0, .str [91, 93], .nils]]]] h0 = some (.tuple [.str [91, 40, 97, 32, 58, 45, 32, 98, 41, 93], .int .i64 0], h0) := by kernel_rfl

end Go.Proofs.YtlakiipofcibhaaGreatDoor

namespace Go.Proofs.YtlakiipofcibhaaGreatDoor
open Go Sz
set_option maxRecDepth 100000

/-! Closed runs. -/
theorem kwe2_25 : evCall (envOf kwS1) 90 12 [kwV0, .str [92, 43, 32, 97, 32, 61, 32, 98, 32, 46]] h0 = some (.tuple [.agg [.int .i64 2, .int .i64 0, .str [92, 43], .sl [.agg [.int .i64 2, .int .i64 0, .str [61], .sl [.agg [.int .i64 2, .int .i64 0, .str [97], .nils], .agg [.int .i64 2, .int .i64 0, .str [98], .nils]]]]], .nils, .int .i64 0], h0) := by kernel_rfl
theorem kwe2_26 : evCall (envOf kwS1) 90 20 [kwV0, .agg [.int .i64 2, .int .i64 0, .str [92, 43], .sl [.agg [.int .i64 2, .int .i64 0, .str [61], .sl [.agg [.int .i64 2, .int .i64 0, .str [97], .nils], .agg [.int .i64 2, .int .i64 0, .str [98], .nils]]]]]] h0 = some (.tuple [.str [92, 43, 32, 97, 32, 61, 32, 98], .int .i64 0], h0) := by kernel_rfl

end Go.Proofs.YtlakiipofcibhaaGreatDoor

namespace Go.Proofs.YtlakiipofcibhaaGreatDoor
open Go Sz
set_option maxRecDepth 100000

/-! Closed runs. -/
theorem kwe2_27 : evCall (envOf kwS1) 90 12 [kwV0, .str [40, 92, 43, 32, 97, 41, 32, 61, 32, 98, 32, 46]] h0 = some (.tuple [.agg [.int .i64 2, .int .i64 0, .str [61], .sl [.agg [.int .i64 2, .int .i64 0, .str [92, 43], .sl [.agg [.int .i64 2, .int .i64 0, .str [97], .nils]]], .agg [.int .i64 2, .int .i64 0, .str [98], .nils]]], .nils, .int .i64 0], h0) := by kernel_rfl
theorem kwe2_28 : evCall (envOf kwS1) 90 20 [kwV0, .agg [.int .i64 2, .int .i64 0, .str [61], .sl [.agg [.int .i64 2, .int .i64 0, .str [92, 43], .sl [.agg [.int .i64 2, .int .i64 0, .str [97], .nils]]], .agg [.int .i64 2, .int .i64 0, .str [98], .nils]]]] h0 = some (.tuple [.str [40, 92, 43, 32, 97, 41, 32, 61, 32, 98], .int .i64 0], h0) := by kernel_rfl

end Go.Proofs.YtlakiipofcibhaaGreatDoor

namespace Go.Proofs.YtlakiipofcibhaaGreatDoor
open Go Sz
set_option maxRecDepth 100000

/-! Closed runs. -/
theorem kwe2_29 : evCall (envOf kwS1) 90 12 [kwV0, .str [40, 45, 41, 32, 43, 32, 97, 32, 46]] h0 = some (.tuple [.agg [.int .i64 2, .int .i64 0, .str [43], .sl [.agg [.int .i64 2, .int .i64 0, .str [45], .nils], .agg [.int .i64 2, .int .i64 0, .str [97], .nils]]], .nils, .int .i64 0], h0) := by kernel_rfl
theorem kwe2_30 : evCall (envOf kwS1) 90 20 [kwV0, .agg [.int .i64 2, .int .i64 0, .str [43], .sl [.agg [.int .i64 2, .int .i64 0, .str [45], .nils], .agg [.int .i64 2, .int .i64 0, .str [97], .nils]]]] h0 = some (.tuple [.str [40, 45, 41, 32, 43, 32, 97], .int .i64 0], h0) := by kernel_rfl
theorem kwe2_31 : evCall (envOf kwS1) 90 12 [kwV0, .str [102, 40, 45, 41, 32, 46]] h0 = some (.tuple [.agg [.int .i64 2, .int .i64 0, .str [102], .sl [.agg [.int .i64 2, .int .i64 0, .str [45], .nils]]], .nils, .int .i64 0], h0) := by kernel_rfl

end Go.Proofs.YtlakiipofcibhaaGreatDoor

namespace Go.Proofs.YtlakiipofcibhaaGreatDoor
open Go Sz
set_option maxRecDepth 100000

/-! Closed runs. -/
theorem kwe2_32 : evCall (envOf kwS1) 90 20 [kwV0, .agg [.int .i64 2, .int .i64 0, .str [102], .sl [.agg [.int .i64 2, .int .i64 0, .str [45], .nils]]]] h0 = some (.tuple [.str [102, 40, 45, 41], .int .i64 0], h0) := by kernel_rfl
theorem kwe2_33 : evCall (envOf kwS1) 90 12 [kwV0, .str [97, 58, 45, 98, 32, 46]] h0 = some (.tuple [.agg [.int .i64 2, .int .i64 0, .str [58, 45], .sl [.agg [.int .i64 2, .int .i64 0, .str [97], .nils], .agg [.int .i64 2, .int .i64 0, .str [98], .nils]]], .nils, .int .i64 0], h0) := by kernel_rfl
theorem kwe2_34 : evCall (envOf kwS1) 90 20 [kwV0, .agg [.int .i64 2, .int .i64 0, .str [58, 45], .sl [.agg [.int .i64 2, .int .i64 0, .str [97], .nils], .agg [.int .i64 2, .int .i64 0, .str [98], .nils]]]] h0 = some (.tuple [.str [97, 32, 58, 45, 32, 98], .int .i64 0], h0) := by kernel_rfl

end Go.Proofs.YtlakiipofcibhaaGreatDoor

namespace Go.Proofs.YtlakiipofcibhaaGreatDoor
open Go Sz
set_option maxRecDepth 100000

/-! Closed runs. -/
theorem kwe2_35 : evCall (envOf kwS1) 90 115 [.str [39, 39, 39, 39, 39, 39, 39, 39, 39, 39, 39, 39, 39, 39, 39, 39, 39, 39, 39, 39, 39, 39, 39, 39, 39, 39, 39, 39, 39, 39, 39, 39, 39, 39, 39, 39, 39, 39, 39, 39, 39, 39, 39, 39, 39, 39, 39, 39, 39, 39, 39, 39, 39, 39, 39, 39, 39, 39, 39]] h0 = some (.str [39, 92, 39, 92, 39, 92, 39, 92, 39, 92, 39, 92, 39, 92, 39, 92, 39, 92, 39, 92, 39, 92, 39, 92, 39, 92, 39, 92, 39, 92, 39, 92, 39, 92, 39, 92, 39, 92, 39, 92, 39, 92, 39, 92, 39, 92, 39, 92, 39, 92, 39, 92, 39, 92, 39, 92, 39, 92, 39, 92, 39, 92, 39, 92, 39, 92, 39, 92, 39, 92, 39, 92, 39, 92, 39, 92, 39, 92, 39, 92, 39, 92, 39, 92, 39, 92, 39, 92, 39, 92, 39, 92, 39, 92, 39, 92, 39, 92, 39, 92, 39, 92, 39, 92, 39, 92, 39, 92, 39, 92, 39, 92, 39, 92, 39, 92, 39, 92, 39, 39], h0) := by kernel_rfl
theorem kwe2_36 : evCall (envOf kwS1) 90 22 [.agg [.int .i64 2, .int .i64 0, .str [43], .sl [.agg [.int .i64 2, .int .i64 0, .str [97, 32, 98], .nils], .agg [.int .i64 2, .int .i64 0, .str [46], .sl [.agg [.int .i64 0, .int .i64 3, .str [], .nils], .agg [.int .i64 0, .int .i64 9, .str [], .nils]]]]]] h0 = some (.tuple [.str [43, 40, 39, 97, 32, 98, 39, 44, 39, 46, 39, 40, 95, 48, 44, 95, 49, 41, 41], .int .i64 0], h0) := by kernel_rfl

end Go.Proofs.YtlakiipofcibhaaGreatDoor

namespace Go.Proofs.YtlakiipofcibhaaGreatDoor
open Go Sz
set_option maxRecDepth 100000

def kwT2_20 : KSpec := .tabP 20 kwV0 [
 ([.agg [.int .i64 2, .int .i64 0, .str [43], .sl [.agg [.int .i64 2, .int .i64 0, .str [97], .nils], .agg [.int .i64 2, .int .i64 0, .str [42], .sl [.agg [.int .i64 2, .int .i64 0, .str [98], .nils], .agg [.int .i64 2, .int .i64 0, .str [99], .nils]]]]]], .tuple [.str [97, 32, 43, 32, 98, 32, 42, 32, 99], .int .i64 0]),
 ([.agg [.int .i64 2, .int .i64 0, .str [43], .sl [.agg [.int .i64 2, .int .i64 0, .str [43], .sl [.agg [.int .i64 2, .int .i64 0, .str [97], .nils], .agg [.int .i64 2, .int .i64 0, .str [98], .nils]]], .agg [.int .i64 2, .int .i64 0, .str [99], .nils]]]], .tuple [.str [97, 32, 43, 32, 98, 32, 43, 32, 99], .int .i64 0]),
 ([.agg [.int .i64 2, .int .i64 0, .str [43], .sl [.agg [.int .i64 2, .int .i64 0, .str [97], .nils], .agg [.int .i64 2, .int .i64 0, .str [43], .sl [.agg [.int .i64 2, .int .i64 0, .str [98], .nils], .agg [.int .i64 2, .int .i64 0, .str [99], .nils]]]]]], .tuple [.str [97, 32, 43, 32, 40, 98, 32, 43, 32, 99, 41], .int .i64 0]),
 ([.agg [.int .i64 2, .int .i64 0, .str [43], .sl [.agg [.int .i64 2, .int .i64 0, .str [58, 45], .sl [.agg [.int .i64 2, .int .i64 0, .str [97], .nils], .agg [.int .i64 2, .int .i64 0, .str [98], .nils]]], .agg [.int .i64 2, .int .i64 0, .str [99], .nils]]]], .tuple [.str [40, 97, 32, 58, 45, 32, 98, 41, 32, 43, 32, 99], .int .i64 0]),
 ([.agg [.int .i64 2, .int .i64 0, .str [45], .sl [.agg [.int .i64 1, .int .i64 1, .str [], .nils]]]], .tuple [.str [45, 40, 49, 41], .int .i64 0]),
 ([.agg [.int .i64 2, .int .i64 0, .str [45], .sl [.agg [.int .i64 2, .int .i64 0, .str [97], .nils]]]], .tuple [.str [45, 32, 97], .int .i64 0]),
 ([.agg [.int .i64 2, .int .i64 0, .str [45], .sl [.agg [.int .i64 1, .int .i64 2, .str [], .nils], .agg [.int .i64 1, .int .i64 (-1), .str [], .nils]]]], .tuple [.str [50, 32, 45, 32, 40, 45, 49, 41], .int .i64 0]),
 ([.agg [.int .i64 2, .int .i64 0, .str [102], .sl [.agg [.int .i64 1, .int .i64 (-1), .str [], .nils], .agg [.int .i64 2, .int .i64 0, .str [45], .sl [.agg [.int .i64 2, .int .i64 0, .str [97], .nils]]]]]], .tuple [.str [102, 40, 45, 49, 44, 45, 32, 97, 41], .int .i64 0]),
 ([.agg [.int .i64 2, .int .i64 0, .str [88], .sl [.agg [.int .i64 2, .int .i64 0, .str [98], .nils]]]], .tuple [.str [39, 88, 39, 40, 98, 41], .int .i64 0]),
 ([.agg [.int .i64 2, .int .i64 0, .str [46], .sl [.agg [.int .i64 2, .int .i64 0, .str [58, 45], .sl [.agg [.int .i64 2, .int .i64 0, .str [97], .nils], .agg [.int .i64 2, .int .i64 0, .str [98], .nils]]], .agg [.int .i64 2, .int .i64 0, .str [91, 93], .nils]]]], .tuple [.str [91, 40, 97, 32, 58, 45, 32, 98, 41, 93], .int .i64 0]),
 ([.agg [.int .i64 2, .int .i64 0, .str [92, 43], .sl [.agg [.int .i64 2, .int .i64 0, .str [61], .sl [.agg [.int .i64 2, .int .i64 0, .str [97], .nils], .agg [.int .i64 2, .int .i64 0, .str [98], .nils]]]]]], .tuple [.str [92, 43, 32, 97, 32, 61, 32, 98], .int .i64 0]),
 ([.agg [.int .i64 2, .int .i64 0, .str [61], .sl [.agg [.int .i64 2, .int .i64 0, .str [92, 43], .sl [.agg [.int .i64 2, .int .i64 0, .str [97], .nils]]], .agg [.int .i64 2, .int .i64 0, .str [98], .nils]]]], .tuple [.str [40, 92, 43, 32, 97, 41, 32, 61, 32, 98], .int .i64 0]),
 ([.agg [.int .i64 2, .int .i64 0, .str [43], .sl [.agg [.int .i64 2, .int .i64 0, .str [45], .nils], .agg [.int .i64 2, .int .i64 0, .str [97], .nils]]]], .tuple [.str [40, 45, 41, 32, 43, 32, 97], .int .i64 0]),
 ([.agg [.int .i64 2, .int .i64 0, .str [102], .sl [.agg [.int .i64 2, .int .i64 0, .str [45], .nils]]]], .tuple [.str [102, 40, 45, 41], .int .i64 0]),
 ([.agg [.int .i64 2, .int .i64 0, .str [58, 45], .sl [.agg [.int .i64 2, .int .i64 0, .str [97], .nils], .agg [.int .i64 2, .int .i64 0, .str [98], .nils]]]], .tuple [.str [97, 32, 58, 45, 32, 98], .int .i64 0])]
theorem kwT2_20_ok : KSpecOKX Tryz.prog TabX kwT2_20 := KSpec.tabP_ok (by
  have E := envOf_okX kwS1_ok
  exact List.forall_mem_cons.2 ⟨prim_of E kwe2_0 (by kernel_rfl) (by kernel_rfl), List.forall_mem_cons.2 ⟨prim_of E kwe2_2 (by kernel_rfl) (by kernel_rfl), List.forall_mem_cons.2 ⟨prim_of E kwe2_4 (by kernel_rfl) (by kernel_rfl), List.forall_mem_cons.2 ⟨prim_of E kwe2_6 (by kernel_rfl) (by kernel_rfl), List.forall_mem_cons.2 ⟨prim_of E kwe2_8 (by kernel_rfl) (by kernel_rfl), List.forall_mem_cons.2 ⟨prim_of E kwe2_10 (by kernel_rfl) (by kernel_rfl), List.forall_mem_cons.2 ⟨prim_of E kwe2_12 (by kernel_rfl) (by kernel_rfl), List.forall_mem_cons.2 ⟨prim_of E kwe2_14 (by kernel_rfl) (by kernel_rfl), List.forall_mem_cons.2 ⟨prim_of E kwe2_19 (by kernel_rfl) (by kernel_rfl), List.forall_mem_cons.2 ⟨prim_of E kwe2_24 (by kernel_rfl) (by kernel_rfl), List.forall_mem_cons.2 ⟨prim_of E kwe2_26 (by kernel_rfl) (by kernel_rfl), List.forall_mem_cons.2 ⟨prim_of E kwe2_28 (by kernel_rfl) (by kernel_rfl), List.forall_mem_cons.2 ⟨prim_of E kwe2_30 (by kernel_rfl) (by kernel_rfl), List.forall_mem_cons.2 ⟨prim_of E kwe2_32 (by kernel_rfl) (by kernel_rfl), List.forall_mem_cons.2 ⟨prim_of E kwe2_34 (by kernel_rfl) (by kernel_rfl), fun _ h => nomatch h⟩⟩⟩⟩⟩⟩⟩⟩⟩⟩⟩⟩⟩⟩⟩)
def kwT2_12 : KSpec := .tabP 12 kwV0 [
 ([.str [97, 32, 43, 32, 98, 32, 43, 32, 99, 32, 46]], .tuple [.agg [.int .i64 2, .int .i64 0, .str [43], .sl [.agg [.int .i64 2, .int .i64 0, .str [43], .sl [.agg [.int .i64 2, .int .i64 0, .str [97], .nils], .agg [.int .i64 2, .int .i64 0, .str [98], .nils]]], .agg [.int .i64 2, .int .i64 0, .str [99], .nils]]], .nils, .int .i64 0]),
 ([.str [97, 32, 43, 32, 40, 98, 32, 43, 32, 99, 41, 32, 46]], .tuple [.agg [.int .i64 2, .int .i64 0, .str [43], .sl [.agg [.int .i64 2, .int .i64 0, .str [97], .nils], .agg [.int .i64 2, .int .i64 0, .str [43], .sl [.agg [.int .i64 2, .int .i64 0, .str [98], .nils], .agg [.int .i64 2, .int .i64 0, .str [99], .nils]]]]], .nils, .int .i64 0]),
 ([.str [40, 97, 32, 58, 45, 32, 98, 41, 32, 43, 32, 99, 32, 46]], .tuple [.agg [.int .i64 2, .int .i64 0, .str [43], .sl [.agg [.int .i64 2, .int .i64 0, .str [58, 45], .sl [.agg [.int .i64 2, .int .i64 0, .str [97], .nils], .agg [.int .i64 2, .int .i64 0, .str [98], .nils]]], .agg [.int .i64 2, .int .i64 0, .str [99], .nils]]], .nils, .int .i64 0]),
 ([.str [45, 40, 49, 41, 32, 46]], .tuple [.agg [.int .i64 2, .int .i64 0, .str [45], .sl [.agg [.int .i64 1, .int .i64 1, .str [], .nils]]], .nils, .int .i64 0]),
 ([.str [45, 32, 97, 32, 46]], .tuple [.agg [.int .i64 2, .int .i64 0, .str [45], .sl [.agg [.int .i64 2, .int .i64 0, .str [97], .nils]]], .nils, .int .i64 0]),
 ([.str [50, 32, 45, 32, 40, 45, 49, 41, 32, 46]], .tuple [.agg [.int .i64 2, .int .i64 0, .str [45], .sl [.agg [.int .i64 1, .int .i64 2, .str [], .nils], .agg [.int .i64 1, .int .i64 (-1), .str [], .nils]]], .nils, .int .i64 0]),
 ([.str [102, 40, 45, 49, 44, 45, 32, 97, 41, 32, 46]], .tuple [.agg [.int .i64 2, .int .i64 0, .str [102], .sl [.agg [.int .i64 1, .int .i64 (-1), .str [], .nils], .agg [.int .i64 2, .int .i64 0, .str [45], .sl [.agg [.int .i64 2, .int .i64 0, .str [97], .nils]]]]], .nils, .int .i64 0]),
 ([.str [91, 97, 44, 98, 124, 95, 48, 93, 32, 46]], .tuple [.agg [.int .i64 2, .int .i64 0, .str [46], .sl [.agg [.int .i64 2, .int .i64 0, .str [97], .nils], .agg [.int .i64 2, .int .i64 0, .str [46], .sl [.agg [.int .i64 2, .int .i64 0, .str [98], .nils], .agg [.int .i64 0, .int .i64 0, .str [], .nils]]]]], .sl [.agg [.str [95, 48], .int .i64 0]], .int .i64 0]),
 ([.str [91, 93, 32, 46]], .tuple [.agg [.int .i64 2, .int .i64 0, .str [91, 93], .nils], .nils, .int .i64 0]),
 ([.str [123, 97, 44, 98, 125, 32, 46]], .tuple [.agg [.int .i64 2, .int .i64 0, .str [123, 125], .sl [.agg [.int .i64 2, .int .i64 0, .str [44], .sl [.agg [.int .i64 2, .int .i64 0, .str [97], .nils], .agg [.int .i64 2, .int .i64 0, .str [98], .nils]]]]], .nils, .int .i64 0]),
 ([.str [39, 88, 39, 40, 98, 41, 32, 46]], .tuple [.agg [.int .i64 2, .int .i64 0, .str [88], .sl [.agg [.int .i64 2, .int .i64 0, .str [98], .nils]]], .nils, .int .i64 0]),
 ([.str [97, 44, 98, 44, 99, 32, 46]], .tuple [.agg [.int .i64 2, .int .i64 0, .str [44], .sl [.agg [.int .i64 2, .int .i64 0, .str [97], .nils], .agg [.int .i64 2, .int .i64 0, .str [44], .sl [.agg [.int .i64 2, .int .i64 0, .str [98], .nils], .agg [.int .i64 2, .int .i64 0, .str [99], .nils]]]]], .nils, .int .i64 0]),
 ([.str [40, 97, 44, 98, 41, 44, 99, 32, 46]], .tuple [.agg [.int .i64 2, .int .i64 0, .str [44], .sl [.agg [.int .i64 2, .int .i64 0, .str [44], .sl [.agg [.int .i64 2, .int .i64 0, .str [97], .nils], .agg [.int .i64 2, .int .i64 0, .str [98], .nils]]], .agg [.int .i64 2, .int .i64 0, .str [99], .nils]]], .nils, .int .i64 0]),
 ([.str [102, 40, 40, 97, 44, 98, 41, 41, 32, 46]], .tuple [.agg [.int .i64 2, .int .i64 0, .str [102], .sl [.agg [.int .i64 2, .int .i64 0, .str [44], .sl [.agg [.int .i64 2, .int .i64 0, .str [97], .nils], .agg [.int .i64 2, .int .i64 0, .str [98], .nils]]]]], .nils, .int .i64 0]),
 ([.str [91, 40, 97, 32, 58, 45, 32, 98, 41, 93, 32, 46]], .tuple [.agg [.int .i64 2, .int .i64 0, .str [46], .sl [.agg [.int .i64 2, .int .i64 0, .str [58, 45], .sl [.agg [.int .i64 2, .int .i64 0, .str [97], .nils], .agg [.int .i64 2, .int .i64 0, .str [98], .nils]]], .agg [.int .i64 2, .int .i64 0, .str [91, 93], .nils]]], .nils, .int .i64 0]),
 ([.str [92, 43, 32, 97, 32, 61, 32, 98, 32, 46]], .tuple [.agg [.int .i64 2, .int .i64 0, .str [92, 43], .sl [.agg [.int .i64 2, .int .i64 0, .str [61], .sl [.agg [.int .i64 2, .int .i64 0, .str [97], .nils], .agg [.int .i64 2, .int .i64 0, .str [98], .nils]]]]], .nils, .int .i64 0]),
 ([.str [40, 92, 43, 32, 97, 41, 32, 61, 32, 98, 32, 46]], .tuple [.agg [.int .i64 2, .int .i64 0, .str [61], .sl [.agg [.int .i64 2, .int .i64 0, .str [92, 43], .sl [.agg [.int .i64 2, .int .i64 0, .str [97], .nils]]], .agg [.int .i64 2, .int .i64 0, .str [98], .nils]]], .nils, .int .i64 0]),
 ([.str [40, 45, 41, 32, 43, 32, 97, 32, 46]], .tuple [.agg [.int .i64 2, .int .i64 0, .str [43], .sl [.agg [.int .i64 2, .int .i64 0, .str [45], .nils], .agg [.int .i64 2, .int .i64 0, .str [97], .nils]]], .nils, .int .i64 0]),
 ([.str [102, 40, 45, 41, 32, 46]], .tuple [.agg [.int .i64 2, .int .i64 0, .str [102], .sl [.agg [.int .i64 2, .int .i64 0, .str [45], .nils]]], .nils, .int .i64 0]),
 ([.str [97, 58, 45, 98, 32, 46]], .tuple [.agg [.int .i64 2, .int .i64 0, .str [58, 45], .sl [.agg [.int .i64 2, .int .i64 0, .str [97], .nils], .agg [.int .i64 2, .int .i64 0, .str [98], .nils]]], .nils, .int .i64 0])]
theorem kwT2_12_ok : KSpecOKX Tryz.prog TabX kwT2_12 := KSpec.tabP_ok (by
  have E := envOf_okX kwS1_ok
  exact List.forall_mem_cons.2 ⟨prim_of E kwe2_1 (by kernel_rfl) (by kernel_rfl), List.forall_mem_cons.2 ⟨prim_of E kwe2_3 (by kernel_rfl) (by kernel_rfl), List.forall_mem_cons.2 ⟨prim_of E kwe2_5 (by kernel_rfl) (by kernel_rfl), List.forall_mem_cons.2 ⟨prim_of E kwe2_7 (by kernel_rfl) (by kernel_rfl), List.forall_mem_cons.2 ⟨prim_of E kwe2_9 (by kernel_rfl) (by kernel_rfl), List.forall_mem_cons.2 ⟨prim_of E kwe2_11 (by kernel_rfl) (by kernel_rfl), List.forall_mem_cons.2 ⟨prim_of E kwe2_13 (by kernel_rfl) (by kernel_rfl), List.forall_mem_cons.2 ⟨prim_of E kwe2_15 (by kernel_rfl) (by kernel_rfl), List.forall_mem_cons.2 ⟨prim_of E kwe2_16 (by kernel_rfl) (by kernel_rfl), List.forall_mem_cons.2 ⟨prim_of E kwe2_17 (by kernel_rfl) (by kernel_rfl), List.forall_mem_cons.2 ⟨prim_of E kwe2_18 (by kernel_rfl) (by kernel_rfl), List.forall_mem_cons.2 ⟨prim_of E kwe2_20 (by kernel_rfl) (by kernel_rfl), List.forall_mem_cons.2 ⟨prim_of E kwe2_21 (by kernel_rfl) (by kernel_rfl), List.forall_mem_cons.2 ⟨prim_of E kwe2_22 (by kernel_rfl) (by kernel_rfl), List.forall_mem_cons.2 ⟨prim_of E kwe2_23 (by kernel_rfl) (by kernel_rfl), List.forall_mem_cons.2 ⟨prim_of E kwe2_25 (by kernel_rfl) (by kernel_rfl), List.forall_mem_cons.2 ⟨prim_of E kwe2_27 (by kernel_rfl) (by kernel_rfl), List.forall_mem_cons.2 ⟨prim_of E kwe2_29 (by kernel_rfl) (by kernel_rfl), List.forall_mem_cons.2 ⟨prim_of E kwe2_31 (by kernel_rfl) (by kernel_rfl), List.forall_mem_cons.2 ⟨prim_of E kwe2_33 (by kernel_rfl) (by kernel_rfl), fun _ h => nomatch h⟩⟩⟩⟩⟩⟩⟩⟩⟩⟩⟩⟩⟩⟩⟩⟩⟩⟩⟩⟩)
def kwT2_115 : KSpec := .tab 115 [
 ([.str [39, 39, 39, 39, 39, 39, 39, 39, 39, 39, 39, 39, 39, 39, 39, 39, 39, 39, 39, 39, 39, 39, 39, 39, 39, 39, 39, 39, 39, 39, 39, 39, 39, 39, 39, 39, 39, 39, 39, 39, 39, 39, 39, 39, 39, 39, 39, 39, 39, 39, 39, 39, 39, 39, 39, 39, 39, 39, 39]], .str [39, 92, 39, 92, 39, 92, 39, 92, 39, 92, 39, 92, 39, 92, 39, 92, 39, 92, 39, 92, 39, 92, 39, 92, 39, 92, 39, 92, 39, 92, 39, 92, 39, 92, 39, 92, 39, 92, 39, 92, 39, 92, 39, 92, 39, 92, 39, 92, 39, 92, 39, 92, 39, 92, 39, 92, 39, 92, 39, 92, 39, 92, 39, 92, 39, 92, 39, 92, 39, 92, 39, 92, 39, 92, 39, 92, 39, 92, 39, 92, 39, 92, 39, 92, 39, 92, 39, 92, 39, 92, 39, 92, 39, 92, 39, 92, 39, 92, 39, 92, 39, 92, 39, 92, 39, 92, 39, 92, 39, 92, 39, 92, 39, 92, 39, 92, 39, 92, 39, 39])]
theorem kwT2_115_ok : KSpecOKX Tryz.prog TabX kwT2_115 := KSpec.tab_ok (by
  have E := envOf_okX kwS1_ok
  exact List.forall_mem_cons.2 ⟨prim_of E kwe2_35 (by kernel_rfl) (by kernel_rfl), fun _ h => nomatch h⟩)
def kwT2_22 : KSpec := .tab 22 [
 ([.agg [.int .i64 2, .int .i64 0, .str [43], .sl [.agg [.int .i64 2, .int .i64 0, .str [97, 32, 98], .nils], .agg [.int .i64 2, .int .i64 0, .str [46], .sl [.agg [.int .i64 0, .int .i64 3, .str [], .nils], .agg [.int .i64 0, .int .i64 9, .str [], .nils]]]]]], .tuple [.str [43, 40, 39, 97, 32, 98, 39, 44, 39, 46, 39, 40, 95, 48, 44, 95, 49, 41, 41], .int .i64 0])]
theorem kwT2_22_ok : KSpecOKX Tryz.prog TabX kwT2_22 := KSpec.tab_ok (by
  have E := envOf_okX kwS1_ok
  exact List.forall_mem_cons.2 ⟨prim_of E kwe2_36 (by kernel_rfl) (by kernel_rfl), fun _ h => nomatch h⟩)
def kwS2 : List KSpec := [kwT2_20, kwT2_12, kwT2_115, kwT2_22] ++ kwS1
theorem kwS2_ok : ∀ s ∈ kwS2, KSpecOKX Tryz.prog TabX s := fun s hs => by
  rcases List.mem_append.1 hs with h | h
  · revert s
    exact fun s _ h => (show ∀ s ∈ [kwT2_20, kwT2_12, kwT2_115, kwT2_22], KSpecOKX Tryz.prog TabX s from List.forall_mem_cons.2 ⟨kwT2_20_ok, List.forall_mem_cons.2 ⟨kwT2_12_ok, List.forall_mem_cons.2 ⟨kwT2_115_ok, List.forall_mem_cons.2 ⟨kwT2_22_ok, fun _ h => nomatch h⟩⟩⟩⟩) s h
  · exact kwS1_ok s h

end Go.Proofs.YtlakiipofcibhaaGreatDoor
