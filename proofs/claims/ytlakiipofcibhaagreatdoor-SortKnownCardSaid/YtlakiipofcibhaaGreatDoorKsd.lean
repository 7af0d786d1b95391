import Derived.Test.YtlakiipofcibhaaGreatDoorKsc
set_option linter.unusedVariables false
set_option linter.unusedSimpArgs false
set_option linter.unusedSectionVars false

namespace Go.Proofs.YtlakiipofcibhaaGreatDoor
open Go Sz
set_option maxRecDepth 100000

/-! Closed runs. -/
theorem kse2_9 : evCall (envK ksS1) 90 12 [ksV0, .str [91, 97, 44, 98, 44, 97, 93, 32, 46]] h0 = some (.tuple [.agg [.int .i64 2, .int .i64 0, .str [46], .sl [.agg [.int .i64 2, .int .i64 0, .str [97], .nils], .agg [.int .i64 2, .int .i64 0, .str [46], .sl [.agg [.int .i64 2, .int .i64 0, .str [98], .nils], .agg [.int .i64 2, .int .i64 0, .str [46], .sl [.agg [.int .i64 2, .int .i64 0, .str [97], .nils], .agg [.int .i64 2, .int .i64 0, .str [91, 93], .nils]]]]]]], .nils, .int .i64 0], h0) := by kernel_rfl
theorem kse2_10 : evCall (envK ksS1) 90 12 [ksV0, .str [91, 88, 44, 49, 93, 32, 46]] h0 = some (.tuple [.agg [.int .i64 2, .int .i64 0, .str [46], .sl [.agg [.int .i64 0, .int .i64 0, .str [], .nils], .agg [.int .i64 2, .int .i64 0, .str [46], .sl [.agg [.int .i64 1, .int .i64 1, .str [], .nils], .agg [.int .i64 2, .int .i64 0, .str [91, 93], .nils]]]]], .sl [.agg [.str [88], .int .i64 0]], .int .i64 0], h0) := by kernel_rfl

end Go.Proofs.YtlakiipofcibhaaGreatDoor

namespace Go.Proofs.YtlakiipofcibhaaGreatDoor
open Go Sz
set_option maxRecDepth 100000

/-! Closed runs. -/
theorem kse2_11 : evCall (envK ksS1) 90 12 [ksV0, .str [91, 102, 40, 97, 41, 44, 97, 44, 51, 44, 88, 44, 102, 40, 97, 41, 44, 45, 49, 93, 32, 46]] h0 = some (.tuple [.agg [.int .i64 2, .int .i64 0, .str [46], .sl [.agg [.int .i64 2, .int .i64 0, .str [102], .sl [.agg [.int .i64 2, .int .i64 0, .str [97], .nils]]], .agg [.int .i64 2, .int .i64 0, .str [46], .sl [.agg [.int .i64 2, .int .i64 0, .str [97], .nils], .agg [.int .i64 2, .int .i64 0, .str [46], .sl [.agg [.int .i64 1, .int .i64 3, .str [], .nils], .agg [.int .i64 2, .int .i64 0, .str [46], .sl [.agg [.int .i64 0, .int .i64 0, .str [], .nils], .agg [.int .i64 2, .int .i64 0, .str [46], .sl [.agg [.int .i64 2, .int .i64 0, .str [102], .sl [.agg [.int .i64 2, .int .i64 0, .str [97], .nils]]], .agg [.int .i64 2, .int .i64 0, .str [46], .sl [.agg [.int .i64 1, .int .i64 (-1), .str [], .nils], .agg [.int .i64 2, .int .i64 0, .str [91, 93], .nils]]]]]]]]]]]]], .sl [.agg [.str [88], .int .i64 0]], .int .i64 0], h0) := by kernel_rfl

end Go.Proofs.YtlakiipofcibhaaGreatDoor

namespace Go.Proofs.YtlakiipofcibhaaGreatDoor
open Go Sz
set_option maxRecDepth 100000

/-! Closed runs. -/
theorem kse2_12 : evCall (envK ksS1) 90 29 [.agg [.int .i64 2, .int .i64 0, .str [46], .sl [.agg [.int .i64 2, .int .i64 0, .str [102], .sl [.agg [.int .i64 2, .int .i64 0, .str [97], .nils]]], .agg [.int .i64 2, .int .i64 0, .str [46], .sl [.agg [.int .i64 2, .int .i64 0, .str [97], .nils], .agg [.int .i64 2, .int .i64 0, .str [46], .sl [.agg [.int .i64 1, .int .i64 3, .str [], .nils], .agg [.int .i64 2, .int .i64 0, .str [46], .sl [.agg [.int .i64 0, .int .i64 0, .str [], .nils], .agg [.int .i64 2, .int .i64 0, .str [46], .sl [.agg [.int .i64 2, .int .i64 0, .str [102], .sl [.agg [.int .i64 2, .int .i64 0, .str [97], .nils]]], .agg [.int .i64 2, .int .i64 0, .str [46], .sl [.agg [.int .i64 1, .int .i64 (-1), .str [], .nils], .agg [.int .i64 2, .int .i64 0, .str [91, 93], .nils]]]]]]]]]]]]]] h0 = some (.tuple [.agg [.int .i64 2, .int .i64 0, .str [46], .sl [.agg [.int .i64 0, .int .i64 0, .str [], .nils], .agg [.int .i64 2, .int .i64 0, .str [46], .sl [.agg [.int .i64 1, .int .i64 (-1), .str [], .nils], .agg [.int .i64 2, .int .i64 0, .str [46], .sl [.agg [.int .i64 1, .int .i64 3, .str [], .nils], .agg [.int .i64 2, .int .i64 0, .str [46], .sl [.agg [.int .i64 2, .int .i64 0, .str [97], .nils], .agg [.int .i64 2, .int .i64 0, .str [46], .sl [.agg [.int .i64 2, .int .i64 0, .str [102], .sl [.agg [.int .i64 2, .int .i64 0, .str [97], .nils]]], .agg [.int .i64 2, .int .i64 0, .str [91, 93], .nils]]]]]]]]]]], .int .i64 0], h0) := by kernel_rfl

end Go.Proofs.YtlakiipofcibhaaGreatDoor

namespace Go.Proofs.YtlakiipofcibhaaGreatDoor
open Go Sz
set_option maxRecDepth 100000

/-! Closed runs. -/
theorem kse2_13 : evCall (envK ksS1) 90 12 [ksV0, .str [91, 97, 44, 98, 44, 98, 93, 32, 46]] h0 = some (.tuple [.agg [.int .i64 2, .int .i64 0, .str [46], .sl [.agg [.int .i64 2, .int .i64 0, .str [97], .nils], .agg [.int .i64 2, .int .i64 0, .str [46], .sl [.agg [.int .i64 2, .int .i64 0, .str [98], .nils], .agg [.int .i64 2, .int .i64 0, .str [46], .sl [.agg [.int .i64 2, .int .i64 0, .str [98], .nils], .agg [.int .i64 2, .int .i64 0, .str [91, 93], .nils]]]]]]], .nils, .int .i64 0], h0) := by kernel_rfl

end Go.Proofs.YtlakiipofcibhaaGreatDoor

namespace Go.Proofs.YtlakiipofcibhaaGreatDoor
open Go Sz
set_option maxRecDepth 100000

/-! Closed runs. -/
theorem kse2_14 : evCall (envK ksS1) 90 12 [ksV0, .str [91, 49, 32, 45, 32, 98, 44, 32, 49, 32, 45, 32, 99, 44, 32, 50, 32, 45, 32, 97, 44, 32, 50, 32, 45, 32, 39, 65, 39, 93, 32, 46]] h0 = some (.tuple [.agg [.int .i64 2, .int .i64 0, .str [46], .sl [.agg [.int .i64 2, .int .i64 0, .str [45], .sl [.agg [.int .i64 1, .int .i64 1, .str [], .nils], .agg [.int .i64 2, .int .i64 0, .str [98], .nils]]], .agg [.int .i64 2, .int .i64 0, .str [46], .sl [.agg [.int .i64 2, .int .i64 0, .str [45], .sl [.agg [.int .i64 1, .int .i64 1, .str [], .nils], .agg [.int .i64 2, .int .i64 0, .str [99], .nils]]], .agg [.int .i64 2, .int .i64 0, .str [46], .sl [.agg [.int .i64 2, .int .i64 0, .str [45], .sl [.agg [.int .i64 1, .int .i64 2, .str [], .nils], .agg [.int .i64 2, .int .i64 0, .str [97], .nils]]], .agg [.int .i64 2, .int .i64 0, .str [46], .sl [.agg [.int .i64 2, .int .i64 0, .str [45], .sl [.agg [.int .i64 1, .int .i64 2, .str [], .nils], .agg [.int .i64 2, .int .i64 0, .str [65], .nils]]], .agg [.int .i64 2, .int .i64 0, .str [91, 93], .nils]]]]]]]]], .nils, .int .i64 0], h0) := by kernel_rfl

end Go.Proofs.YtlakiipofcibhaaGreatDoor

namespace Go.Proofs.YtlakiipofcibhaaGreatDoor
open Go Sz
set_option maxRecDepth 100000

def ksT2_12 : KSpec := .tabP 12 ksV0 [
 ([.str [91, 98, 44, 97, 44, 98, 93, 32, 46]], .tuple [.agg [.int .i64 2, .int .i64 0, .str [46], .sl [.agg [.int .i64 2, .int .i64 0, .str [98], .nils], .agg [.int .i64 2, .int .i64 0, .str [46], .sl [.agg [.int .i64 2, .int .i64 0, .str [97], .nils], .agg [.int .i64 2, .int .i64 0, .str [46], .sl [.agg [.int .i64 2, .int .i64 0, .str [98], .nils], .agg [.int .i64 2, .int .i64 0, .str [91, 93], .nils]]]]]]], .nils, .int .i64 0]),
 ([.str [91, 97, 44, 98, 93, 32, 46]], .tuple [.agg [.int .i64 2, .int .i64 0, .str [46], .sl [.agg [.int .i64 2, .int .i64 0, .str [97], .nils], .agg [.int .i64 2, .int .i64 0, .str [46], .sl [.agg [.int .i64 2, .int .i64 0, .str [98], .nils], .agg [.int .i64 2, .int .i64 0, .str [91, 93], .nils]]]]], .nils, .int .i64 0]),
 ([.str [91, 50, 32, 45, 32, 97, 44, 32, 49, 32, 45, 32, 98, 44, 32, 50, 32, 45, 32, 39, 65, 39, 44, 32, 49, 32, 45, 32, 99, 93, 32, 46]], .tuple [.agg [.int .i64 2, .int .i64 0, .str [46], .sl [.agg [.int .i64 2, .int .i64 0, .str [45], .sl [.agg [.int .i64 1, .int .i64 2, .str [], .nils], .agg [.int .i64 2, .int .i64 0, .str [97], .nils]]], .agg [.int .i64 2, .int .i64 0, .str [46], .sl [.agg [.int .i64 2, .int .i64 0, .str [45], .sl [.agg [.int .i64 1, .int .i64 1, .str [], .nils], .agg [.int .i64 2, .int .i64 0, .str [98], .nils]]], .agg [.int .i64 2, .int .i64 0, .str [46], .sl [.agg [.int .i64 2, .int .i64 0, .str [45], .sl [.agg [.int .i64 1, .int .i64 2, .str [], .nils], .agg [.int .i64 2, .int .i64 0, .str [65], .nils]]], .agg [.int .i64 2, .int .i64 0, .str [46], .sl [.agg [.int .i64 2, .int .i64 0, .str [45], .sl [.agg [.int .i64 1, .int .i64 1, .str [], .nils], .agg [.int .i64 2, .int .i64 0, .str [99], .nils]]], .agg [.int .i64 2, .int .i64 0, .str [91, 93], .nils]]]]]]]]], .nils, .int .i64 0]),
 ([.str [91, 49, 32, 45, 32, 97, 44, 32, 88, 44, 32, 51, 93, 32, 46]], .tuple [.agg [.int .i64 2, .int .i64 0, .str [46], .sl [.agg [.int .i64 2, .int .i64 0, .str [45], .sl [.agg [.int .i64 1, .int .i64 1, .str [], .nils], .agg [.int .i64 2, .int .i64 0, .str [97], .nils]]], .agg [.int .i64 2, .int .i64 0, .str [46], .sl [.agg [.int .i64 0, .int .i64 0, .str [], .nils], .agg [.int .i64 2, .int .i64 0, .str [46], .sl [.agg [.int .i64 1, .int .i64 3, .str [], .nils], .agg [.int .i64 2, .int .i64 0, .str [91, 93], .nils]]]]]]], .sl [.agg [.str [88], .int .i64 0]], .int .i64 0]),
 ([.str [91, 49, 32, 45, 32, 97, 44, 32, 51, 44, 32, 88, 93, 32, 46]], .tuple [.agg [.int .i64 2, .int .i64 0, .str [46], .sl [.agg [.int .i64 2, .int .i64 0, .str [45], .sl [.agg [.int .i64 1, .int .i64 1, .str [], .nils], .agg [.int .i64 2, .int .i64 0, .str [97], .nils]]], .agg [.int .i64 2, .int .i64 0, .str [46], .sl [.agg [.int .i64 1, .int .i64 3, .str [], .nils], .agg [.int .i64 2, .int .i64 0, .str [46], .sl [.agg [.int .i64 0, .int .i64 0, .str [], .nils], .agg [.int .i64 2, .int .i64 0, .str [91, 93], .nils]]]]]]], .sl [.agg [.str [88], .int .i64 0]], .int .i64 0]),
 ([.str [91, 97, 124, 88, 93, 32, 46]], .tuple [.agg [.int .i64 2, .int .i64 0, .str [46], .sl [.agg [.int .i64 2, .int .i64 0, .str [97], .nils], .agg [.int .i64 0, .int .i64 0, .str [], .nils]]], .sl [.agg [.str [88], .int .i64 0]], .int .i64 0]),
 ([.str [91, 97, 124, 98, 93, 32, 46]], .tuple [.agg [.int .i64 2, .int .i64 0, .str [46], .sl [.agg [.int .i64 2, .int .i64 0, .str [97], .nils], .agg [.int .i64 2, .int .i64 0, .str [98], .nils]]], .nils, .int .i64 0]),
 ([.str [88, 32, 46]], .tuple [.agg [.int .i64 0, .int .i64 0, .str [], .nils], .sl [.agg [.str [88], .int .i64 0]], .int .i64 0]),
 ([.str [91, 93, 32, 46]], .tuple [.agg [.int .i64 2, .int .i64 0, .str [91, 93], .nils], .nils, .int .i64 0]),
 ([.str [91, 97, 44, 98, 44, 97, 93, 32, 46]], .tuple [.agg [.int .i64 2, .int .i64 0, .str [46], .sl [.agg [.int .i64 2, .int .i64 0, .str [97], .nils], .agg [.int .i64 2, .int .i64 0, .str [46], .sl [.agg [.int .i64 2, .int .i64 0, .str [98], .nils], .agg [.int .i64 2, .int .i64 0, .str [46], .sl [.agg [.int .i64 2, .int .i64 0, .str [97], .nils], .agg [.int .i64 2, .int .i64 0, .str [91, 93], .nils]]]]]]], .nils, .int .i64 0]),
 ([.str [91, 88, 44, 49, 93, 32, 46]], .tuple [.agg [.int .i64 2, .int .i64 0, .str [46], .sl [.agg [.int .i64 0, .int .i64 0, .str [], .nils], .agg [.int .i64 2, .int .i64 0, .str [46], .sl [.agg [.int .i64 1, .int .i64 1, .str [], .nils], .agg [.int .i64 2, .int .i64 0, .str [91, 93], .nils]]]]], .sl [.agg [.str [88], .int .i64 0]], .int .i64 0]),
 ([.str [91, 102, 40, 97, 41, 44, 97, 44, 51, 44, 88, 44, 102, 40, 97, 41, 44, 45, 49, 93, 32, 46]], .tuple [.agg [.int .i64 2, .int .i64 0, .str [46], .sl [.agg [.int .i64 2, .int .i64 0, .str [102], .sl [.agg [.int .i64 2, .int .i64 0, .str [97], .nils]]], .agg [.int .i64 2, .int .i64 0, .str [46], .sl [.agg [.int .i64 2, .int .i64 0, .str [97], .nils], .agg [.int .i64 2, .int .i64 0, .str [46], .sl [.agg [.int .i64 1, .int .i64 3, .str [], .nils], .agg [.int .i64 2, .int .i64 0, .str [46], .sl [.agg [.int .i64 0, .int .i64 0, .str [], .nils], .agg [.int .i64 2, .int .i64 0, .str [46], .sl [.agg [.int .i64 2, .int .i64 0, .str [102], .sl [.agg [.int .i64 2, .int .i64 0, .str [97], .nils]]], .agg [.int .i64 2, .int .i64 0, .str [46], .sl [.agg [.int .i64 1, .int .i64 (-1), .str [], .nils], .agg [.int .i64 2, .int .i64 0, .str [91, 93], .nils]]]]]]]]]]]]], .sl [.agg [.str [88], .int .i64 0]], .int .i64 0]),
 ([.str [91, 97, 44, 98, 44, 98, 93, 32, 46]], .tuple [.agg [.int .i64 2, .int .i64 0, .str [46], .sl [.agg [.int .i64 2, .int .i64 0, .str [97], .nils], .agg [.int .i64 2, .int .i64 0, .str [46], .sl [.agg [.int .i64 2, .int .i64 0, .str [98], .nils], .agg [.int .i64 2, .int .i64 0, .str [46], .sl [.agg [.int .i64 2, .int .i64 0, .str [98], .nils], .agg [.int .i64 2, .int .i64 0, .str [91, 93], .nils]]]]]]], .nils, .int .i64 0]),
 ([.str [91, 49, 32, 45, 32, 98, 44, 32, 49, 32, 45, 32, 99, 44, 32, 50, 32, 45, 32, 97, 44, 32, 50, 32, 45, 32, 39, 65, 39, 93, 32, 46]], .tuple [.agg [.int .i64 2, .int .i64 0, .str [46], .sl [.agg [.int .i64 2, .int .i64 0, .str [45], .sl [.agg [.int .i64 1, .int .i64 1, .str [], .nils], .agg [.int .i64 2, .int .i64 0, .str [98], .nils]]], .agg [.int .i64 2, .int .i64 0, .str [46], .sl [.agg [.int .i64 2, .int .i64 0, .str [45], .sl [.agg [.int .i64 1, .int .i64 1, .str [], .nils], .agg [.int .i64 2, .int .i64 0, .str [99], .nils]]], .agg [.int .i64 2, .int .i64 0, .str [46], .sl [.agg [.int .i64 2, .int .i64 0, .str [45], .sl [.agg [.int .i64 1, .int .i64 2, .str [], .nils], .agg [.int .i64 2, .int .i64 0, .str [97], .nils]]], .agg [.int .i64 2, .int .i64 0, .str [46], .sl [.agg [.int .i64 2, .int .i64 0, .str [45], .sl [.agg [.int .i64 1, .int .i64 2, .str [], .nils], .agg [.int .i64 2, .int .i64 0, .str [65], .nils]]], .agg [.int .i64 2, .int .i64 0, .str [91, 93], .nils]]]]]]]]], .nils, .int .i64 0])]
theorem ksT2_12_ok : KSpecOKX Tryz.prog TabX ksT2_12 := KSpec.tabP_ok (by
  have E := envK_okX ksS1_ok
  exact List.forall_mem_cons.2 ⟨prim_of E kse2_0 (by kernel_rfl) (by kernel_rfl), List.forall_mem_cons.2 ⟨prim_of E kse2_1 (by kernel_rfl) (by kernel_rfl), List.forall_mem_cons.2 ⟨prim_of E kse2_2 (by kernel_rfl) (by kernel_rfl), List.forall_mem_cons.2 ⟨prim_of E kse2_3 (by kernel_rfl) (by kernel_rfl), List.forall_mem_cons.2 ⟨prim_of E kse2_4 (by kernel_rfl) (by kernel_rfl), List.forall_mem_cons.2 ⟨prim_of E kse2_5 (by kernel_rfl) (by kernel_rfl), List.forall_mem_cons.2 ⟨prim_of E kse2_6 (by kernel_rfl) (by kernel_rfl), List.forall_mem_cons.2 ⟨prim_of E kse2_7 (by kernel_rfl) (by kernel_rfl), List.forall_mem_cons.2 ⟨prim_of E kse2_8 (by kernel_rfl) (by kernel_rfl), List.forall_mem_cons.2 ⟨prim_of E kse2_9 (by kernel_rfl) (by kernel_rfl), List.forall_mem_cons.2 ⟨prim_of E kse2_10 (by kernel_rfl) (by kernel_rfl), List.forall_mem_cons.2 ⟨prim_of E kse2_11 (by kernel_rfl) (by kernel_rfl), List.forall_mem_cons.2 ⟨prim_of E kse2_13 (by kernel_rfl) (by kernel_rfl), List.forall_mem_cons.2 ⟨prim_of E kse2_14 (by kernel_rfl) (by kernel_rfl), fun _ h => nomatch h⟩⟩⟩⟩⟩⟩⟩⟩⟩⟩⟩⟩⟩⟩)
def ksT2_29 : KSpec := .tab 29 [
 ([.agg [.int .i64 2, .int .i64 0, .str [46], .sl [.agg [.int .i64 2, .int .i64 0, .str [102], .sl [.agg [.int .i64 2, .int .i64 0, .str [97], .nils]]], .agg [.int .i64 2, .int .i64 0, .str [46], .sl [.agg [.int .i64 2, .int .i64 0, .str [97], .nils], .agg [.int .i64 2, .int .i64 0, .str [46], .sl [.agg [.int .i64 1, .int .i64 3, .str [], .nils], .agg [.int .i64 2, .int .i64 0, .str [46], .sl [.agg [.int .i64 0, .int .i64 0, .str [], .nils], .agg [.int .i64 2, .int .i64 0, .str [46], .sl [.agg [.int .i64 2, .int .i64 0, .str [102], .sl [.agg [.int .i64 2, .int .i64 0, .str [97], .nils]]], .agg [.int .i64 2, .int .i64 0, .str [46], .sl [.agg [.int .i64 1, .int .i64 (-1), .str [], .nils], .agg [.int .i64 2, .int .i64 0, .str [91, 93], .nils]]]]]]]]]]]]]], .tuple [.agg [.int .i64 2, .int .i64 0, .str [46], .sl [.agg [.int .i64 0, .int .i64 0, .str [], .nils], .agg [.int .i64 2, .int .i64 0, .str [46], .sl [.agg [.int .i64 1, .int .i64 (-1), .str [], .nils], .agg [.int .i64 2, .int .i64 0, .str [46], .sl [.agg [.int .i64 1, .int .i64 3, .str [], .nils], .agg [.int .i64 2, .int .i64 0, .str [46], .sl [.agg [.int .i64 2, .int .i64 0, .str [97], .nils], .agg [.int .i64 2, .int .i64 0, .str [46], .sl [.agg [.int .i64 2, .int .i64 0, .str [102], .sl [.agg [.int .i64 2, .int .i64 0, .str [97], .nils]]], .agg [.int .i64 2, .int .i64 0, .str [91, 93], .nils]]]]]]]]]]], .int .i64 0])]
theorem ksT2_29_ok : KSpecOKX Tryz.prog TabX ksT2_29 := KSpec.tab_ok (by
  have E := envK_okX ksS1_ok
  exact List.forall_mem_cons.2 ⟨prim_of E kse2_12 (by kernel_rfl) (by kernel_rfl), fun _ h => nomatch h⟩)
def ksS2 : List KSpec := [ksT2_12, ksT2_29] ++ ksS1
theorem ksS2_ok : ∀ s ∈ ksS2, KSpecOKX Tryz.prog TabX s := fun s hs => by
  rcases List.mem_append.1 hs with h | h
  · revert s
    exact fun s _ h => (show ∀ s ∈ [ksT2_12, ksT2_29], KSpecOKX Tryz.prog TabX s from List.forall_mem_cons.2 ⟨ksT2_12_ok, List.forall_mem_cons.2 ⟨ksT2_29_ok, fun _ h => nomatch h⟩⟩) s h
  · exact ksS1_ok s h

end Go.Proofs.YtlakiipofcibhaaGreatDoor
