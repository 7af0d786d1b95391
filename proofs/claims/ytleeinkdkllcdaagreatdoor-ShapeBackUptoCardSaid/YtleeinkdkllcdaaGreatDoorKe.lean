import Derived.Test.YtleeinkdkllcdaaGreatDoorKc
import Derived.Test.YtleeinkdkllcdaaGreatDoorKd
set_option linter.unusedVariables false
set_option linter.unusedSimpArgs false
set_option linter.unusedSectionVars false

namespace Go.Proofs.YtleeinkdkllcdaaGreatDoor
open Go Sz
set_option maxRecDepth 100000

/-! Closed runs. -/
theorem kbe2_10 : evCall (envOf kbS1) 90 51 [kbV0, .str [91, 102, 124, 98, 93, 32, 46]] h0 = some (.tuple [.agg [.int .i64 2, .int .i64 0, .str [46], .sl [.agg [.int .i64 2, .int .i64 0, .str [102], .nils], .agg [.int .i64 2, .int .i64 0, .str [98], .nils]]], .nils, .int .i64 0], h0) := by kernel_rfl
theorem kbe2_11 : evCall (envOf kbS1) 90 51 [kbV0, .str [91, 88, 44, 97, 93, 32, 46]] h0 = some (.tuple [.agg [.int .i64 2, .int .i64 0, .str [46], .sl [.agg [.int .i64 0, .int .i64 0, .str [], .nils], .agg [.int .i64 2, .int .i64 0, .str [46], .sl [.agg [.int .i64 2, .int .i64 0, .str [97], .nils], .agg [.int .i64 2, .int .i64 0, .str [91, 93], .nils]]]]], .sl [.agg [.str [88], .int .i64 0]], .int .i64 0], h0) := by kernel_rfl

end Go.Proofs.YtleeinkdkllcdaaGreatDoor

namespace Go.Proofs.YtleeinkdkllcdaaGreatDoor
open Go Sz
set_option maxRecDepth 100000

/-! Closed runs. -/
theorem kbe2_12 : evCall (envOf kbS1) 90 51 [kbV0, .str [91, 102, 44, 49, 44, 50, 44, 51, 44, 52, 44, 53, 44, 54, 44, 55, 44, 56, 44, 57, 93, 32, 46]] h0 = some (.tuple [.agg [.int .i64 2, .int .i64 0, .str [46], .sl [.agg [.int .i64 2, .int .i64 0, .str [102], .nils], .agg [.int .i64 2, .int .i64 0, .str [46], .sl [.agg [.int .i64 1, .int .i64 1, .str [], .nils], .agg [.int .i64 2, .int .i64 0, .str [46], .sl [.agg [.int .i64 1, .int .i64 2, .str [], .nils], .agg [.int .i64 2, .int .i64 0, .str [46], .sl [.agg [.int .i64 1, .int .i64 3, .str [], .nils], .agg [.int .i64 2, .int .i64 0, .str [46], .sl [.agg [.int .i64 1, .int .i64 4, .str [], .nils], .agg [.int .i64 2, .int .i64 0, .str [46], .sl [.agg [.int .i64 1, .int .i64 5, .str [], .nils], .agg [.int .i64 2, .int .i64 0, .str [46], .sl [.agg [.int .i64 1, .int .i64 6, .str [], .nils], .agg [.int .i64 2, .int .i64 0, .str [46], .sl [.agg [.int .i64 1, .int .i64 7, .str [], .nils], .agg [.int .i64 2, .int .i64 0, .str [46], .sl [.agg [.int .i64 1, .int .i64 8, .str [], .nils], .agg [.int .i64 2, .int .i64 0, .str [46], .sl [.agg [.int .i64 1, .int .i64 9, .str [], .nils], .agg [.int .i64 2, .int .i64 0, .str [91, 93], .nils]]]]]]]]]]]]]]]]]]]]], .nils, .int .i64 0], h0) := by kernel_rfl

end Go.Proofs.YtleeinkdkllcdaaGreatDoor

namespace Go.Proofs.YtleeinkdkllcdaaGreatDoor
open Go Sz
set_option maxRecDepth 100000

/-! Closed runs. -/
theorem kbe2_13 : evCall (envOf kbS1) 90 51 [kbV0, .str [102, 40, 97, 44, 98, 41, 32, 46]] h0 = some (.tuple [.agg [.int .i64 2, .int .i64 0, .str [102], .sl [.agg [.int .i64 2, .int .i64 0, .str [97], .nils], .agg [.int .i64 2, .int .i64 0, .str [98], .nils]]], .nils, .int .i64 0], h0) := by kernel_rfl
theorem kbe2_14 : evCall (envOf kbS1) 90 51 [kbV0, .str [97, 32, 46]] h0 = some (.tuple [.agg [.int .i64 2, .int .i64 0, .str [97], .nils], .nils, .int .i64 0], h0) := by kernel_rfl

end Go.Proofs.YtleeinkdkllcdaaGreatDoor

namespace Go.Proofs.YtleeinkdkllcdaaGreatDoor
open Go Sz
set_option maxRecDepth 100000

def kbT2_51 : KSpec := .tabP 51 kbV0 [
 ([.str [102, 40, 97, 41, 32, 46]], .tuple [.agg [.int .i64 2, .int .i64 0, .str [102], .sl [.agg [.int .i64 2, .int .i64 0, .str [97], .nils]]], .nils, .int .i64 0]),
 ([.str [91, 102, 44, 97, 93, 32, 46]], .tuple [.agg [.int .i64 2, .int .i64 0, .str [46], .sl [.agg [.int .i64 2, .int .i64 0, .str [102], .nils], .agg [.int .i64 2, .int .i64 0, .str [46], .sl [.agg [.int .i64 2, .int .i64 0, .str [97], .nils], .agg [.int .i64 2, .int .i64 0, .str [91, 93], .nils]]]]], .nils, .int .i64 0]),
 ([.str [88, 32, 46]], .tuple [.agg [.int .i64 0, .int .i64 0, .str [], .nils], .sl [.agg [.str [88], .int .i64 0]], .int .i64 0]),
 ([.str [91, 88, 93, 32, 46]], .tuple [.agg [.int .i64 2, .int .i64 0, .str [46], .sl [.agg [.int .i64 0, .int .i64 0, .str [], .nils], .agg [.int .i64 2, .int .i64 0, .str [91, 93], .nils]]], .sl [.agg [.str [88], .int .i64 0]], .int .i64 0]),
 ([.str [91, 102, 40, 97, 41, 93, 32, 46]], .tuple [.agg [.int .i64 2, .int .i64 0, .str [46], .sl [.agg [.int .i64 2, .int .i64 0, .str [102], .sl [.agg [.int .i64 2, .int .i64 0, .str [97], .nils]]], .agg [.int .i64 2, .int .i64 0, .str [91, 93], .nils]]], .nils, .int .i64 0]),
 ([.str [91, 51, 93, 32, 46]], .tuple [.agg [.int .i64 2, .int .i64 0, .str [46], .sl [.agg [.int .i64 1, .int .i64 3, .str [], .nils], .agg [.int .i64 2, .int .i64 0, .str [91, 93], .nils]]], .nils, .int .i64 0]),
 ([.str [91, 51, 44, 97, 93, 32, 46]], .tuple [.agg [.int .i64 2, .int .i64 0, .str [46], .sl [.agg [.int .i64 1, .int .i64 3, .str [], .nils], .agg [.int .i64 2, .int .i64 0, .str [46], .sl [.agg [.int .i64 2, .int .i64 0, .str [97], .nils], .agg [.int .i64 2, .int .i64 0, .str [91, 93], .nils]]]]], .nils, .int .i64 0]),
 ([.str [91, 102, 40, 97, 41, 44, 98, 93, 32, 46]], .tuple [.agg [.int .i64 2, .int .i64 0, .str [46], .sl [.agg [.int .i64 2, .int .i64 0, .str [102], .sl [.agg [.int .i64 2, .int .i64 0, .str [97], .nils]]], .agg [.int .i64 2, .int .i64 0, .str [46], .sl [.agg [.int .i64 2, .int .i64 0, .str [98], .nils], .agg [.int .i64 2, .int .i64 0, .str [91, 93], .nils]]]]], .nils, .int .i64 0]),
 ([.str [91, 93, 32, 46]], .tuple [.agg [.int .i64 2, .int .i64 0, .str [91, 93], .nils], .nils, .int .i64 0]),
 ([.str [91, 102, 124, 88, 93, 32, 46]], .tuple [.agg [.int .i64 2, .int .i64 0, .str [46], .sl [.agg [.int .i64 2, .int .i64 0, .str [102], .nils], .agg [.int .i64 0, .int .i64 0, .str [], .nils]]], .sl [.agg [.str [88], .int .i64 0]], .int .i64 0]),
 ([.str [91, 102, 124, 98, 93, 32, 46]], .tuple [.agg [.int .i64 2, .int .i64 0, .str [46], .sl [.agg [.int .i64 2, .int .i64 0, .str [102], .nils], .agg [.int .i64 2, .int .i64 0, .str [98], .nils]]], .nils, .int .i64 0]),
 ([.str [91, 88, 44, 97, 93, 32, 46]], .tuple [.agg [.int .i64 2, .int .i64 0, .str [46], .sl [.agg [.int .i64 0, .int .i64 0, .str [], .nils], .agg [.int .i64 2, .int .i64 0, .str [46], .sl [.agg [.int .i64 2, .int .i64 0, .str [97], .nils], .agg [.int .i64 2, .int .i64 0, .str [91, 93], .nils]]]]], .sl [.agg [.str [88], .int .i64 0]], .int .i64 0]),
 ([.str [91, 102, 44, 49, 44, 50, 44, 51, 44, 52, 44, 53, 44, 54, 44, 55, 44, 56, 44, 57, 93, 32, 46]], .tuple [.agg [.int .i64 2, .int .i64 0, .str [46], .sl [.agg [.int .i64 2, .int .i64 0, .str [102], .nils], .agg [.int .i64 2, .int .i64 0, .str [46], .sl [.agg [.int .i64 1, .int .i64 1, .str [], .nils], .agg [.int .i64 2, .int .i64 0, .str [46], .sl [.agg [.int .i64 1, .int .i64 2, .str [], .nils], .agg [.int .i64 2, .int .i64 0, .str [46], .sl [.agg [.int .i64 1, .int .i64 3, .str [], .nils], .agg [.int .i64 2, .int .i64 0, .str [46], .sl [.agg [.int .i64 1, .int .i64 4, .str [], .nils], .agg [.int .i64 2, .int .i64 0, .str [46], .sl [.agg [.int .i64 1, .int .i64 5, .str [], .nils], .agg [.int .i64 2, .int .i64 0, .str [46], .sl [.agg [.int .i64 1, .int .i64 6, .str [], .nils], .agg [.int .i64 2, .int .i64 0, .str [46], .sl [.agg [.int .i64 1, .int .i64 7, .str [], .nils], .agg [.int .i64 2, .int .i64 0, .str [46], .sl [.agg [.int .i64 1, .int .i64 8, .str [], .nils], .agg [.int .i64 2, .int .i64 0, .str [46], .sl [.agg [.int .i64 1, .int .i64 9, .str [], .nils], .agg [.int .i64 2, .int .i64 0, .str [91, 93], .nils]]]]]]]]]]]]]]]]]]]]], .nils, .int .i64 0]),
 ([.str [102, 40, 97, 44, 98, 41, 32, 46]], .tuple [.agg [.int .i64 2, .int .i64 0, .str [102], .sl [.agg [.int .i64 2, .int .i64 0, .str [97], .nils], .agg [.int .i64 2, .int .i64 0, .str [98], .nils]]], .nils, .int .i64 0]),
 ([.str [97, 32, 46]], .tuple [.agg [.int .i64 2, .int .i64 0, .str [97], .nils], .nils, .int .i64 0])]
theorem kbT2_51_ok : KSpecOKX Tryz.prog TabX kbT2_51 := KSpec.tabP_ok (by
  have E := envOf_okX kbS1_ok
  exact List.forall_mem_cons.2 ⟨prim_of E kbe2_0 (by kernel_rfl) (by kernel_rfl), List.forall_mem_cons.2 ⟨prim_of E kbe2_1 (by kernel_rfl) (by kernel_rfl), List.forall_mem_cons.2 ⟨prim_of E kbe2_2 (by kernel_rfl) (by kernel_rfl), List.forall_mem_cons.2 ⟨prim_of E kbe2_3 (by kernel_rfl) (by kernel_rfl), List.forall_mem_cons.2 ⟨prim_of E kbe2_4 (by kernel_rfl) (by kernel_rfl), List.forall_mem_cons.2 ⟨prim_of E kbe2_5 (by kernel_rfl) (by kernel_rfl), List.forall_mem_cons.2 ⟨prim_of E kbe2_6 (by kernel_rfl) (by kernel_rfl), List.forall_mem_cons.2 ⟨prim_of E kbe2_7 (by kernel_rfl) (by kernel_rfl), List.forall_mem_cons.2 ⟨prim_of E kbe2_8 (by kernel_rfl) (by kernel_rfl), List.forall_mem_cons.2 ⟨prim_of E kbe2_9 (by kernel_rfl) (by kernel_rfl), List.forall_mem_cons.2 ⟨prim_of E kbe2_10 (by kernel_rfl) (by kernel_rfl), List.forall_mem_cons.2 ⟨prim_of E kbe2_11 (by kernel_rfl) (by kernel_rfl), List.forall_mem_cons.2 ⟨prim_of E kbe2_12 (by kernel_rfl) (by kernel_rfl), List.forall_mem_cons.2 ⟨prim_of E kbe2_13 (by kernel_rfl) (by kernel_rfl), List.forall_mem_cons.2 ⟨prim_of E kbe2_14 (by kernel_rfl) (by kernel_rfl), fun _ h => nomatch h⟩⟩⟩⟩⟩⟩⟩⟩⟩⟩⟩⟩⟩⟩⟩)
def kbS2 : List KSpec := [kbT2_51] ++ kbS1
theorem kbS2_ok : ∀ s ∈ kbS2, KSpecOKX Tryz.prog TabX s := fun s hs => by
  rcases List.mem_append.1 hs with h | h
  · revert s
    exact fun s _ h => (show ∀ s ∈ [kbT2_51], KSpecOKX Tryz.prog TabX s from List.forall_mem_cons.2 ⟨kbT2_51_ok, fun _ h => nomatch h⟩) s h
  · exact kbS1_ok s h

end Go.Proofs.YtleeinkdkllcdaaGreatDoor
