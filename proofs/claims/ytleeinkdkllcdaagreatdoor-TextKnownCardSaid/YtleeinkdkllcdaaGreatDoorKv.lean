import Derived.Test.YtleeinkdkllcdaaGreatDoorKu
set_option linter.unusedVariables false
set_option linter.unusedSimpArgs false
set_option linter.unusedSectionVars false

namespace Go.Proofs.YtleeinkdkllcdaaGreatDoor
open Go Sz
set_option maxRecDepth 100000

/-! Closed runs. -/
theorem kte2_0 : evCall (envOf ktS1) 90 51 [ktV0, .str [88, 32, 46]] h0 = some (.tuple [.agg [.int .i64 0, .int .i64 0, .str [], .nils], .sl [.agg [.str [88], .int .i64 0]], .int .i64 0], h0) := by kernel_rfl
theorem kte2_1 : evCall (envOf ktS1) 90 51 [ktV0, .str [91, 97, 124, 88, 93, 32, 46]] h0 = some (.tuple [.agg [.int .i64 2, .int .i64 0, .str [46], .sl [.agg [.int .i64 2, .int .i64 0, .str [97], .nils], .agg [.int .i64 0, .int .i64 0, .str [], .nils]]], .sl [.agg [.str [88], .int .i64 0]], .int .i64 0], h0) := by kernel_rfl
theorem kte2_2 : evCall (envOf ktS1) 90 51 [ktV0, .str [91, 97, 44, 88, 124, 98, 93, 32, 46]] h0 = some (.tuple [.agg [.int .i64 2, .int .i64 0, .str [46], .sl [.agg [.int .i64 2, .int .i64 0, .str [97], .nils], .agg [.int .i64 2, .int .i64 0, .str [46], .sl [.agg [.int .i64 0, .int .i64 0, .str [], .nils], .agg [.int .i64 2, .int .i64 0, .str [98], .nils]]]]], .sl [.agg [.str [88], .int .i64 0]], .int .i64 0], h0) := by kernel_rfl
theorem kte2_3 : evCall (envOf ktS1) 90 51 [ktV0, .str [91, 88, 44, 49, 93, 32, 46]] h0 = some (.tuple [.agg [.int .i64 2, .int .i64 0, .str [46], .sl [.agg [.int .i64 0, .int .i64 0, .str [], .nils], .agg [.int .i64 2, .int .i64 0, .str [46], .sl [.agg [.int .i64 1, .int .i64 1, .str [], .nils], .agg [.int .i64 2, .int .i64 0, .str [91, 93], .nils]]]]], .sl [.agg [.str [88], .int .i64 0]], .int .i64 0], h0) := by kernel_rfl

end Go.Proofs.YtleeinkdkllcdaaGreatDoor

namespace Go.Proofs.YtleeinkdkllcdaaGreatDoor
open Go Sz
set_option maxRecDepth 100000

/-! Closed runs. -/
theorem kte2_4 : evCall (envOf ktS1) 90 51 [ktV0, .str [91, 49, 44, 88, 93, 32, 46]] h0 = some (.tuple [.agg [.int .i64 2, .int .i64 0, .str [46], .sl [.agg [.int .i64 1, .int .i64 1, .str [], .nils], .agg [.int .i64 2, .int .i64 0, .str [46], .sl [.agg [.int .i64 0, .int .i64 0, .str [], .nils], .agg [.int .i64 2, .int .i64 0, .str [91, 93], .nils]]]]], .sl [.agg [.str [88], .int .i64 0]], .int .i64 0], h0) := by kernel_rfl
theorem kte2_5 : evCall (envOf ktS1) 90 51 [ktV0, .str [91, 97, 98, 93, 32, 46]] h0 = some (.tuple [.agg [.int .i64 2, .int .i64 0, .str [46], .sl [.agg [.int .i64 2, .int .i64 0, .str [97, 98], .nils], .agg [.int .i64 2, .int .i64 0, .str [91, 93], .nils]]], .nils, .int .i64 0], h0) := by kernel_rfl
theorem kte2_6 : evCall (envOf ktS1) 90 51 [ktV0, .str [97, 32, 46]] h0 = some (.tuple [.agg [.int .i64 2, .int .i64 0, .str [97], .nils], .nils, .int .i64 0], h0) := by kernel_rfl
theorem kte2_7 : evCall (envOf ktS1) 90 51 [ktV0, .str [91, 97, 124, 98, 93, 32, 46]] h0 = some (.tuple [.agg [.int .i64 2, .int .i64 0, .str [46], .sl [.agg [.int .i64 2, .int .i64 0, .str [97], .nils], .agg [.int .i64 2, .int .i64 0, .str [98], .nils]]], .nils, .int .i64 0], h0) := by kernel_rfl

end Go.Proofs.YtleeinkdkllcdaaGreatDoor

namespace Go.Proofs.YtleeinkdkllcdaaGreatDoor
open Go Sz
set_option maxRecDepth 100000

/-! Closed runs. -/
theorem kte2_8 : evCall (envOf ktS1) 90 51 [ktV0, .str [91, 93, 32, 46]] h0 = some (.tuple [.agg [.int .i64 2, .int .i64 0, .str [91, 93], .nils], .nils, .int .i64 0], h0) := by kernel_rfl
theorem kte2_9 : evCall (envOf ktS1) 90 51 [ktV0, .str [91, 39, 45, 39, 44, 39, 48, 39, 44, 39, 55, 39, 93, 32, 46]] h0 = some (.tuple [.agg [.int .i64 2, .int .i64 0, .str [46], .sl [.agg [.int .i64 2, .int .i64 0, .str [45], .nils], .agg [.int .i64 2, .int .i64 0, .str [46], .sl [.agg [.int .i64 2, .int .i64 0, .str [48], .nils], .agg [.int .i64 2, .int .i64 0, .str [46], .sl [.agg [.int .i64 2, .int .i64 0, .str [55], .nils], .agg [.int .i64 2, .int .i64 0, .str [91, 93], .nils]]]]]]], .nils, .int .i64 0], h0) := by kernel_rfl
theorem kte2_10 : evCall (envOf ktS1) 90 51 [ktV0, .str [91, 39, 49, 39, 44, 97, 93, 32, 46]] h0 = some (.tuple [.agg [.int .i64 2, .int .i64 0, .str [46], .sl [.agg [.int .i64 2, .int .i64 0, .str [49], .nils], .agg [.int .i64 2, .int .i64 0, .str [46], .sl [.agg [.int .i64 2, .int .i64 0, .str [97], .nils], .agg [.int .i64 2, .int .i64 0, .str [91, 93], .nils]]]]], .nils, .int .i64 0], h0) := by kernel_rfl

end Go.Proofs.YtleeinkdkllcdaaGreatDoor

namespace Go.Proofs.YtleeinkdkllcdaaGreatDoor
open Go Sz
set_option maxRecDepth 100000

/-! Closed runs. -/
theorem kte2_11 : evCall (envOf ktS1) 90 51 [ktV0, .str [102, 40, 97, 41, 32, 46]] h0 = some (.tuple [.agg [.int .i64 2, .int .i64 0, .str [102], .sl [.agg [.int .i64 2, .int .i64 0, .str [97], .nils]]], .nils, .int .i64 0], h0) := by kernel_rfl
theorem kte2_12 : evCall (envOf ktS1) 90 51 [ktV0, .str [91, 39, 45, 39, 44, 39, 49, 39, 93, 32, 46]] h0 = some (.tuple [.agg [.int .i64 2, .int .i64 0, .str [46], .sl [.agg [.int .i64 2, .int .i64 0, .str [45], .nils], .agg [.int .i64 2, .int .i64 0, .str [46], .sl [.agg [.int .i64 2, .int .i64 0, .str [49], .nils], .agg [.int .i64 2, .int .i64 0, .str [91, 93], .nils]]]]], .nils, .int .i64 0], h0) := by kernel_rfl

end Go.Proofs.YtleeinkdkllcdaaGreatDoor

namespace Go.Proofs.YtleeinkdkllcdaaGreatDoor
open Go Sz
set_option maxRecDepth 100000

def ktT2_51 : KSpec := .tabP 51 ktV0 [
 ([.str [88, 32, 46]], .tuple [.agg [.int .i64 0, .int .i64 0, .str [], .nils], .sl [.agg [.str [88], .int .i64 0]], .int .i64 0]),
 ([.str [91, 97, 124, 88, 93, 32, 46]], .tuple [.agg [.int .i64 2, .int .i64 0, .str [46], .sl [.agg [.int .i64 2, .int .i64 0, .str [97], .nils], .agg [.int .i64 0, .int .i64 0, .str [], .nils]]], .sl [.agg [.str [88], .int .i64 0]], .int .i64 0]),
 ([.str [91, 97, 44, 88, 124, 98, 93, 32, 46]], .tuple [.agg [.int .i64 2, .int .i64 0, .str [46], .sl [.agg [.int .i64 2, .int .i64 0, .str [97], .nils], .agg [.int .i64 2, .int .i64 0, .str [46], .sl [.agg [.int .i64 0, .int .i64 0, .str [], .nils], .agg [.int .i64 2, .int .i64 0, .str [98], .nils]]]]], .sl [.agg [.str [88], .int .i64 0]], .int .i64 0]),
 ([.str [91, 88, 44, 49, 93, 32, 46]], .tuple [.agg [.int .i64 2, .int .i64 0, .str [46], .sl [.agg [.int .i64 0, .int .i64 0, .str [], .nils], .agg [.int .i64 2, .int .i64 0, .str [46], .sl [.agg [.int .i64 1, .int .i64 1, .str [], .nils], .agg [.int .i64 2, .int .i64 0, .str [91, 93], .nils]]]]], .sl [.agg [.str [88], .int .i64 0]], .int .i64 0]),
 ([.str [91, 49, 44, 88, 93, 32, 46]], .tuple [.agg [.int .i64 2, .int .i64 0, .str [46], .sl [.agg [.int .i64 1, .int .i64 1, .str [], .nils], .agg [.int .i64 2, .int .i64 0, .str [46], .sl [.agg [.int .i64 0, .int .i64 0, .str [], .nils], .agg [.int .i64 2, .int .i64 0, .str [91, 93], .nils]]]]], .sl [.agg [.str [88], .int .i64 0]], .int .i64 0]),
 ([.str [91, 97, 98, 93, 32, 46]], .tuple [.agg [.int .i64 2, .int .i64 0, .str [46], .sl [.agg [.int .i64 2, .int .i64 0, .str [97, 98], .nils], .agg [.int .i64 2, .int .i64 0, .str [91, 93], .nils]]], .nils, .int .i64 0]),
 ([.str [97, 32, 46]], .tuple [.agg [.int .i64 2, .int .i64 0, .str [97], .nils], .nils, .int .i64 0]),
 ([.str [91, 97, 124, 98, 93, 32, 46]], .tuple [.agg [.int .i64 2, .int .i64 0, .str [46], .sl [.agg [.int .i64 2, .int .i64 0, .str [97], .nils], .agg [.int .i64 2, .int .i64 0, .str [98], .nils]]], .nils, .int .i64 0]),
 ([.str [91, 93, 32, 46]], .tuple [.agg [.int .i64 2, .int .i64 0, .str [91, 93], .nils], .nils, .int .i64 0]),
 ([.str [91, 39, 45, 39, 44, 39, 48, 39, 44, 39, 55, 39, 93, 32, 46]], .tuple [.agg [.int .i64 2, .int .i64 0, .str [46], .sl [.agg [.int .i64 2, .int .i64 0, .str [45], .nils], .agg [.int .i64 2, .int .i64 0, .str [46], .sl [.agg [.int .i64 2, .int .i64 0, .str [48], .nils], .agg [.int .i64 2, .int .i64 0, .str [46], .sl [.agg [.int .i64 2, .int .i64 0, .str [55], .nils], .agg [.int .i64 2, .int .i64 0, .str [91, 93], .nils]]]]]]], .nils, .int .i64 0]),
 ([.str [91, 39, 49, 39, 44, 97, 93, 32, 46]], .tuple [.agg [.int .i64 2, .int .i64 0, .str [46], .sl [.agg [.int .i64 2, .int .i64 0, .str [49], .nils], .agg [.int .i64 2, .int .i64 0, .str [46], .sl [.agg [.int .i64 2, .int .i64 0, .str [97], .nils], .agg [.int .i64 2, .int .i64 0, .str [91, 93], .nils]]]]], .nils, .int .i64 0]),
 ([.str [102, 40, 97, 41, 32, 46]], .tuple [.agg [.int .i64 2, .int .i64 0, .str [102], .sl [.agg [.int .i64 2, .int .i64 0, .str [97], .nils]]], .nils, .int .i64 0]),
 ([.str [91, 39, 45, 39, 44, 39, 49, 39, 93, 32, 46]], .tuple [.agg [.int .i64 2, .int .i64 0, .str [46], .sl [.agg [.int .i64 2, .int .i64 0, .str [45], .nils], .agg [.int .i64 2, .int .i64 0, .str [46], .sl [.agg [.int .i64 2, .int .i64 0, .str [49], .nils], .agg [.int .i64 2, .int .i64 0, .str [91, 93], .nils]]]]], .nils, .int .i64 0])]
theorem ktT2_51_ok : KSpecOKX Tryz.prog TabX ktT2_51 := KSpec.tabP_ok (by
  have E := envOf_okX ktS1_ok
  exact List.forall_mem_cons.2 ⟨prim_of E kte2_0 (by kernel_rfl) (by kernel_rfl), List.forall_mem_cons.2 ⟨prim_of E kte2_1 (by kernel_rfl) (by kernel_rfl), List.forall_mem_cons.2 ⟨prim_of E kte2_2 (by kernel_rfl) (by kernel_rfl), List.forall_mem_cons.2 ⟨prim_of E kte2_3 (by kernel_rfl) (by kernel_rfl), List.forall_mem_cons.2 ⟨prim_of E kte2_4 (by kernel_rfl) (by kernel_rfl), List.forall_mem_cons.2 ⟨prim_of E kte2_5 (by kernel_rfl) (by kernel_rfl), List.forall_mem_cons.2 ⟨prim_of E kte2_6 (by kernel_rfl) (by kernel_rfl), List.forall_mem_cons.2 ⟨prim_of E kte2_7 (by kernel_rfl) (by kernel_rfl), List.forall_mem_cons.2 ⟨prim_of E kte2_8 (by kernel_rfl) (by kernel_rfl), List.forall_mem_cons.2 ⟨prim_of E kte2_9 (by kernel_rfl) (by kernel_rfl), List.forall_mem_cons.2 ⟨prim_of E kte2_10 (by kernel_rfl) (by kernel_rfl), List.forall_mem_cons.2 ⟨prim_of E kte2_11 (by kernel_rfl) (by kernel_rfl), List.forall_mem_cons.2 ⟨prim_of E kte2_12 (by kernel_rfl) (by kernel_rfl), fun _ h => nomatch h⟩⟩⟩⟩⟩⟩⟩⟩⟩⟩⟩⟩⟩)
def ktS2 : List KSpec := [ktT2_51] ++ ktS1
theorem ktS2_ok : ∀ s ∈ ktS2, KSpecOKX Tryz.prog TabX s := fun s hs => by
  rcases List.mem_append.1 hs with h | h
  · revert s
    exact fun s _ h => (show ∀ s ∈ [ktT2_51], KSpecOKX Tryz.prog TabX s from List.forall_mem_cons.2 ⟨ktT2_51_ok, fun _ h => nomatch h⟩) s h
  · exact ktS1_ok s h

end Go.Proofs.YtleeinkdkllcdaaGreatDoor
