import Derived.Test.YtleeinkdkllcdaaGreatDoorKt
set_option linter.unusedVariables false
set_option linter.unusedSimpArgs false
set_option linter.unusedSectionVars false

namespace Go.Proofs.YtleeinkdkllcdaaGreatDoor
open Go Sz
set_option maxRecDepth 100000

/-! Closed runs. -/
theorem kte1_8 : evCall (envOf ssA) 90 93 [.str [91, 97, 124, 98, 93, 32, 46]] h0 = some (.tuple [.sl [.agg [.int .i64 5, .str [91], .int .i64 0, .bool false, .int .i64 0], .agg [.int .i64 1, .str [97], .int .i64 0, .bool false, .int .i64 1], .agg [.int .i64 5, .str [124], .int .i64 0, .bool false, .int .i64 2], .agg [.int .i64 1, .str [98], .int .i64 0, .bool false, .int .i64 3], .agg [.int .i64 5, .str [93], .int .i64 0, .bool false, .int .i64 4], .agg [.int .i64 6, .str [], .int .i64 0, .bool false, .int .i64 6]], .int .i64 7, .int .i64 0], h0) := by kernel_rfl
theorem kte1_9 : evCall (envOf ssA) 90 93 [.str [91, 93, 32, 46]] h0 = some (.tuple [.sl [.agg [.int .i64 1, .str [91, 93], .int .i64 0, .bool false, .int .i64 0], .agg [.int .i64 6, .str [], .int .i64 0, .bool false, .int .i64 3]], .int .i64 4, .int .i64 0], h0) := by kernel_rfl

end Go.Proofs.YtleeinkdkllcdaaGreatDoor

namespace Go.Proofs.YtleeinkdkllcdaaGreatDoor
open Go Sz
set_option maxRecDepth 100000

/-! Closed runs. -/
theorem kte1_10 : evCall (envOf ssA) 90 93 [.str [91, 39, 45, 39, 44, 39, 48, 39, 44, 39, 55, 39, 93, 32, 46]] h0 = some (.tuple [.sl [.agg [.int .i64 5, .str [91], .int .i64 0, .bool false, .int .i64 0], .agg [.int .i64 2, .str [45], .int .i64 0, .bool false, .int .i64 1], .agg [.int .i64 5, .str [44], .int .i64 0, .bool false, .int .i64 4], .agg [.int .i64 2, .str [48], .int .i64 0, .bool false, .int .i64 5], .agg [.int .i64 5, .str [44], .int .i64 0, .bool false, .int .i64 8], .agg [.int .i64 2, .str [55], .int .i64 0, .bool false, .int .i64 9], .agg [.int .i64 5, .str [93], .int .i64 0, .bool false, .int .i64 12], .agg [.int .i64 6, .str [], .int .i64 0, .bool false, .int .i64 14]], .int .i64 15, .int .i64 0], h0) := by kernel_rfl
theorem kte1_11 : evCall (envOf ssA) 90 93 [.str [91, 39, 49, 39, 44, 97, 93, 32, 46]] h0 = some (.tuple [.sl [.agg [.int .i64 5, .str [91], .int .i64 0, .bool false, .int .i64 0], .agg [.int .i64 2, .str [49], .int .i64 0, .bool false, .int .i64 1], .agg [.int .i64 5, .str [44], .int .i64 0, .bool false, .int .i64 4], .agg [.int .i64 1, .str [97], .int .i64 0, .bool false, .int .i64 5], .agg [.int .i64 5, .str [93], .int .i64 0, .bool false, .int .i64 6], .agg [.int .i64 6, .str [], .int .i64 0, .bool false, .int .i64 8]], .int .i64 9, .int .i64 0], h0) := by kernel_rfl

end Go.Proofs.YtleeinkdkllcdaaGreatDoor

namespace Go.Proofs.YtleeinkdkllcdaaGreatDoor
open Go Sz
set_option maxRecDepth 100000

/-! Closed runs. -/
theorem kte1_12 : evCall (envOf ssA) 90 93 [.str [102, 40, 97, 41, 32, 46]] h0 = some (.tuple [.sl [.agg [.int .i64 1, .str [102], .int .i64 0, .bool true, .int .i64 0], .agg [.int .i64 5, .str [40], .int .i64 0, .bool false, .int .i64 1], .agg [.int .i64 1, .str [97], .int .i64 0, .bool false, .int .i64 2], .agg [.int .i64 5, .str [41], .int .i64 0, .bool false, .int .i64 3], .agg [.int .i64 6, .str [], .int .i64 0, .bool false, .int .i64 5]], .int .i64 6, .int .i64 0], h0) := by kernel_rfl
theorem kte1_13 : evCall (envOf ssA) 90 93 [.str [91, 39, 45, 39, 44, 39, 49, 39, 93, 32, 46]] h0 = some (.tuple [.sl [.agg [.int .i64 5, .str [91], .int .i64 0, .bool false, .int .i64 0], .agg [.int .i64 2, .str [45], .int .i64 0, .bool false, .int .i64 1], .agg [.int .i64 5, .str [44], .int .i64 0, .bool false, .int .i64 4], .agg [.int .i64 2, .str [49], .int .i64 0, .bool false, .int .i64 5], .agg [.int .i64 5, .str [93], .int .i64 0, .bool false, .int .i64 8], .agg [.int .i64 6, .str [], .int .i64 0, .bool false, .int .i64 10]], .int .i64 11, .int .i64 0], h0) := by kernel_rfl

end Go.Proofs.YtleeinkdkllcdaaGreatDoor

namespace Go.Proofs.YtleeinkdkllcdaaGreatDoor
open Go Sz
set_option maxRecDepth 100000

def ktT1_52 : KSpec := .tab 52 [
 ([], ktV0)]
theorem ktT1_52_ok : KSpecOKX Tryz.prog TabX ktT1_52 := KSpec.tab_ok (by
  have E := envOf_okX ssA_ok
  exact List.forall_mem_cons.2 ⟨prim_of E kte1_0 (by kernel_rfl) (by kernel_rfl), fun _ h => nomatch h⟩)
def ktT1_93 : KSpec := .tab 93 [
 ([.str [88, 32, 46]], .tuple [.sl [.agg [.int .i64 3, .str [88], .int .i64 0, .bool false, .int .i64 0], .agg [.int .i64 6, .str [], .int .i64 0, .bool false, .int .i64 2]], .int .i64 3, .int .i64 0]),
 ([.str [91, 97, 124, 88, 93, 32, 46]], .tuple [.sl [.agg [.int .i64 5, .str [91], .int .i64 0, .bool false, .int .i64 0], .agg [.int .i64 1, .str [97], .int .i64 0, .bool false, .int .i64 1], .agg [.int .i64 5, .str [124], .int .i64 0, .bool false, .int .i64 2], .agg [.int .i64 3, .str [88], .int .i64 0, .bool false, .int .i64 3], .agg [.int .i64 5, .str [93], .int .i64 0, .bool false, .int .i64 4], .agg [.int .i64 6, .str [], .int .i64 0, .bool false, .int .i64 6]], .int .i64 7, .int .i64 0]),
 ([.str [91, 97, 44, 88, 124, 98, 93, 32, 46]], .tuple [.sl [.agg [.int .i64 5, .str [91], .int .i64 0, .bool false, .int .i64 0], .agg [.int .i64 1, .str [97], .int .i64 0, .bool false, .int .i64 1], .agg [.int .i64 5, .str [44], .int .i64 0, .bool false, .int .i64 2], .agg [.int .i64 3, .str [88], .int .i64 0, .bool false, .int .i64 3], .agg [.int .i64 5, .str [124], .int .i64 0, .bool false, .int .i64 4], .agg [.int .i64 1, .str [98], .int .i64 0, .bool false, .int .i64 5], .agg [.int .i64 5, .str [93], .int .i64 0, .bool false, .int .i64 6], .agg [.int .i64 6, .str [], .int .i64 0, .bool false, .int .i64 8]], .int .i64 9, .int .i64 0]),
 ([.str [91, 88, 44, 49, 93, 32, 46]], .tuple [.sl [.agg [.int .i64 5, .str [91], .int .i64 0, .bool false, .int .i64 0], .agg [.int .i64 3, .str [88], .int .i64 0, .bool false, .int .i64 1], .agg [.int .i64 5, .str [44], .int .i64 0, .bool false, .int .i64 2], .agg [.int .i64 4, .str [], .int .i64 1, .bool false, .int .i64 3], .agg [.int .i64 5, .str [93], .int .i64 0, .bool false, .int .i64 4], .agg [.int .i64 6, .str [], .int .i64 0, .bool false, .int .i64 6]], .int .i64 7, .int .i64 0]),
 ([.str [91, 49, 44, 88, 93, 32, 46]], .tuple [.sl [.agg [.int .i64 5, .str [91], .int .i64 0, .bool false, .int .i64 0], .agg [.int .i64 4, .str [], .int .i64 1, .bool false, .int .i64 1], .agg [.int .i64 5, .str [44], .int .i64 0, .bool false, .int .i64 2], .agg [.int .i64 3, .str [88], .int .i64 0, .bool false, .int .i64 3], .agg [.int .i64 5, .str [93], .int .i64 0, .bool false, .int .i64 4], .agg [.int .i64 6, .str [], .int .i64 0, .bool false, .int .i64 6]], .int .i64 7, .int .i64 0]),
 ([.str [91, 97, 98, 93, 32, 46]], .tuple [.sl [.agg [.int .i64 5, .str [91], .int .i64 0, .bool false, .int .i64 0], .agg [.int .i64 1, .str [97, 98], .int .i64 0, .bool false, .int .i64 1], .agg [.int .i64 5, .str [93], .int .i64 0, .bool false, .int .i64 3], .agg [.int .i64 6, .str [], .int .i64 0, .bool false, .int .i64 5]], .int .i64 6, .int .i64 0]),
 ([.str [97, 32, 46]], .tuple [.sl [.agg [.int .i64 1, .str [97], .int .i64 0, .bool false, .int .i64 0], .agg [.int .i64 6, .str [], .int .i64 0, .bool false, .int .i64 2]], .int .i64 3, .int .i64 0]),
 ([.str [91, 97, 124, 98, 93, 32, 46]], .tuple [.sl [.agg [.int .i64 5, .str [91], .int .i64 0, .bool false, .int .i64 0], .agg [.int .i64 1, .str [97], .int .i64 0, .bool false, .int .i64 1], .agg [.int .i64 5, .str [124], .int .i64 0, .bool false, .int .i64 2], .agg [.int .i64 1, .str [98], .int .i64 0, .bool false, .int .i64 3], .agg [.int .i64 5, .str [93], .int .i64 0, .bool false, .int .i64 4], .agg [.int .i64 6, .str [], .int .i64 0, .bool false, .int .i64 6]], .int .i64 7, .int .i64 0]),
 ([.str [91, 93, 32, 46]], .tuple [.sl [.agg [.int .i64 1, .str [91, 93], .int .i64 0, .bool false, .int .i64 0], .agg [.int .i64 6, .str [], .int .i64 0, .bool false, .int .i64 3]], .int .i64 4, .int .i64 0]),
 ([.str [91, 39, 45, 39, 44, 39, 48, 39, 44, 39, 55, 39, 93, 32, 46]], .tuple [.sl [.agg [.int .i64 5, .str [91], .int .i64 0, .bool false, .int .i64 0], .agg [.int .i64 2, .str [45], .int .i64 0, .bool false, .int .i64 1], .agg [.int .i64 5, .str [44], .int .i64 0, .bool false, .int .i64 4], .agg [.int .i64 2, .str [48], .int .i64 0, .bool false, .int .i64 5], .agg [.int .i64 5, .str [44], .int .i64 0, .bool false, .int .i64 8], .agg [.int .i64 2, .str [55], .int .i64 0, .bool false, .int .i64 9], .agg [.int .i64 5, .str [93], .int .i64 0, .bool false, .int .i64 12], .agg [.int .i64 6, .str [], .int .i64 0, .bool false, .int .i64 14]], .int .i64 15, .int .i64 0]),
 ([.str [91, 39, 49, 39, 44, 97, 93, 32, 46]], .tuple [.sl [.agg [.int .i64 5, .str [91], .int .i64 0, .bool false, .int .i64 0], .agg [.int .i64 2, .str [49], .int .i64 0, .bool false, .int .i64 1], .agg [.int .i64 5, .str [44], .int .i64 0, .bool false, .int .i64 4], .agg [.int .i64 1, .str [97], .int .i64 0, .bool false, .int .i64 5], .agg [.int .i64 5, .str [93], .int .i64 0, .bool false, .int .i64 6], .agg [.int .i64 6, .str [], .int .i64 0, .bool false, .int .i64 8]], .int .i64 9, .int .i64 0]),
 ([.str [102, 40, 97, 41, 32, 46]], .tuple [.sl [.agg [.int .i64 1, .str [102], .int .i64 0, .bool true, .int .i64 0], .agg [.int .i64 5, .str [40], .int .i64 0, .bool false, .int .i64 1], .agg [.int .i64 1, .str [97], .int .i64 0, .bool false, .int .i64 2], .agg [.int .i64 5, .str [41], .int .i64 0, .bool false, .int .i64 3], .agg [.int .i64 6, .str [], .int .i64 0, .bool false, .int .i64 5]], .int .i64 6, .int .i64 0]),
 ([.str [91, 39, 45, 39, 44, 39, 49, 39, 93, 32, 46]], .tuple [.sl [.agg [.int .i64 5, .str [91], .int .i64 0, .bool false, .int .i64 0], .agg [.int .i64 2, .str [45], .int .i64 0, .bool false, .int .i64 1], .agg [.int .i64 5, .str [44], .int .i64 0, .bool false, .int .i64 4], .agg [.int .i64 2, .str [49], .int .i64 0, .bool false, .int .i64 5], .agg [.int .i64 5, .str [93], .int .i64 0, .bool false, .int .i64 8], .agg [.int .i64 6, .str [], .int .i64 0, .bool false, .int .i64 10]], .int .i64 11, .int .i64 0])]
theorem ktT1_93_ok : KSpecOKX Tryz.prog TabX ktT1_93 := KSpec.tab_ok (by
  have E := envOf_okX ssA_ok
  exact List.forall_mem_cons.2 ⟨prim_of E kte1_1 (by kernel_rfl) (by kernel_rfl), List.forall_mem_cons.2 ⟨prim_of E kte1_2 (by kernel_rfl) (by kernel_rfl), List.forall_mem_cons.2 ⟨prim_of E kte1_3 (by kernel_rfl) (by kernel_rfl), List.forall_mem_cons.2 ⟨prim_of E kte1_4 (by kernel_rfl) (by kernel_rfl), List.forall_mem_cons.2 ⟨prim_of E kte1_5 (by kernel_rfl) (by kernel_rfl), List.forall_mem_cons.2 ⟨prim_of E kte1_6 (by kernel_rfl) (by kernel_rfl), List.forall_mem_cons.2 ⟨prim_of E kte1_7 (by kernel_rfl) (by kernel_rfl), List.forall_mem_cons.2 ⟨prim_of E kte1_8 (by kernel_rfl) (by kernel_rfl), List.forall_mem_cons.2 ⟨prim_of E kte1_9 (by kernel_rfl) (by kernel_rfl), List.forall_mem_cons.2 ⟨prim_of E kte1_10 (by kernel_rfl) (by kernel_rfl), List.forall_mem_cons.2 ⟨prim_of E kte1_11 (by kernel_rfl) (by kernel_rfl), List.forall_mem_cons.2 ⟨prim_of E kte1_12 (by kernel_rfl) (by kernel_rfl), List.forall_mem_cons.2 ⟨prim_of E kte1_13 (by kernel_rfl) (by kernel_rfl), fun _ h => nomatch h⟩⟩⟩⟩⟩⟩⟩⟩⟩⟩⟩⟩⟩)
def ktS1 : List KSpec := [ktT1_52, ktT1_93] ++ ssA
theorem ktS1_ok : ∀ s ∈ ktS1, KSpecOKX Tryz.prog TabX s := fun s hs => by
  rcases List.mem_append.1 hs with h | h
  · revert s
    exact fun s _ h => (show ∀ s ∈ [ktT1_52, ktT1_93], KSpecOKX Tryz.prog TabX s from List.forall_mem_cons.2 ⟨ktT1_52_ok, List.forall_mem_cons.2 ⟨ktT1_93_ok, fun _ h => nomatch h⟩⟩) s h
  · exact ssA_ok s h

end Go.Proofs.YtleeinkdkllcdaaGreatDoor
