import Derived.Test.YtlakiipofcibhaaGreatDoorKrg
set_option linter.unusedVariables false
set_option linter.unusedSimpArgs false
set_option linter.unusedSectionVars false

namespace Go.Proofs.YtlakiipofcibhaaGreatDoor
open Go Sz
set_option maxRecDepth 100000

/-! Closed runs. -/
theorem kre3_6 : evCall (envOf krS2) 90 40 [.agg [.int .i64 2, .int .i64 0, .str [102], .sl [.agg [.int .i64 2, .int .i64 0, .str [97], .nils], .agg [.int .i64 2, .int .i64 0, .str [58, 45], .sl [.agg [.int .i64 2, .int .i64 0, .str [98], .nils], .agg [.int .i64 2, .int .i64 0, .str [99], .nils]]]]]] h0 = some (.tuple [.str [102, 40, 97, 44, 58, 45, 40, 98, 44, 99, 41, 41], .int .i64 0], h0) := by kernel_rfl
theorem kre3_7 : evCall (envOf krS2) 90 11 [.str [39, 43, 39, 40, 49, 44, 50, 41, 46]] h0 = some (.str [43, 40, 49, 44, 50, 41], h0) := by kernel_rfl
theorem kre3_8 : evCall (envOf krS2) 90 40 [.agg [.int .i64 2, .int .i64 0, .str [58, 45], .sl [.agg [.int .i64 2, .int .i64 0, .str [97], .nils], .agg [.int .i64 2, .int .i64 0, .str [59], .sl [.agg [.int .i64 2, .int .i64 0, .str [44], .sl [.agg [.int .i64 2, .int .i64 0, .str [98], .nils], .agg [.int .i64 2, .int .i64 0, .str [99], .nils]]], .agg [.int .i64 2, .int .i64 0, .str [45, 62], .sl [.agg [.int .i64 2, .int .i64 0, .str [100], .nils], .agg [.int .i64 2, .int .i64 0, .str [101], .nils]]]]]]]] h0 = some (.tuple [.str [58, 45, 40, 97, 44, 59, 40, 39, 44, 39, 40, 98, 44, 99, 41, 44, 45, 62, 40, 100, 44, 101, 41, 41, 41], .int .i64 0], h0) := by kernel_rfl

end Go.Proofs.YtlakiipofcibhaaGreatDoor

namespace Go.Proofs.YtlakiipofcibhaaGreatDoor
open Go Sz
set_option maxRecDepth 100000

/-! Closed runs. -/
theorem kre3_9 : evCall (envOf krS2) 90 40 [.agg [.int .i64 2, .int .i64 0, .str [42], .sl [.agg [.int .i64 2, .int .i64 0, .str [45], .sl [.agg [.int .i64 2, .int .i64 0, .str [97], .nils]]], .agg [.int .i64 2, .int .i64 0, .str [98], .nils]]]] h0 = some (.tuple [.str [42, 40, 45, 40, 97, 41, 44, 98, 41], .int .i64 0], h0) := by kernel_rfl
theorem kre3_10 : evCall (envOf krS2) 90 11 [.str [45, 40, 49, 44, 50, 41, 46]] h0 = some (.str [45, 40, 49, 44, 50, 41], h0) := by kernel_rfl
theorem kre3_11 : evCall (envOf krS2) 90 11 [.str [50, 32, 45, 32, 45, 49, 46]] h0 = some (.str [45, 40, 50, 44, 45, 49, 41], h0) := by kernel_rfl
theorem kre3_12 : evCall (envOf krS2) 90 40 [.agg [.int .i64 2, .int .i64 0, .str [105, 115], .sl [.agg [.int .i64 2, .int .i64 0, .str [97], .nils], .agg [.int .i64 2, .int .i64 0, .str [109, 111, 100], .sl [.agg [.int .i64 2, .int .i64 0, .str [98], .nils], .agg [.int .i64 2, .int .i64 0, .str [99], .nils]]]]]] h0 = some (.tuple [.str [105, 115, 40, 97, 44, 109, 111, 100, 40, 98, 44, 99, 41, 41], .int .i64 0], h0) := by kernel_rfl

end Go.Proofs.YtlakiipofcibhaaGreatDoor

namespace Go.Proofs.YtlakiipofcibhaaGreatDoor
open Go Sz
set_option maxRecDepth 100000

def krT3_40 : KSpec := .tab 40 [
 ([.agg [.int .i64 2, .int .i64 0, .str [61], .sl [.agg [.int .i64 0, .int .i64 0, .str [], .nils], .agg [.int .i64 2, .int .i64 0, .str [43], .sl [.agg [.int .i64 2, .int .i64 0, .str [97], .nils], .agg [.int .i64 0, .int .i64 1, .str [], .nils]]]]]], .tuple [.str [61, 40, 95, 48, 44, 43, 40, 97, 44, 95, 49, 41, 41], .int .i64 0]),
 ([.agg [.int .i64 2, .int .i64 0, .str [43], .sl [.agg [.int .i64 2, .int .i64 0, .str [43], .sl [.agg [.int .i64 2, .int .i64 0, .str [97], .nils], .agg [.int .i64 2, .int .i64 0, .str [98], .nils]]], .agg [.int .i64 2, .int .i64 0, .str [99], .nils]]]], .tuple [.str [43, 40, 43, 40, 97, 44, 98, 41, 44, 99, 41], .int .i64 0]),
 ([.agg [.int .i64 2, .int .i64 0, .str [59], .sl [.agg [.int .i64 2, .int .i64 0, .str [97], .nils], .agg [.int .i64 2, .int .i64 0, .str [59], .sl [.agg [.int .i64 2, .int .i64 0, .str [98], .nils], .agg [.int .i64 2, .int .i64 0, .str [99], .nils]]]]]], .tuple [.str [59, 40, 97, 44, 59, 40, 98, 44, 99, 41, 41], .int .i64 0]),
 ([.agg [.int .i64 2, .int .i64 0, .str [46], .sl [.agg [.int .i64 2, .int .i64 0, .str [97], .nils], .agg [.int .i64 2, .int .i64 0, .str [46], .sl [.agg [.int .i64 2, .int .i64 0, .str [98], .nils], .agg [.int .i64 0, .int .i64 0, .str [], .nils]]]]]], .tuple [.str [39, 46, 39, 40, 97, 44, 39, 46, 39, 40, 98, 44, 95, 48, 41, 41], .int .i64 0]),
 ([.agg [.int .i64 2, .int .i64 0, .str [123, 125], .sl [.agg [.int .i64 2, .int .i64 0, .str [44], .sl [.agg [.int .i64 2, .int .i64 0, .str [97], .nils], .agg [.int .i64 2, .int .i64 0, .str [98], .nils]]]]]], .tuple [.str [123, 125, 40, 39, 44, 39, 40, 97, 44, 98, 41, 41], .int .i64 0]),
 ([.agg [.int .i64 2, .int .i64 0, .str [92, 43], .sl [.agg [.int .i64 2, .int .i64 0, .str [61], .sl [.agg [.int .i64 2, .int .i64 0, .str [97], .nils], .agg [.int .i64 2, .int .i64 0, .str [98], .nils]]]]]], .tuple [.str [92, 43, 40, 61, 40, 97, 44, 98, 41, 41], .int .i64 0]),
 ([.agg [.int .i64 2, .int .i64 0, .str [102], .sl [.agg [.int .i64 2, .int .i64 0, .str [97], .nils], .agg [.int .i64 2, .int .i64 0, .str [58, 45], .sl [.agg [.int .i64 2, .int .i64 0, .str [98], .nils], .agg [.int .i64 2, .int .i64 0, .str [99], .nils]]]]]], .tuple [.str [102, 40, 97, 44, 58, 45, 40, 98, 44, 99, 41, 41], .int .i64 0]),
 ([.agg [.int .i64 2, .int .i64 0, .str [58, 45], .sl [.agg [.int .i64 2, .int .i64 0, .str [97], .nils], .agg [.int .i64 2, .int .i64 0, .str [59], .sl [.agg [.int .i64 2, .int .i64 0, .str [44], .sl [.agg [.int .i64 2, .int .i64 0, .str [98], .nils], .agg [.int .i64 2, .int .i64 0, .str [99], .nils]]], .agg [.int .i64 2, .int .i64 0, .str [45, 62], .sl [.agg [.int .i64 2, .int .i64 0, .str [100], .nils], .agg [.int .i64 2, .int .i64 0, .str [101], .nils]]]]]]]], .tuple [.str [58, 45, 40, 97, 44, 59, 40, 39, 44, 39, 40, 98, 44, 99, 41, 44, 45, 62, 40, 100, 44, 101, 41, 41, 41], .int .i64 0]),
 ([.agg [.int .i64 2, .int .i64 0, .str [42], .sl [.agg [.int .i64 2, .int .i64 0, .str [45], .sl [.agg [.int .i64 2, .int .i64 0, .str [97], .nils]]], .agg [.int .i64 2, .int .i64 0, .str [98], .nils]]]], .tuple [.str [42, 40, 45, 40, 97, 41, 44, 98, 41], .int .i64 0]),
 ([.agg [.int .i64 2, .int .i64 0, .str [105, 115], .sl [.agg [.int .i64 2, .int .i64 0, .str [97], .nils], .agg [.int .i64 2, .int .i64 0, .str [109, 111, 100], .sl [.agg [.int .i64 2, .int .i64 0, .str [98], .nils], .agg [.int .i64 2, .int .i64 0, .str [99], .nils]]]]]], .tuple [.str [105, 115, 40, 97, 44, 109, 111, 100, 40, 98, 44, 99, 41, 41], .int .i64 0])]
theorem krT3_40_ok : KSpecOKX Tryz.prog TabX krT3_40 := KSpec.tab_ok (by
  have E := envOf_okX krS2_ok
  exact List.forall_mem_cons.2 ⟨prim_of E kre3_0 (by kernel_rfl) (by kernel_rfl), List.forall_mem_cons.2 ⟨prim_of E kre3_1 (by kernel_rfl) (by kernel_rfl), List.forall_mem_cons.2 ⟨prim_of E kre3_2 (by kernel_rfl) (by kernel_rfl), List.forall_mem_cons.2 ⟨prim_of E kre3_3 (by kernel_rfl) (by kernel_rfl), List.forall_mem_cons.2 ⟨prim_of E kre3_4 (by kernel_rfl) (by kernel_rfl), List.forall_mem_cons.2 ⟨prim_of E kre3_5 (by kernel_rfl) (by kernel_rfl), List.forall_mem_cons.2 ⟨prim_of E kre3_6 (by kernel_rfl) (by kernel_rfl), List.forall_mem_cons.2 ⟨prim_of E kre3_8 (by kernel_rfl) (by kernel_rfl), List.forall_mem_cons.2 ⟨prim_of E kre3_9 (by kernel_rfl) (by kernel_rfl), List.forall_mem_cons.2 ⟨prim_of E kre3_12 (by kernel_rfl) (by kernel_rfl), fun _ h => nomatch h⟩⟩⟩⟩⟩⟩⟩⟩⟩⟩)
def krT3_11 : KSpec := .tab 11 [
 ([.str [39, 43, 39, 40, 49, 44, 50, 41, 46]], .str [43, 40, 49, 44, 50, 41]),
 ([.str [45, 40, 49, 44, 50, 41, 46]], .str [45, 40, 49, 44, 50, 41]),
 ([.str [50, 32, 45, 32, 45, 49, 46]], .str [45, 40, 50, 44, 45, 49, 41])]
theorem krT3_11_ok : KSpecOKX Tryz.prog TabX krT3_11 := KSpec.tab_ok (by
  have E := envOf_okX krS2_ok
  exact List.forall_mem_cons.2 ⟨prim_of E kre3_7 (by kernel_rfl) (by kernel_rfl), List.forall_mem_cons.2 ⟨prim_of E kre3_10 (by kernel_rfl) (by kernel_rfl), List.forall_mem_cons.2 ⟨prim_of E kre3_11 (by kernel_rfl) (by kernel_rfl), fun _ h => nomatch h⟩⟩⟩)
def krS3 : List KSpec := [krT3_40, krT3_11] ++ krS2
theorem krS3_ok : ∀ s ∈ krS3, KSpecOKX Tryz.prog TabX s := fun s hs => by
  rcases List.mem_append.1 hs with h | h
  · revert s
    exact fun s _ h => (show ∀ s ∈ [krT3_40, krT3_11], KSpecOKX Tryz.prog TabX s from List.forall_mem_cons.2 ⟨krT3_40_ok, List.forall_mem_cons.2 ⟨krT3_11_ok, fun _ h => nomatch h⟩⟩) s h
  · exact krS2_ok s h

end Go.Proofs.YtlakiipofcibhaaGreatDoor

namespace Go.Proofs.YtlakiipofcibhaaGreatDoor
open Go Sz
set_option maxRecDepth 100000

/-! Closed runs. -/
theorem kre4_0 : evCall (envOf krS3) 90 3 [] h0 = some (.bool true, h0) := by kernel_rfl

end Go.Proofs.YtlakiipofcibhaaGreatDoor

namespace Go.Proofs.YtlakiipofcibhaaGreatDoor
open Go Sz
set_option maxRecDepth 100000

def krT4_3 : KSpec := .tab 3 [
 ([], .bool true)]
theorem krT4_3_ok : KSpecOKX Tryz.prog TabX krT4_3 := KSpec.tab_ok (by
  have E := envOf_okX krS3_ok
  exact List.forall_mem_cons.2 ⟨prim_of E kre4_0 (by kernel_rfl) (by kernel_rfl), fun _ h => nomatch h⟩)
def krS4 : List KSpec := [krT4_3] ++ krS3
theorem krS4_ok : ∀ s ∈ krS4, KSpecOKX Tryz.prog TabX s := fun s hs => by
  rcases List.mem_append.1 hs with h | h
  · revert s
    exact fun s _ h => (show ∀ s ∈ [krT4_3], KSpecOKX Tryz.prog TabX s from List.forall_mem_cons.2 ⟨krT4_3_ok, fun _ h => nomatch h⟩) s h
  · exact krS3_ok s h

end Go.Proofs.YtlakiipofcibhaaGreatDoor
