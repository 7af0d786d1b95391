import Derived.Test.YtleeinkdkllcdaaGreatDoorKa
set_option linter.unusedVariables false
set_option linter.unusedSimpArgs false
set_option linter.unusedSectionVars false
set_option maxHeartbeats 16000000
set_option maxRecDepth 100000

namespace Go.Proofs.YtleeinkdkllcdaaGreatDoor
open Go Sz
set_option maxRecDepth 100000
def kdV0 : AV := .agg [.sl [.agg [.str [58, 45], .str [120, 102, 120], .int .i64 1200], .agg [.str [59], .str [120, 102, 121], .int .i64 1100], .agg [.str [45, 62], .str [120, 102, 121], .int .i64 1050], .agg [.str [44], .str [120, 102, 121], .int .i64 1000], .agg [.str [92, 43], .str [102, 121], .int .i64 900], .agg [.str [61], .str [120, 102, 120], .int .i64 700], .agg [.str [92, 61], .str [120, 102, 120], .int .i64 700], .agg [.str [61, 61], .str [120, 102, 120], .int .i64 700], .agg [.str [92, 61, 61], .str [120, 102, 120], .int .i64 700], .agg [.str [64, 60], .str [120, 102, 120], .int .i64 700], .agg [.str [64, 62], .str [120, 102, 120], .int .i64 700], .agg [.str [64, 61, 60], .str [120, 102, 120], .int .i64 700], .agg [.str [64, 62, 61], .str [120, 102, 120], .int .i64 700], .agg [.str [61, 46, 46], .str [120, 102, 120], .int .i64 700], .agg [.str [105, 115], .str [120, 102, 120], .int .i64 700], .agg [.str [61, 58, 61], .str [120, 102, 120], .int .i64 700], .agg [.str [61, 92, 61], .str [120, 102, 120], .int .i64 700], .agg [.str [60], .str [120, 102, 120], .int .i64 700], .agg [.str [62], .str [120, 102, 120], .int .i64 700], .agg [.str [61, 60], .str [120, 102, 120], .int .i64 700], .agg [.str [62, 61], .str [120, 102, 120], .int .i64 700], .agg [.str [43], .str [121, 102, 120], .int .i64 500], .agg [.str [45], .str [121, 102, 120], .int .i64 500], .agg [.str [47, 92], .str [121, 102, 120], .int .i64 500], .agg [.str [92, 47], .str [121, 102, 120], .int .i64 500], .agg [.str [120, 111, 114], .str [121, 102, 120], .int .i64 500], .agg [.str [42], .str [121, 102, 120], .int .i64 400], .agg [.str [47, 47], .str [121, 102, 120], .int .i64 400], .agg [.str [109, 111, 100], .str [121, 102, 120], .int .i64 400], .agg [.str [114, 101, 109], .str [121, 102, 120], .int .i64 400], .agg [.str [62, 62], .str [121, 102, 120], .int .i64 400], .agg [.str [60, 60], .str [121, 102, 120], .int .i64 400], .agg [.str [94], .str [120, 102, 121], .int .i64 200], .agg [.str [45], .str [102, 121], .int .i64 200], .agg [.str [92], .str [102, 121], .int .i64 200]]]
set_option maxRecDepth 100000
theorem kde1_0 : evCall (envOf ssA) 90 52 [] h0 = some (kdV0, h0) := by kernel_rfl
theorem kde1_1 : evCall (envOf ssA) 90 93 [.str [97, 98, 32, 46]] h0 = some (.tuple [.sl [.agg [.int .i64 1, .str [97, 98], .int .i64 0, .bool false, .int .i64 0], .agg [.int .i64 6, .str [], .int .i64 0, .bool false, .int .i64 3]], .int .i64 4, .int .i64 0], h0) := by kernel_rfl
theorem kde1_2 : evCall (envOf ssA) 90 93 [.str [91, 97, 44, 98, 93, 32, 46]] h0 = some (.tuple [.sl [.agg [.int .i64 5, .str [91], .int .i64 0, .bool false, .int .i64 0], .agg [.int .i64 1, .str [97], .int .i64 0, .bool false, .int .i64 1], .agg [.int .i64 5, .str [44], .int .i64 0, .bool false, .int .i64 2], .agg [.int .i64 1, .str [98], .int .i64 0, .bool false, .int .i64 3], .agg [.int .i64 5, .str [93], .int .i64 0, .bool false, .int .i64 4], .agg [.int .i64 6, .str [], .int .i64 0, .bool false, .int .i64 6]], .int .i64 7, .int .i64 0], h0) := by kernel_rfl
set_option maxRecDepth 100000
def kdT1_52 : KSpec := .tab 52 [
 ([], kdV0)]
theorem kdT1_52_ok : KSpecOKX Tryz.prog TabX kdT1_52 := KSpec.tab_ok (by
 have E := envOf_okX ssA_ok
 exact List.forall_mem_cons.2 ⟨prim_of E kde1_0 (by kernel_rfl) (by kernel_rfl), fun _ h => nomatch h⟩)
def kdT1_93 : KSpec := .tab 93 [
 ([.str [97, 98, 32, 46]], .tuple [.sl [.agg [.int .i64 1, .str [97, 98], .int .i64 0, .bool false, .int .i64 0], .agg [.int .i64 6, .str [], .int .i64 0, .bool false, .int .i64 3]], .int .i64 4, .int .i64 0]),
 ([.str [91, 97, 44, 98, 93, 32, 46]], .tuple [.sl [.agg [.int .i64 5, .str [91], .int .i64 0, .bool false, .int .i64 0], .agg [.int .i64 1, .str [97], .int .i64 0, .bool false, .int .i64 1], .agg [.int .i64 5, .str [44], .int .i64 0, .bool false, .int .i64 2], .agg [.int .i64 1, .str [98], .int .i64 0, .bool false, .int .i64 3], .agg [.int .i64 5, .str [93], .int .i64 0, .bool false, .int .i64 4], .agg [.int .i64 6, .str [], .int .i64 0, .bool false, .int .i64 6]], .int .i64 7, .int .i64 0])]
theorem kdT1_93_ok : KSpecOKX Tryz.prog TabX kdT1_93 := KSpec.tab_ok (by
 have E := envOf_okX ssA_ok
 exact List.forall_mem_cons.2 ⟨prim_of E kde1_1 (by kernel_rfl) (by kernel_rfl), List.forall_mem_cons.2 ⟨prim_of E kde1_2 (by kernel_rfl) (by kernel_rfl), fun _ h => nomatch h⟩⟩)
def kdS1 : List KSpec := [kdT1_52, kdT1_93] ++ ssA
theorem kdS1_ok : ∀ s ∈ kdS1, KSpecOKX Tryz.prog TabX s := fun s hs => by
 rcases List.mem_append.1 hs with h | h
 ·revert s
  exact fun s _ h => (show ∀ s ∈ [kdT1_52, kdT1_93], KSpecOKX Tryz.prog TabX s from List.forall_mem_cons.2 ⟨kdT1_52_ok, List.forall_mem_cons.2 ⟨kdT1_93_ok, fun _ h => nomatch h⟩⟩) s h
 ·exact ssA_ok s h
set_option maxRecDepth 100000
theorem kde2_0 : evCall (envOf kdS1) 90 51 [kdV0, .str [97, 98, 32, 46]] h0 = some (.tuple [.agg [.int .i64 2, .int .i64 0, .str [97, 98], .nils], .nils, .int .i64 0], h0) := by kernel_rfl
theorem kde2_1 : evCall (envOf kdS1) 90 51 [kdV0, .str [91, 97, 44, 98, 93, 32, 46]] h0 = some (.tuple [.agg [.int .i64 2, .int .i64 0, .str [46], .sl [.agg [.int .i64 2, .int .i64 0, .str [97], .nils], .agg [.int .i64 2, .int .i64 0, .str [46], .sl [.agg [.int .i64 2, .int .i64 0, .str [98], .nils], .agg [.int .i64 2, .int .i64 0, .str [91, 93], .nils]]]]], .nils, .int .i64 0], h0) := by kernel_rfl
set_option maxRecDepth 100000
def kdT2_51 : KSpec := .tabP 51 kdV0 [
 ([.str [97, 98, 32, 46]], .tuple [.agg [.int .i64 2, .int .i64 0, .str [97, 98], .nils], .nils, .int .i64 0]),
 ([.str [91, 97, 44, 98, 93, 32, 46]], .tuple [.agg [.int .i64 2, .int .i64 0, .str [46], .sl [.agg [.int .i64 2, .int .i64 0, .str [97], .nils], .agg [.int .i64 2, .int .i64 0, .str [46], .sl [.agg [.int .i64 2, .int .i64 0, .str [98], .nils], .agg [.int .i64 2, .int .i64 0, .str [91, 93], .nils]]]]], .nils, .int .i64 0])]
theorem kdT2_51_ok : KSpecOKX Tryz.prog TabX kdT2_51 := KSpec.tabP_ok (by
 have E := envOf_okX kdS1_ok
 exact List.forall_mem_cons.2 ⟨prim_of E kde2_0 (by kernel_rfl) (by kernel_rfl), List.forall_mem_cons.2 ⟨prim_of E kde2_1 (by kernel_rfl) (by kernel_rfl), fun _ h => nomatch h⟩⟩)
def kdS2 : List KSpec := [kdT2_51] ++ kdS1
theorem kdS2_ok : ∀ s ∈ kdS2, KSpecOKX Tryz.prog TabX s := fun s hs => by
 rcases List.mem_append.1 hs with h | h
 ·revert s
  exact fun s _ h => (show ∀ s ∈ [kdT2_51], KSpecOKX Tryz.prog TabX s from List.forall_mem_cons.2 ⟨kdT2_51_ok, fun _ h => nomatch h⟩) s h
 ·exact kdS1_ok s h
theorem awake16_run : evCall (envOf kdS2) 90 16 [] h0 = some (.bool true, h0) := by kernel_rfl
def awake16S : KSpec := ⟨16, fun | [] => some (.bool true) | _ => none⟩
theorem awake16S_f : awake16S.f = 16 := (rfl)
theorem awake16S_at : awake16S.S [] = some (.bool true) := (rfl)
theorem awake16S_ok : KSpecOKX Tryz.prog TabX awake16S := fun args v hv => by
 unfold awake16S at hv ⊢
 dsimp only at hv ⊢
 split at hv
 ·cases hv
  exact prim_of (envOf_okX kdS2_ok) awake16_run rfl rfl
 ·cases hv
end Go.Proofs.YtleeinkdkllcdaaGreatDoor
