import Derived.Test.YtlakiipofcibhaaGreatDoorKa
set_option linter.unusedVariables false
set_option linter.unusedSimpArgs false
set_option linter.unusedSectionVars false

namespace Go.Proofs.YtlakiipofcibhaaGreatDoor
open Go Sz

/-! Another environment: term.Items gives back what may be written. -/
def c35k : AFun := { c35 with keep := true }
def fnAtK (f : Nat) : Option AFun := if Nat.beq f 35 then some c35k else fnAt f
theorem fnAtK_ok (f : Nat) (F : AFun) (h : fnAtK f = some F) : FnOK Tryz.prog f F := by
  unfold fnAtK at h
  split at h
  · rename_i hb
    have := Nat.eq_of_beq_eq_true hb
    subst this
    cases h
    exact ok35
  · exact fnAt_ok f F h
noncomputable def envK (ss : List KSpec) : Env := mkEnv fnAtK (ss ++ clones)
theorem envK_okX {X : World → Prop} {ss : List KSpec} (hs : ∀ s ∈ ss, KSpecOKX Tryz.prog X s) : EnvOKX Tryz.prog X (envK ss) :=
  mkEnv_ok mixed fnAtK_ok fun s h => by
    rcases List.mem_append.1 h with h | h
    · exact hs s h
    · exact (clones_ok s h).lift
def ssI : List KSpec := [goodTS, sameS, compS, atomS, intS, varS, listS, indexByteS, hasPrefixS, trimPrefixS, trimS, parseS, goodOpS, findS, joinS, formatS]
theorem ssI_ok : ∀ s ∈ ssI, KSpecOKX Tryz.prog TabX s := by simp [ssI, goodTS_ok.lift, sameS_ok.lift, compS_ok.lift, atomS_ok.lift, intS_ok.lift, varS_ok.lift, listS_ok.lift, indexByteS_ok.lift, hasPrefixS_ok.lift, trimPrefixS_ok.lift, trimS_ok.lift, parseS_ok, goodOpS_ok.lift, findS_ok.lift, joinS_ok.lift, formatS_ok]
end Go.Proofs.YtlakiipofcibhaaGreatDoor

namespace Go.Proofs.YtlakiipofcibhaaGreatDoor
open Go Sz
set_option maxRecDepth 100000

/-! Constants of closed runs. -/
def ksV0 : AV := .agg [.sl [.agg [.str [58, 45], .str [120, 102, 120], .int .i64 1200], .agg [.str [59], .str [120, 102, 121], .int .i64 1100], .agg [.str [45, 62], .str [120, 102, 121], .int .i64 1050], .agg [.str [44], .str [120, 102, 121], .int .i64 1000], .agg [.str [92, 43], .str [102, 121], .int .i64 900], .agg [.str [61], .str [120, 102, 120], .int .i64 700], .agg [.str [92, 61], .str [120, 102, 120], .int .i64 700], .agg [.str [61, 61], .str [120, 102, 120], .int .i64 700], .agg [.str [92, 61, 61], .str [120, 102, 120], .int .i64 700], .agg [.str [64, 60], .str [120, 102, 120], .int .i64 700], .agg [.str [64, 62], .str [120, 102, 120], .int .i64 700], .agg [.str [64, 61, 60], .str [120, 102, 120], .int .i64 700], .agg [.str [64, 62, 61], .str [120, 102, 120], .int .i64 700], .agg [.str [61, 46, 46], .str [120, 102, 120], .int .i64 700], .agg [.str [105, 115], .str [120, 102, 120], .int .i64 700], .agg [.str [61, 58, 61], .str [120, 102, 120], .int .i64 700], .agg [.str [61, 92, 61], .str [120, 102, 120], .int .i64 700], .agg [.str [60], .str [120, 102, 120], .int .i64 700], .agg [.str [62], .str [120, 102, 120], .int .i64 700], .agg [.str [61, 60], .str [120, 102, 120], .int .i64 700], .agg [.str [62, 61], .str [120, 102, 120], .int .i64 700], .agg [.str [43], .str [121, 102, 120], .int .i64 500], .agg [.str [45], .str [121, 102, 120], .int .i64 500], .agg [.str [47, 92], .str [121, 102, 120], .int .i64 500], .agg [.str [92, 47], .str [121, 102, 120], .int .i64 500], .agg [.str [120, 111, 114], .str [121, 102, 120], .int .i64 500], .agg [.str [42], .str [121, 102, 120], .int .i64 400], .agg [.str [47, 47], .str [121, 102, 120], .int .i64 400], .agg [.str [109, 111, 100], .str [121, 102, 120], .int .i64 400], .agg [.str [114, 101, 109], .str [121, 102, 120], .int .i64 400], .agg [.str [62, 62], .str [121, 102, 120], .int .i64 400], .agg [.str [60, 60], .str [121, 102, 120], .int .i64 400], .agg [.str [94], .str [120, 102, 121], .int .i64 200], .agg [.str [45], .str [102, 121], .int .i64 200], .agg [.str [92], .str [102, 121], .int .i64 200]]]

end Go.Proofs.YtlakiipofcibhaaGreatDoor

namespace Go.Proofs.YtlakiipofcibhaaGreatDoor
open Go Sz
set_option maxRecDepth 100000

/-! Closed runs. -/
theorem kse1_0 : evCall (envK ssI) 90 14 [] h0 = some (ksV0, h0) := by kernel_rfl
theorem kse1_1 : evCall (envK ssI) 90 73 [.str [91, 98, 44, 97, 44, 98, 93, 32, 46]] h0 = some (.tuple [.sl [.agg [.int .i64 5, .str [91], .int .i64 0, .bool false, .int .i64 0], .agg [.int .i64 1, .str [98], .int .i64 0, .bool false, .int .i64 1], .agg [.int .i64 5, .str [44], .int .i64 0, .bool false, .int .i64 2], .agg [.int .i64 1, .str [97], .int .i64 0, .bool false, .int .i64 3], .agg [.int .i64 5, .str [44], .int .i64 0, .bool false, .int .i64 4], .agg [.int .i64 1, .str [98], .int .i64 0, .bool false, .int .i64 5], .agg [.int .i64 5, .str [93], .int .i64 0, .bool false, .int .i64 6], .agg [.int .i64 6, .str [], .int .i64 0, .bool false, .int .i64 8]], .int .i64 9, .int .i64 0], h0) := by kernel_rfl
theorem kse1_2 : evCall (envK ssI) 90 29 [.agg [.int .i64 2, .int .i64 0, .str [46], .sl [.agg [.int .i64 2, .int .i64 0, .str [98], .nils], .agg [.int .i64 2, .int .i64 0, .str [46], .sl [.agg [.int .i64 2, .int .i64 0, .str [97], .nils], .agg [.int .i64 2, .int .i64 0, .str [46], .sl [.agg [.int .i64 2, .int .i64 0, .str [98], .nils], .agg [.int .i64 2, .int .i64 0, .str [91, 93], .nils]]]]]]]] h0 = some (.tuple [.agg [.int .i64 2, .int .i64 0, .str [46], .sl [.agg [.int .i64 2, .int .i64 0, .str [97], .nils], .agg [.int .i64 2, .int .i64 0, .str [46], .sl [.agg [.int .i64 2, .int .i64 0, .str [98], .nils], .agg [.int .i64 2, .int .i64 0, .str [91, 93], .nils]]]]], .int .i64 0], h0) := by kernel_rfl

end Go.Proofs.YtlakiipofcibhaaGreatDoor

namespace Go.Proofs.YtlakiipofcibhaaGreatDoor
open Go Sz
set_option maxRecDepth 100000

/-! Closed runs. -/
theorem kse1_3 : evCall (envK ssI) 90 73 [.str [91, 97, 44, 98, 93, 32, 46]] h0 = some (.tuple [.sl [.agg [.int .i64 5, .str [91], .int .i64 0, .bool false, .int .i64 0], .agg [.int .i64 1, .str [97], .int .i64 0, .bool false, .int .i64 1], .agg [.int .i64 5, .str [44], .int .i64 0, .bool false, .int .i64 2], .agg [.int .i64 1, .str [98], .int .i64 0, .bool false, .int .i64 3], .agg [.int .i64 5, .str [93], .int .i64 0, .bool false, .int .i64 4], .agg [.int .i64 6, .str [], .int .i64 0, .bool false, .int .i64 6]], .int .i64 7, .int .i64 0], h0) := by kernel_rfl
theorem kse1_4 : evCall (envK ssI) 90 28 [.agg [.int .i64 2, .int .i64 0, .str [46], .sl [.agg [.int .i64 2, .int .i64 0, .str [98], .nils], .agg [.int .i64 2, .int .i64 0, .str [46], .sl [.agg [.int .i64 2, .int .i64 0, .str [97], .nils], .agg [.int .i64 2, .int .i64 0, .str [46], .sl [.agg [.int .i64 2, .int .i64 0, .str [98], .nils], .agg [.int .i64 2, .int .i64 0, .str [91, 93], .nils]]]]]]]] h0 = some (.tuple [.agg [.int .i64 2, .int .i64 0, .str [46], .sl [.agg [.int .i64 2, .int .i64 0, .str [97], .nils], .agg [.int .i64 2, .int .i64 0, .str [46], .sl [.agg [.int .i64 2, .int .i64 0, .str [98], .nils], .agg [.int .i64 2, .int .i64 0, .str [46], .sl [.agg [.int .i64 2, .int .i64 0, .str [98], .nils], .agg [.int .i64 2, .int .i64 0, .str [91, 93], .nils]]]]]]], .int .i64 0], h0) := by kernel_rfl

end Go.Proofs.YtlakiipofcibhaaGreatDoor

namespace Go.Proofs.YtlakiipofcibhaaGreatDoor
open Go Sz
set_option maxRecDepth 100000

/-! Closed runs. -/
theorem kse1_5 : evCall (envK ssI) 90 73 [.str [91, 50, 32, 45, 32, 97, 44, 32, 49, 32, 45, 32, 98, 44, 32, 50, 32, 45, 32, 39, 65, 39, 44, 32, 49, 32, 45, 32, 99, 93, 32, 46]] h0 = some (.tuple [.sl [.agg [.int .i64 5, .str [91], .int .i64 0, .bool false, .int .i64 0], .agg [.int .i64 4, .str [], .int .i64 2, .bool false, .int .i64 1], .agg [.int .i64 1, .str [45], .int .i64 0, .bool false, .int .i64 3], .agg [.int .i64 1, .str [97], .int .i64 0, .bool false, .int .i64 5], .agg [.int .i64 5, .str [44], .int .i64 0, .bool false, .int .i64 6], .agg [.int .i64 4, .str [], .int .i64 1, .bool false, .int .i64 8], .agg [.int .i64 1, .str [45], .int .i64 0, .bool false, .int .i64 10], .agg [.int .i64 1, .str [98], .int .i64 0, .bool false, .int .i64 12], .agg [.int .i64 5, .str [44], .int .i64 0, .bool false, .int .i64 13], .agg [.int .i64 4, .str [], .int .i64 2, .bool false, .int .i64 15], .agg [.int .i64 1, .str [45], .int .i64 0, .bool false, .int .i64 17], .agg [.int .i64 2, .str [65], .int .i64 0, .bool false, .int .i64 19], .agg [.int .i64 5, .str [44], .int .i64 0, .bool false, .int .i64 22], .agg [.int .i64 4, .str [], .int .i64 1, .bool false, .int .i64 24], .agg [.int .i64 1, .str [45], .int .i64 0, .bool false, .int .i64 26], .agg [.int .i64 1, .str [99], .int .i64 0, .bool false, .int .i64 28], .agg [.int .i64 5, .str [93], .int .i64 0, .bool false, .int .i64 29], .agg [.int .i64 6, .str [], .int .i64 0, .bool false, .int .i64 31]], .int .i64 32, .int .i64 0], h0) := by kernel_rfl

end Go.Proofs.YtlakiipofcibhaaGreatDoor

namespace Go.Proofs.YtlakiipofcibhaaGreatDoor
open Go Sz
set_option maxRecDepth 100000

/-! Closed runs. -/
theorem kse1_6 : evCall (envK ssI) 90 32 [.agg [.int .i64 2, .int .i64 0, .str [46], .sl [.agg [.int .i64 2, .int .i64 0, .str [45], .sl [.agg [.int .i64 1, .int .i64 2, .str [], .nils], .agg [.int .i64 2, .int .i64 0, .str [97], .nils]]], .agg [.int .i64 2, .int .i64 0, .str [46], .sl [.agg [.int .i64 2, .int .i64 0, .str [45], .sl [.agg [.int .i64 1, .int .i64 1, .str [], .nils], .agg [.int .i64 2, .int .i64 0, .str [98], .nils]]], .agg [.int .i64 2, .int .i64 0, .str [46], .sl [.agg [.int .i64 2, .int .i64 0, .str [45], .sl [.agg [.int .i64 1, .int .i64 2, .str [], .nils], .agg [.int .i64 2, .int .i64 0, .str [65], .nils]]], .agg [.int .i64 2, .int .i64 0, .str [46], .sl [.agg [.int .i64 2, .int .i64 0, .str [45], .sl [.agg [.int .i64 1, .int .i64 1, .str [], .nils], .agg [.int .i64 2, .int .i64 0, .str [99], .nils]]], .agg [.int .i64 2, .int .i64 0, .str [91, 93], .nils]]]]]]]]]] h0 = some (.tuple [.agg [.int .i64 2, .int .i64 0, .str [46], .sl [.agg [.int .i64 2, .int .i64 0, .str [45], .sl [.agg [.int .i64 1, .int .i64 1, .str [], .nils], .agg [.int .i64 2, .int .i64 0, .str [98], .nils]]], .agg [.int .i64 2, .int .i64 0, .str [46], .sl [.agg [.int .i64 2, .int .i64 0, .str [45], .sl [.agg [.int .i64 1, .int .i64 1, .str [], .nils], .agg [.int .i64 2, .int .i64 0, .str [99], .nils]]], .agg [.int .i64 2, .int .i64 0, .str [46], .sl [.agg [.int .i64 2, .int .i64 0, .str [45], .sl [.agg [.int .i64 1, .int .i64 2, .str [], .nils], .agg [.int .i64 2, .int .i64 0, .str [97], .nils]]], .agg [.int .i64 2, .int .i64 0, .str [46], .sl [.agg [.int .i64 2, .int .i64 0, .str [45], .sl [.agg [.int .i64 1, .int .i64 2, .str [], .nils], .agg [.int .i64 2, .int .i64 0, .str [65], .nils]]], .agg [.int .i64 2, .int .i64 0, .str [91, 93], .nils]]]]]]]]], .int .i64 0], h0) := by kernel_rfl

end Go.Proofs.YtlakiipofcibhaaGreatDoor

namespace Go.Proofs.YtlakiipofcibhaaGreatDoor
open Go Sz
set_option maxRecDepth 100000

/-! Closed runs. -/
theorem kse1_7 : evCall (envK ssI) 90 73 [.str [91, 49, 32, 45, 32, 97, 44, 32, 88, 44, 32, 51, 93, 32, 46]] h0 = some (.tuple [.sl [.agg [.int .i64 5, .str [91], .int .i64 0, .bool false, .int .i64 0], .agg [.int .i64 4, .str [], .int .i64 1, .bool false, .int .i64 1], .agg [.int .i64 1, .str [45], .int .i64 0, .bool false, .int .i64 3], .agg [.int .i64 1, .str [97], .int .i64 0, .bool false, .int .i64 5], .agg [.int .i64 5, .str [44], .int .i64 0, .bool false, .int .i64 6], .agg [.int .i64 3, .str [88], .int .i64 0, .bool false, .int .i64 8], .agg [.int .i64 5, .str [44], .int .i64 0, .bool false, .int .i64 9], .agg [.int .i64 4, .str [], .int .i64 3, .bool false, .int .i64 11], .agg [.int .i64 5, .str [93], .int .i64 0, .bool false, .int .i64 12], .agg [.int .i64 6, .str [], .int .i64 0, .bool false, .int .i64 14]], .int .i64 15, .int .i64 0], h0) := by kernel_rfl

end Go.Proofs.YtlakiipofcibhaaGreatDoor
