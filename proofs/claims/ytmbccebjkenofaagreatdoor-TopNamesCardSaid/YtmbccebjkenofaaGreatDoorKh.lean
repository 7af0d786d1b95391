import Derived.Test.YtmbccebjkenofaaGreatDoorKe
import Derived.Test.YtmbccebjkenofaaGreatDoorKf
import Derived.Test.YtmbccebjkenofaaGreatDoorKg
import Derived.Test.YtmbccebjkenofaaGreatDoorKc
set_option linter.unusedVariables false
set_option linter.unusedSimpArgs false
set_option linter.unusedSectionVars false

namespace Go.Proofs.YtmbccebjkenofaaGreatDoor
open Go Sz
set_option maxRecDepth 100000
theorem kte2_13 : evCall (envOf ktS1) 90 84 [ktV0] h0 = some (.bool true, h0) :=
  mach_run (F := c84) (s0 := kxas0) (s := kxas7) (by kernel_rfl) (by kernel_rfl) (by kernel_rfl) (((((((runM_ok kxap1).trans (runM_ok kxap2)).trans (runM_ok kxap3)).trans (runM_ok kxap4)).trans (runM_ok kxap5)).trans (runM_ok kxap6)).trans (runM_ok kxap7)) (by unfold kxas7; rfl) (by kernel_rfl)
end Go.Proofs.YtmbccebjkenofaaGreatDoor

namespace Go.Proofs.YtmbccebjkenofaaGreatDoor
open Go Sz
set_option maxRecDepth 100000
def ktT2_75 : KSpec := .tab 75 [
 ([.agg [.int .i64 2, .int .i64 0, .str [112], .nils]], .bool true),
 ([.agg [.int .i64 2, .int .i64 0, .str [113], .nils]], .bool true),
 ([.agg [.int .i64 2, .int .i64 0, .str [114], .nils]], .bool true),
 ([.agg [.int .i64 2, .int .i64 0, .str [115], .nils]], .bool true),
 ([.agg [.int .i64 2, .int .i64 0, .str [116], .nils]], .bool true),
 ([.agg [.int .i64 2, .int .i64 0, .str [97, 112, 112], .nils]], .bool true),
 ([.agg [.int .i64 2, .int .i64 0, .str [112], .sl [.agg [.int .i64 1, .int .i64 1, .str [], .nils]]]], .bool true),
 ([.agg [.int .i64 2, .int .i64 0, .str [116, 114, 117, 101], .nils]], .bool true),
 ([.agg [.int .i64 2, .int .i64 0, .str [112], .sl [.agg [.int .i64 0, .int .i64 0, .str [], .nils]]]], .bool true)]
theorem ktT2_75_ok : KSpecOKX Tryz.prog (fun _ => True) ktT2_75 := KSpec.tab_ok (by
  have E := envOf_okX ktS1_ok
  exact List.forall_mem_cons.2 ⟨prim_of E kte2_0 (by kernel_rfl) (by kernel_rfl), List.forall_mem_cons.2 ⟨prim_of E kte2_1 (by kernel_rfl) (by kernel_rfl), List.forall_mem_cons.2 ⟨prim_of E kte2_2 (by kernel_rfl) (by kernel_rfl), List.forall_mem_cons.2 ⟨prim_of E kte2_3 (by kernel_rfl) (by kernel_rfl), List.forall_mem_cons.2 ⟨prim_of E kte2_4 (by kernel_rfl) (by kernel_rfl), List.forall_mem_cons.2 ⟨prim_of E kte2_5 (by kernel_rfl) (by kernel_rfl), List.forall_mem_cons.2 ⟨prim_of E kte2_15 (by kernel_rfl) (by kernel_rfl), List.forall_mem_cons.2 ⟨prim_of E kte2_16 (by kernel_rfl) (by kernel_rfl), List.forall_mem_cons.2 ⟨prim_of E kte2_18 (by kernel_rfl) (by kernel_rfl), fun _ h => nomatch h⟩⟩⟩⟩⟩⟩⟩⟩⟩)
def ktT2_19 : KSpec := .tab 19 [
 ([.str [112], .int .i64 1], .bool false),
 ([.str [113], .int .i64 2], .bool false),
 ([.str [114], .int .i64 0], .bool false),
 ([.str [115], .int .i64 1], .bool false),
 ([.str [116], .int .i64 1], .bool false),
 ([.str [97, 112, 112], .int .i64 3], .bool false)]
theorem ktT2_19_ok : KSpecOKX Tryz.prog (fun _ => True) ktT2_19 := KSpec.tab_ok (by
  have E := envOf_okX ktS1_ok
  exact List.forall_mem_cons.2 ⟨prim_of E kte2_6 (by kernel_rfl) (by kernel_rfl), List.forall_mem_cons.2 ⟨prim_of E kte2_7 (by kernel_rfl) (by kernel_rfl), List.forall_mem_cons.2 ⟨prim_of E kte2_8 (by kernel_rfl) (by kernel_rfl), List.forall_mem_cons.2 ⟨prim_of E kte2_9 (by kernel_rfl) (by kernel_rfl), List.forall_mem_cons.2 ⟨prim_of E kte2_10 (by kernel_rfl) (by kernel_rfl), List.forall_mem_cons.2 ⟨prim_of E kte2_11 (by kernel_rfl) (by kernel_rfl), fun _ h => nomatch h⟩⟩⟩⟩⟩⟩)
def ktT2_20 : KSpec := .tab 20 [
 ([.sl [.str [97], .str [98]]], .bool true)]
theorem ktT2_20_ok : KSpecOKX Tryz.prog (fun _ => True) ktT2_20 := KSpec.tab_ok (by
  have E := envOf_okX ktS1_ok
  exact List.forall_mem_cons.2 ⟨prim_of E kte2_12 (by kernel_rfl) (by kernel_rfl), fun _ h => nomatch h⟩)
def ktT2_84 : KSpec := .tab 84 [
 ([ktV0], .bool true)]
theorem ktT2_84_ok : KSpecOKX Tryz.prog (fun _ => True) ktT2_84 := KSpec.tab_ok (by
  have E := envOf_okX ktS1_ok
  exact List.forall_mem_cons.2 ⟨prim_of E kte2_13 (by kernel_rfl) (by kernel_rfl), fun _ h => nomatch h⟩)
def ktT2_243 : KSpec := .tab 243 [
 ([.str [49], .int .i64 10, .int .i64 64], .tuple [.int .i64 1, .nili])]
theorem ktT2_243_ok : KSpecOKX Tryz.prog (fun _ => True) ktT2_243 := KSpec.tab_ok (by
  have E := envOf_okX ktS1_ok
  exact List.forall_mem_cons.2 ⟨prim_of E kte2_14 (by kernel_rfl) (by kernel_rfl), fun _ h => nomatch h⟩)
def ktT2_85 : KSpec := .tab 85 [
 ([.str [112, 40, 88, 41, 46]], .tuple [.sl [.agg [.int .i64 1, .str [112], .int .i64 0, .bool true, .int .i64 0], .agg [.int .i64 5, .str [40], .int .i64 0, .bool false, .int .i64 1], .agg [.int .i64 3, .str [88], .int .i64 0, .bool false, .int .i64 2], .agg [.int .i64 5, .str [41], .int .i64 0, .bool false, .int .i64 3], .agg [.int .i64 6, .str [], .int .i64 0, .bool false, .int .i64 4]], .int .i64 5, .int .i64 0])]
theorem ktT2_85_ok : KSpecOKX Tryz.prog (fun _ => True) ktT2_85 := KSpec.tab_ok (by
  have E := envOf_okX ktS1_ok
  exact List.forall_mem_cons.2 ⟨prim_of E kte2_17 (by kernel_rfl) (by kernel_rfl), fun _ h => nomatch h⟩)
def ktT2_109 : KSpec := .tab 109 [
 ([.agg [.int .i64 1, .int .u64 0, .int .i64 2, .int .i64 0, .str [112], .sl [.agg [.int .i64 1, .int .i64 1, .str [], .nils]], .int .i64 2, .int .i64 0, .str [116, 114, 117, 101], .nils]], .agg [.int .i64 1, .int .u64 0, .int .i64 2, .int .i64 0, .str [112], .sl [.agg [.int .i64 1, .int .i64 1, .str [], .nils]], .int .i64 2, .int .i64 0, .str [116, 114, 117, 101], .nils])]
theorem ktT2_109_ok : KSpecOKX Tryz.prog (fun _ => True) ktT2_109 := KSpec.tab_ok (by
  have E := envOf_okX ktS1_ok
  exact List.forall_mem_cons.2 ⟨prim_of E kte2_19 (by kernel_rfl) (by kernel_rfl), fun _ h => nomatch h⟩)
def ktT2_40 : KSpec := .tab 40 [
 ([.agg [.int .i64 1, .int .i64 1, .str [], .nils]], .bool true)]
theorem ktT2_40_ok : KSpecOKX Tryz.prog (fun _ => True) ktT2_40 := KSpec.tab_ok (by
  have E := envOf_okX ktS1_ok
  exact List.forall_mem_cons.2 ⟨prim_of E kte2_20 (by kernel_rfl) (by kernel_rfl), fun _ h => nomatch h⟩)
def ktS2 : List KSpec := [ktT2_75, ktT2_19, ktT2_20, ktT2_84, ktT2_243, ktT2_85, ktT2_109, ktT2_40] ++ ktS1
theorem ktS2_ok : ∀ s ∈ ktS2, KSpecOKX Tryz.prog (fun _ => True) s := fun s hs => by
  rcases List.mem_append.1 hs with h | h
  · revert s
    exact fun s _ h => (show ∀ s ∈ [ktT2_75, ktT2_19, ktT2_20, ktT2_84, ktT2_243, ktT2_85, ktT2_109, ktT2_40], KSpecOKX Tryz.prog (fun _ => True) s from List.forall_mem_cons.2 ⟨ktT2_75_ok, List.forall_mem_cons.2 ⟨ktT2_19_ok, List.forall_mem_cons.2 ⟨ktT2_20_ok, List.forall_mem_cons.2 ⟨ktT2_84_ok, List.forall_mem_cons.2 ⟨ktT2_243_ok, List.forall_mem_cons.2 ⟨ktT2_85_ok, List.forall_mem_cons.2 ⟨ktT2_109_ok, List.forall_mem_cons.2 ⟨ktT2_40_ok, fun _ h => nomatch h⟩⟩⟩⟩⟩⟩⟩⟩) s h
  · exact ktS1_ok s h
end Go.Proofs.YtmbccebjkenofaaGreatDoor

namespace Go.Proofs.YtmbccebjkenofaaGreatDoor
open Go Sz
set_option maxRecDepth 100000
theorem kte3_0 : evCall (envOf ktS2) 90 74 [.agg [.int .i64 2, .int .i64 0, .str [112], .nils], .fn 75 []] h0 = some (.bool true, h0) := by kernel_rfl
theorem kte3_1 : evCall (envOf ktS2) 90 74 [.agg [.int .i64 2, .int .i64 0, .str [113], .nils], .fn 75 []] h0 = some (.bool true, h0) := by kernel_rfl
theorem kte3_2 : evCall (envOf ktS2) 90 74 [.agg [.int .i64 2, .int .i64 0, .str [114], .nils], .fn 75 []] h0 = some (.bool true, h0) := by kernel_rfl
theorem kte3_3 : evCall (envOf ktS2) 90 74 [.agg [.int .i64 2, .int .i64 0, .str [115], .nils], .fn 75 []] h0 = some (.bool true, h0) := by kernel_rfl
theorem kte3_4 : evCall (envOf ktS2) 90 74 [.agg [.int .i64 2, .int .i64 0, .str [116], .nils], .fn 75 []] h0 = some (.bool true, h0) := by kernel_rfl
theorem kte3_5 : evCall (envOf ktS2) 90 74 [.agg [.int .i64 2, .int .i64 0, .str [97, 112, 112], .nils], .fn 75 []] h0 = some (.bool true, h0) := by kernel_rfl
theorem kte3_6 : evCall (envOf ktS2) 90 45 [.sl [.agg [.str [112], .int .i64 1, .int .u64 3, .bool false], .agg [.str [113], .int .i64 2, .int .u64 3, .bool true], .agg [.str [114], .int .i64 0, .int .u64 1, .bool true], .agg [.str [115], .int .i64 1, .int .u64 0, .bool true], .agg [.str [116], .int .i64 1, .int .u64 2, .bool true], .agg [.str [97, 112, 112], .int .i64 3, .int .u64 3, .bool false]], .fn 18 []] h0 = some (.int .i64 (-1), h0) := by kernel_rfl
theorem kte3_7 : evCall (envOf ktS2) 90 25 [.sl [.str [97], .str [98]], .int .u64 0] h0 = some (.bool true, h0) := by kernel_rfl
theorem kte3_8 : evCall (envOf ktS2) 90 176 [.str [49]] h0 = some (.tuple [.int .i64 1, .int .i64 0], h0) := by kernel_rfl
theorem kte3_9 : evCall (envOf ktS2) 90 74 [.agg [.int .i64 2, .int .i64 0, .str [112], .sl [.agg [.int .i64 1, .int .i64 1, .str [], .nils]]], .fn 75 []] h0 = some (.bool true, h0) := by kernel_rfl
theorem kte3_10 : evCall (envOf ktS2) 90 74 [.agg [.int .i64 2, .int .i64 0, .str [116, 114, 117, 101], .nils], .fn 75 []] h0 = some (.bool true, h0) := by kernel_rfl
theorem kte3_11 : evCall (envOf ktS2) 90 74 [.agg [.int .i64 2, .int .i64 0, .str [112], .sl [.agg [.int .i64 0, .int .i64 0, .str [], .nils]]], .fn 75 []] h0 = some (.bool true, h0) := by kernel_rfl
theorem kte3_12 : evCall (envOf ktS2) 90 63 [.agg [.int .i64 1, .int .i64 1, .str [], .nils]] h0 = some (.nils, h0) := by kernel_rfl
end Go.Proofs.YtmbccebjkenofaaGreatDoor

namespace Go.Proofs.YtmbccebjkenofaaGreatDoor
open Go Sz
set_option maxRecDepth 100000
def ktT3_74 : KSpec := .tab 74 [
 ([.agg [.int .i64 2, .int .i64 0, .str [112], .nils], .fn 75 []], .bool true),
 ([.agg [.int .i64 2, .int .i64 0, .str [113], .nils], .fn 75 []], .bool true),
 ([.agg [.int .i64 2, .int .i64 0, .str [114], .nils], .fn 75 []], .bool true),
 ([.agg [.int .i64 2, .int .i64 0, .str [115], .nils], .fn 75 []], .bool true),
 ([.agg [.int .i64 2, .int .i64 0, .str [116], .nils], .fn 75 []], .bool true),
 ([.agg [.int .i64 2, .int .i64 0, .str [97, 112, 112], .nils], .fn 75 []], .bool true),
 ([.agg [.int .i64 2, .int .i64 0, .str [112], .sl [.agg [.int .i64 1, .int .i64 1, .str [], .nils]]], .fn 75 []], .bool true),
 ([.agg [.int .i64 2, .int .i64 0, .str [116, 114, 117, 101], .nils], .fn 75 []], .bool true),
 ([.agg [.int .i64 2, .int .i64 0, .str [112], .sl [.agg [.int .i64 0, .int .i64 0, .str [], .nils]]], .fn 75 []], .bool true)]
theorem ktT3_74_ok : KSpecOKX Tryz.prog (fun _ => True) ktT3_74 := KSpec.tab_ok (by
  have E := envOf_okX ktS2_ok
  exact List.forall_mem_cons.2 ⟨prim_of E kte3_0 (by kernel_rfl) (by kernel_rfl), List.forall_mem_cons.2 ⟨prim_of E kte3_1 (by kernel_rfl) (by kernel_rfl), List.forall_mem_cons.2 ⟨prim_of E kte3_2 (by kernel_rfl) (by kernel_rfl), List.forall_mem_cons.2 ⟨prim_of E kte3_3 (by kernel_rfl) (by kernel_rfl), List.forall_mem_cons.2 ⟨prim_of E kte3_4 (by kernel_rfl) (by kernel_rfl), List.forall_mem_cons.2 ⟨prim_of E kte3_5 (by kernel_rfl) (by kernel_rfl), List.forall_mem_cons.2 ⟨prim_of E kte3_9 (by kernel_rfl) (by kernel_rfl), List.forall_mem_cons.2 ⟨prim_of E kte3_10 (by kernel_rfl) (by kernel_rfl), List.forall_mem_cons.2 ⟨prim_of E kte3_11 (by kernel_rfl) (by kernel_rfl), fun _ h => nomatch h⟩⟩⟩⟩⟩⟩⟩⟩⟩)
def ktT3_45 : KSpec := .tab 45 [
 ([.sl [.agg [.str [112], .int .i64 1, .int .u64 3, .bool false], .agg [.str [113], .int .i64 2, .int .u64 3, .bool true], .agg [.str [114], .int .i64 0, .int .u64 1, .bool true], .agg [.str [115], .int .i64 1, .int .u64 0, .bool true], .agg [.str [116], .int .i64 1, .int .u64 2, .bool true], .agg [.str [97, 112, 112], .int .i64 3, .int .u64 3, .bool false]], .fn 18 []], .int .i64 (-1))]
theorem ktT3_45_ok : KSpecOKX Tryz.prog (fun _ => True) ktT3_45 := KSpec.tab_ok (by
  have E := envOf_okX ktS2_ok
  exact List.forall_mem_cons.2 ⟨prim_of E kte3_6 (by kernel_rfl) (by kernel_rfl), fun _ h => nomatch h⟩)
def ktT3_25 : KSpec := .tab 25 [
 ([.sl [.str [97], .str [98]], .int .u64 0], .bool true)]
theorem ktT3_25_ok : KSpecOKX Tryz.prog (fun _ => True) ktT3_25 := KSpec.tab_ok (by
  have E := envOf_okX ktS2_ok
  exact List.forall_mem_cons.2 ⟨prim_of E kte3_7 (by kernel_rfl) (by kernel_rfl), fun _ h => nomatch h⟩)
def ktT3_176 : KSpec := .tab 176 [
 ([.str [49]], .tuple [.int .i64 1, .int .i64 0])]
theorem ktT3_176_ok : KSpecOKX Tryz.prog (fun _ => True) ktT3_176 := KSpec.tab_ok (by
  have E := envOf_okX ktS2_ok
  exact List.forall_mem_cons.2 ⟨prim_of E kte3_8 (by kernel_rfl) (by kernel_rfl), fun _ h => nomatch h⟩)
def ktT3_63 : KSpec := .tab 63 [
 ([.agg [.int .i64 1, .int .i64 1, .str [], .nils]], .nils)]
theorem ktT3_63_ok : KSpecOKX Tryz.prog (fun _ => True) ktT3_63 := KSpec.tab_ok (by
  have E := envOf_okX ktS2_ok
  exact List.forall_mem_cons.2 ⟨prim_of E kte3_12 (by kernel_rfl) (by kernel_rfl), fun _ h => nomatch h⟩)
def ktS3 : List KSpec := [ktT3_74, ktT3_45, ktT3_25, ktT3_176, ktT3_63] ++ ktS2
theorem ktS3_ok : ∀ s ∈ ktS3, KSpecOKX Tryz.prog (fun _ => True) s := fun s hs => by
  rcases List.mem_append.1 hs with h | h
  · revert s
    exact fun s _ h => (show ∀ s ∈ [ktT3_74, ktT3_45, ktT3_25, ktT3_176, ktT3_63], KSpecOKX Tryz.prog (fun _ => True) s from List.forall_mem_cons.2 ⟨ktT3_74_ok, List.forall_mem_cons.2 ⟨ktT3_45_ok, List.forall_mem_cons.2 ⟨ktT3_25_ok, List.forall_mem_cons.2 ⟨ktT3_176_ok, List.forall_mem_cons.2 ⟨ktT3_63_ok, fun _ h => nomatch h⟩⟩⟩⟩⟩) s h
  · exact ktS2_ok s h
end Go.Proofs.YtmbccebjkenofaaGreatDoor

namespace Go.Proofs.YtmbccebjkenofaaGreatDoor
open Go Sz
set_option maxRecDepth 100000
theorem kte4_0 : evCall (envOf ktS3) 90 40 [.agg [.int .i64 2, .int .i64 0, .str [112], .nils]] h0 = some (.bool true, h0) := by kernel_rfl
theorem kte4_1 : evCall (envOf ktS3) 90 40 [.agg [.int .i64 2, .int .i64 0, .str [113], .nils]] h0 = some (.bool true, h0) := by kernel_rfl
theorem kte4_2 : evCall (envOf ktS3) 90 40 [.agg [.int .i64 2, .int .i64 0, .str [114], .nils]] h0 = some (.bool true, h0) := by kernel_rfl
theorem kte4_3 : evCall (envOf ktS3) 90 40 [.agg [.int .i64 2, .int .i64 0, .str [115], .nils]] h0 = some (.bool true, h0) := by kernel_rfl
theorem kte4_4 : evCall (envOf ktS3) 90 40 [.agg [.int .i64 2, .int .i64 0, .str [116], .nils]] h0 = some (.bool true, h0) := by kernel_rfl
theorem kte4_5 : evCall (envOf ktS3) 90 40 [.agg [.int .i64 2, .int .i64 0, .str [97, 112, 112], .nils]] h0 = some (.bool true, h0) := by kernel_rfl
theorem kte4_6 : evCall (envOf ktS3) 90 85 [.str [112, 40, 49, 41, 46]] h0 = some (.tuple [.sl [.agg [.int .i64 1, .str [112], .int .i64 0, .bool true, .int .i64 0], .agg [.int .i64 5, .str [40], .int .i64 0, .bool false, .int .i64 1], .agg [.int .i64 4, .str [], .int .i64 1, .bool false, .int .i64 2], .agg [.int .i64 5, .str [41], .int .i64 0, .bool false, .int .i64 3], .agg [.int .i64 6, .str [], .int .i64 0, .bool false, .int .i64 4]], .int .i64 5, .int .i64 0], h0) := by kernel_rfl
theorem kte4_7 : evCall (envOf ktS3) 90 40 [.agg [.int .i64 2, .int .i64 0, .str [112], .sl [.agg [.int .i64 1, .int .i64 1, .str [], .nils]]]] h0 = some (.bool true, h0) := by kernel_rfl
theorem kte4_8 : evCall (envOf ktS3) 90 40 [.agg [.int .i64 2, .int .i64 0, .str [116, 114, 117, 101], .nils]] h0 = some (.bool true, h0) := by kernel_rfl
theorem kte4_9 : evCall (envOf ktS3) 90 40 [.agg [.int .i64 2, .int .i64 0, .str [112], .sl [.agg [.int .i64 0, .int .i64 0, .str [], .nils]]]] h0 = some (.bool true, h0) := by kernel_rfl
end Go.Proofs.YtmbccebjkenofaaGreatDoor

namespace Go.Proofs.YtmbccebjkenofaaGreatDoor
open Go Sz
set_option maxRecDepth 100000
def ktT4_40 : KSpec := .tab 40 [
 ([.agg [.int .i64 2, .int .i64 0, .str [112], .nils]], .bool true),
 ([.agg [.int .i64 2, .int .i64 0, .str [113], .nils]], .bool true),
 ([.agg [.int .i64 2, .int .i64 0, .str [114], .nils]], .bool true),
 ([.agg [.int .i64 2, .int .i64 0, .str [115], .nils]], .bool true),
 ([.agg [.int .i64 2, .int .i64 0, .str [116], .nils]], .bool true),
 ([.agg [.int .i64 2, .int .i64 0, .str [97, 112, 112], .nils]], .bool true),
 ([.agg [.int .i64 2, .int .i64 0, .str [112], .sl [.agg [.int .i64 1, .int .i64 1, .str [], .nils]]]], .bool true),
 ([.agg [.int .i64 2, .int .i64 0, .str [116, 114, 117, 101], .nils]], .bool true),
 ([.agg [.int .i64 2, .int .i64 0, .str [112], .sl [.agg [.int .i64 0, .int .i64 0, .str [], .nils]]]], .bool true)]
theorem ktT4_40_ok : KSpecOKX Tryz.prog (fun _ => True) ktT4_40 := KSpec.tab_ok (by
  have E := envOf_okX ktS3_ok
  exact List.forall_mem_cons.2 ⟨prim_of E kte4_0 (by kernel_rfl) (by kernel_rfl), List.forall_mem_cons.2 ⟨prim_of E kte4_1 (by kernel_rfl) (by kernel_rfl), List.forall_mem_cons.2 ⟨prim_of E kte4_2 (by kernel_rfl) (by kernel_rfl), List.forall_mem_cons.2 ⟨prim_of E kte4_3 (by kernel_rfl) (by kernel_rfl), List.forall_mem_cons.2 ⟨prim_of E kte4_4 (by kernel_rfl) (by kernel_rfl), List.forall_mem_cons.2 ⟨prim_of E kte4_5 (by kernel_rfl) (by kernel_rfl), List.forall_mem_cons.2 ⟨prim_of E kte4_7 (by kernel_rfl) (by kernel_rfl), List.forall_mem_cons.2 ⟨prim_of E kte4_8 (by kernel_rfl) (by kernel_rfl), List.forall_mem_cons.2 ⟨prim_of E kte4_9 (by kernel_rfl) (by kernel_rfl), fun _ h => nomatch h⟩⟩⟩⟩⟩⟩⟩⟩⟩)
def ktT4_85 : KSpec := .tab 85 [
 ([.str [112, 40, 49, 41, 46]], .tuple [.sl [.agg [.int .i64 1, .str [112], .int .i64 0, .bool true, .int .i64 0], .agg [.int .i64 5, .str [40], .int .i64 0, .bool false, .int .i64 1], .agg [.int .i64 4, .str [], .int .i64 1, .bool false, .int .i64 2], .agg [.int .i64 5, .str [41], .int .i64 0, .bool false, .int .i64 3], .agg [.int .i64 6, .str [], .int .i64 0, .bool false, .int .i64 4]], .int .i64 5, .int .i64 0])]
theorem ktT4_85_ok : KSpecOKX Tryz.prog (fun _ => True) ktT4_85 := KSpec.tab_ok (by
  have E := envOf_okX ktS3_ok
  exact List.forall_mem_cons.2 ⟨prim_of E kte4_6 (by kernel_rfl) (by kernel_rfl), fun _ h => nomatch h⟩)
def ktS4 : List KSpec := [ktT4_40, ktT4_85] ++ ktS3
theorem ktS4_ok : ∀ s ∈ ktS4, KSpecOKX Tryz.prog (fun _ => True) s := fun s hs => by
  rcases List.mem_append.1 hs with h | h
  · revert s
    exact fun s _ h => (show ∀ s ∈ [ktT4_40, ktT4_85], KSpecOKX Tryz.prog (fun _ => True) s from List.forall_mem_cons.2 ⟨ktT4_40_ok, List.forall_mem_cons.2 ⟨ktT4_85_ok, fun _ h => nomatch h⟩⟩) s h
  · exact ktS3_ok s h
end Go.Proofs.YtmbccebjkenofaaGreatDoor
