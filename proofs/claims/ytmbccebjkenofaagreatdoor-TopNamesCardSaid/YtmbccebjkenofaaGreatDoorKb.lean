import Derived.Test.YtmbccebjkenofaaGreatDoorKa
set_option linter.unusedVariables false
set_option linter.unusedSimpArgs false
set_option linter.unusedSectionVars false

namespace Go.Proofs.YtmbccebjkenofaaGreatDoor
open Go Sz
set_option maxRecDepth 100000
theorem kte1_43 : evCall (envOf ssA) 90 132 [.agg [.str [47, 92], .str [121, 102, 120], .int .i64 500]] h0 = some (.bool true, h0) := by kernel_rfl
theorem kte1_44 : evCall (envOf ssA) 90 132 [.agg [.str [92, 47], .str [121, 102, 120], .int .i64 500]] h0 = some (.bool true, h0) := by kernel_rfl
theorem kte1_45 : evCall (envOf ssA) 90 132 [.agg [.str [120, 111, 114], .str [121, 102, 120], .int .i64 500]] h0 = some (.bool true, h0) := by kernel_rfl
theorem kte1_46 : evCall (envOf ssA) 90 132 [.agg [.str [42], .str [121, 102, 120], .int .i64 400]] h0 = some (.bool true, h0) := by kernel_rfl
theorem kte1_47 : evCall (envOf ssA) 90 132 [.agg [.str [47, 47], .str [121, 102, 120], .int .i64 400]] h0 = some (.bool true, h0) := by kernel_rfl
theorem kte1_48 : evCall (envOf ssA) 90 132 [.agg [.str [109, 111, 100], .str [121, 102, 120], .int .i64 400]] h0 = some (.bool true, h0) := by kernel_rfl
theorem kte1_49 : evCall (envOf ssA) 90 132 [.agg [.str [114, 101, 109], .str [121, 102, 120], .int .i64 400]] h0 = some (.bool true, h0) := by kernel_rfl
theorem kte1_50 : evCall (envOf ssA) 90 132 [.agg [.str [62, 62], .str [121, 102, 120], .int .i64 400]] h0 = some (.bool true, h0) := by kernel_rfl
theorem kte1_51 : evCall (envOf ssA) 90 132 [.agg [.str [60, 60], .str [121, 102, 120], .int .i64 400]] h0 = some (.bool true, h0) := by kernel_rfl
theorem kte1_52 : evCall (envOf ssA) 90 132 [.agg [.str [94], .str [120, 102, 121], .int .i64 200]] h0 = some (.bool true, h0) := by kernel_rfl
theorem kte1_53 : evCall (envOf ssA) 90 132 [.agg [.str [45], .str [102, 121], .int .i64 200]] h0 = some (.bool true, h0) := by kernel_rfl
theorem kte1_54 : evCall (envOf ssA) 90 131 [.agg [.str [45], .str [121, 102, 120], .int .i64 500], .agg [.str [45], .str [102, 121], .int .i64 200]] h0 = some (.bool false, h0) := by kernel_rfl
theorem kte1_55 : evCall (envOf ssA) 90 132 [.agg [.str [92], .str [102, 121], .int .i64 200]] h0 = some (.bool true, h0) := by kernel_rfl
theorem kte1_56 : evCall (envOf ssA) 90 173 [.int .u8 112] h0 = some (.bool true, h0) := by kernel_rfl
theorem kte1_57 : evCall (envOf ssA) 90 173 [.int .u8 40] h0 = some (.bool false, h0) := by kernel_rfl
theorem kte1_58 : evCall (envOf ssA) 90 181 [.str [40, 49, 41, 46], .str [91, 93]] h0 = some (.bool false, h0) := by kernel_rfl
theorem kte1_59 : evCall (envOf ssA) 90 181 [.str [40, 49, 41, 46], .str [123, 125]] h0 = some (.bool false, h0) := by kernel_rfl
theorem kte1_60 : evCall (envOf ssA) 90 242 [.str [49], .str [45]] h0 = some (.str [49], h0) := by kernel_rfl
theorem kte1_61 : evCall (envOf ssA) 90 265 [.str [49], .int .i64 10, .int .i64 64] h0 = some (.tuple [.int .u64 1, .nili], h0) := by kernel_rfl
theorem kte1_62 : evCall (envOf ssA) 90 181 [.str [41, 46], .str [91, 93]] h0 = some (.bool false, h0) := by kernel_rfl
theorem kte1_63 : evCall (envOf ssA) 90 181 [.str [41, 46], .str [123, 125]] h0 = some (.bool false, h0) := by kernel_rfl
theorem kte1_64 : evCall (envOf ssA) 90 72 [.agg [.int .i64 2, .int .i64 0, .str [112], .sl [.agg [.int .i64 1, .int .i64 1, .str [], .nils]]]] h0 = some (.int .i64 2, h0) := by kernel_rfl
theorem kte1_65 : evCall (envOf ssA) 90 115 [.agg [.int .i64 2, .int .i64 0, .str [112], .sl [.agg [.int .i64 1, .int .i64 1, .str [], .nils]]], .int .i64 65] h0 = some (.int .i64 2, h0) := by kernel_rfl
theorem kte1_66 : evCall (envOf ssA) 90 90 [.agg [.int .i64 2, .int .i64 0, .str [112], .sl [.agg [.int .i64 1, .int .i64 1, .str [], .nils]]]] h0 = some (.bool false, h0) := by kernel_rfl
theorem kte1_67 : evCall (envOf ssA) 90 72 [.agg [.int .i64 2, .int .i64 0, .str [116, 114, 117, 101], .nils]] h0 = some (.int .i64 1, h0) := by kernel_rfl
theorem kte1_68 : evCall (envOf ssA) 90 116 [.str [116, 114, 117, 101]] h0 = some (.bool true, h0) := by kernel_rfl
theorem kte1_69 : evCall (envOf ssA) 90 139 [.agg [.int .i64 2, .int .i64 0, .str [116, 114, 117, 101], .nils]] h0 = some (.tuple [.nils, .int .i64 0], h0) := by kernel_rfl
theorem kte1_70 : evCall (envOf ssA) 90 29 [.str [97, 115, 107, 32, 112, 40, 88, 41, 46], .str [32]] h0 = some (.tuple [.str [97, 115, 107], .str [112, 40, 88, 41, 46], .bool true], h0) := by kernel_rfl
theorem kte1_71 : evCall (envOf ssA) 90 181 [.str [40, 88, 41, 46], .str [91, 93]] h0 = some (.bool false, h0) := by kernel_rfl
theorem kte1_72 : evCall (envOf ssA) 90 181 [.str [40, 88, 41, 46], .str [123, 125]] h0 = some (.bool false, h0) := by kernel_rfl
theorem kte1_73 : evCall (envOf ssA) 90 173 [.int .u8 88] h0 = some (.bool true, h0) := by kernel_rfl
theorem kte1_74 : evCall (envOf ssA) 90 173 [.int .u8 41] h0 = some (.bool false, h0) := by kernel_rfl
theorem kte1_75 : evCall (envOf ssA) 90 72 [.agg [.int .i64 2, .int .i64 0, .str [112], .sl [.agg [.int .i64 0, .int .i64 0, .str [], .nils]]]] h0 = some (.int .i64 2, h0) := by kernel_rfl
theorem kte1_76 : evCall (envOf ssA) 90 115 [.agg [.int .i64 2, .int .i64 0, .str [112], .sl [.agg [.int .i64 0, .int .i64 0, .str [], .nils]]], .int .i64 65] h0 = some (.int .i64 2, h0) := by kernel_rfl
theorem kte1_77 : evCall (envOf ssA) 90 75 [.agg [.int .i64 0, .int .i64 0, .str [], .nils]] h0 = some (.bool true, h0) := by kernel_rfl
theorem kte1_78 : evCall (envOf ssA) 90 139 [.agg [.int .i64 2, .int .i64 0, .str [112], .sl [.agg [.int .i64 0, .int .i64 0, .str [], .nils]]]] h0 = some (.tuple [.sl [.agg [.int .i64 1, .int .i64 2, .int .i64 0, .str [112], .sl [.agg [.int .i64 0, .int .i64 0, .str [], .nils]], .nils]], .int .i64 0], h0) := by kernel_rfl
theorem kte1_79 : evCall (envOf ssA) 90 249 [.agg [.int .u64 0, .int .u64 0], .int .u64 3] h0 = some (.agg [.int .u64 0, .int .u64 0], h0) := by kernel_rfl
theorem kte1_80 : evCall (envOf ssA) 90 99 [.agg [.int .i64 2, .int .i64 0, .str [112], .sl [.agg [.int .i64 1, .int .i64 1, .str [], .nils]]], .nilm] h0 = some (.agg [.int .i64 2, .int .i64 0, .str [112], .sl [.agg [.int .i64 1, .int .i64 1, .str [], .nils]]], h0) := by kernel_rfl
theorem kte1_81 : evCall (envOf ssA) 90 72 [.agg [.int .i64 1, .int .i64 1, .str [], .nils]] h0 = some (.int .i64 1, h0) := by kernel_rfl
theorem kte1_82 : evCall (envOf ssA) 90 74 [.agg [.int .i64 1, .int .i64 1, .str [], .nils], .fn 75 []] h0 = some (.bool true, h0) := by kernel_rfl
end Go.Proofs.YtmbccebjkenofaaGreatDoor

namespace Go.Proofs.YtmbccebjkenofaaGreatDoor
open Go Sz
set_option maxRecDepth 100000
def ktT1_43 : KSpec := .tab 43 [
 ([.str [97]], .bool true),
 ([.str [98]], .bool true)]
theorem ktT1_43_ok : KSpecOKX Tryz.prog (fun _ => True) ktT1_43 := KSpec.tab_ok (by
  have E := envOf_okX ssA_ok
  exact List.forall_mem_cons.2 ⟨prim_of E kte1_0 (by kernel_rfl) (by kernel_rfl), List.forall_mem_cons.2 ⟨prim_of E kte1_1 (by kernel_rfl) (by kernel_rfl), fun _ h => nomatch h⟩⟩)
def ktT1_72 : KSpec := .tab 72 [
 ([.agg [.int .i64 2, .int .i64 0, .str [112], .nils]], .int .i64 1),
 ([.agg [.int .i64 2, .int .i64 0, .str [113], .nils]], .int .i64 1),
 ([.agg [.int .i64 2, .int .i64 0, .str [114], .nils]], .int .i64 1),
 ([.agg [.int .i64 2, .int .i64 0, .str [115], .nils]], .int .i64 1),
 ([.agg [.int .i64 2, .int .i64 0, .str [116], .nils]], .int .i64 1),
 ([.agg [.int .i64 2, .int .i64 0, .str [97, 112, 112], .nils]], .int .i64 1),
 ([.agg [.int .i64 2, .int .i64 0, .str [112], .sl [.agg [.int .i64 1, .int .i64 1, .str [], .nils]]]], .int .i64 2),
 ([.agg [.int .i64 2, .int .i64 0, .str [116, 114, 117, 101], .nils]], .int .i64 1),
 ([.agg [.int .i64 2, .int .i64 0, .str [112], .sl [.agg [.int .i64 0, .int .i64 0, .str [], .nils]]]], .int .i64 2),
 ([.agg [.int .i64 1, .int .i64 1, .str [], .nils]], .int .i64 1)]
theorem ktT1_72_ok : KSpecOKX Tryz.prog (fun _ => True) ktT1_72 := KSpec.tab_ok (by
  have E := envOf_okX ssA_ok
  exact List.forall_mem_cons.2 ⟨prim_of E kte1_2 (by kernel_rfl) (by kernel_rfl), List.forall_mem_cons.2 ⟨prim_of E kte1_4 (by kernel_rfl) (by kernel_rfl), List.forall_mem_cons.2 ⟨prim_of E kte1_6 (by kernel_rfl) (by kernel_rfl), List.forall_mem_cons.2 ⟨prim_of E kte1_8 (by kernel_rfl) (by kernel_rfl), List.forall_mem_cons.2 ⟨prim_of E kte1_10 (by kernel_rfl) (by kernel_rfl), List.forall_mem_cons.2 ⟨prim_of E kte1_12 (by kernel_rfl) (by kernel_rfl), List.forall_mem_cons.2 ⟨prim_of E kte1_64 (by kernel_rfl) (by kernel_rfl), List.forall_mem_cons.2 ⟨prim_of E kte1_67 (by kernel_rfl) (by kernel_rfl), List.forall_mem_cons.2 ⟨prim_of E kte1_75 (by kernel_rfl) (by kernel_rfl), List.forall_mem_cons.2 ⟨prim_of E kte1_81 (by kernel_rfl) (by kernel_rfl), fun _ h => nomatch h⟩⟩⟩⟩⟩⟩⟩⟩⟩⟩)
def ktT1_116 : KSpec := .tab 116 [
 ([.str [112]], .bool true),
 ([.str [113]], .bool true),
 ([.str [114]], .bool true),
 ([.str [115]], .bool true),
 ([.str [116]], .bool true),
 ([.str [97, 112, 112]], .bool true),
 ([.str [116, 114, 117, 101]], .bool true)]
theorem ktT1_116_ok : KSpecOKX Tryz.prog (fun _ => True) ktT1_116 := KSpec.tab_ok (by
  have E := envOf_okX ssA_ok
  exact List.forall_mem_cons.2 ⟨prim_of E kte1_3 (by kernel_rfl) (by kernel_rfl), List.forall_mem_cons.2 ⟨prim_of E kte1_5 (by kernel_rfl) (by kernel_rfl), List.forall_mem_cons.2 ⟨prim_of E kte1_7 (by kernel_rfl) (by kernel_rfl), List.forall_mem_cons.2 ⟨prim_of E kte1_9 (by kernel_rfl) (by kernel_rfl), List.forall_mem_cons.2 ⟨prim_of E kte1_11 (by kernel_rfl) (by kernel_rfl), List.forall_mem_cons.2 ⟨prim_of E kte1_13 (by kernel_rfl) (by kernel_rfl), List.forall_mem_cons.2 ⟨prim_of E kte1_68 (by kernel_rfl) (by kernel_rfl), fun _ h => nomatch h⟩⟩⟩⟩⟩⟩⟩)
def ktT1_83 : KSpec := .tab 83 [
 ([.int .i64 1, .int .i64 10], .str [49]),
 ([.int .i64 2, .int .i64 10], .str [50]),
 ([.int .i64 0, .int .i64 10], .str [48]),
 ([.int .i64 3, .int .i64 10], .str [51])]
theorem ktT1_83_ok : KSpecOKX Tryz.prog (fun _ => True) ktT1_83 := KSpec.tab_ok (by
  have E := envOf_okX ssA_ok
  exact List.forall_mem_cons.2 ⟨prim_of E kte1_14 (by kernel_rfl) (by kernel_rfl), List.forall_mem_cons.2 ⟨prim_of E kte1_15 (by kernel_rfl) (by kernel_rfl), List.forall_mem_cons.2 ⟨prim_of E kte1_16 (by kernel_rfl) (by kernel_rfl), List.forall_mem_cons.2 ⟨prim_of E kte1_17 (by kernel_rfl) (by kernel_rfl), fun _ h => nomatch h⟩⟩⟩⟩)
def ktT1_44 : KSpec := .tab 44 [
 ([.sl [.str [97]], .str [98]], .bool false)]
theorem ktT1_44_ok : KSpecOKX Tryz.prog (fun _ => True) ktT1_44 := KSpec.tab_ok (by
  have E := envOf_okX ssA_ok
  exact List.forall_mem_cons.2 ⟨prim_of E kte1_18 (by kernel_rfl) (by kernel_rfl), fun _ h => nomatch h⟩)
def ktT1_28 : KSpec := .tab 28 [
 ([], ktV0)]
theorem ktT1_28_ok : KSpecOKX Tryz.prog (fun _ => True) ktT1_28 := KSpec.tab_ok (by
  have E := envOf_okX ssA_ok
  exact List.forall_mem_cons.2 ⟨prim_of E kte1_19 (by kernel_rfl) (by kernel_rfl), fun _ h => nomatch h⟩)
def ktT1_29 : KSpec := .tab 29 [
 ([.str [99, 111, 110, 115, 117, 108, 116, 32, 112, 40, 49, 41, 46], .str [32]], .tuple [.str [99, 111, 110, 115, 117, 108, 116], .str [112, 40, 49, 41, 46], .bool true]),
 ([.str [97, 115, 107, 32, 112, 40, 88, 41, 46], .str [32]], .tuple [.str [97, 115, 107], .str [112, 40, 88, 41, 46], .bool true])]
theorem ktT1_29_ok : KSpecOKX Tryz.prog (fun _ => True) ktT1_29 := KSpec.tab_ok (by
  have E := envOf_okX ssA_ok
  exact List.forall_mem_cons.2 ⟨prim_of E kte1_20 (by kernel_rfl) (by kernel_rfl), List.forall_mem_cons.2 ⟨prim_of E kte1_70 (by kernel_rfl) (by kernel_rfl), fun _ h => nomatch h⟩⟩)
def ktT1_132 : KSpec := .tab 132 [
 ([.agg [.str [58, 45], .str [120, 102, 120], .int .i64 1200]], .bool true),
 ([.agg [.str [59], .str [120, 102, 121], .int .i64 1100]], .bool true),
 ([.agg [.str [45, 62], .str [120, 102, 121], .int .i64 1050]], .bool true),
 ([.agg [.str [92, 43], .str [102, 121], .int .i64 900]], .bool true),
 ([.agg [.str [61], .str [120, 102, 120], .int .i64 700]], .bool true),
 ([.agg [.str [92, 61], .str [120, 102, 120], .int .i64 700]], .bool true),
 ([.agg [.str [61, 61], .str [120, 102, 120], .int .i64 700]], .bool true),
 ([.agg [.str [92, 61, 61], .str [120, 102, 120], .int .i64 700]], .bool true),
 ([.agg [.str [64, 60], .str [120, 102, 120], .int .i64 700]], .bool true),
 ([.agg [.str [64, 62], .str [120, 102, 120], .int .i64 700]], .bool true),
 ([.agg [.str [64, 61, 60], .str [120, 102, 120], .int .i64 700]], .bool true),
 ([.agg [.str [64, 62, 61], .str [120, 102, 120], .int .i64 700]], .bool true),
 ([.agg [.str [61, 46, 46], .str [120, 102, 120], .int .i64 700]], .bool true),
 ([.agg [.str [105, 115], .str [120, 102, 120], .int .i64 700]], .bool true),
 ([.agg [.str [61, 58, 61], .str [120, 102, 120], .int .i64 700]], .bool true),
 ([.agg [.str [61, 92, 61], .str [120, 102, 120], .int .i64 700]], .bool true),
 ([.agg [.str [60], .str [120, 102, 120], .int .i64 700]], .bool true),
 ([.agg [.str [62], .str [120, 102, 120], .int .i64 700]], .bool true),
 ([.agg [.str [61, 60], .str [120, 102, 120], .int .i64 700]], .bool true),
 ([.agg [.str [62, 61], .str [120, 102, 120], .int .i64 700]], .bool true),
 ([.agg [.str [43], .str [121, 102, 120], .int .i64 500]], .bool true),
 ([.agg [.str [45], .str [121, 102, 120], .int .i64 500]], .bool true),
 ([.agg [.str [47, 92], .str [121, 102, 120], .int .i64 500]], .bool true),
 ([.agg [.str [92, 47], .str [121, 102, 120], .int .i64 500]], .bool true),
 ([.agg [.str [120, 111, 114], .str [121, 102, 120], .int .i64 500]], .bool true),
 ([.agg [.str [42], .str [121, 102, 120], .int .i64 400]], .bool true),
 ([.agg [.str [47, 47], .str [121, 102, 120], .int .i64 400]], .bool true),
 ([.agg [.str [109, 111, 100], .str [121, 102, 120], .int .i64 400]], .bool true),
 ([.agg [.str [114, 101, 109], .str [121, 102, 120], .int .i64 400]], .bool true),
 ([.agg [.str [62, 62], .str [121, 102, 120], .int .i64 400]], .bool true),
 ([.agg [.str [60, 60], .str [121, 102, 120], .int .i64 400]], .bool true),
 ([.agg [.str [94], .str [120, 102, 121], .int .i64 200]], .bool true),
 ([.agg [.str [45], .str [102, 121], .int .i64 200]], .bool true),
 ([.agg [.str [92], .str [102, 121], .int .i64 200]], .bool true)]
theorem ktT1_132_ok : KSpecOKX Tryz.prog (fun _ => True) ktT1_132 := KSpec.tab_ok (by
  have E := envOf_okX ssA_ok
  exact List.forall_mem_cons.2 ⟨prim_of E kte1_21 (by kernel_rfl) (by kernel_rfl), List.forall_mem_cons.2 ⟨prim_of E kte1_22 (by kernel_rfl) (by kernel_rfl), List.forall_mem_cons.2 ⟨prim_of E kte1_23 (by kernel_rfl) (by kernel_rfl), List.forall_mem_cons.2 ⟨prim_of E kte1_24 (by kernel_rfl) (by kernel_rfl), List.forall_mem_cons.2 ⟨prim_of E kte1_25 (by kernel_rfl) (by kernel_rfl), List.forall_mem_cons.2 ⟨prim_of E kte1_26 (by kernel_rfl) (by kernel_rfl), List.forall_mem_cons.2 ⟨prim_of E kte1_27 (by kernel_rfl) (by kernel_rfl), List.forall_mem_cons.2 ⟨prim_of E kte1_28 (by kernel_rfl) (by kernel_rfl), List.forall_mem_cons.2 ⟨prim_of E kte1_29 (by kernel_rfl) (by kernel_rfl), List.forall_mem_cons.2 ⟨prim_of E kte1_30 (by kernel_rfl) (by kernel_rfl), List.forall_mem_cons.2 ⟨prim_of E kte1_31 (by kernel_rfl) (by kernel_rfl), List.forall_mem_cons.2 ⟨prim_of E kte1_32 (by kernel_rfl) (by kernel_rfl), List.forall_mem_cons.2 ⟨prim_of E kte1_33 (by kernel_rfl) (by kernel_rfl), List.forall_mem_cons.2 ⟨prim_of E kte1_34 (by kernel_rfl) (by kernel_rfl), List.forall_mem_cons.2 ⟨prim_of E kte1_35 (by kernel_rfl) (by kernel_rfl), List.forall_mem_cons.2 ⟨prim_of E kte1_36 (by kernel_rfl) (by kernel_rfl), List.forall_mem_cons.2 ⟨prim_of E kte1_37 (by kernel_rfl) (by kernel_rfl), List.forall_mem_cons.2 ⟨prim_of E kte1_38 (by kernel_rfl) (by kernel_rfl), List.forall_mem_cons.2 ⟨prim_of E kte1_39 (by kernel_rfl) (by kernel_rfl), List.forall_mem_cons.2 ⟨prim_of E kte1_40 (by kernel_rfl) (by kernel_rfl), List.forall_mem_cons.2 ⟨prim_of E kte1_41 (by kernel_rfl) (by kernel_rfl), List.forall_mem_cons.2 ⟨prim_of E kte1_42 (by kernel_rfl) (by kernel_rfl), List.forall_mem_cons.2 ⟨prim_of E kte1_43 (by kernel_rfl) (by kernel_rfl), List.forall_mem_cons.2 ⟨prim_of E kte1_44 (by kernel_rfl) (by kernel_rfl), List.forall_mem_cons.2 ⟨prim_of E kte1_45 (by kernel_rfl) (by kernel_rfl), List.forall_mem_cons.2 ⟨prim_of E kte1_46 (by kernel_rfl) (by kernel_rfl), List.forall_mem_cons.2 ⟨prim_of E kte1_47 (by kernel_rfl) (by kernel_rfl), List.forall_mem_cons.2 ⟨prim_of E kte1_48 (by kernel_rfl) (by kernel_rfl), List.forall_mem_cons.2 ⟨prim_of E kte1_49 (by kernel_rfl) (by kernel_rfl), List.forall_mem_cons.2 ⟨prim_of E kte1_50 (by kernel_rfl) (by kernel_rfl), List.forall_mem_cons.2 ⟨prim_of E kte1_51 (by kernel_rfl) (by kernel_rfl), List.forall_mem_cons.2 ⟨prim_of E kte1_52 (by kernel_rfl) (by kernel_rfl), List.forall_mem_cons.2 ⟨prim_of E kte1_53 (by kernel_rfl) (by kernel_rfl), List.forall_mem_cons.2 ⟨prim_of E kte1_55 (by kernel_rfl) (by kernel_rfl), fun _ h => nomatch h⟩⟩⟩⟩⟩⟩⟩⟩⟩⟩⟩⟩⟩⟩⟩⟩⟩⟩⟩⟩⟩⟩⟩⟩⟩⟩⟩⟩⟩⟩⟩⟩⟩⟩)
def ktT1_131 : KSpec := .tab 131 [
 ([.agg [.str [45], .str [121, 102, 120], .int .i64 500], .agg [.str [45], .str [102, 121], .int .i64 200]], .bool false)]
theorem ktT1_131_ok : KSpecOKX Tryz.prog (fun _ => True) ktT1_131 := KSpec.tab_ok (by
  have E := envOf_okX ssA_ok
  exact List.forall_mem_cons.2 ⟨prim_of E kte1_54 (by kernel_rfl) (by kernel_rfl), fun _ h => nomatch h⟩)
def ktT1_173 : KSpec := .tab 173 [
 ([.int .u8 112], .bool true),
 ([.int .u8 40], .bool false),
 ([.int .u8 88], .bool true),
 ([.int .u8 41], .bool false)]
theorem ktT1_173_ok : KSpecOKX Tryz.prog (fun _ => True) ktT1_173 := KSpec.tab_ok (by
  have E := envOf_okX ssA_ok
  exact List.forall_mem_cons.2 ⟨prim_of E kte1_56 (by kernel_rfl) (by kernel_rfl), List.forall_mem_cons.2 ⟨prim_of E kte1_57 (by kernel_rfl) (by kernel_rfl), List.forall_mem_cons.2 ⟨prim_of E kte1_73 (by kernel_rfl) (by kernel_rfl), List.forall_mem_cons.2 ⟨prim_of E kte1_74 (by kernel_rfl) (by kernel_rfl), fun _ h => nomatch h⟩⟩⟩⟩)
def ktT1_181 : KSpec := .tab 181 [
 ([.str [40, 49, 41, 46], .str [91, 93]], .bool false),
 ([.str [40, 49, 41, 46], .str [123, 125]], .bool false),
 ([.str [41, 46], .str [91, 93]], .bool false),
 ([.str [41, 46], .str [123, 125]], .bool false),
 ([.str [40, 88, 41, 46], .str [91, 93]], .bool false),
 ([.str [40, 88, 41, 46], .str [123, 125]], .bool false)]
theorem ktT1_181_ok : KSpecOKX Tryz.prog (fun _ => True) ktT1_181 := KSpec.tab_ok (by
  have E := envOf_okX ssA_ok
  exact List.forall_mem_cons.2 ⟨prim_of E kte1_58 (by kernel_rfl) (by kernel_rfl), List.forall_mem_cons.2 ⟨prim_of E kte1_59 (by kernel_rfl) (by kernel_rfl), List.forall_mem_cons.2 ⟨prim_of E kte1_62 (by kernel_rfl) (by kernel_rfl), List.forall_mem_cons.2 ⟨prim_of E kte1_63 (by kernel_rfl) (by kernel_rfl), List.forall_mem_cons.2 ⟨prim_of E kte1_71 (by kernel_rfl) (by kernel_rfl), List.forall_mem_cons.2 ⟨prim_of E kte1_72 (by kernel_rfl) (by kernel_rfl), fun _ h => nomatch h⟩⟩⟩⟩⟩⟩)
def ktT1_242 : KSpec := .tab 242 [
 ([.str [49], .str [45]], .str [49])]
theorem ktT1_242_ok : KSpecOKX Tryz.prog (fun _ => True) ktT1_242 := KSpec.tab_ok (by
  have E := envOf_okX ssA_ok
  exact List.forall_mem_cons.2 ⟨prim_of E kte1_60 (by kernel_rfl) (by kernel_rfl), fun _ h => nomatch h⟩)
def ktT1_265 : KSpec := .tab 265 [
 ([.str [49], .int .i64 10, .int .i64 64], .tuple [.int .u64 1, .nili])]
theorem ktT1_265_ok : KSpecOKX Tryz.prog (fun _ => True) ktT1_265 := KSpec.tab_ok (by
  have E := envOf_okX ssA_ok
  exact List.forall_mem_cons.2 ⟨prim_of E kte1_61 (by kernel_rfl) (by kernel_rfl), fun _ h => nomatch h⟩)
def ktT1_115 : KSpec := .tab 115 [
 ([.agg [.int .i64 2, .int .i64 0, .str [112], .sl [.agg [.int .i64 1, .int .i64 1, .str [], .nils]]], .int .i64 65], .int .i64 2),
 ([.agg [.int .i64 2, .int .i64 0, .str [112], .sl [.agg [.int .i64 0, .int .i64 0, .str [], .nils]]], .int .i64 65], .int .i64 2)]
theorem ktT1_115_ok : KSpecOKX Tryz.prog (fun _ => True) ktT1_115 := KSpec.tab_ok (by
  have E := envOf_okX ssA_ok
  exact List.forall_mem_cons.2 ⟨prim_of E kte1_65 (by kernel_rfl) (by kernel_rfl), List.forall_mem_cons.2 ⟨prim_of E kte1_76 (by kernel_rfl) (by kernel_rfl), fun _ h => nomatch h⟩⟩)
def ktT1_90 : KSpec := .tab 90 [
 ([.agg [.int .i64 2, .int .i64 0, .str [112], .sl [.agg [.int .i64 1, .int .i64 1, .str [], .nils]]]], .bool false)]
theorem ktT1_90_ok : KSpecOKX Tryz.prog (fun _ => True) ktT1_90 := KSpec.tab_ok (by
  have E := envOf_okX ssA_ok
  exact List.forall_mem_cons.2 ⟨prim_of E kte1_66 (by kernel_rfl) (by kernel_rfl), fun _ h => nomatch h⟩)
def ktT1_139 : KSpec := .tab 139 [
 ([.agg [.int .i64 2, .int .i64 0, .str [116, 114, 117, 101], .nils]], .tuple [.nils, .int .i64 0]),
 ([.agg [.int .i64 2, .int .i64 0, .str [112], .sl [.agg [.int .i64 0, .int .i64 0, .str [], .nils]]]], .tuple [.sl [.agg [.int .i64 1, .int .i64 2, .int .i64 0, .str [112], .sl [.agg [.int .i64 0, .int .i64 0, .str [], .nils]], .nils]], .int .i64 0])]
theorem ktT1_139_ok : KSpecOKX Tryz.prog (fun _ => True) ktT1_139 := KSpec.tab_ok (by
  have E := envOf_okX ssA_ok
  exact List.forall_mem_cons.2 ⟨prim_of E kte1_69 (by kernel_rfl) (by kernel_rfl), List.forall_mem_cons.2 ⟨prim_of E kte1_78 (by kernel_rfl) (by kernel_rfl), fun _ h => nomatch h⟩⟩)
def ktT1_75 : KSpec := .tab 75 [
 ([.agg [.int .i64 0, .int .i64 0, .str [], .nils]], .bool true)]
theorem ktT1_75_ok : KSpecOKX Tryz.prog (fun _ => True) ktT1_75 := KSpec.tab_ok (by
  have E := envOf_okX ssA_ok
  exact List.forall_mem_cons.2 ⟨prim_of E kte1_77 (by kernel_rfl) (by kernel_rfl), fun _ h => nomatch h⟩)
def ktT1_249 : KSpec := .tab 249 [
 ([.agg [.int .u64 0, .int .u64 0], .int .u64 3], .agg [.int .u64 0, .int .u64 0])]
theorem ktT1_249_ok : KSpecOKX Tryz.prog (fun _ => True) ktT1_249 := KSpec.tab_ok (by
  have E := envOf_okX ssA_ok
  exact List.forall_mem_cons.2 ⟨prim_of E kte1_79 (by kernel_rfl) (by kernel_rfl), fun _ h => nomatch h⟩)
def ktT1_99 : KSpec := .tab 99 [
 ([.agg [.int .i64 2, .int .i64 0, .str [112], .sl [.agg [.int .i64 1, .int .i64 1, .str [], .nils]]], .nilm], .agg [.int .i64 2, .int .i64 0, .str [112], .sl [.agg [.int .i64 1, .int .i64 1, .str [], .nils]]])]
theorem ktT1_99_ok : KSpecOKX Tryz.prog (fun _ => True) ktT1_99 := KSpec.tab_ok (by
  have E := envOf_okX ssA_ok
  exact List.forall_mem_cons.2 ⟨prim_of E kte1_80 (by kernel_rfl) (by kernel_rfl), fun _ h => nomatch h⟩)
def ktT1_74 : KSpec := .tab 74 [
 ([.agg [.int .i64 1, .int .i64 1, .str [], .nils], .fn 75 []], .bool true)]
theorem ktT1_74_ok : KSpecOKX Tryz.prog (fun _ => True) ktT1_74 := KSpec.tab_ok (by
  have E := envOf_okX ssA_ok
  exact List.forall_mem_cons.2 ⟨prim_of E kte1_82 (by kernel_rfl) (by kernel_rfl), fun _ h => nomatch h⟩)
def ktS1 : List KSpec := [ktT1_43, ktT1_72, ktT1_116, ktT1_83, ktT1_44, ktT1_28, ktT1_29, ktT1_132, ktT1_131, ktT1_173, ktT1_181, ktT1_242, ktT1_265, ktT1_115, ktT1_90, ktT1_139, ktT1_75, ktT1_249, ktT1_99, ktT1_74] ++ ssA
theorem ktS1_ok : ∀ s ∈ ktS1, KSpecOKX Tryz.prog (fun _ => True) s := fun s hs => by
  rcases List.mem_append.1 hs with h | h
  · revert s
    exact fun s _ h => (show ∀ s ∈ [ktT1_43, ktT1_72, ktT1_116, ktT1_83, ktT1_44, ktT1_28, ktT1_29, ktT1_132, ktT1_131, ktT1_173, ktT1_181, ktT1_242, ktT1_265, ktT1_115, ktT1_90, ktT1_139, ktT1_75, ktT1_249, ktT1_99, ktT1_74], KSpecOKX Tryz.prog (fun _ => True) s from List.forall_mem_cons.2 ⟨ktT1_43_ok, List.forall_mem_cons.2 ⟨ktT1_72_ok, List.forall_mem_cons.2 ⟨ktT1_116_ok, List.forall_mem_cons.2 ⟨ktT1_83_ok, List.forall_mem_cons.2 ⟨ktT1_44_ok, List.forall_mem_cons.2 ⟨ktT1_28_ok, List.forall_mem_cons.2 ⟨ktT1_29_ok, List.forall_mem_cons.2 ⟨ktT1_132_ok, List.forall_mem_cons.2 ⟨ktT1_131_ok, List.forall_mem_cons.2 ⟨ktT1_173_ok, List.forall_mem_cons.2 ⟨ktT1_181_ok, List.forall_mem_cons.2 ⟨ktT1_242_ok, List.forall_mem_cons.2 ⟨ktT1_265_ok, List.forall_mem_cons.2 ⟨ktT1_115_ok, List.forall_mem_cons.2 ⟨ktT1_90_ok, List.forall_mem_cons.2 ⟨ktT1_139_ok, List.forall_mem_cons.2 ⟨ktT1_75_ok, List.forall_mem_cons.2 ⟨ktT1_249_ok, List.forall_mem_cons.2 ⟨ktT1_99_ok, List.forall_mem_cons.2 ⟨ktT1_74_ok, fun _ h => nomatch h⟩⟩⟩⟩⟩⟩⟩⟩⟩⟩⟩⟩⟩⟩⟩⟩⟩⟩⟩⟩) s h
  · exact ssA_ok s h
end Go.Proofs.YtmbccebjkenofaaGreatDoor
