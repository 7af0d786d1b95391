import Derived.Test.YtmbccebjkenofaaGreatDoorKh
set_option linter.unusedVariables false
set_option linter.unusedSimpArgs false
set_option linter.unusedSectionVars false

namespace Go.Proofs.YtmbccebjkenofaaGreatDoor
open Go Sz
set_option maxRecDepth 100000
theorem kte5_0 : evCall (envOf ktS4) 90 31 [ktV0, .str [112, 40, 49, 41, 46]] h0 = some (.tuple [.sl [.agg [.int .i64 2, .int .i64 0, .str [112], .sl [.agg [.int .i64 1, .int .i64 1, .str [], .nils]]]], .int .i64 0], h0) := by kernel_rfl
theorem kte5_1 : evCall (envOf ktS4) 90 54 [.agg [.int .i64 2, .int .i64 0, .str [112], .sl [.agg [.int .i64 1, .int .i64 1, .str [], .nils]]]] h0 = some (.tuple [.agg [.int .i64 2, .int .i64 0, .str [112], .sl [.agg [.int .i64 1, .int .i64 1, .str [], .nils]]], .agg [.int .i64 2, .int .i64 0, .str [116, 114, 117, 101], .nils], .int .i64 0], h0) := by kernel_rfl
theorem kte5_2 : evCall (envOf ktS4) 90 63 [.agg [.int .i64 2, .int .i64 0, .str [112], .sl [.agg [.int .i64 1, .int .i64 1, .str [], .nils]]]] h0 = some (.nils, h0) := by kernel_rfl
theorem kte5_3 : evCall (envOf ktS4) 90 59 [ktV0, .str [112, 40, 88, 41, 46]] h0 = some (.tuple [.agg [.int .i64 2, .int .i64 0, .str [112], .sl [.agg [.int .i64 0, .int .i64 0, .str [], .nils]]], .sl [.agg [.str [88], .int .i64 0]], .int .i64 0], h0) := by kernel_rfl
theorem kte5_4 : evCall (envOf ktS4) 90 63 [.agg [.int .i64 2, .int .i64 0, .str [112], .sl [.agg [.int .i64 0, .int .i64 0, .str [], .nils]]]] h0 = some (.sl [.int .i64 0], h0) := by kernel_rfl
theorem kte5_5 : evCall (envOf ktS4) 90 274 [.agg [.int .i64 2, .int .i64 0, .str [112], .sl [.agg [.int .i64 0, .int .i64 0, .str [], .nils]]]] h0 = some (.agg [.int .i64 0, .int .i64 0, .str [], .int .i64 0], h0) := by kernel_rfl
theorem kte5_6 : evCall (envOf ktS4) 90 274 [.agg [.int .i64 2, .int .i64 0, .str [112], .sl [.agg [.int .i64 1, .int .i64 1, .str [], .nils]]]] h0 = some (.agg [.int .i64 1, .int .i64 1, .str [], .int .i64 0], h0) := by kernel_rfl
theorem kte5_7 : evCall (envOf ktS4) 90 63 [.agg [.int .i64 2, .int .i64 0, .str [116, 114, 117, 101], .nils]] h0 = some (.nils, h0) := by kernel_rfl
end Go.Proofs.YtmbccebjkenofaaGreatDoor

namespace Go.Proofs.YtmbccebjkenofaaGreatDoor
open Go Sz
set_option maxRecDepth 100000
def ktT5_31 : KSpec := .tab 31 [
 ([ktV0, .str [112, 40, 49, 41, 46]], .tuple [.sl [.agg [.int .i64 2, .int .i64 0, .str [112], .sl [.agg [.int .i64 1, .int .i64 1, .str [], .nils]]]], .int .i64 0])]
theorem ktT5_31_ok : KSpecOKX Tryz.prog (fun _ => True) ktT5_31 := KSpec.tab_ok (by
  have E := envOf_okX ktS4_ok
  exact List.forall_mem_cons.2 ⟨prim_of E kte5_0 (by kernel_rfl) (by kernel_rfl), fun _ h => nomatch h⟩)
def ktT5_54 : KSpec := .tab 54 [
 ([.agg [.int .i64 2, .int .i64 0, .str [112], .sl [.agg [.int .i64 1, .int .i64 1, .str [], .nils]]]], .tuple [.agg [.int .i64 2, .int .i64 0, .str [112], .sl [.agg [.int .i64 1, .int .i64 1, .str [], .nils]]], .agg [.int .i64 2, .int .i64 0, .str [116, 114, 117, 101], .nils], .int .i64 0])]
theorem ktT5_54_ok : KSpecOKX Tryz.prog (fun _ => True) ktT5_54 := KSpec.tab_ok (by
  have E := envOf_okX ktS4_ok
  exact List.forall_mem_cons.2 ⟨prim_of E kte5_1 (by kernel_rfl) (by kernel_rfl), fun _ h => nomatch h⟩)
def ktT5_63 : KSpec := .tab 63 [
 ([.agg [.int .i64 2, .int .i64 0, .str [112], .sl [.agg [.int .i64 1, .int .i64 1, .str [], .nils]]]], .nils),
 ([.agg [.int .i64 2, .int .i64 0, .str [112], .sl [.agg [.int .i64 0, .int .i64 0, .str [], .nils]]]], .sl [.int .i64 0]),
 ([.agg [.int .i64 2, .int .i64 0, .str [116, 114, 117, 101], .nils]], .nils)]
theorem ktT5_63_ok : KSpecOKX Tryz.prog (fun _ => True) ktT5_63 := KSpec.tab_ok (by
  have E := envOf_okX ktS4_ok
  exact List.forall_mem_cons.2 ⟨prim_of E kte5_2 (by kernel_rfl) (by kernel_rfl), List.forall_mem_cons.2 ⟨prim_of E kte5_4 (by kernel_rfl) (by kernel_rfl), List.forall_mem_cons.2 ⟨prim_of E kte5_7 (by kernel_rfl) (by kernel_rfl), fun _ h => nomatch h⟩⟩⟩)
def ktT5_59 : KSpec := .tab 59 [
 ([ktV0, .str [112, 40, 88, 41, 46]], .tuple [.agg [.int .i64 2, .int .i64 0, .str [112], .sl [.agg [.int .i64 0, .int .i64 0, .str [], .nils]]], .sl [.agg [.str [88], .int .i64 0]], .int .i64 0])]
theorem ktT5_59_ok : KSpecOKX Tryz.prog (fun _ => True) ktT5_59 := KSpec.tab_ok (by
  have E := envOf_okX ktS4_ok
  exact List.forall_mem_cons.2 ⟨prim_of E kte5_3 (by kernel_rfl) (by kernel_rfl), fun _ h => nomatch h⟩)
def ktT5_274 : KSpec := .tab 274 [
 ([.agg [.int .i64 2, .int .i64 0, .str [112], .sl [.agg [.int .i64 0, .int .i64 0, .str [], .nils]]]], .agg [.int .i64 0, .int .i64 0, .str [], .int .i64 0]),
 ([.agg [.int .i64 2, .int .i64 0, .str [112], .sl [.agg [.int .i64 1, .int .i64 1, .str [], .nils]]]], .agg [.int .i64 1, .int .i64 1, .str [], .int .i64 0])]
theorem ktT5_274_ok : KSpecOKX Tryz.prog (fun _ => True) ktT5_274 := KSpec.tab_ok (by
  have E := envOf_okX ktS4_ok
  exact List.forall_mem_cons.2 ⟨prim_of E kte5_5 (by kernel_rfl) (by kernel_rfl), List.forall_mem_cons.2 ⟨prim_of E kte5_6 (by kernel_rfl) (by kernel_rfl), fun _ h => nomatch h⟩⟩)
def ktS5 : List KSpec := [ktT5_31, ktT5_54, ktT5_63, ktT5_59, ktT5_274] ++ ktS4
theorem ktS5_ok : ∀ s ∈ ktS5, KSpecOKX Tryz.prog (fun _ => True) s := fun s hs => by
  rcases List.mem_append.1 hs with h | h
  · revert s
    exact fun s _ h => (show ∀ s ∈ [ktT5_31, ktT5_54, ktT5_63, ktT5_59, ktT5_274], KSpecOKX Tryz.prog (fun _ => True) s from List.forall_mem_cons.2 ⟨ktT5_31_ok, List.forall_mem_cons.2 ⟨ktT5_54_ok, List.forall_mem_cons.2 ⟨ktT5_63_ok, List.forall_mem_cons.2 ⟨ktT5_59_ok, List.forall_mem_cons.2 ⟨ktT5_274_ok, fun _ h => nomatch h⟩⟩⟩⟩⟩) s h
  · exact ktS4_ok s h
end Go.Proofs.YtmbccebjkenofaaGreatDoor

namespace Go.Proofs.YtmbccebjkenofaaGreatDoor
open Go Sz
set_option maxRecDepth 100000
theorem kte6_0 : evCall (envOf ktS5) 90 92 [.agg [.int .i64 2, .int .i64 0, .str [112], .sl [.agg [.int .i64 1, .int .i64 1, .str [], .nils]]], .int .i64 0] h0 = some (.tuple [.agg [.int .i64 2, .int .i64 0, .str [112], .sl [.agg [.int .i64 1, .int .i64 1, .str [], .nils]]], .int .i64 0, .int .i64 0], h0) := by kernel_rfl
theorem kte6_1 : evCall (envOf ktS5) 90 92 [.agg [.int .i64 2, .int .i64 0, .str [112], .sl [.agg [.int .i64 0, .int .i64 0, .str [], .nils]]], .int .i64 0] h0 = some (.tuple [.agg [.int .i64 2, .int .i64 0, .str [112], .sl [.agg [.int .i64 0, .int .i64 0, .str [], .nils]]], .int .i64 1, .int .i64 0], h0) := by kernel_rfl
end Go.Proofs.YtmbccebjkenofaaGreatDoor

namespace Go.Proofs.YtmbccebjkenofaaGreatDoor
open Go Sz
set_option maxRecDepth 100000
def ktT6_92 : KSpec := .tab 92 [
 ([.agg [.int .i64 2, .int .i64 0, .str [112], .sl [.agg [.int .i64 1, .int .i64 1, .str [], .nils]]], .int .i64 0], .tuple [.agg [.int .i64 2, .int .i64 0, .str [112], .sl [.agg [.int .i64 1, .int .i64 1, .str [], .nils]]], .int .i64 0, .int .i64 0]),
 ([.agg [.int .i64 2, .int .i64 0, .str [112], .sl [.agg [.int .i64 0, .int .i64 0, .str [], .nils]]], .int .i64 0], .tuple [.agg [.int .i64 2, .int .i64 0, .str [112], .sl [.agg [.int .i64 0, .int .i64 0, .str [], .nils]]], .int .i64 1, .int .i64 0])]
theorem ktT6_92_ok : KSpecOKX Tryz.prog (fun _ => True) ktT6_92 := KSpec.tab_ok (by
  have E := envOf_okX ktS5_ok
  exact List.forall_mem_cons.2 ⟨prim_of E kte6_0 (by kernel_rfl) (by kernel_rfl), List.forall_mem_cons.2 ⟨prim_of E kte6_1 (by kernel_rfl) (by kernel_rfl), fun _ h => nomatch h⟩⟩)
def ktS6 : List KSpec := [ktT6_92] ++ ktS5
theorem ktS6_ok : ∀ s ∈ ktS6, KSpecOKX Tryz.prog (fun _ => True) s := fun s hs => by
  rcases List.mem_append.1 hs with h | h
  · revert s
    exact fun s _ h => (show ∀ s ∈ [ktT6_92], KSpecOKX Tryz.prog (fun _ => True) s from List.forall_mem_cons.2 ⟨ktT6_92_ok, fun _ h => nomatch h⟩) s h
  · exact ktS5_ok s h
end Go.Proofs.YtmbccebjkenofaaGreatDoor
