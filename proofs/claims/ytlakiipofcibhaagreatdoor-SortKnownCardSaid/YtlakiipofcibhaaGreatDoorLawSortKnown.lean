/- Proved: sizarlaw23.SortKnown answers true. Conditions: none beyond the row. -/
import Derived.Test.YtlakiipofcibhaaGreatDoorKse
import Derived.Test.YtlakiipofcibhaaGreatDoorTy
import Derived.Test.YtlakiipofcibhaaGreatDoorArg
import Derived.Test.YtlakiipofcibhaaGreatDoorRows
import Derived.ProofKit
import Derived.Test.YtlakiipofcibhaaGreatDoorCards
import Derived.Test.YtlakiipofcibhaaGreatDoorTie
import Derived.Deep.DeepHandedRow
import Derived.Lay
import Derived.OpenShut
set_option linter.unusedVariables false
set_option linter.unusedSimpArgs false
set_option linter.unusedSectionVars false

namespace Go.Proofs.YtlakiipofcibhaaGreatDoor
open Go Sz

theorem sortKnown_prim : PrimOKX Tryz.prog TabX 8 [] (.bool true) := prim_of (envK_okX ksS2_ok) kse3_0 rfl rfl
theorem sortKnown_lawX {H : Type} (ds : List (DataW H)) (h : HasTys Tryz.prog Tryz.f8.params.toList (ds.map avOf)) (_ : (DataW.weightsEach Tryz.prog Tryz.f8.params.toList ds).all (· ≤ reachBytes) = true) : PrimOKX Tryz.prog TabX 8 (ds.map avOf) (.bool true) := by
  generalize ds.map avOf = avs at h
  rw [Tryz.params8] at h
  cases h
  exact sortKnown_prim
end Go.Proofs.YtlakiipofcibhaaGreatDoor

namespace Go.Proofs.YtlakiipofcibhaaGreatDoor
open Go Sz Go.ChangeShapes Go.WideShapes Go.ChangeAt Go.RowKit

noncomputable def sortKnownWorld (os : Os) : World := World.laidAll Tryz.prog os Rows.sortKnownRow.laid
theorem sortKnown_met (os : Os) : laidMetH Tryz.prog Rows.sortKnownRow.laid ((sortKnownWorld os).forCall (fun _ _ => 0) ⟨#[], #[], []⟩).memory := by
  rw [MakeChecks.laidMetH_plain _ _ _ (by kernel_rfl)]
  exact laidMet_laidAll _ (by kernel_rfl) (by kernel_rfl)
theorem sortKnown_reads (os : Os) {H : Type} (enc : TypeId × Value → H) : ∃ places, DataW.whole enc Tryz.prog ((sortKnownWorld os).forCall (fun _ _ => 0) ⟨#[], #[], []⟩).memory Tryz.f8.params.toList Rows.sortKnownSpec.vars false (#[] : Array Value).toList 8 = some ([], [], places) :=
  ⟨[], by kernel_rfl⟩
theorem sortKnown_X {W : World} (hL : laidMetH Tryz.prog Rows.sortKnownRow.laid W) : TabX W := TabX_of hL ⟨by kernel_rfl, by kernel_rfl⟩
set_option maxRecDepth 100000 in
theorem sortKnown_lifted (os : Os) (started : os.Started) (H : Type) (enc : TypeId × Value → H) (F : Stop.Interp) :
    ReturnsInHanded {} Tryz.checked os 8 .any ((OpenSpec.ofChange Rows.sortKnownSpec).preRow enc Tryz.prog Tryz.f8 Rows.sortKnownRow.domain false Rows.sortKnownRow.laid) (((OpenSpec.ofChange Rows.sortKnownSpec).at F).post enc Tryz.prog Tryz.f8 false true false false) := by
  obtain ⟨places, hx⟩ := sortKnown_reads os enc
  refine returnsInHanded_of_row (C := Tryz.checked) (s := (OpenSpec.ofChange Rows.sortKnownSpec)) Tryz.own started (by kernel_rfl) Tryz.func8
    (witness_row_at (enc := enc) (C := Tryz.checked) false (sortKnownWorld os) #[] (World.laidAll_os _ _ _) (by kernel_rfl) (by kernel_rfl) (by kernel_rfl)
      (OpenSpec.preRow_of_cond 8 hx (by kernel_rfl) (fun k hk => by cases hk) (by kernel_rfl) (sortKnown_met os))) ?_
  intro W base args ds gs before hval hW _ hcond hw hL hsh _
  have hgs : gs = [] := whole_gs rfl hW
  have hvt : (OpenSpec.ofChange Rows.sortKnownSpec).bare.plain.varTypes Tryz.checked.prog = [] := by kernel_rfl
  rw [hvt, List.append_nil, hgs, List.append_nil] at hw
  have hk : True := trivial
  skip
  have hw2 : (DataW.weightsEach Tryz.prog Tryz.f8.params.toList ds).all (· ≤ reachBytes) = true := hw
  exact law_callsX (P := Tryz.prog) (X := TabX) (S := []) Tryz.func8 rfl rfl (by kernel_rfl) (by kernel_rfl) Tryz.underlying4 rfl Tryz.laidOut rfl (fun ds hd => by
    match ds, hd with
    | [], _ => rfl) (fun h => sortKnown_lawX ds h hw2) hval hW hsh (sortKnown_X hL)
theorem sortKnown_said : Rows.SortKnownSaid :=
  OpenClaim.holds_of_cond 8 Tryz.f8 rfl rfl rfl rfl rfl rfl rfl ⟨rfl, rfl, rfl, rfl, rfl⟩ rfl rfl rfl rfl rfl (by kernel_rfl) Tryz.func8 (by kernel_rfl)
    (of_decide_eq_true (by kernel_rfl)) (by unfold Func.isWrapper; first | (rw [if_pos (by decide +kernel)]; kernel_rfl) | (rw [if_neg (by decide +kernel)]; exact ⟨rfl, rfl⟩))
    (fun os started H enc _ F => by rw [OpenClaim.pre_eq_preRow]; exact sortKnown_lifted os started H enc F)
theorem sortKnown_plain (f : FuncId) (fn : Func) (hf : Tryz.pinned.checked.prog.funcNamed "sizar/sizarlaw23.SortKnown" = some f) (hfn : Tryz.pinned.checked.prog.funcs[f]? = some fn) :
    true = Tryz.pinned.checked.prog.looks [] ∧ ∀ (j : Nat) t, fn.params[j]? = some t → Tryz.pinned.checked.prog.wantsStandIn t = false := by
  obtain rfl : f = 8 := Option.some.inj ((show Tryz.prog.funcNamed "sizar/sizarlaw23.SortKnown" = some 8 by kernel_rfl).symm.trans hf) |>.symm
  obtain rfl : fn = Tryz.f8 := (Option.some.inj (Tryz.func8.symm.trans hfn)).symm
  exact ⟨by kernel_rfl, fun j t ht => by
    rw [Tryz.params8] at ht
    have hm : t ∈ ([] : List TypeId) := by simpa using Array.mem_of_getElem? ht
    have hall : (([] : List TypeId).all fun u => !Tryz.prog.wantsStandIn u) = true := by kernel_rfl
    exact (show Tryz.prog.wantsStandIn t = false by simpa using List.all_eq_true.1 hall t hm)⟩
theorem sortKnown_card : Rows.SortKnownCardSaid :=
  Claim7.holds_tied_plain_at .later [] _ _ _ _ sortKnown_said (fun _ h => by cases h) (by kernel_rfl) (fun _ h => by cases h) sortKnown_row_tie rfl ⟨rfl, rfl⟩ (by kernel_rfl) rfl sortKnown_plain (by kernel_rfl)
end Go.Proofs.YtlakiipofcibhaaGreatDoor
