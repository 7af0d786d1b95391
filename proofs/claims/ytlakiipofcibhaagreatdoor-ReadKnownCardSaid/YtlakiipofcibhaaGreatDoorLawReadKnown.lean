/- Proved: sizarlaw8.ReadKnown answers true. Conditions: none beyond the row. -/
import Derived.Test.YtlakiipofcibhaaGreatDoorKrh
import Derived.Test.YtlakiipofcibhaaGreatDoorTy
import Derived.Test.YtlakiipofcibhaaGreatDoorArg
import Derived.Test.YtlakiipofcibhaaGreatDoorRows
import Derived.ProofKit
import Derived.Test.YtlakiipofcibhaaGreatDoorCards
import Derived.Test.YtlakiipofcibhaaGreatDoorTie
import Derived.Deep.DeepHandedRow
import Derived.Lay
import Derived.OpenShut
set_option linter.unusedVariables false
set_option linter.unusedSimpArgs false
set_option linter.unusedSectionVars false

namespace Go.Proofs.YtlakiipofcibhaaGreatDoor
open Go Sz

theorem readKnown_prim : PrimOKX Tryz.prog TabX 3 [] (.bool true) := prim_of (envOf_okX krS3_ok) kre4_0 rfl rfl
theorem readKnown_lawX {H : Type} (ds : List (DataW H)) (h : HasTys Tryz.prog Tryz.f3.params.toList (ds.map avOf)) (_ : (DataW.weightsEach Tryz.prog Tryz.f3.params.toList ds).all (· ≤ reachBytes) = true) : PrimOKX Tryz.prog TabX 3 (ds.map avOf) (.bool true) := by
  generalize ds.map avOf = avs at h
  rw [Tryz.params3] at h
  cases h
  exact readKnown_prim
end Go.Proofs.YtlakiipofcibhaaGreatDoor

namespace Go.Proofs.YtlakiipofcibhaaGreatDoor
open Go Sz Go.ChangeShapes Go.WideShapes Go.ChangeAt Go.RowKit

noncomputable def readKnownWorld (os : Os) : World := World.laidAll Tryz.prog os Rows.readKnownRow.laid
theorem readKnown_met (os : Os) : laidMetH Tryz.prog Rows.readKnownRow.laid ((readKnownWorld os).forCall (fun _ _ => 0) ⟨#[], #[], []⟩).memory := by
  rw [MakeChecks.laidMetH_plain _ _ _ (by kernel_rfl)]
  exact laidMet_laidAll _ (by kernel_rfl) (by kernel_rfl)
theorem readKnown_reads (os : Os) {H : Type} (enc : TypeId × Value → H) : ∃ places, DataW.whole enc Tryz.prog ((readKnownWorld os).forCall (fun _ _ => 0) ⟨#[], #[], []⟩).memory Tryz.f3.params.toList Rows.readKnownSpec.vars false (#[] : Array Value).toList 8 = some ([], [], places) :=
  ⟨[], by kernel_rfl⟩
theorem readKnown_X {W : World} (hL : laidMetH Tryz.prog Rows.readKnownRow.laid W) : TabX W := TabX_of hL ⟨by kernel_rfl, by kernel_rfl⟩
set_option maxRecDepth 100000 in
theorem readKnown_lifted (os : Os) (started : os.Started) (H : Type) (enc : TypeId × Value → H) (F : Stop.Interp) :
    ReturnsInHanded {} Tryz.checked os 3 .any ((OpenSpec.ofChange Rows.readKnownSpec).preRow enc Tryz.prog Tryz.f3 Rows.readKnownRow.domain false Rows.readKnownRow.laid) (((OpenSpec.ofChange Rows.readKnownSpec).at F).post enc Tryz.prog Tryz.f3 false true false false) := by
  obtain ⟨places, hx⟩ := readKnown_reads os enc
  refine returnsInHanded_of_row (C := Tryz.checked) (s := (OpenSpec.ofChange Rows.readKnownSpec)) Tryz.own started (by kernel_rfl) Tryz.func3
    (witness_row_at (enc := enc) (C := Tryz.checked) false (readKnownWorld os) #[] (World.laidAll_os _ _ _) (by kernel_rfl) (by kernel_rfl) (by kernel_rfl)
      (OpenSpec.preRow_of_cond 8 hx (by kernel_rfl) (fun k hk => by cases hk) (by kernel_rfl) (readKnown_met os))) ?_
  intro W base args ds gs before hval hW _ hcond hw hL hsh _
  have hgs : gs = [] := whole_gs rfl hW
  have hvt : (OpenSpec.ofChange Rows.readKnownSpec).bare.plain.varTypes Tryz.checked.prog = [] := by kernel_rfl
  rw [hvt, List.append_nil, hgs, List.append_nil] at hw
  have hk : True := trivial
  skip
  have hw2 : (DataW.weightsEach Tryz.prog Tryz.f3.params.toList ds).all (· ≤ reachBytes) = true := hw
  exact law_callsX (P := Tryz.prog) (X := TabX) (S := []) Tryz.func3 rfl rfl (by kernel_rfl) (by kernel_rfl) Tryz.underlying4 rfl Tryz.laidOut rfl (fun ds hd => by
    match ds, hd with
    | [], _ => rfl) (fun h => readKnown_lawX ds h hw2) hval hW hsh (readKnown_X hL)
theorem readKnown_said : Rows.ReadKnownSaid :=
  OpenClaim.holds_of_cond 3 Tryz.f3 rfl rfl rfl rfl rfl rfl rfl ⟨rfl, rfl, rfl, rfl, rfl⟩ rfl rfl rfl rfl rfl (by kernel_rfl) Tryz.func3 (by kernel_rfl)
    (of_decide_eq_true (by kernel_rfl)) (by unfold Func.isWrapper; first | (rw [if_pos (by decide +kernel)]; kernel_rfl) | (rw [if_neg (by decide +kernel)]; exact ⟨rfl, rfl⟩))
    (fun os started H enc _ F => by rw [OpenClaim.pre_eq_preRow]; exact readKnown_lifted os started H enc F)
theorem readKnown_plain (f : FuncId) (fn : Func) (hf : Tryz.pinned.checked.prog.funcNamed "sizar/sizarlaw8.ReadKnown" = some f) (hfn : Tryz.pinned.checked.prog.funcs[f]? = some fn) :
    true = Tryz.pinned.checked.prog.looks [] ∧ ∀ (j : Nat) t, fn.params[j]? = some t → Tryz.pinned.checked.prog.wantsStandIn t = false := by
  obtain rfl : f = 3 := Option.some.inj ((show Tryz.prog.funcNamed "sizar/sizarlaw8.ReadKnown" = some 3 by kernel_rfl).symm.trans hf) |>.symm
  obtain rfl : fn = Tryz.f3 := (Option.some.inj (Tryz.func3.symm.trans hfn)).symm
  exact ⟨by kernel_rfl, fun j t ht => by
    rw [Tryz.params3] at ht
    have hm : t ∈ ([] : List TypeId) := by simpa using Array.mem_of_getElem? ht
    have hall : (([] : List TypeId).all fun u => !Tryz.prog.wantsStandIn u) = true := by kernel_rfl
    exact (show Tryz.prog.wantsStandIn t = false by simpa using List.all_eq_true.1 hall t hm)⟩
theorem readKnown_card : Rows.ReadKnownCardSaid :=
  Claim7.holds_tied_plain_at .later [] _ _ _ _ readKnown_said (fun _ h => by cases h) (by kernel_rfl) (fun _ h => by cases h) readKnown_row_tie rfl ⟨rfl, rfl⟩ (by kernel_rfl) rfl readKnown_plain (by kernel_rfl)
end Go.Proofs.YtlakiipofcibhaaGreatDoor
