/- Proved: sizarlaw9.WriteKnown answers true. Conditions: none beyond the row. -/
import Derived.Test.YtlakiipofcibhaaGreatDoorKwh
import Derived.Test.YtlakiipofcibhaaGreatDoorCards
import Derived.Test.YtlakiipofcibhaaGreatDoorTie
import Derived.Deep.DeepHandedRow
import Derived.Lay
import Derived.OpenShut
set_option linter.unusedVariables false
set_option linter.unusedSimpArgs false
set_option linter.unusedSectionVars false

namespace Go.Proofs.YtlakiipofcibhaaGreatDoor
open Go Sz Go.ChangeShapes Go.WideShapes Go.ChangeAt Go.RowKit

noncomputable def writeKnownWorld (os : Os) : World := World.laidAll Tryz.prog os Rows.writeKnownRow.laid
theorem writeKnown_met (os : Os) : laidMetH Tryz.prog Rows.writeKnownRow.laid ((writeKnownWorld os).forCall (fun _ _ => 0) ⟨#[], #[], []⟩).memory := by
  rw [MakeChecks.laidMetH_plain _ _ _ (by kernel_rfl)]
  exact laidMet_laidAll _ (by kernel_rfl) (by kernel_rfl)
theorem writeKnown_reads (os : Os) {H : Type} (enc : TypeId × Value → H) : ∃ places, DataW.whole enc Tryz.prog ((writeKnownWorld os).forCall (fun _ _ => 0) ⟨#[], #[], []⟩).memory Tryz.f4.params.toList Rows.writeKnownSpec.vars false (#[] : Array Value).toList 8 = some ([], [], places) :=
  ⟨[], by kernel_rfl⟩
theorem writeKnown_X {W : World} (hL : laidMetH Tryz.prog Rows.writeKnownRow.laid W) : TabX W := TabX_of hL ⟨by kernel_rfl, by kernel_rfl⟩
set_option maxRecDepth 100000 in
theorem writeKnown_lifted (os : Os) (started : os.Started) (H : Type) (enc : TypeId × Value → H) (F : Stop.Interp) :
    ReturnsInHanded {} Tryz.checked os 4 .any ((OpenSpec.ofChange Rows.writeKnownSpec).preRow enc Tryz.prog Tryz.f4 Rows.writeKnownRow.domain false Rows.writeKnownRow.laid) (((OpenSpec.ofChange Rows.writeKnownSpec).at F).post enc Tryz.prog Tryz.f4 false true false false) := by
  obtain ⟨places, hx⟩ := writeKnown_reads os enc
  refine returnsInHanded_of_row (C := Tryz.checked) (s := (OpenSpec.ofChange Rows.writeKnownSpec)) Tryz.own started (by kernel_rfl) Tryz.func4
    (witness_row_at (enc := enc) (C := Tryz.checked) false (writeKnownWorld os) #[] (World.laidAll_os _ _ _) (by kernel_rfl) (by kernel_rfl) (by kernel_rfl)
      (OpenSpec.preRow_of_cond 8 hx (by kernel_rfl) (fun k hk => by cases hk) (by kernel_rfl) (writeKnown_met os))) ?_
  intro W base args ds gs before hval hW _ hcond hw hL hsh _
  have hgs : gs = [] := whole_gs rfl hW
  have hvt : (OpenSpec.ofChange Rows.writeKnownSpec).bare.plain.varTypes Tryz.checked.prog = [] := by kernel_rfl
  rw [hvt, List.append_nil, hgs, List.append_nil] at hw
  have hk : True := trivial
  skip
  have hw2 : (DataW.weightsEach Tryz.prog Tryz.f4.params.toList ds).all (· ≤ reachBytes) = true := hw
  exact law_callsX (P := Tryz.prog) (X := TabX) (S := []) Tryz.func4 rfl rfl (by kernel_rfl) (by kernel_rfl) Tryz.underlying4 rfl Tryz.laidOut rfl (fun ds hd => by
    match ds, hd with
    | [], _ => rfl) (fun h => writeKnown_lawX ds h hw2) hval hW hsh (writeKnown_X hL)
theorem writeKnown_said : Rows.WriteKnownSaid :=
  OpenClaim.holds_of_cond 4 Tryz.f4 rfl rfl rfl rfl rfl rfl rfl ⟨rfl, rfl, rfl, rfl, rfl⟩ rfl rfl rfl rfl rfl (by kernel_rfl) Tryz.func4 (by kernel_rfl)
    (of_decide_eq_true (by kernel_rfl)) (by unfold Func.isWrapper; first | (rw [if_pos (by decide +kernel)]; kernel_rfl) | (rw [if_neg (by decide +kernel)]; exact ⟨rfl, rfl⟩))
    (fun os started H enc _ F => by rw [OpenClaim.pre_eq_preRow]; exact writeKnown_lifted os started H enc F)
theorem writeKnown_plain (f : FuncId) (fn : Func) (hf : Tryz.pinned.checked.prog.funcNamed "sizar/sizarlaw9.WriteKnown" = some f) (hfn : Tryz.pinned.checked.prog.funcs[f]? = some fn) :
    true = Tryz.pinned.checked.prog.looks [] ∧ ∀ (j : Nat) t, fn.params[j]? = some t → Tryz.pinned.checked.prog.wantsStandIn t = false := by
  obtain rfl : f = 4 := Option.some.inj ((show Tryz.prog.funcNamed "sizar/sizarlaw9.WriteKnown" = some 4 by kernel_rfl).symm.trans hf) |>.symm
  obtain rfl : fn = Tryz.f4 := (Option.some.inj (Tryz.func4.symm.trans hfn)).symm
  exact ⟨by kernel_rfl, fun j t ht => by
    rw [Tryz.params4] at ht
    have hm : t ∈ ([] : List TypeId) := by simpa using Array.mem_of_getElem? ht
    have hall : (([] : List TypeId).all fun u => !Tryz.prog.wantsStandIn u) = true := by kernel_rfl
    exact (show Tryz.prog.wantsStandIn t = false by simpa using List.all_eq_true.1 hall t hm)⟩
theorem writeKnown_card : Rows.WriteKnownCardSaid :=
  Claim7.holds_tied_plain_at .later [] _ _ _ _ writeKnown_said (fun _ h => by cases h) (by kernel_rfl) (fun _ h => by cases h) writeKnown_row_tie rfl ⟨rfl, rfl⟩ (by kernel_rfl) rfl writeKnown_plain (by kernel_rfl)
end Go.Proofs.YtlakiipofcibhaaGreatDoor
