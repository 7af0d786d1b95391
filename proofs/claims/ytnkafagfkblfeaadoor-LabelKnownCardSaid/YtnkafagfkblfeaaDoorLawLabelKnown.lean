/- Proved: sizarlaw1.LabelKnown answers true. Conditions: none beyond the row. -/
import Derived.Test.YtnkafagfkblfeaaDoorTy
import Derived.Test.YtnkafagfkblfeaaDoorCards
import Derived.Test.YtnkafagfkblfeaaDoorTie
import Derived.Deep.DeepHandedRow
import Derived.Lay
import Derived.OpenShut
set_option linter.unusedVariables false
set_option linter.unusedSimpArgs false
set_option linter.unusedSectionVars false

namespace Go.Proofs.YtnkafagfkblfeaaDoor
open Go Sz Go.ChangeShapes Go.WideShapes Go.ChangeAt Go.RowKit

noncomputable def labelKnownWorld (os : Os) : World := World.laidAll Tryd.prog os Rows.labelKnownRow.laid
theorem labelKnown_met (os : Os) : laidMetH Tryd.prog Rows.labelKnownRow.laid ((labelKnownWorld os).forCall (fun _ _ => 0) ⟨#[], #[], []⟩).memory := by
  rw [MakeChecks.laidMetH_plain _ _ _ (by kernel_rfl)]
  exact laidMet_laidAll _ (by kernel_rfl) (by kernel_rfl)
theorem labelKnown_reads (os : Os) {H : Type} (enc : TypeId × Value → H) : ∃ places, DataW.whole enc Tryd.prog ((labelKnownWorld os).forCall (fun _ _ => 0) ⟨#[], #[], []⟩).memory Tryd.f9.params.toList Rows.labelKnownSpec.vars false (#[] : Array Value).toList 8 = some ([], [], places) :=
  ⟨[], by kernel_rfl⟩
set_option maxRecDepth 100000 in
theorem labelKnown_lifted (os : Os) (started : os.Started) (H : Type) (enc : TypeId × Value → H) (F : Stop.Interp) :
    ReturnsInHanded {} Tryd.checked os 9 .any ((OpenSpec.ofChange Rows.labelKnownSpec).preRow enc Tryd.prog Tryd.f9 Rows.labelKnownRow.domain false Rows.labelKnownRow.laid) (((OpenSpec.ofChange Rows.labelKnownSpec).at F).post enc Tryd.prog Tryd.f9 false true false false) := by
  obtain ⟨places, hx⟩ := labelKnown_reads os enc
  refine returnsInHanded_of_row (C := Tryd.checked) (s := OpenSpec.ofChange Rows.labelKnownSpec) Tryd.own started (by kernel_rfl) Tryd.func9
    (witness_row_at (enc := enc) (C := Tryd.checked) false (labelKnownWorld os) #[] (World.laidAll_os _ _ _) (by kernel_rfl) (by kernel_rfl) (by kernel_rfl)
      (OpenSpec.preRow_of_cond 8 hx (by kernel_rfl) (fun k hk => by cases hk) (by kernel_rfl) (labelKnown_met os))) ?_
  intro W base args ds gs before hval hW _ _ _ _ hsh _
  exact law_calls (P := Tryd.prog) (S := [36]) Tryd.func9 rfl rfl (by kernel_rfl) (by kernel_rfl) Tryd.underlying4 rfl Tryd.laidOut rfl (fun ds hd => by
    match ds, hd with
    | [], _ => rfl) labelKnown_law hval hW hsh
theorem labelKnown_said : Rows.LabelKnownSaid :=
  OpenClaim.holds_of_cond 9 Tryd.f9 rfl rfl rfl rfl rfl rfl rfl ⟨rfl, rfl, rfl, rfl, rfl⟩ rfl rfl rfl rfl rfl (by kernel_rfl) Tryd.func9 (by kernel_rfl)
    (of_decide_eq_true (by kernel_rfl)) (by unfold Func.isWrapper; first | (rw [if_pos (by decide +kernel)]; kernel_rfl) | (rw [if_neg (by decide +kernel)]; exact ⟨rfl, rfl⟩))
    (fun os started H enc _ F => by rw [OpenClaim.pre_eq_preRow]; exact labelKnown_lifted os started H enc F)
theorem labelKnown_plain (f : FuncId) (fn : Func) (hf : Tryd.pinned.checked.prog.funcNamed "sizar/sizarlaw1.LabelKnown" = some f) (hfn : Tryd.pinned.checked.prog.funcs[f]? = some fn) :
    false = Tryd.pinned.checked.prog.looks [] ∧ ∀ (j : Nat) t, fn.params[j]? = some t → Tryd.pinned.checked.prog.wantsStandIn t = false := by
  obtain rfl : f = 9 := Option.some.inj ((show Tryd.prog.funcNamed "sizar/sizarlaw1.LabelKnown" = some 9 by kernel_rfl).symm.trans hf) |>.symm
  obtain rfl : fn = Tryd.f9 := (Option.some.inj (Tryd.func9.symm.trans hfn)).symm
  exact ⟨by kernel_rfl, fun j t ht => by
    rw [Tryd.params9] at ht
    have hm : t ∈ ([] : List TypeId) := by simpa using Array.mem_of_getElem? ht
    have hall : (([] : List TypeId).all fun u => !Tryd.prog.wantsStandIn u) = true := by kernel_rfl
    exact (show Tryd.prog.wantsStandIn t = false by simpa using List.all_eq_true.1 hall t hm)⟩
theorem labelKnown_card : Rows.LabelKnownCardSaid :=
  Claim7.holds_tied_plain_at .later [] _ _ _ _ labelKnown_said (fun _ h => by cases h) (by kernel_rfl) (fun _ h => by cases h) labelKnown_row_tie rfl ⟨rfl, rfl⟩ (by kernel_rfl) rfl labelKnown_plain (by kernel_rfl)
end Go.Proofs.YtnkafagfkblfeaaDoor
