/- Proved: sizarlaw1.LabelSays answers true for every input and leaves its arguments as they were. Conditions: none beyond the row. -/
import Derived.Test.YtnkafagfkblfeaaDoorTyB
import Derived.Test.YtnkafagfkblfeaaDoorCards
import Derived.Test.YtnkafagfkblfeaaDoorTie
import Derived.Deep.DeepHandedRow
import Derived.Lay
import Derived.OpenShut
set_option linter.unusedVariables false
set_option linter.unusedSimpArgs false
set_option linter.unusedSectionVars false

namespace Go.Proofs.YtnkafagfkblfeaaDoor
open Go Sz Go.ChangeShapes Go.WideShapes Go.ChangeAt Go.RowKit

noncomputable def labelSaysWorld (os : Os) : World := World.laidAll Tryd.prog os Rows.labelSaysRow.laid
theorem labelSays_met (os : Os) : laidMetH Tryd.prog Rows.labelSaysRow.laid ((labelSaysWorld os).forCall (fun _ _ => 0) ⟨#[], #[.slice none 0 0, .int .u64 0, .int .u64 0, .string ⟨#[]⟩], []⟩).memory := by
  rw [MakeChecks.laidMetH_plain _ _ _ (by kernel_rfl)]
  exact laidMet_laidAll _ (by kernel_rfl) (by kernel_rfl)
theorem labelSays_reads (os : Os) {H : Type} (enc : TypeId × Value → H) : ∃ places, DataW.whole enc Tryd.prog ((labelSaysWorld os).forCall (fun _ _ => 0) ⟨#[], #[.slice none 0 0, .int .u64 0, .int .u64 0, .string ⟨#[]⟩], []⟩).memory Tryd.f7.params.toList Rows.labelSaysSpec.vars false (#[.slice none 0 0, .int .u64 0, .int .u64 0, .string ⟨#[]⟩] : Array Value).toList 8 = some ([.nil, .lit (.int .u64 0), .lit (.int .u64 0), .lit (.string [])], [], places) :=
  ⟨[], by kernel_rfl⟩
set_option maxRecDepth 100000 in
theorem labelSays_lifted (os : Os) (started : os.Started) (H : Type) (enc : TypeId × Value → H) (F : Stop.Interp) :
    ReturnsInHanded {} Tryd.checked os 7 .any ((OpenSpec.ofChange Rows.labelSaysSpec).preRow enc Tryd.prog Tryd.f7 Rows.labelSaysRow.domain false Rows.labelSaysRow.laid) (((OpenSpec.ofChange Rows.labelSaysSpec).at F).post enc Tryd.prog Tryd.f7 false true false false) := by
  obtain ⟨places, hx⟩ := labelSays_reads os enc
  refine returnsInHanded_of_row (C := Tryd.checked) (s := OpenSpec.ofChange Rows.labelSaysSpec) Tryd.own started (by kernel_rfl) Tryd.func7
    (witness_row_at (enc := enc) (C := Tryd.checked) false (labelSaysWorld os) #[.slice none 0 0, .int .u64 0, .int .u64 0, .string ⟨#[]⟩] (World.laidAll_os _ _ _) (by kernel_rfl) (by kernel_rfl) (by kernel_rfl)
      (OpenSpec.preRow_of_cond 8 hx (by kernel_rfl) (fun k hk => by cases hk) (by kernel_rfl) (labelSays_met os))) ?_
  intro W base args ds gs before hval hW _ _ _ _ hsh _
  exact law_calls (P := Tryd.prog) (S := [9, 29, 36]) Tryd.func7 rfl rfl (by kernel_rfl) (by kernel_rfl) Tryd.underlying4 rfl Tryd.laidOut rfl (fun ds hd => by
    match ds, hd with
    | [d0, d1, d2, d3], _ => rfl) labelSays_law hval hW hsh
theorem labelSays_said : Rows.LabelSaysSaid :=
  OpenClaim.holds_of_cond 7 Tryd.f7 rfl rfl rfl rfl rfl rfl rfl ⟨rfl, rfl, rfl, rfl, rfl⟩ rfl rfl rfl rfl rfl (by kernel_rfl) Tryd.func7 (by kernel_rfl)
    (of_decide_eq_true (by kernel_rfl)) (by unfold Func.isWrapper; first | (rw [if_pos (by decide +kernel)]; kernel_rfl) | (rw [if_neg (by decide +kernel)]; exact ⟨rfl, rfl⟩))
    (fun os started H enc _ F => by rw [OpenClaim.pre_eq_preRow]; exact labelSays_lifted os started H enc F)
theorem labelSays_plain (f : FuncId) (fn : Func) (hf : Tryd.pinned.checked.prog.funcNamed "sizar/sizarlaw1.LabelSays" = some f) (hfn : Tryd.pinned.checked.prog.funcs[f]? = some fn) :
    false = Tryd.pinned.checked.prog.looks [] ∧ ∀ (j : Nat) t, fn.params[j]? = some t → Tryd.pinned.checked.prog.wantsStandIn t = false := by
  obtain rfl : f = 7 := Option.some.inj ((show Tryd.prog.funcNamed "sizar/sizarlaw1.LabelSays" = some 7 by kernel_rfl).symm.trans hf) |>.symm
  obtain rfl : fn = Tryd.f7 := (Option.some.inj (Tryd.func7.symm.trans hfn)).symm
  exact ⟨by kernel_rfl, fun j t ht => by
    rw [Tryd.params7] at ht
    have hm : t ∈ ([29, 36, 36, 9] : List TypeId) := by simpa using Array.mem_of_getElem? ht
    have hall : (([29, 36, 36, 9] : List TypeId).all fun u => !Tryd.prog.wantsStandIn u) = true := by kernel_rfl
    exact (show Tryd.prog.wantsStandIn t = false by simpa using List.all_eq_true.1 hall t hm)⟩
theorem labelSays_card : Rows.LabelSaysCardSaid :=
  Claim7.holds_tied_plain_at .later [] _ _ _ _ labelSays_said (fun _ h => by cases h) (by kernel_rfl) (fun _ h => by cases h) labelSays_row_tie rfl ⟨rfl, rfl⟩ (by kernel_rfl) rfl labelSays_plain (by kernel_rfl)
end Go.Proofs.YtnkafagfkblfeaaDoor
