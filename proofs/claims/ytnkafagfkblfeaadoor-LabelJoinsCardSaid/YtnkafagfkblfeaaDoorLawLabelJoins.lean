/- Proved: sizarlaw1.LabelJoins answers true for every input and leaves its arguments as they were. Conditions: none beyond the row. -/
import Derived.Test.YtnkafagfkblfeaaDoorTy
import Derived.Test.YtnkafagfkblfeaaDoorCards
import Derived.Test.YtnkafagfkblfeaaDoorTie
import Derived.Deep.DeepHandedRow
import Derived.Lay
import Derived.OpenShut
set_option linter.unusedVariables false
set_option linter.unusedSimpArgs false
set_option linter.unusedSectionVars false

namespace Go.Proofs.YtnkafagfkblfeaaDoor
open Go Sz Go.ChangeShapes Go.WideShapes Go.ChangeAt Go.RowKit

noncomputable def labelJoinsWorld (os : Os) : World := World.laidAll Tryd.prog os Rows.labelJoinsRow.laid
theorem labelJoins_met (os : Os) : laidMetH Tryd.prog Rows.labelJoinsRow.laid ((labelJoinsWorld os).forCall (fun _ _ => 0) ⟨#[], #[.slice none 0 0, .int .u64 0], []⟩).memory := by
  rw [MakeChecks.laidMetH_plain _ _ _ (by kernel_rfl)]
  exact laidMet_laidAll _ (by kernel_rfl) (by kernel_rfl)
theorem labelJoins_reads (os : Os) {H : Type} (enc : TypeId × Value → H) : ∃ places, DataW.whole enc Tryd.prog ((labelJoinsWorld os).forCall (fun _ _ => 0) ⟨#[], #[.slice none 0 0, .int .u64 0], []⟩).memory Tryd.f6.params.toList Rows.labelJoinsSpec.vars false (#[.slice none 0 0, .int .u64 0] : Array Value).toList 8 = some ([.nil, .lit (.int .u64 0)], [], places) :=
  ⟨[], by kernel_rfl⟩
set_option maxRecDepth 100000 in
theorem labelJoins_lifted (os : Os) (started : os.Started) (H : Type) (enc : TypeId × Value → H) (F : Stop.Interp) :
    ReturnsInHanded {} Tryd.checked os 6 .any ((OpenSpec.ofChange Rows.labelJoinsSpec).preRow enc Tryd.prog Tryd.f6 Rows.labelJoinsRow.domain false Rows.labelJoinsRow.laid) (((OpenSpec.ofChange Rows.labelJoinsSpec).at F).post enc Tryd.prog Tryd.f6 false true false false) := by
  obtain ⟨places, hx⟩ := labelJoins_reads os enc
  refine returnsInHanded_of_row (C := Tryd.checked) (s := OpenSpec.ofChange Rows.labelJoinsSpec) Tryd.own started (by kernel_rfl) Tryd.func6
    (witness_row_at (enc := enc) (C := Tryd.checked) false (labelJoinsWorld os) #[.slice none 0 0, .int .u64 0] (World.laidAll_os _ _ _) (by kernel_rfl) (by kernel_rfl) (by kernel_rfl)
      (OpenSpec.preRow_of_cond 8 hx (by kernel_rfl) (fun k hk => by cases hk) (by kernel_rfl) (labelJoins_met os))) ?_
  intro W base args ds gs before hval hW _ _ _ _ hsh _
  exact law_calls (P := Tryd.prog) (S := [22, 36]) Tryd.func6 rfl rfl (by kernel_rfl) (by kernel_rfl) Tryd.underlying4 rfl Tryd.laidOut rfl (fun ds hd => by
    match ds, hd with
    | [d0, d1], _ => rfl) labelJoins_law hval hW hsh
theorem labelJoins_said : Rows.LabelJoinsSaid :=
  OpenClaim.holds_of_cond 6 Tryd.f6 rfl rfl rfl rfl rfl rfl rfl ⟨rfl, rfl, rfl, rfl, rfl⟩ rfl rfl rfl rfl rfl (by kernel_rfl) Tryd.func6 (by kernel_rfl)
    (of_decide_eq_true (by kernel_rfl)) (by unfold Func.isWrapper; first | (rw [if_pos (by decide +kernel)]; kernel_rfl) | (rw [if_neg (by decide +kernel)]; exact ⟨rfl, rfl⟩))
    (fun os started H enc _ F => by rw [OpenClaim.pre_eq_preRow]; exact labelJoins_lifted os started H enc F)
theorem labelJoins_plain (f : FuncId) (fn : Func) (hf : Tryd.pinned.checked.prog.funcNamed "sizar/sizarlaw1.LabelJoins" = some f) (hfn : Tryd.pinned.checked.prog.funcs[f]? = some fn) :
    false = Tryd.pinned.checked.prog.looks [] ∧ ∀ (j : Nat) t, fn.params[j]? = some t → Tryd.pinned.checked.prog.wantsStandIn t = false := by
  obtain rfl : f = 6 := Option.some.inj ((show Tryd.prog.funcNamed "sizar/sizarlaw1.LabelJoins" = some 6 by kernel_rfl).symm.trans hf) |>.symm
  obtain rfl : fn = Tryd.f6 := (Option.some.inj (Tryd.func6.symm.trans hfn)).symm
  exact ⟨by kernel_rfl, fun j t ht => by
    rw [Tryd.params6] at ht
    have hm : t ∈ ([22, 36] : List TypeId) := by simpa using Array.mem_of_getElem? ht
    have hall : (([22, 36] : List TypeId).all fun u => !Tryd.prog.wantsStandIn u) = true := by kernel_rfl
    exact (show Tryd.prog.wantsStandIn t = false by simpa using List.all_eq_true.1 hall t hm)⟩
theorem labelJoins_card : Rows.LabelJoinsCardSaid :=
  Claim7.holds_tied_plain_at .later [] _ _ _ _ labelJoins_said (fun _ h => by cases h) (by kernel_rfl) (fun _ h => by cases h) labelJoins_row_tie rfl ⟨rfl, rfl⟩ (by kernel_rfl) rfl labelJoins_plain (by kernel_rfl)
end Go.Proofs.YtnkafagfkblfeaaDoor
