/- Proved: sizarlaw1.LabelLattice answers true for every input and leaves its arguments as they were. Conditions: none beyond the row. -/
import Derived.Test.YtnkafagfkblfeaaDoorTyB
import Derived.Test.YtnkafagfkblfeaaDoorCards
import Derived.Test.YtnkafagfkblfeaaDoorTie
import Derived.Deep.DeepHandedRow
import Derived.Lay
import Derived.OpenShut
set_option linter.unusedVariables false
set_option linter.unusedSimpArgs false
set_option linter.unusedSectionVars false

namespace Go.Proofs.YtnkafagfkblfeaaDoor
open Go Sz Go.ChangeShapes Go.WideShapes Go.ChangeAt Go.RowKit

noncomputable def labelLatticeWorld (os : Os) : World := World.laidAll Tryd.prog os Rows.labelLatticeRow.laid
theorem labelLattice_met (os : Os) : laidMetH Tryd.prog Rows.labelLatticeRow.laid ((labelLatticeWorld os).forCall (fun _ _ => 0) ⟨#[], #[.int .u64 0, .int .u64 0, .int .u64 0], []⟩).memory := by
  rw [MakeChecks.laidMetH_plain _ _ _ (by kernel_rfl)]
  exact laidMet_laidAll _ (by kernel_rfl) (by kernel_rfl)
theorem labelLattice_reads (os : Os) {H : Type} (enc : TypeId × Value → H) : ∃ places, DataW.whole enc Tryd.prog ((labelLatticeWorld os).forCall (fun _ _ => 0) ⟨#[], #[.int .u64 0, .int .u64 0, .int .u64 0], []⟩).memory Tryd.f10.params.toList Rows.labelLatticeSpec.vars false (#[.int .u64 0, .int .u64 0, .int .u64 0] : Array Value).toList 8 = some ([.lit (.int .u64 0), .lit (.int .u64 0), .lit (.int .u64 0)], [], places) :=
  ⟨[], by kernel_rfl⟩
set_option maxRecDepth 100000 in
theorem labelLattice_lifted (os : Os) (started : os.Started) (H : Type) (enc : TypeId × Value → H) (F : Stop.Interp) :
    ReturnsInHanded {} Tryd.checked os 10 .any ((OpenSpec.ofChange Rows.labelLatticeSpec).preRow enc Tryd.prog Tryd.f10 Rows.labelLatticeRow.domain false Rows.labelLatticeRow.laid) (((OpenSpec.ofChange Rows.labelLatticeSpec).at F).post enc Tryd.prog Tryd.f10 false true false false) := by
  obtain ⟨places, hx⟩ := labelLattice_reads os enc
  refine returnsInHanded_of_row (C := Tryd.checked) (s := OpenSpec.ofChange Rows.labelLatticeSpec) Tryd.own started (by kernel_rfl) Tryd.func10
    (witness_row_at (enc := enc) (C := Tryd.checked) false (labelLatticeWorld os) #[.int .u64 0, .int .u64 0, .int .u64 0] (World.laidAll_os _ _ _) (by kernel_rfl) (by kernel_rfl) (by kernel_rfl)
      (OpenSpec.preRow_of_cond 8 hx (by kernel_rfl) (fun k hk => by cases hk) (by kernel_rfl) (labelLattice_met os))) ?_
  intro W base args ds gs before hval hW _ _ _ _ hsh _
  exact law_calls (P := Tryd.prog) (S := [36]) Tryd.func10 rfl rfl (by kernel_rfl) (by kernel_rfl) Tryd.underlying4 rfl Tryd.laidOut rfl (fun ds hd => by
    match ds, hd with
    | [d0, d1, d2], _ => rfl) labelLattice_law hval hW hsh
theorem labelLattice_said : Rows.LabelLatticeSaid :=
  OpenClaim.holds_of_cond 10 Tryd.f10 rfl rfl rfl rfl rfl rfl rfl ⟨rfl, rfl, rfl, rfl, rfl⟩ rfl rfl rfl rfl rfl (by kernel_rfl) Tryd.func10 (by kernel_rfl)
    (of_decide_eq_true (by kernel_rfl)) (by unfold Func.isWrapper; first | (rw [if_pos (by decide +kernel)]; kernel_rfl) | (rw [if_neg (by decide +kernel)]; exact ⟨rfl, rfl⟩))
    (fun os started H enc _ F => by rw [OpenClaim.pre_eq_preRow]; exact labelLattice_lifted os started H enc F)
theorem labelLattice_plain (f : FuncId) (fn : Func) (hf : Tryd.pinned.checked.prog.funcNamed "sizar/sizarlaw1.LabelLattice" = some f) (hfn : Tryd.pinned.checked.prog.funcs[f]? = some fn) :
    false = Tryd.pinned.checked.prog.looks [] ∧ ∀ (j : Nat) t, fn.params[j]? = some t → Tryd.pinned.checked.prog.wantsStandIn t = false := by
  obtain rfl : f = 10 := Option.some.inj ((show Tryd.prog.funcNamed "sizar/sizarlaw1.LabelLattice" = some 10 by kernel_rfl).symm.trans hf) |>.symm
  obtain rfl : fn = Tryd.f10 := (Option.some.inj (Tryd.func10.symm.trans hfn)).symm
  exact ⟨by kernel_rfl, fun j t ht => by
    rw [Tryd.params10] at ht
    have hm : t ∈ ([36, 36, 36] : List TypeId) := by simpa using Array.mem_of_getElem? ht
    have hall : (([36, 36, 36] : List TypeId).all fun u => !Tryd.prog.wantsStandIn u) = true := by kernel_rfl
    exact (show Tryd.prog.wantsStandIn t = false by simpa using List.all_eq_true.1 hall t hm)⟩
theorem labelLattice_card : Rows.LabelLatticeCardSaid :=
  Claim7.holds_tied_plain_at .later [] _ _ _ _ labelLattice_said (fun _ h => by cases h) (by kernel_rfl) (fun _ h => by cases h) labelLattice_row_tie rfl ⟨rfl, rfl⟩ (by kernel_rfl) rfl labelLattice_plain (by kernel_rfl)
end Go.Proofs.YtnkafagfkblfeaaDoor
