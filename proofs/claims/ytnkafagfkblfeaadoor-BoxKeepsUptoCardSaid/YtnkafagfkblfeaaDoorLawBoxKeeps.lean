/- Proved: sizarlaw24.BoxKeeps answers true for every input of bulk at most 1048576 and leaves its arguments as they were. Conditions: none beyond the row. -/
import Derived.Test.YtnkafagfkblfeaaDoorBk
import Derived.Test.YtnkafagfkblfeaaDoorCards
import Derived.Test.YtnkafagfkblfeaaDoorTie
import Derived.Deep.DeepHandedRow
import Derived.Lay
import Derived.OpenShut
set_option linter.unusedVariables false
set_option linter.unusedSimpArgs false
set_option linter.unusedSectionVars false

namespace Go.Proofs.YtnkafagfkblfeaaDoor
open Go Sz Go.ChangeShapes Go.WideShapes Go.ChangeAt Go.RowKit

noncomputable def boxKeepsWorld (os : Os) : World := World.laidAll Tryd.prog os Rows.boxKeepsUptoRow.laid
theorem boxKeeps_met (os : Os) : laidMetH Tryd.prog Rows.boxKeepsUptoRow.laid ((boxKeepsWorld os).forCall (fun _ _ => 0) ⟨#[], #[.slice none 0 0, .slice none 0 0], []⟩).memory := by
  rw [MakeChecks.laidMetH_plain _ _ _ (by kernel_rfl)]
  exact laidMet_laidAll _ (by kernel_rfl) (by kernel_rfl)
theorem boxKeeps_reads (os : Os) {H : Type} (enc : TypeId × Value → H) : ∃ places, DataW.whole enc Tryd.prog ((boxKeepsWorld os).forCall (fun _ _ => 0) ⟨#[], #[.slice none 0 0, .slice none 0 0], []⟩).memory Tryd.f4.params.toList Rows.boxKeepsSpec.vars false (#[.slice none 0 0, .slice none 0 0] : Array Value).toList 8 = some ([.nil, .nil], [], places) :=
  ⟨[], by kernel_rfl⟩
theorem boxKeeps_X {W : World} (hL : laidMetH Tryd.prog Rows.boxKeepsUptoRow.laid W) : (fun _ => True) W := trivial
set_option maxRecDepth 100000 in
theorem boxKeeps_lifted (os : Os) (started : os.Started) (H : Type) (enc : TypeId × Value → H) (F : Stop.Interp) :
    ReturnsInHanded {} Tryd.checked os 4 .any ((Rows.OpenSpec.upto Rows.boxKeepsSpec).preRow enc Tryd.prog Tryd.f4 Rows.boxKeepsUptoRow.domain false Rows.boxKeepsUptoRow.laid) (((Rows.OpenSpec.upto Rows.boxKeepsSpec).at F).post enc Tryd.prog Tryd.f4 false true false false) := by
  obtain ⟨places, hx⟩ := boxKeeps_reads os enc
  refine returnsInHanded_of_row (C := Tryd.checked) (s := (Rows.OpenSpec.upto Rows.boxKeepsSpec)) Tryd.own started (by kernel_rfl) Tryd.func4
    (witness_row_at (enc := enc) (C := Tryd.checked) false (boxKeepsWorld os) #[.slice none 0 0, .slice none 0 0] (World.laidAll_os _ _ _) (by kernel_rfl) (by kernel_rfl) (by kernel_rfl)
      (OpenSpec.preRow_of_cond 8 hx (by kernel_rfl) (fun k hk => by cases hk; kernel_rfl) (by kernel_rfl) (boxKeeps_met os))) ?_
  intro W base args ds gs before hval hW _ hcond hw hL hsh _
  have hgs : gs = [] := whole_gs rfl hW
  have hvt : (Rows.OpenSpec.upto Rows.boxKeepsSpec).bare.plain.varTypes Tryd.checked.prog = [] := by kernel_rfl
  rw [hvt, List.append_nil, hgs, List.append_nil] at hw
  have hk : Rows.uptoSmall H (ds ++ gs) = true := hcond _ rfl
  rw [hgs, List.append_nil] at hk
  have hw2 : (DataW.weightsEach Tryd.prog Tryd.f4.params.toList ds).all (· ≤ reachBytes) = true := hw
  exact law_callsX (P := Tryd.prog) (X := (fun _ => True)) (S := [22, 23, 36, 33, 3, 2, 9]) Tryd.func4 rfl rfl (by kernel_rfl) (by kernel_rfl) Tryd.underlying4 rfl Tryd.laidOut rfl (fun ds hd => by
    match ds, hd with
    | [d0, d1], _ => rfl) (fun h => boxKeeps_lawX ds h hw2 hk) hval hW hsh (boxKeeps_X hL)
theorem boxKeeps_said : Rows.BoxKeepsUptoSaid :=
  OpenClaim.holds_of_cond 4 Tryd.f4 rfl rfl rfl rfl rfl rfl rfl ⟨rfl, rfl, rfl, rfl, rfl⟩ rfl rfl rfl rfl rfl (by kernel_rfl) Tryd.func4 (by kernel_rfl)
    (of_decide_eq_true (by kernel_rfl)) (by unfold Func.isWrapper; first | (rw [if_pos (by decide +kernel)]; kernel_rfl) | (rw [if_neg (by decide +kernel)]; exact ⟨rfl, rfl⟩))
    (fun os started H enc _ F => by rw [OpenClaim.pre_eq_preRow]; exact boxKeeps_lifted os started H enc F)
theorem boxKeeps_plain (f : FuncId) (fn : Func) (hf : Tryd.pinned.checked.prog.funcNamed "sizar/sizarlaw24.BoxKeeps" = some f) (hfn : Tryd.pinned.checked.prog.funcs[f]? = some fn) :
    false = Tryd.pinned.checked.prog.looks [] ∧ ∀ (j : Nat) t, fn.params[j]? = some t → Tryd.pinned.checked.prog.wantsStandIn t = false := by
  obtain rfl : f = 4 := Option.some.inj ((show Tryd.prog.funcNamed "sizar/sizarlaw24.BoxKeeps" = some 4 by kernel_rfl).symm.trans hf) |>.symm
  obtain rfl : fn = Tryd.f4 := (Option.some.inj (Tryd.func4.symm.trans hfn)).symm
  exact ⟨by kernel_rfl, fun j t ht => by
    rw [Tryd.params4] at ht
    have hm : t ∈ ([22, 23] : List TypeId) := by simpa using Array.mem_of_getElem? ht
    have hall : (([22, 23] : List TypeId).all fun u => !Tryd.prog.wantsStandIn u) = true := by kernel_rfl
    exact (show Tryd.prog.wantsStandIn t = false by simpa using List.all_eq_true.1 hall t hm)⟩
theorem boxKeeps_card : Rows.BoxKeepsUptoCardSaid :=
  Claim7.holds_tied_plain_at .later [] _ _ _ _ boxKeeps_said (fun _ h => by cases h) (by kernel_rfl) (fun _ h => by cases h) boxKeepsUpto_row_tie rfl ⟨rfl, rfl⟩ (by kernel_rfl) rfl boxKeeps_plain (by kernel_rfl)
end Go.Proofs.YtnkafagfkblfeaaDoor
