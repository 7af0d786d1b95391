/- Proved: sizarlaw23.SortOrders answers true for every input of bulk at most 1048576 and leaves its arguments as they were. Conditions: none beyond the row. -/
import Derived.Test.YtlakiipofcibhaaGreatDoorOr
import Derived.Test.YtlakiipofcibhaaGreatDoorCards
import Derived.Test.YtlakiipofcibhaaGreatDoorTie
import Derived.Deep.DeepHandedRow
import Derived.Lay
import Derived.OpenShut
set_option linter.unusedVariables false
set_option linter.unusedSimpArgs false
set_option linter.unusedSectionVars false

namespace Go.Proofs.YtlakiipofcibhaaGreatDoor
open Go Sz Go.ChangeShapes Go.WideShapes Go.ChangeAt Go.RowKit
noncomputable def sortOrdersWorld (os : Os) : World := World.laidAll Tryz.prog os Rows.sortOrdersUptoRow.laid
theorem sortOrders_met (os : Os) : laidMetH Tryz.prog Rows.sortOrdersUptoRow.laid ((sortOrdersWorld os).forCall (fun _ _ => 0) ⟨#[], #[.slice none 0 0], []⟩).memory := by
  rw [MakeChecks.laidMetH_plain _ _ _ (by kernel_rfl)]
  exact laidMet_laidAll _ (by kernel_rfl) (by kernel_rfl)
theorem sortOrders_reads (os : Os) {H : Type} (enc : TypeId × Value → H) : ∃ places, DataW.whole enc Tryz.prog ((sortOrdersWorld os).forCall (fun _ _ => 0) ⟨#[], #[.slice none 0 0], []⟩).memory Tryz.f5.params.toList Rows.sortOrdersSpec.vars false (#[.slice none 0 0] : Array Value).toList 8 = some ([.nil], [], places) :=
  ⟨[], by kernel_rfl⟩
theorem sortOrders_X {W : World} (hL : laidMetH Tryz.prog Rows.sortOrdersUptoRow.laid W) : TabX W := TabX_of hL ⟨by kernel_rfl, by kernel_rfl⟩
set_option maxRecDepth 100000 in
theorem sortOrders_lifted (os : Os) (started : os.Started) (H : Type) (enc : TypeId × Value → H) (F : Stop.Interp) :
    ReturnsInHanded {} Tryz.checked os 5 .any ((Rows.OpenSpec.upto Rows.sortOrdersSpec).preRow enc Tryz.prog Tryz.f5 Rows.sortOrdersUptoRow.domain false Rows.sortOrdersUptoRow.laid) (((Rows.OpenSpec.upto Rows.sortOrdersSpec).at F).post enc Tryz.prog Tryz.f5 false true false false) := by
  obtain ⟨places, hx⟩ := sortOrders_reads os enc
  refine returnsInHanded_of_row (C := Tryz.checked) (s := (Rows.OpenSpec.upto Rows.sortOrdersSpec)) Tryz.own started (by kernel_rfl) Tryz.func5
    (witness_row_at (enc := enc) (C := Tryz.checked) false (sortOrdersWorld os) #[.slice none 0 0] (World.laidAll_os _ _ _) (by kernel_rfl) (by kernel_rfl) (by kernel_rfl)
      (OpenSpec.preRow_of_cond 8 hx (by kernel_rfl) (fun k hk => by cases hk; kernel_rfl) (by kernel_rfl) (sortOrders_met os))) ?_
  intro W base args ds gs before hval hW _ hcond hw hL hsh _
  have hgs : gs = [] := whole_gs rfl hW
  have hvt : (Rows.OpenSpec.upto Rows.sortOrdersSpec).bare.plain.varTypes Tryz.checked.prog = [] := by kernel_rfl
  rw [hvt, List.append_nil, hgs, List.append_nil] at hw
  have hk : Rows.uptoSmall H (ds ++ gs) = true := hcond _ rfl
  rw [hgs, List.append_nil] at hk
  have hw2 : (DataW.weightsEach Tryz.prog Tryz.f5.params.toList ds).all (· ≤ reachBytes) = true := hw
  exact law_callsX (P := Tryz.prog) (X := TabX) (S := [25, 27, 3, 2, 9]) Tryz.func5 rfl rfl (by kernel_rfl) (by kernel_rfl) Tryz.underlying4 rfl Tryz.laidOut rfl (fun ds hd => by
    match ds, hd with
    | [d0], _ => rfl) (fun h => sortOrders_lawX ds h hw2 hk) hval hW hsh (sortOrders_X hL)
theorem sortOrders_said : Rows.SortOrdersUptoSaid :=
  OpenClaim.holds_of_cond 5 Tryz.f5 rfl rfl rfl rfl rfl rfl rfl ⟨rfl, rfl, rfl, rfl, rfl⟩ rfl rfl rfl rfl rfl (by kernel_rfl) Tryz.func5 (by kernel_rfl)
    (of_decide_eq_true (by kernel_rfl)) (by unfold Func.isWrapper; first | (rw [if_pos (by decide +kernel)]; kernel_rfl) | (rw [if_neg (by decide +kernel)]; exact ⟨rfl, rfl⟩))
    (fun os started H enc _ F => by rw [OpenClaim.pre_eq_preRow]; exact sortOrders_lifted os started H enc F)
theorem sortOrders_plain (f : FuncId) (fn : Func) (hf : Tryz.pinned.checked.prog.funcNamed "sizar/sizarlaw23.SortOrders" = some f) (hfn : Tryz.pinned.checked.prog.funcs[f]? = some fn) :
    true = Tryz.pinned.checked.prog.looks [] ∧ ∀ (j : Nat) t, fn.params[j]? = some t → Tryz.pinned.checked.prog.wantsStandIn t = false := by
  obtain rfl : f = 5 := Option.some.inj ((show Tryz.prog.funcNamed "sizar/sizarlaw23.SortOrders" = some 5 by kernel_rfl).symm.trans hf) |>.symm
  obtain rfl : fn = Tryz.f5 := (Option.some.inj (Tryz.func5.symm.trans hfn)).symm
  exact ⟨by kernel_rfl, fun j t ht => by
    rw [Tryz.params5] at ht
    have hm : t ∈ ([25] : List TypeId) := by simpa using Array.mem_of_getElem? ht
    have hall : (([25] : List TypeId).all fun u => !Tryz.prog.wantsStandIn u) = true := by kernel_rfl
    exact (show Tryz.prog.wantsStandIn t = false by simpa using List.all_eq_true.1 hall t hm)⟩
theorem sortOrders_card : Rows.SortOrdersUptoCardSaid :=
  Claim7.holds_tied_plain_at .later [] _ _ _ _ sortOrders_said (fun _ h => by cases h) (by kernel_rfl) (fun _ h => by cases h) sortOrdersUpto_row_tie rfl ⟨rfl, rfl⟩ (by kernel_rfl) rfl sortOrders_plain (by kernel_rfl)
end Go.Proofs.YtlakiipofcibhaaGreatDoor
