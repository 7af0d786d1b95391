/- Proved: sizarlaw24.BoxKnown answers true. Conditions: none beyond the row. -/
import Derived.Test.YtnkafagfkblfeaaDoorBq
import Derived.Test.YtnkafagfkblfeaaDoorCards
import Derived.Test.YtnkafagfkblfeaaDoorTie
import Derived.Deep.DeepHandedRow
import Derived.Lay
import Derived.OpenShut
set_option linter.unusedVariables false
set_option linter.unusedSimpArgs false
set_option linter.unusedSectionVars false

namespace Go.Proofs.YtnkafagfkblfeaaDoor
open Go Sz Go.ChangeShapes Go.WideShapes Go.ChangeAt Go.RowKit

noncomputable def boxKnownWorld (os : Os) : World := World.laidAll Tryd.prog os Rows.boxKnownRow.laid
theorem boxKnown_met (os : Os) : laidMetH Tryd.prog Rows.boxKnownRow.laid ((boxKnownWorld os).forCall (fun _ _ => 0) ⟨#[], #[], []⟩).memory := by
  rw [MakeChecks.laidMetH_plain _ _ _ (by kernel_rfl)]
  exact laidMet_laidAll _ (by kernel_rfl) (by kernel_rfl)
theorem boxKnown_reads (os : Os) {H : Type} (enc : TypeId × Value → H) : ∃ places, DataW.whole enc Tryd.prog ((boxKnownWorld os).forCall (fun _ _ => 0) ⟨#[], #[], []⟩).memory Tryd.f5.params.toList Rows.boxKnownSpec.vars false (#[] : Array Value).toList 8 = some ([], [], places) :=
  ⟨[], by kernel_rfl⟩
theorem boxKnown_X {W : World} (hL : laidMetH Tryd.prog Rows.boxKnownRow.laid W) : (fun _ => True) W := trivial
set_option maxRecDepth 100000 in
theorem boxKnown_lifted (os : Os) (started : os.Started) (H : Type) (enc : TypeId × Value → H) (F : Stop.Interp) :
    ReturnsInHanded {} Tryd.checked os 5 .any ((OpenSpec.ofChange Rows.boxKnownSpec).preRow enc Tryd.prog Tryd.f5 Rows.boxKnownRow.domain false Rows.boxKnownRow.laid) (((OpenSpec.ofChange Rows.boxKnownSpec).at F).post enc Tryd.prog Tryd.f5 false true false false) := by
  obtain ⟨places, hx⟩ := boxKnown_reads os enc
  refine returnsInHanded_of_row (C := Tryd.checked) (s := (OpenSpec.ofChange Rows.boxKnownSpec)) Tryd.own started (by kernel_rfl) Tryd.func5
    (witness_row_at (enc := enc) (C := Tryd.checked) false (boxKnownWorld os) #[] (World.laidAll_os _ _ _) (by kernel_rfl) (by kernel_rfl) (by kernel_rfl)
      (OpenSpec.preRow_of_cond 8 hx (by kernel_rfl) (fun k hk => by cases hk) (by kernel_rfl) (boxKnown_met os))) ?_
  intro W base args ds gs before hval hW _ hcond hw hL hsh _
  have hgs : gs = [] := whole_gs rfl hW
  have hvt : (OpenSpec.ofChange Rows.boxKnownSpec).bare.plain.varTypes Tryd.checked.prog = [] := by kernel_rfl
  rw [hvt, List.append_nil, hgs, List.append_nil] at hw
  have hk : True := trivial
  skip
  have hw2 : (DataW.weightsEach Tryd.prog Tryd.f5.params.toList ds).all (· ≤ reachBytes) = true := hw
  exact law_callsX (P := Tryd.prog) (X := (fun _ => True)) (S := []) Tryd.func5 rfl rfl (by kernel_rfl) (by kernel_rfl) Tryd.underlying4 rfl Tryd.laidOut rfl (fun ds hd => by
    match ds, hd with
    | [], _ => rfl) (fun h => boxKnown_lawX ds h hw2) hval hW hsh (boxKnown_X hL)
theorem boxKnown_said : Rows.BoxKnownSaid :=
  OpenClaim.holds_of_cond 5 Tryd.f5 rfl rfl rfl rfl rfl rfl rfl ⟨rfl, rfl, rfl, rfl, rfl⟩ rfl rfl rfl rfl rfl (by kernel_rfl) Tryd.func5 (by kernel_rfl)
    (of_decide_eq_true (by kernel_rfl)) (by unfold Func.isWrapper; first | (rw [if_pos (by decide +kernel)]; kernel_rfl) | (rw [if_neg (by decide +kernel)]; exact ⟨rfl, rfl⟩))
    (fun os started H enc _ F => by rw [OpenClaim.pre_eq_preRow]; exact boxKnown_lifted os started H enc F)
theorem boxKnown_plain (f : FuncId) (fn : Func) (hf : Tryd.pinned.checked.prog.funcNamed "sizar/sizarlaw24.BoxKnown" = some f) (hfn : Tryd.pinned.checked.prog.funcs[f]? = some fn) :
    false = Tryd.pinned.checked.prog.looks [] ∧ ∀ (j : Nat) t, fn.params[j]? = some t → Tryd.pinned.checked.prog.wantsStandIn t = false := by
  obtain rfl : f = 5 := Option.some.inj ((show Tryd.prog.funcNamed "sizar/sizarlaw24.BoxKnown" = some 5 by kernel_rfl).symm.trans hf) |>.symm
  obtain rfl : fn = Tryd.f5 := (Option.some.inj (Tryd.func5.symm.trans hfn)).symm
  exact ⟨by kernel_rfl, fun j t ht => by
    rw [Tryd.params5] at ht
    have hm : t ∈ ([] : List TypeId) := by simpa using Array.mem_of_getElem? ht
    have hall : (([] : List TypeId).all fun u => !Tryd.prog.wantsStandIn u) = true := by kernel_rfl
    exact (show Tryd.prog.wantsStandIn t = false by simpa using List.all_eq_true.1 hall t hm)⟩
theorem boxKnown_card : Rows.BoxKnownCardSaid :=
  Claim7.holds_tied_plain_at .later [] _ _ _ _ boxKnown_said (fun _ h => by cases h) (by kernel_rfl) (fun _ h => by cases h) boxKnown_row_tie rfl ⟨rfl, rfl⟩ (by kernel_rfl) rfl boxKnown_plain (by kernel_rfl)
end Go.Proofs.YtnkafagfkblfeaaDoor
