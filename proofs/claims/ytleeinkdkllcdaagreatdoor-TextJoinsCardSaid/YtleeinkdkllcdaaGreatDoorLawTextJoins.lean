/- Proved: sizarlaw21.TextJoins answers true for every input and leaves its arguments as they were. Conditions: none beyond the row. -/
import Derived.Test.YtleeinkdkllcdaaGreatDoorTj
import Derived.Test.YtleeinkdkllcdaaGreatDoorCards
import Derived.Test.YtleeinkdkllcdaaGreatDoorTie
import Derived.Deep.DeepHandedRow
import Derived.Lay
import Derived.OpenShut
set_option linter.unusedVariables false
set_option linter.unusedSimpArgs false
set_option linter.unusedSectionVars false

namespace Go.Proofs.YtleeinkdkllcdaaGreatDoor
open Go Sz Go.ChangeShapes Go.WideShapes Go.ChangeAt Go.RowKit

noncomputable def textJoinsWorld (os : Os) : World := World.laidAll Tryz.prog os Rows.textJoinsRow.laid
theorem textJoins_met (os : Os) : laidMetH Tryz.prog Rows.textJoinsRow.laid ((textJoinsWorld os).forCall (fun _ _ => 0) ⟨#[], #[.string ⟨#[]⟩, .string ⟨#[]⟩], []⟩).memory := by
  rw [MakeChecks.laidMetH_plain _ _ _ (by kernel_rfl)]
  exact laidMet_laidAll _ (by kernel_rfl) (by kernel_rfl)
theorem textJoins_reads (os : Os) {H : Type} (enc : TypeId × Value → H) : ∃ places, DataW.whole enc Tryz.prog ((textJoinsWorld os).forCall (fun _ _ => 0) ⟨#[], #[.string ⟨#[]⟩, .string ⟨#[]⟩], []⟩).memory Tryz.f4.params.toList Rows.textJoinsSpec.vars false (#[.string ⟨#[]⟩, .string ⟨#[]⟩] : Array Value).toList 8 = some ([.lit (.string []), .lit (.string [])], [], places) :=
  ⟨[], by kernel_rfl⟩
theorem textJoins_X {W : World} (hL : laidMetH Tryz.prog Rows.textJoinsRow.laid W) : TabX W := TabX_of hL ⟨by kernel_rfl, by kernel_rfl⟩
set_option maxRecDepth 100000 in
theorem textJoins_lifted (os : Os) (started : os.Started) (H : Type) (enc : TypeId × Value → H) (F : Stop.Interp) :
    ReturnsInHanded {} Tryz.checked os 4 .any ((OpenSpec.ofChange Rows.textJoinsSpec).preRow enc Tryz.prog Tryz.f4 Rows.textJoinsRow.domain false Rows.textJoinsRow.laid) (((OpenSpec.ofChange Rows.textJoinsSpec).at F).post enc Tryz.prog Tryz.f4 false true false false) := by
  obtain ⟨places, hx⟩ := textJoins_reads os enc
  refine returnsInHanded_of_row (C := Tryz.checked) (s := (OpenSpec.ofChange Rows.textJoinsSpec)) Tryz.own started (by kernel_rfl) Tryz.func4
    (witness_row_at (enc := enc) (C := Tryz.checked) false (textJoinsWorld os) #[.string ⟨#[]⟩, .string ⟨#[]⟩] (World.laidAll_os _ _ _) (by kernel_rfl) (by kernel_rfl) (by kernel_rfl)
      (OpenSpec.preRow_of_cond 8 hx (by kernel_rfl) (fun k hk => by cases hk) (by kernel_rfl) (textJoins_met os))) ?_
  intro W base args ds gs before hval hW _ hcond hw hL hsh _
  have hgs : gs = [] := whole_gs rfl hW
  have hvt : (OpenSpec.ofChange Rows.textJoinsSpec).bare.plain.varTypes Tryz.checked.prog = [] := by kernel_rfl
  rw [hvt, List.append_nil, hgs, List.append_nil] at hw
  have hk : True := trivial
  skip
  have hw2 : (DataW.weightsEach Tryz.prog Tryz.f4.params.toList ds).all (· ≤ reachBytes) = true := hw
  exact law_callsX (P := Tryz.prog) (X := TabX) (S := [9]) Tryz.func4 rfl rfl (by kernel_rfl) (by kernel_rfl) Tryz.underlying4 rfl Tryz.laidOut rfl (fun ds hd => by
    match ds, hd with
    | [d0, d1], _ => rfl) (fun h => textJoins_lawX ds h hw2) hval hW hsh (textJoins_X hL)
theorem textJoins_said : Rows.TextJoinsSaid :=
  OpenClaim.holds_of_cond 4 Tryz.f4 rfl rfl rfl rfl rfl rfl rfl ⟨rfl, rfl, rfl, rfl, rfl⟩ rfl rfl rfl rfl rfl (by kernel_rfl) Tryz.func4 (by kernel_rfl)
    (of_decide_eq_true (by kernel_rfl)) (by unfold Func.isWrapper; first | (rw [if_pos (by decide +kernel)]; kernel_rfl) | (rw [if_neg (by decide +kernel)]; exact ⟨rfl, rfl⟩))
    (fun os started H enc _ F => by rw [OpenClaim.pre_eq_preRow]; exact textJoins_lifted os started H enc F)
theorem textJoins_plain (f : FuncId) (fn : Func) (hf : Tryz.pinned.checked.prog.funcNamed "sizar/sizarlaw21.TextJoins" = some f) (hfn : Tryz.pinned.checked.prog.funcs[f]? = some fn) :
    true = Tryz.pinned.checked.prog.looks [] ∧ ∀ (j : Nat) t, fn.params[j]? = some t → Tryz.pinned.checked.prog.wantsStandIn t = false := by
  obtain rfl : f = 4 := Option.some.inj ((show Tryz.prog.funcNamed "sizar/sizarlaw21.TextJoins" = some 4 by kernel_rfl).symm.trans hf) |>.symm
  obtain rfl : fn = Tryz.f4 := (Option.some.inj (Tryz.func4.symm.trans hfn)).symm
  exact ⟨by kernel_rfl, fun j t ht => by
    rw [Tryz.params4] at ht
    have hm : t ∈ ([9, 9] : List TypeId) := by simpa using Array.mem_of_getElem? ht
    have hall : (([9, 9] : List TypeId).all fun u => !Tryz.prog.wantsStandIn u) = true := by kernel_rfl
    exact (show Tryz.prog.wantsStandIn t = false by simpa using List.all_eq_true.1 hall t hm)⟩
theorem textJoins_card : Rows.TextJoinsCardSaid :=
  Claim7.holds_tied_plain_at .later [] _ _ _ _ textJoins_said (fun _ h => by cases h) (by kernel_rfl) (fun _ h => by cases h) textJoins_row_tie rfl ⟨rfl, rfl⟩ (by kernel_rfl) rfl textJoins_plain (by kernel_rfl)
end Go.Proofs.YtleeinkdkllcdaaGreatDoor
