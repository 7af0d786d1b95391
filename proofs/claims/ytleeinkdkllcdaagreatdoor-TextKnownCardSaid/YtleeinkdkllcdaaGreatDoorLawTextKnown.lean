/- Proved: sizarlaw21.TextKnown answers true. Conditions: none beyond the row. -/
import Derived.Test.YtleeinkdkllcdaaGreatDoorKw
import Derived.Test.YtleeinkdkllcdaaGreatDoorCards
import Derived.Test.YtleeinkdkllcdaaGreatDoorTie
import Derived.Deep.DeepHandedRow
import Derived.Lay
import Derived.OpenShut
set_option linter.unusedVariables false
set_option linter.unusedSimpArgs false
set_option linter.unusedSectionVars false

namespace Go.Proofs.YtleeinkdkllcdaaGreatDoor
open Go Sz Go.ChangeShapes Go.WideShapes Go.ChangeAt Go.RowKit

noncomputable def textKnownWorld (os : Os) : World := World.laidAll Tryz.prog os Rows.textKnownRow.laid
theorem textKnown_met (os : Os) : laidMetH Tryz.prog Rows.textKnownRow.laid ((textKnownWorld os).forCall (fun _ _ => 0) ⟨#[], #[], []⟩).memory := by
  rw [MakeChecks.laidMetH_plain _ _ _ (by kernel_rfl)]
  exact laidMet_laidAll _ (by kernel_rfl) (by kernel_rfl)
theorem textKnown_reads (os : Os) {H : Type} (enc : TypeId × Value → H) : ∃ places, DataW.whole enc Tryz.prog ((textKnownWorld os).forCall (fun _ _ => 0) ⟨#[], #[], []⟩).memory Tryz.f6.params.toList Rows.textKnownSpec.vars false (#[] : Array Value).toList 8 = some ([], [], places) :=
  ⟨[], by kernel_rfl⟩
theorem textKnown_X {W : World} (hL : laidMetH Tryz.prog Rows.textKnownRow.laid W) : TabX W := TabX_of hL ⟨by kernel_rfl, by kernel_rfl⟩
set_option maxRecDepth 100000 in
theorem textKnown_lifted (os : Os) (started : os.Started) (H : Type) (enc : TypeId × Value → H) (F : Stop.Interp) :
    ReturnsInHanded {} Tryz.checked os 6 .any ((OpenSpec.ofChange Rows.textKnownSpec).preRow enc Tryz.prog Tryz.f6 Rows.textKnownRow.domain false Rows.textKnownRow.laid) (((OpenSpec.ofChange Rows.textKnownSpec).at F).post enc Tryz.prog Tryz.f6 false true false false) := by
  obtain ⟨places, hx⟩ := textKnown_reads os enc
  refine returnsInHanded_of_row (C := Tryz.checked) (s := (OpenSpec.ofChange Rows.textKnownSpec)) Tryz.own started (by kernel_rfl) Tryz.func6
    (witness_row_at (enc := enc) (C := Tryz.checked) false (textKnownWorld os) #[] (World.laidAll_os _ _ _) (by kernel_rfl) (by kernel_rfl) (by kernel_rfl)
      (OpenSpec.preRow_of_cond 8 hx (by kernel_rfl) (fun k hk => by cases hk) (by kernel_rfl) (textKnown_met os))) ?_
  intro W base args ds gs before hval hW _ hcond hw hL hsh _
  have hgs : gs = [] := whole_gs rfl hW
  have hvt : (OpenSpec.ofChange Rows.textKnownSpec).bare.plain.varTypes Tryz.checked.prog = [] := by kernel_rfl
  rw [hvt, List.append_nil, hgs, List.append_nil] at hw
  have hk : True := trivial
  skip
  have hw2 : (DataW.weightsEach Tryz.prog Tryz.f6.params.toList ds).all (· ≤ reachBytes) = true := hw
  exact law_callsX (P := Tryz.prog) (X := TabX) (S := []) Tryz.func6 rfl rfl (by kernel_rfl) (by kernel_rfl) Tryz.underlying4 rfl Tryz.laidOut rfl (fun ds hd => by
    match ds, hd with
    | [], _ => rfl) (fun h => textKnown_lawX ds h hw2) hval hW hsh (textKnown_X hL)
theorem textKnown_said : Rows.TextKnownSaid :=
  OpenClaim.holds_of_cond 6 Tryz.f6 rfl rfl rfl rfl rfl rfl rfl ⟨rfl, rfl, rfl, rfl, rfl⟩ rfl rfl rfl rfl rfl (by kernel_rfl) Tryz.func6 (by kernel_rfl)
    (of_decide_eq_true (by kernel_rfl)) (by unfold Func.isWrapper; first | (rw [if_pos (by decide +kernel)]; kernel_rfl) | (rw [if_neg (by decide +kernel)]; exact ⟨rfl, rfl⟩))
    (fun os started H enc _ F => by rw [OpenClaim.pre_eq_preRow]; exact textKnown_lifted os started H enc F)
theorem textKnown_plain (f : FuncId) (fn : Func) (hf : Tryz.pinned.checked.prog.funcNamed "sizar/sizarlaw21.TextKnown" = some f) (hfn : Tryz.pinned.checked.prog.funcs[f]? = some fn) :
    true = Tryz.pinned.checked.prog.looks [] ∧ ∀ (j : Nat) t, fn.params[j]? = some t → Tryz.pinned.checked.prog.wantsStandIn t = false := by
  obtain rfl : f = 6 := Option.some.inj ((show Tryz.prog.funcNamed "sizar/sizarlaw21.TextKnown" = some 6 by kernel_rfl).symm.trans hf) |>.symm
  obtain rfl : fn = Tryz.f6 := (Option.some.inj (Tryz.func6.symm.trans hfn)).symm
  exact ⟨by kernel_rfl, fun j t ht => by
    rw [Tryz.params6] at ht
    have hm : t ∈ ([] : List TypeId) := by simpa using Array.mem_of_getElem? ht
    have hall : (([] : List TypeId).all fun u => !Tryz.prog.wantsStandIn u) = true := by kernel_rfl
    exact (show Tryz.prog.wantsStandIn t = false by simpa using List.all_eq_true.1 hall t hm)⟩
theorem textKnown_card : Rows.TextKnownCardSaid :=
  Claim7.holds_tied_plain_at .later [] _ _ _ _ textKnown_said (fun _ h => by cases h) (by kernel_rfl) (fun _ h => by cases h) textKnown_row_tie rfl ⟨rfl, rfl⟩ (by kernel_rfl) rfl textKnown_plain (by kernel_rfl)
end Go.Proofs.YtleeinkdkllcdaaGreatDoor
