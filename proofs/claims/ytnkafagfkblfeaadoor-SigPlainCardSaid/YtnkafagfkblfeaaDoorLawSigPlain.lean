/- Proved: sizarlaw17.SigPlain answers true for every input and leaves its arguments as they were. Conditions: none beyond the row. -/
import Derived.Test.YtnkafagfkblfeaaDoorSig
import Derived.Test.YtnkafagfkblfeaaDoorCards
import Derived.Test.YtnkafagfkblfeaaDoorTie
import Derived.Deep.DeepHandedRow
import Derived.Lay
import Derived.OpenShut
set_option linter.unusedVariables false
set_option linter.unusedSimpArgs false
set_option linter.unusedSectionVars false

namespace Go.Proofs.YtnkafagfkblfeaaDoor
open Go Sz Go.ChangeShapes Go.WideShapes Go.ChangeAt Go.RowKit

noncomputable def sigPlainWorld (os : Os) : World := World.laidAll Tryd.prog os Rows.sigPlainRow.laid
theorem sigPlain_met (os : Os) : laidMetH Tryd.prog Rows.sigPlainRow.laid ((sigPlainWorld os).forCall (fun _ _ => 0) ⟨#[], #[.string ⟨#[]⟩, .int .i64 0], []⟩).memory := by
  rw [MakeChecks.laidMetH_plain _ _ _ (by kernel_rfl)]
  exact laidMet_laidAll _ (by kernel_rfl) (by kernel_rfl)
theorem sigPlain_reads (os : Os) {H : Type} (enc : TypeId × Value → H) : ∃ places, DataW.whole enc Tryd.prog ((sigPlainWorld os).forCall (fun _ _ => 0) ⟨#[], #[.string ⟨#[]⟩, .int .i64 0], []⟩).memory Tryd.f11.params.toList Rows.sigPlainSpec.vars false (#[.string ⟨#[]⟩, .int .i64 0] : Array Value).toList 8 = some ([.lit (.string []), .lit (.int .i64 0)], [], places) :=
  ⟨[], by kernel_rfl⟩
theorem sigPlain_X {W : World} (hL : laidMetH Tryd.prog Rows.sigPlainRow.laid W) : TabX W := TabX_of hL (by kernel_rfl)
set_option maxRecDepth 100000 in
theorem sigPlain_lifted (os : Os) (started : os.Started) (H : Type) (enc : TypeId × Value → H) (F : Stop.Interp) :
    ReturnsInHanded {} Tryd.checked os 11 .any ((OpenSpec.ofChange Rows.sigPlainSpec).preRow enc Tryd.prog Tryd.f11 Rows.sigPlainRow.domain false Rows.sigPlainRow.laid) (((OpenSpec.ofChange Rows.sigPlainSpec).at F).post enc Tryd.prog Tryd.f11 false true false false) := by
  obtain ⟨places, hx⟩ := sigPlain_reads os enc
  refine returnsInHanded_of_row (C := Tryd.checked) (s := (OpenSpec.ofChange Rows.sigPlainSpec)) Tryd.own started (by kernel_rfl) Tryd.func11
    (witness_row_at (enc := enc) (C := Tryd.checked) false (sigPlainWorld os) #[.string ⟨#[]⟩, .int .i64 0] (World.laidAll_os _ _ _) (by kernel_rfl) (by kernel_rfl) (by kernel_rfl)
      (OpenSpec.preRow_of_cond 8 hx (by kernel_rfl) (fun k hk => by cases hk) (by kernel_rfl) (sigPlain_met os))) ?_
  intro W base args ds gs before hval hW _ hcond hw hL hsh _
  have hgs : gs = [] := whole_gs rfl hW
  have hvt : (OpenSpec.ofChange Rows.sigPlainSpec).bare.plain.varTypes Tryd.checked.prog = [] := by kernel_rfl
  rw [hvt, List.append_nil, hgs, List.append_nil] at hw
  have hk : True := trivial
  skip
  have hw2 : (DataW.weightsEach Tryd.prog Tryd.f11.params.toList ds).all (· ≤ reachBytes) = true := hw
  exact law_callsX (P := Tryd.prog) (X := TabX) (S := [3, 9]) Tryd.func11 rfl rfl (by kernel_rfl) (by kernel_rfl) Tryd.underlying4 rfl Tryd.laidOut rfl (fun ds hd => by
    match ds, hd with
    | [d0, d1], _ => rfl) (fun h => sigPlain_lawX ds h hw2) hval hW hsh (sigPlain_X hL)
theorem sigPlain_said : Rows.SigPlainSaid :=
  OpenClaim.holds_of_cond 11 Tryd.f11 rfl rfl rfl rfl rfl rfl rfl ⟨rfl, rfl, rfl, rfl, rfl⟩ rfl rfl rfl rfl rfl (by kernel_rfl) Tryd.func11 (by kernel_rfl)
    (of_decide_eq_true (by kernel_rfl)) (by unfold Func.isWrapper; first | (rw [if_pos (by decide +kernel)]; kernel_rfl) | (rw [if_neg (by decide +kernel)]; exact ⟨rfl, rfl⟩))
    (fun os started H enc _ F => by rw [OpenClaim.pre_eq_preRow]; exact sigPlain_lifted os started H enc F)
theorem sigPlain_plain (f : FuncId) (fn : Func) (hf : Tryd.pinned.checked.prog.funcNamed "sizar/sizarlaw17.SigPlain" = some f) (hfn : Tryd.pinned.checked.prog.funcs[f]? = some fn) :
    false = Tryd.pinned.checked.prog.looks [] ∧ ∀ (j : Nat) t, fn.params[j]? = some t → Tryd.pinned.checked.prog.wantsStandIn t = false := by
  obtain rfl : f = 11 := Option.some.inj ((show Tryd.prog.funcNamed "sizar/sizarlaw17.SigPlain" = some 11 by kernel_rfl).symm.trans hf) |>.symm
  obtain rfl : fn = Tryd.f11 := (Option.some.inj (Tryd.func11.symm.trans hfn)).symm
  exact ⟨by kernel_rfl, fun j t ht => by
    rw [Tryd.params11] at ht
    have hm : t ∈ ([9, 3] : List TypeId) := by simpa using Array.mem_of_getElem? ht
    have hall : (([9, 3] : List TypeId).all fun u => !Tryd.prog.wantsStandIn u) = true := by kernel_rfl
    exact (show Tryd.prog.wantsStandIn t = false by simpa using List.all_eq_true.1 hall t hm)⟩
theorem sigPlain_card : Rows.SigPlainCardSaid :=
  Claim7.holds_tied_plain_at .later [] _ _ _ _ sigPlain_said (fun _ h => by cases h) (by kernel_rfl) (fun _ h => by cases h) sigPlain_row_tie rfl ⟨rfl, rfl⟩ (by kernel_rfl) rfl sigPlain_plain (by kernel_rfl)
end Go.Proofs.YtnkafagfkblfeaaDoor
