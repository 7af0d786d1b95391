/- Proved: sizarlaw17.SigFinds answers true for every input of bulk at most 1048576 and leaves its arguments as they were. Conditions: none beyond the row. -/
import Derived.Test.YtnkafagfkblfeaaDoorFd
import Derived.Test.YtnkafagfkblfeaaDoorCards
import Derived.Test.YtnkafagfkblfeaaDoorTie
import Derived.Deep.DeepHandedRow
import Derived.Lay
import Derived.OpenShut
set_option linter.unusedVariables false
set_option linter.unusedSimpArgs false
set_option linter.unusedSectionVars false

namespace Go.Proofs.YtnkafagfkblfeaaDoor
open Go Sz Go.ChangeShapes Go.WideShapes Go.ChangeAt Go.RowKit

noncomputable def sigFindsWorld (os : Os) : World := World.laidAll Tryd.prog os Rows.sigFindsUptoRow.laid
theorem sigFinds_met (os : Os) : laidMetH Tryd.prog Rows.sigFindsUptoRow.laid ((sigFindsWorld os).forCall (fun _ _ => 0) ⟨#[], #[.slice none 0 0, .string ⟨#[]⟩, .int .i64 0], []⟩).memory := by
  rw [MakeChecks.laidMetH_plain _ _ _ (by kernel_rfl)]
  exact laidMet_laidAll _ (by kernel_rfl) (by kernel_rfl)
theorem sigFinds_reads (os : Os) {H : Type} (enc : TypeId × Value → H) : ∃ places, DataW.whole enc Tryd.prog ((sigFindsWorld os).forCall (fun _ _ => 0) ⟨#[], #[.slice none 0 0, .string ⟨#[]⟩, .int .i64 0], []⟩).memory Tryd.f12.params.toList Rows.sigFindsSpec.vars false (#[.slice none 0 0, .string ⟨#[]⟩, .int .i64 0] : Array Value).toList 8 = some ([.nil, .lit (.string []), .lit (.int .i64 0)], [], places) :=
  ⟨[], by kernel_rfl⟩
theorem sigFinds_X {W : World} (hL : laidMetH Tryd.prog Rows.sigFindsUptoRow.laid W) : TabX W := TabX_of hL (by kernel_rfl)
set_option maxRecDepth 100000 in
theorem sigFinds_lifted (os : Os) (started : os.Started) (H : Type) (enc : TypeId × Value → H) (F : Stop.Interp) :
    ReturnsInHanded {} Tryd.checked os 12 .any ((Rows.OpenSpec.upto Rows.sigFindsSpec).preRow enc Tryd.prog Tryd.f12 Rows.sigFindsUptoRow.domain false Rows.sigFindsUptoRow.laid) (((Rows.OpenSpec.upto Rows.sigFindsSpec).at F).post enc Tryd.prog Tryd.f12 false true false false) := by
  obtain ⟨places, hx⟩ := sigFinds_reads os enc
  refine returnsInHanded_of_row (C := Tryd.checked) (s := (Rows.OpenSpec.upto Rows.sigFindsSpec)) Tryd.own started (by kernel_rfl) Tryd.func12
    (witness_row_at (enc := enc) (C := Tryd.checked) false (sigFindsWorld os) #[.slice none 0 0, .string ⟨#[]⟩, .int .i64 0] (World.laidAll_os _ _ _) (by kernel_rfl) (by kernel_rfl) (by kernel_rfl)
      (OpenSpec.preRow_of_cond 8 hx (by kernel_rfl) (fun k hk => by cases hk; kernel_rfl) (by kernel_rfl) (sigFinds_met os))) ?_
  intro W base args ds gs before hval hW _ hcond hw hL hsh _
  have hgs : gs = [] := whole_gs rfl hW
  have hvt : (Rows.OpenSpec.upto Rows.sigFindsSpec).bare.plain.varTypes Tryd.checked.prog = [] := by kernel_rfl
  rw [hvt, List.append_nil, hgs, List.append_nil] at hw
  have hk : Rows.uptoSmall H (ds ++ gs) = true := hcond _ rfl
  rw [hgs, List.append_nil] at hk
  have hw2 : (DataW.weightsEach Tryd.prog Tryd.f12.params.toList ds).all (· ≤ reachBytes) = true := hw
  exact law_callsX (P := Tryd.prog) (X := TabX) (S := [73, 78, 9, 3, 37, 4]) Tryd.func12 rfl rfl (by kernel_rfl) (by kernel_rfl) Tryd.underlying4 rfl Tryd.laidOut rfl (fun ds hd => by
    match ds, hd with
    | [d0, d1, d2], _ => rfl) (fun h => sigFinds_lawX ds h hw2 hk) hval hW hsh (sigFinds_X hL)
theorem sigFinds_said : Rows.SigFindsUptoSaid :=
  OpenClaim.holds_of_cond 12 Tryd.f12 rfl rfl rfl rfl rfl rfl rfl ⟨rfl, rfl, rfl, rfl, rfl⟩ rfl rfl rfl rfl rfl (by kernel_rfl) Tryd.func12 (by kernel_rfl)
    (of_decide_eq_true (by kernel_rfl)) (by unfold Func.isWrapper; first | (rw [if_pos (by decide +kernel)]; kernel_rfl) | (rw [if_neg (by decide +kernel)]; exact ⟨rfl, rfl⟩))
    (fun os started H enc _ F => by rw [OpenClaim.pre_eq_preRow]; exact sigFinds_lifted os started H enc F)
theorem sigFinds_plain (f : FuncId) (fn : Func) (hf : Tryd.pinned.checked.prog.funcNamed "sizar/sizarlaw17.SigFinds" = some f) (hfn : Tryd.pinned.checked.prog.funcs[f]? = some fn) :
    false = Tryd.pinned.checked.prog.looks [] ∧ ∀ (j : Nat) t, fn.params[j]? = some t → Tryd.pinned.checked.prog.wantsStandIn t = false := by
  obtain rfl : f = 12 := Option.some.inj ((show Tryd.prog.funcNamed "sizar/sizarlaw17.SigFinds" = some 12 by kernel_rfl).symm.trans hf) |>.symm
  obtain rfl : fn = Tryd.f12 := (Option.some.inj (Tryd.func12.symm.trans hfn)).symm
  exact ⟨by kernel_rfl, fun j t ht => by
    rw [Tryd.params12] at ht
    have hm : t ∈ ([73, 9, 3] : List TypeId) := by simpa using Array.mem_of_getElem? ht
    have hall : (([73, 9, 3] : List TypeId).all fun u => !Tryd.prog.wantsStandIn u) = true := by kernel_rfl
    exact (show Tryd.prog.wantsStandIn t = false by simpa using List.all_eq_true.1 hall t hm)⟩
theorem sigFinds_card : Rows.SigFindsUptoCardSaid :=
  Claim7.holds_tied_plain_at .later [] _ _ _ _ sigFinds_said (fun _ h => by cases h) (by kernel_rfl) (fun _ h => by cases h) sigFindsUpto_row_tie rfl ⟨rfl, rfl⟩ (by kernel_rfl) rfl sigFinds_plain (by kernel_rfl)
end Go.Proofs.YtnkafagfkblfeaaDoor
