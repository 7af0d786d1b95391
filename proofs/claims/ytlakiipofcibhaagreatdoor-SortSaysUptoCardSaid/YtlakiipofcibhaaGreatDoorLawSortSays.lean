/- Proved: sizarlaw23.SortSays answers true for every input of bulk at most 1048576 and leaves its arguments as they were. Conditions: none beyond the row. -/
import Derived.Test.YtlakiipofcibhaaGreatDoorDc
import Derived.Test.YtlakiipofcibhaaGreatDoorCards
import Derived.Test.YtlakiipofcibhaaGreatDoorTie
import Derived.Deep.DeepHandedRow
import Derived.Lay
import Derived.OpenShut
set_option linter.unusedVariables false
set_option linter.unusedSimpArgs false
set_option linter.unusedSectionVars false
set_option maxHeartbeats 16000000
set_option maxRecDepth 100000

namespace Go.Proofs.YtlakiipofcibhaaGreatDoor
open Go Sz Go.ChangeShapes Go.WideShapes Go.ChangeAt Go.RowKit
noncomputable def sortSaysWorld (os : Os) : World := World.laidAll Tryz.prog os Rows.sortSaysUptoRow.laid
theorem sortSays_met (os : Os) : laidMetH Tryz.prog Rows.sortSaysUptoRow.laid ((sortSaysWorld os).forCall (fun _ _ => 0) ⟨#[], #[.agg #[.int .i64 0, .int .i64 0, .string ⟨#[]⟩, .slice none 0 0]], []⟩).memory := by
 rw [MakeChecks.laidMetH_plain _ _ _ (by kernel_rfl)]
 exact laidMet_laidAll _ (by kernel_rfl) (by kernel_rfl)
theorem sortSays_reads (os : Os) {H : Type} (enc : TypeId × Value → H) : ∃ places, DataW.whole enc Tryz.prog ((sortSaysWorld os).forCall (fun _ _ => 0) ⟨#[], #[.agg #[.int .i64 0, .int .i64 0, .string ⟨#[]⟩, .slice none 0 0]], []⟩).memory Tryz.f9.params.toList Rows.sortSaysSpec.vars false (#[.agg #[.int .i64 0, .int .i64 0, .string ⟨#[]⟩, .slice none 0 0]] : Array Value).toList 8 = some ([.agg [.lit (.int .i64 0), .lit (.int .i64 0), .lit (.string []), .nil]], [], places) :=
 ⟨[], by kernel_rfl⟩
theorem sortSays_X {W : World} (hL : laidMetH Tryz.prog Rows.sortSaysUptoRow.laid W) : TabX W := TabX_of hL ⟨by kernel_rfl, by kernel_rfl⟩
theorem sortSays_lifted (os : Os) (started : os.Started) (H : Type) (enc : TypeId × Value → H) (F : Stop.Interp) :
 ReturnsInHanded {} Tryz.checked os 9 .any ((Rows.OpenSpec.upto Rows.sortSaysSpec).preRow enc Tryz.prog Tryz.f9 Rows.sortSaysUptoRow.domain false Rows.sortSaysUptoRow.laid) (((Rows.OpenSpec.upto Rows.sortSaysSpec).at F).post enc Tryz.prog Tryz.f9 false true false false) := by
 obtain ⟨places, hx⟩ := sortSays_reads os enc
 refine returnsInHanded_of_row (C := Tryz.checked) (s := (Rows.OpenSpec.upto Rows.sortSaysSpec)) Tryz.own started (by kernel_rfl) Tryz.func9
  (witness_row_at (enc := enc) (C := Tryz.checked) false (sortSaysWorld os) #[.agg #[.int .i64 0, .int .i64 0, .string ⟨#[]⟩, .slice none 0 0]] (World.laidAll_os _ _ _) (by kernel_rfl) (by kernel_rfl) (by kernel_rfl)
   (OpenSpec.preRow_of_cond 8 hx (by kernel_rfl) (fun k hk => by cases hk; kernel_rfl) (by kernel_rfl) (sortSays_met os))) ?_
 intro W base args ds gs before hval hW _ hcond hw hL hsh _
 have hgs : gs = [] := whole_gs rfl hW
 have hvt : (Rows.OpenSpec.upto Rows.sortSaysSpec).bare.plain.varTypes Tryz.checked.prog = [] := by kernel_rfl
 rw [hvt, List.append_nil, hgs, List.append_nil] at hw
 have hk : Rows.uptoSmall H (ds ++ gs) = true := hcond _ rfl
 rw [hgs, List.append_nil] at hk
 have hw2 : (DataW.weightsEach Tryz.prog Tryz.f9.params.toList ds).all (· ≤ reachBytes) = true := hw
 exact law_callsX (P := Tryz.prog) (X := TabX) (S := [27, 25, 3, 2, 9]) Tryz.func9 rfl rfl (by kernel_rfl) (by kernel_rfl) Tryz.underlying4 rfl Tryz.laidOut rfl (fun ds hd => by
  match ds, hd with
  | [d0], _ => rfl) (fun h => sortSays_lawX ds h hw2 hk) hval hW hsh (sortSays_X hL)
theorem sortSays_said : Rows.SortSaysUptoSaid :=
 OpenClaim.holds_of_cond 9 Tryz.f9 rfl rfl rfl rfl rfl rfl rfl ⟨rfl, rfl, rfl, rfl, rfl⟩ rfl rfl rfl rfl rfl (by kernel_rfl) Tryz.func9 (by kernel_rfl)
  (of_decide_eq_true (by kernel_rfl)) (by unfold Func.isWrapper; first | (rw [if_pos (by decide +kernel)]; kernel_rfl) | (rw [if_neg (by decide +kernel)]; exact ⟨rfl, rfl⟩))
  (fun os started H enc _ F => by rw [OpenClaim.pre_eq_preRow]; exact sortSays_lifted os started H enc F)
theorem sortSays_plain (f : FuncId) (fn : Func) (hf : Tryz.pinned.checked.prog.funcNamed "sizar/sizarlaw23.SortSays" = some f) (hfn : Tryz.pinned.checked.prog.funcs[f]? = some fn) :
 true = Tryz.pinned.checked.prog.looks [] ∧ ∀ (j : Nat) t, fn.params[j]? = some t → Tryz.pinned.checked.prog.wantsStandIn t = false := by
 obtain rfl : f = 9 := Option.some.inj ((show Tryz.prog.funcNamed "sizar/sizarlaw23.SortSays" = some 9 by kernel_rfl).symm.trans hf) |>.symm
 obtain rfl : fn = Tryz.f9 := (Option.some.inj (Tryz.func9.symm.trans hfn)).symm
 exact ⟨by kernel_rfl, fun j t ht => by
  rw [Tryz.params9] at ht
  have hm : t ∈ ([27] : List TypeId) := by simpa using Array.mem_of_getElem? ht
  have hall : (([27] : List TypeId).all fun u => !Tryz.prog.wantsStandIn u) = true := by kernel_rfl
  exact (show Tryz.prog.wantsStandIn t = false by simpa using List.all_eq_true.1 hall t hm)⟩
theorem sortSays_card : Rows.SortSaysUptoCardSaid :=
 Claim7.holds_tied_plain_at .later [] _ _ _ _ sortSays_said (fun _ h => by cases h) (by kernel_rfl) (fun _ h => by cases h) sortSaysUpto_row_tie rfl ⟨rfl, rfl⟩ (by kernel_rfl) rfl sortSays_plain (by kernel_rfl)
end Go.Proofs.YtlakiipofcibhaaGreatDoor
