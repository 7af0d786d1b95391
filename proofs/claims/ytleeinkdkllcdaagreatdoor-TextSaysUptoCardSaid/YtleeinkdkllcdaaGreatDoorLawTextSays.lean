/- Proved: sizarlaw21.TextSays answers true for every input of bulk at most 1048576 and leaves its arguments as they were. Conditions: none beyond the row. -/
import Derived.Test.YtleeinkdkllcdaaGreatDoorNb
import Derived.Test.YtleeinkdkllcdaaGreatDoorCards
import Derived.Test.YtleeinkdkllcdaaGreatDoorTie
import Derived.Deep.DeepHandedRow
import Derived.Lay
import Derived.OpenShut
set_option linter.unusedVariables false
set_option linter.unusedSimpArgs false
set_option linter.unusedSectionVars false
set_option maxHeartbeats 16000000
set_option maxRecDepth 100000

namespace Go.Proofs.YtleeinkdkllcdaaGreatDoor
open Go Sz Go.ChangeShapes Go.WideShapes Go.ChangeAt Go.RowKit
noncomputable def textSaysWorld (os : Os) : World := World.laidAll Tryz.prog os Rows.textSaysUptoRow.laid
theorem textSays_met (os : Os) : laidMetH Tryz.prog Rows.textSaysUptoRow.laid ((textSaysWorld os).forCall (fun _ _ => 0) ⟨#[], #[.agg #[.int .i64 0, .int .i64 0, .string ⟨#[]⟩, .slice none 0 0]], []⟩).memory := by
 rw [MakeChecks.laidMetH_plain _ _ _ (by kernel_rfl)]
 exact laidMet_laidAll _ (by kernel_rfl) (by kernel_rfl)
theorem textSays_reads (os : Os) {H : Type} (enc : TypeId × Value → H) : ∃ places, DataW.whole enc Tryz.prog ((textSaysWorld os).forCall (fun _ _ => 0) ⟨#[], #[.agg #[.int .i64 0, .int .i64 0, .string ⟨#[]⟩, .slice none 0 0]], []⟩).memory Tryz.f7.params.toList Rows.textSaysSpec.vars false (#[.agg #[.int .i64 0, .int .i64 0, .string ⟨#[]⟩, .slice none 0 0]] : Array Value).toList 8 = some ([.agg [.lit (.int .i64 0), .lit (.int .i64 0), .lit (.string []), .nil]], [], places) :=
 ⟨[], by kernel_rfl⟩
theorem textSays_X {W : World} (hL : laidMetH Tryz.prog Rows.textSaysUptoRow.laid W) : TabX W := TabX_of hL ⟨by kernel_rfl, by kernel_rfl⟩
theorem textSays_lifted (os : Os) (started : os.Started) (H : Type) (enc : TypeId × Value → H) (F : Stop.Interp) :
 ReturnsInHanded {} Tryz.checked os 7 .any ((Rows.OpenSpec.upto Rows.textSaysSpec).preRow enc Tryz.prog Tryz.f7 Rows.textSaysUptoRow.domain false Rows.textSaysUptoRow.laid) (((Rows.OpenSpec.upto Rows.textSaysSpec).at F).post enc Tryz.prog Tryz.f7 false true false false) := by
 obtain ⟨places, hx⟩ := textSays_reads os enc
 refine returnsInHanded_of_row (C := Tryz.checked) (s := (Rows.OpenSpec.upto Rows.textSaysSpec)) Tryz.own started (by kernel_rfl) Tryz.func7
  (witness_row_at (enc := enc) (C := Tryz.checked) false (textSaysWorld os) #[.agg #[.int .i64 0, .int .i64 0, .string ⟨#[]⟩, .slice none 0 0]] (World.laidAll_os _ _ _) (by kernel_rfl) (by kernel_rfl) (by kernel_rfl)
   (OpenSpec.preRow_of_cond 8 hx (by kernel_rfl) (fun k hk => by cases hk; kernel_rfl) (by kernel_rfl) (textSays_met os))) ?_
 intro W base args ds gs before hval hW _ hcond hw hL hsh _
 have hgs : gs = [] := whole_gs rfl hW
 have hvt : (Rows.OpenSpec.upto Rows.textSaysSpec).bare.plain.varTypes Tryz.checked.prog = [] := by kernel_rfl
 rw [hvt, List.append_nil, hgs, List.append_nil] at hw
 have hk : Rows.uptoSmall H (ds ++ gs) = true := hcond _ rfl
 rw [hgs, List.append_nil] at hk
 have hw2 : (DataW.weightsEach Tryz.prog Tryz.f7.params.toList ds).all (· ≤ reachBytes) = true := hw
 exact law_callsX (P := Tryz.prog) (X := TabX) (S := [26, 24, 3, 2, 9]) Tryz.func7 rfl rfl (by kernel_rfl) (by kernel_rfl) Tryz.underlying4 rfl Tryz.laidOut rfl (fun ds hd => by
  match ds, hd with
  | [d0], _ => rfl) (fun h => textSays_lawX ds h hw2 hk) hval hW hsh (textSays_X hL)
theorem textSays_said : Rows.TextSaysUptoSaid :=
 OpenClaim.holds_of_cond 7 Tryz.f7 rfl rfl rfl rfl rfl rfl rfl ⟨rfl, rfl, rfl, rfl, rfl⟩ rfl rfl rfl rfl rfl (by kernel_rfl) Tryz.func7 (by kernel_rfl)
  (of_decide_eq_true (by kernel_rfl)) (by unfold Func.isWrapper; first | (rw [if_pos (by decide +kernel)]; kernel_rfl) | (rw [if_neg (by decide +kernel)]; exact ⟨rfl, rfl⟩))
  (fun os started H enc _ F => by rw [OpenClaim.pre_eq_preRow]; exact textSays_lifted os started H enc F)
theorem textSays_plain (f : FuncId) (fn : Func) (hf : Tryz.pinned.checked.prog.funcNamed "sizar/sizarlaw21.TextSays" = some f) (hfn : Tryz.pinned.checked.prog.funcs[f]? = some fn) :
 true = Tryz.pinned.checked.prog.looks [] ∧ ∀ (j : Nat) t, fn.params[j]? = some t → Tryz.pinned.checked.prog.wantsStandIn t = false := by
 obtain rfl : f = 7 := Option.some.inj ((show Tryz.prog.funcNamed "sizar/sizarlaw21.TextSays" = some 7 by kernel_rfl).symm.trans hf) |>.symm
 obtain rfl : fn = Tryz.f7 := (Option.some.inj (Tryz.func7.symm.trans hfn)).symm
 exact ⟨by kernel_rfl, fun j t ht => by
  rw [Tryz.params7] at ht
  have hm : t ∈ ([26] : List TypeId) := by simpa using Array.mem_of_getElem? ht
  have hall : (([26] : List TypeId).all fun u => !Tryz.prog.wantsStandIn u) = true := by kernel_rfl
  exact (show Tryz.prog.wantsStandIn t = false by simpa using List.all_eq_true.1 hall t hm)⟩
theorem textSays_card : Rows.TextSaysUptoCardSaid :=
 Claim7.holds_tied_plain_at .later [] _ _ _ _ textSays_said (fun _ h => by cases h) (by kernel_rfl) (fun _ h => by cases h) textSaysUpto_row_tie rfl ⟨rfl, rfl⟩ (by kernel_rfl) rfl textSays_plain (by kernel_rfl)
end Go.Proofs.YtleeinkdkllcdaaGreatDoor
