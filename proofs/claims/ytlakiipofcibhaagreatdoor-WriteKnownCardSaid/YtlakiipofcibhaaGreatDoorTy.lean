import Derived.Test.YtlakiipofcibhaaGreatDoorFn
import Derived.Test.YtlakiipofcibhaaGreatDoorArg
import Derived.Test.YtlakiipofcibhaaGreatDoorRows
import Derived.ProofKit
set_option linter.unusedVariables false
set_option linter.unusedSimpArgs false
set_option linter.unusedSectionVars false

namespace Go.Proofs.YtlakiipofcibhaaGreatDoor
open Go Sz

theorem Tryz.own : ownKnob Tryz.prog.godebug = none := by kernel_rfl
theorem Tryz.laidOut : laidOutB Tryz.prog = true := by kernel_rfl

/-- From a row's list to the tables. -/
theorem TabX_of {l : List (String × DataW Unit)} {W : World} (hL : laidMetH Tryz.prog l W)
    (h : (l.filter fun x => x.1 == "internal/strconv.uint64pow10") = [("internal/strconv.uint64pow10", Lib.tabData .u64 Lib.pow10Tab)] ∧ (l.filter fun x => x.1 == "strconv.ErrRange") = [("strconv.ErrRange", Rows.laid_strconv_ErrRange)]) : TabX W := by
  have h1 := hL.filter fun x => x.1 == "internal/strconv.uint64pow10"
  rw [h.1, MakeChecks.laidMetH_plain _ _ _ (by kernel_rfl)] at h1
  have h2 := hL.filter fun x => x.1 == "strconv.ErrRange"
  rw [h.2, MakeChecks.laidMetH_plain _ _ _ (by kernel_rfl)] at h2
  refine ⟨Lib.tabIs_of_head (g := 1) (by kernel_rfl) (t := 228) (by kernel_rfl) (e := 211) (n := 20) (by kernel_rfl) (by kernel_rfl) (by kernel_rfl) (by kernel_rfl) h1, ?_⟩
  exact iface_of_head (g := 3) (t := 189) (ms := #[("Error", 170)]) (by kernel_rfl) (by kernel_rfl) (by kernel_rfl) h2

theorem str_len {n : Nat} {l : List Nat} (h : l.all (· ≤ reachBytes) = true) (hm : n ∈ l) : n ≤ 140737488351232 := by
  have := List.all_eq_true.1 h n hm
  have hr : reachBytes = 140737488351232 := rfl
  simpa [hr] using this

end Go.Proofs.YtlakiipofcibhaaGreatDoor
