import Derived.Test.YtlakiipofcibhaaGreatDoorSe
import Derived.Test.YtlakiipofcibhaaGreatDoorTy
set_option linter.unusedVariables false
set_option linter.unusedSimpArgs false
set_option linter.unusedSectionVars false
set_option maxHeartbeats 16000000
set_option maxRecDepth 100000

namespace Go.Proofs.YtlakiipofcibhaaGreatDoor
open Go Sz Srt
structure SortedOf (us S Z : List Tm) : Prop where
 hS : S.Perm us
 srt : S.Pairwise fun x y => cmpT x y ≤ 0
 str : Z.Pairwise fun x y => cmpT x y < 0
 sub : Z.Sublist S
 all : ∀ x ∈ us, Z.any (fun z => sameT z x) = true
 gS : goodT (listT S emptyT) = true
 gZ : goodT (listT Z emptyT) = true
 again : cmpct sameT (sortT cmpT S) = Z
end Go.Proofs.YtlakiipofcibhaaGreatDoor
