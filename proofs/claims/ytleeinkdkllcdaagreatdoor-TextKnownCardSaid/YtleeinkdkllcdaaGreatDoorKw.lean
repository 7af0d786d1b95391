import Derived.Test.YtleeinkdkllcdaaGreatDoorKv
import Derived.Test.YtleeinkdkllcdaaGreatDoorAw
import Derived.Test.YtleeinkdkllcdaaGreatDoorTx
import Derived.Test.YtleeinkdkllcdaaGreatDoorCut
import Derived.Test.YtleeinkdkllcdaaGreatDoorTy
set_option linter.unusedVariables false
set_option linter.unusedSimpArgs false
set_option linter.unusedSectionVars false

namespace Go.Proofs.YtleeinkdkllcdaaGreatDoor
open Go Sz
set_option maxRecDepth 100000

/-! TextKnown: a closed run, cut once, where the list of letters is laid down. -/

def ssT : List KSpec := [awake16S, nameS, numberS, charsS, lengthS] ++ ktS2
theorem ssT_ok : ∀ s ∈ ssT, KSpecOKX Tryz.prog TabX s := fun s hs => by
  rcases List.mem_append.1 hs with h | h
  · revert s
    exact fun s _ h => (show ∀ s ∈ [awake16S, nameS, numberS, charsS, lengthS], KSpecOKX Tryz.prog TabX s from List.forall_mem_cons.2 ⟨awake16S_ok, List.forall_mem_cons.2 ⟨nameS_ok.lift, List.forall_mem_cons.2 ⟨numberS_ok, List.forall_mem_cons.2 ⟨charsS_ok, List.forall_mem_cons.2 ⟨lengthS_ok, fun _ h => nomatch h⟩⟩⟩⟩⟩) s h
  · exact ktS2_ok s h
def dropS : Nat → ACode → ACode
  | k + 1, .seq _ b => dropS k b
  | _, c => c
def kuA : ACode := dropS 7 c6.code
def kuF1 : List AV := FM 239 [(8, .vec 2 0 65 4 65)]
def kuH1 : Heap := ⟨3, [.row [.int .i64 2, .int .i64 0, .str [49], .nils, .int .i64 2, .int .i64 0, .str [49], .nils, .int .i64 2, .int .i64 0, .str [49], .nils, .int .i64 2, .int .i64 0, .str [49], .nils, .int .i64 2, .int .i64 0, .str [49], .nils, .int .i64 2, .int .i64 0, .str [49], .nils, .int .i64 2, .int .i64 0, .str [49], .nils, .int .i64 2, .int .i64 0, .str [49], .nils, .int .i64 2, .int .i64 0, .str [49], .nils, .int .i64 2, .int .i64 0, .str [49], .nils, .int .i64 2, .int .i64 0, .str [49], .nils, .int .i64 2, .int .i64 0, .str [49], .nils, .int .i64 2, .int .i64 0, .str [49], .nils, .int .i64 2, .int .i64 0, .str [49], .nils, .int .i64 2, .int .i64 0, .str [49], .nils, .int .i64 2, .int .i64 0, .str [49], .nils, .int .i64 2, .int .i64 0, .str [49], .nils, .int .i64 2, .int .i64 0, .str [49], .nils, .int .i64 2, .int .i64 0, .str [49], .nils, .int .i64 2, .int .i64 0, .str [49], .nils, .int .i64 2, .int .i64 0, .str [49], .nils, .int .i64 2, .int .i64 0, .str [49], .nils, .int .i64 2, .int .i64 0, .str [49], .nils, .int .i64 2, .int .i64 0, .str [49], .nils, .int .i64 2, .int .i64 0, .str [49], .nils, .int .i64 2, .int .i64 0, .str [49], .nils, .int .i64 2, .int .i64 0, .str [49], .nils, .int .i64 2, .int .i64 0, .str [49], .nils, .int .i64 2, .int .i64 0, .str [49], .nils, .int .i64 2, .int .i64 0, .str [49], .nils, .int .i64 2, .int .i64 0, .str [49], .nils, .int .i64 2, .int .i64 0, .str [49], .nils, .int .i64 2, .int .i64 0, .str [49], .nils, .int .i64 2, .int .i64 0, .str [49], .nils, .int .i64 2, .int .i64 0, .str [49], .nils, .int .i64 2, .int .i64 0, .str [49], .nils, .int .i64 2, .int .i64 0, .str [49], .nils, .int .i64 2, .int .i64 0, .str [49], .nils, .int .i64 2, .int .i64 0, .str [49], .nils, .int .i64 2, .int .i64 0, .str [49], .nils, .int .i64 2, .int .i64 0, .str [49], .nils, .int .i64 2, .int .i64 0, .str [49], .nils, .int .i64 2, .int .i64 0, .str [49], .nils, .int .i64 2, .int .i64 0, .str [49], .nils, .int .i64 2, .int .i64 0, .str [49], .nils, .int .i64 2, .int .i64 0, .str [49], .nils, .int .i64 2, .int .i64 0, .str [49], .nils, .int .i64 2, .int .i64 0, .str [49], .nils, .int .i64 2, .int .i64 0, .str [49], .nils, .int .i64 2, .int .i64 0, .str [49], .nils, .int .i64 2, .int .i64 0, .str [49], .nils, .int .i64 2, .int .i64 0, .str [49], .nils, .int .i64 2, .int .i64 0, .str [49], .nils, .int .i64 2, .int .i64 0, .str [49], .nils, .int .i64 2, .int .i64 0, .str [49], .nils, .int .i64 2, .int .i64 0, .str [49], .nils, .int .i64 2, .int .i64 0, .str [49], .nils, .int .i64 2, .int .i64 0, .str [49], .nils, .int .i64 2, .int .i64 0, .str [49], .nils, .int .i64 2, .int .i64 0, .str [49], .nils, .int .i64 2, .int .i64 0, .str [49], .nils, .int .i64 2, .int .i64 0, .str [49], .nils, .int .i64 2, .int .i64 0, .str [49], .nils, .int .i64 2, .int .i64 0, .str [49], .nils, .int .i64 2, .int .i64 0, .str [49], .nils], .row [.int .i64 6, .int .i64 6, .int .i64 6, .int .i64 6, .int .i64 5, .int .i64 5, .int .i64 5, .int .i64 5], .row [.str [88], .str [91, 97, 124, 88, 93], .str [91, 97, 44, 88, 124, 98, 93], .str [91, 88, 44, 49, 93], .str [91, 49, 44, 88, 93], .str [91, 97, 98, 93], .str [97], .str [91, 97, 124, 98, 93]]], 0, 0⟩
def kuF2 : List AV := FM 239 [(8, .sl [.agg [.int .i64 2, .int .i64 0, .str [49], .nils], .agg [.int .i64 2, .int .i64 0, .str [49], .nils], .agg [.int .i64 2, .int .i64 0, .str [49], .nils], .agg [.int .i64 2, .int .i64 0, .str [49], .nils], .agg [.int .i64 2, .int .i64 0, .str [49], .nils], .agg [.int .i64 2, .int .i64 0, .str [49], .nils], .agg [.int .i64 2, .int .i64 0, .str [49], .nils], .agg [.int .i64 2, .int .i64 0, .str [49], .nils], .agg [.int .i64 2, .int .i64 0, .str [49], .nils], .agg [.int .i64 2, .int .i64 0, .str [49], .nils], .agg [.int .i64 2, .int .i64 0, .str [49], .nils], .agg [.int .i64 2, .int .i64 0, .str [49], .nils], .agg [.int .i64 2, .int .i64 0, .str [49], .nils], .agg [.int .i64 2, .int .i64 0, .str [49], .nils], .agg [.int .i64 2, .int .i64 0, .str [49], .nils], .agg [.int .i64 2, .int .i64 0, .str [49], .nils], .agg [.int .i64 2, .int .i64 0, .str [49], .nils], .agg [.int .i64 2, .int .i64 0, .str [49], .nils], .agg [.int .i64 2, .int .i64 0, .str [49], .nils], .agg [.int .i64 2, .int .i64 0, .str [49], .nils], .agg [.int .i64 2, .int .i64 0, .str [49], .nils], .agg [.int .i64 2, .int .i64 0, .str [49], .nils], .agg [.int .i64 2, .int .i64 0, .str [49], .nils], .agg [.int .i64 2, .int .i64 0, .str [49], .nils], .agg [.int .i64 2, .int .i64 0, .str [49], .nils], .agg [.int .i64 2, .int .i64 0, .str [49], .nils], .agg [.int .i64 2, .int .i64 0, .str [49], .nils], .agg [.int .i64 2, .int .i64 0, .str [49], .nils], .agg [.int .i64 2, .int .i64 0, .str [49], .nils], .agg [.int .i64 2, .int .i64 0, .str [49], .nils], .agg [.int .i64 2, .int .i64 0, .str [49], .nils], .agg [.int .i64 2, .int .i64 0, .str [49], .nils], .agg [.int .i64 2, .int .i64 0, .str [49], .nils], .agg [.int .i64 2, .int .i64 0, .str [49], .nils], .agg [.int .i64 2, .int .i64 0, .str [49], .nils], .agg [.int .i64 2, .int .i64 0, .str [49], .nils], .agg [.int .i64 2, .int .i64 0, .str [49], .nils], .agg [.int .i64 2, .int .i64 0, .str [49], .nils], .agg [.int .i64 2, .int .i64 0, .str [49], .nils], .agg [.int .i64 2, .int .i64 0, .str [49], .nils], .agg [.int .i64 2, .int .i64 0, .str [49], .nils], .agg [.int .i64 2, .int .i64 0, .str [49], .nils], .agg [.int .i64 2, .int .i64 0, .str [49], .nils], .agg [.int .i64 2, .int .i64 0, .str [49], .nils], .agg [.int .i64 2, .int .i64 0, .str [49], .nils], .agg [.int .i64 2, .int .i64 0, .str [49], .nils], .agg [.int .i64 2, .int .i64 0, .str [49], .nils], .agg [.int .i64 2, .int .i64 0, .str [49], .nils], .agg [.int .i64 2, .int .i64 0, .str [49], .nils], .agg [.int .i64 2, .int .i64 0, .str [49], .nils], .agg [.int .i64 2, .int .i64 0, .str [49], .nils], .agg [.int .i64 2, .int .i64 0, .str [49], .nils], .agg [.int .i64 2, .int .i64 0, .str [49], .nils], .agg [.int .i64 2, .int .i64 0, .str [49], .nils], .agg [.int .i64 2, .int .i64 0, .str [49], .nils], .agg [.int .i64 2, .int .i64 0, .str [49], .nils], .agg [.int .i64 2, .int .i64 0, .str [49], .nils], .agg [.int .i64 2, .int .i64 0, .str [49], .nils], .agg [.int .i64 2, .int .i64 0, .str [49], .nils], .agg [.int .i64 2, .int .i64 0, .str [49], .nils], .agg [.int .i64 2, .int .i64 0, .str [49], .nils], .agg [.int .i64 2, .int .i64 0, .str [49], .nils], .agg [.int .i64 2, .int .i64 0, .str [49], .nils], .agg [.int .i64 2, .int .i64 0, .str [49], .nils], .agg [.int .i64 2, .int .i64 0, .str [49], .nils]])]
def kuH2 : Heap := ⟨3, [.dead, .row [.int .i64 6, .int .i64 6, .int .i64 6, .int .i64 6, .int .i64 5, .int .i64 5, .int .i64 5, .int .i64 5], .row [.str [88], .str [91, 97, 124, 88, 93], .str [91, 97, 44, 88, 124, 98, 93], .str [91, 88, 44, 49, 93], .str [91, 49, 44, 88, 93], .str [91, 97, 98, 93], .str [97], .str [91, 97, 124, 98, 93]]], 0, 0⟩
noncomputable abbrev kuC : Nat → List AV → Heap → Option (AV × Heap) := evCall (envOf ssT) 89
end Go.Proofs.YtleeinkdkllcdaaGreatDoor

namespace Go.Proofs.YtleeinkdkllcdaaGreatDoor
open Go Sz
set_option maxRecDepth 100000
theorem ku_pre : runK kuC 89 7 c6.code (List.replicate 239 .undef) h0 = some (kuA, kuF1, kuH1) := by kernel_rfl
theorem ku_lay : layF 8 kuF1 kuH1 = some (kuF2, kuH2) := by kernel_rfl
end Go.Proofs.YtleeinkdkllcdaaGreatDoor

namespace Go.Proofs.YtleeinkdkllcdaaGreatDoor
open Go Sz
set_option maxRecDepth 100000
noncomputable def kuR : Option (Ex × List AV × Heap) := evCode kuC 89 kuA kuF2 kuH2
noncomputable def kuRh : Heap := match kuR with | some (_, _, h) => h | none => h0
theorem ku_post : kuR = some (.ret, FM 239 [(0, .bool true)], kuRh) := by kernel_rfl
end Go.Proofs.YtleeinkdkllcdaaGreatDoor

namespace Go.Proofs.YtleeinkdkllcdaaGreatDoor
open Go Sz

theorem textKnown_prim : PrimOKX Tryz.prog TabX 6 [] (.bool true) :=
  prim_cut (envOf_okX ssT_ok) (F := c6) (by kernel_rfl) ku_pre ku_lay ku_post (.inr rfl) (vs := [.bool true]) (by kernel_rfl) rfl rfl
theorem textKnown_lawX {H : Type} (ds : List (DataW H)) (h : HasTys Tryz.prog Tryz.f6.params.toList (ds.map avOf)) (_ : (DataW.weightsEach Tryz.prog Tryz.f6.params.toList ds).all (· ≤ reachBytes) = true) : PrimOKX Tryz.prog TabX 6 (ds.map avOf) (.bool true) := by
  generalize ds.map avOf = avs at h
  rw [Tryz.params6] at h
  cases h
  exact textKnown_prim
end Go.Proofs.YtleeinkdkllcdaaGreatDoor
