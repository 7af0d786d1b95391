import Derived.Test.YtlakiipofcibhaaGreatDoorFn
set_option linter.unusedVariables false
set_option linter.unusedSimpArgs false
set_option linter.unusedSectionVars false
set_option maxHeartbeats 16000000
set_option maxRecDepth 100000

namespace Go.Proofs.YtlakiipofcibhaaGreatDoor
open Go Sz
def ssA : List KSpec := [goodTS, sameS, compS, atomS, intS, varS, listS, itemsS, indexByteS, hasPrefixS, trimPrefixS, goodOpS, findS]
theorem ssA_ok : ∀ s ∈ ssA, KSpecOKX Tryz.prog TabX s := by simp [ssA, goodTS_ok.lift, sameS_ok.lift, compS_ok.lift, atomS_ok.lift, intS_ok.lift, varS_ok.lift, listS_ok.lift, itemsS_ok.lift, indexByteS_ok.lift, hasPrefixS_ok.lift, trimPrefixS_ok.lift, goodOpS_ok.lift, findS_ok.lift]
def c35k : AFun := { c35 with keep := true }
def c30k : AFun := { c30 with keep := true }
def fnAtK (f : Nat) : Option AFun := if Nat.beq f 35 then some c35k else if Nat.beq f 30 then some c30k else fnAt f
theorem fnAtK_ok (f : Nat) (F : AFun) (h : fnAtK f = some F) : FnOK Tryz.prog f F := by
 unfold fnAtK at h
 split at h
 ·rename_i hb
  have := Nat.eq_of_beq_eq_true hb
  subst this
  cases h
  exact ok35
 ·split at h
  ·rename_i hb
   have := Nat.eq_of_beq_eq_true hb
   subst this
   cases h
   exact ok30
  ·exact fnAt_ok f F h
noncomputable def envK (ss : List KSpec) : Env := mkEnv fnAtK (ss ++ clones)
theorem envK_okX {X : World → Prop} {ss : List KSpec} (hs : ∀ s ∈ ss, KSpecOKX Tryz.prog X s) : EnvOKX Tryz.prog X (envK ss) :=
 mkEnv_ok mixed fnAtK_ok fun s h => by
  rcases List.mem_append.1 h with h | h
  ·exact hs s h
  ·exact (clones_ok s h).lift
def ssI : List KSpec := [goodTS, sameS, compS, atomS, intS, varS, listS, indexByteS, hasPrefixS, trimPrefixS, goodOpS, findS]
theorem ssI_ok : ∀ s ∈ ssI, KSpecOKX Tryz.prog TabX s := by simp [ssI, goodTS_ok.lift, sameS_ok.lift, compS_ok.lift, atomS_ok.lift, intS_ok.lift, varS_ok.lift, listS_ok.lift, indexByteS_ok.lift, hasPrefixS_ok.lift, trimPrefixS_ok.lift, goodOpS_ok.lift, findS_ok.lift]
set_option maxRecDepth 100000
noncomputable def evBK (ss : List KSpec) (n : Nat) (F : AFun) (args : List AV) (h : Heap) : Option (AV × Heap) :=
 match evCode (evCall (envK ss) n) n F.code (args ++ List.replicate (F.ntmps - args.length) .undef) ⟨h.next, h.objs, h.next, h.next⟩ with
  | some (.exit _, _, _) => none
  | some (_, fr, h') => (match resAll fr h' F.results with | some vs => some (finish F.keep h (oneOf vs) h') | none => none)
  | none => none
noncomputable def evFnK (ss : List KSpec) (n f : Nat) (args : List AV) (h : Heap) : Option (AV × Heap) :=
 match fnAtK f with
 | none => none
 | some F => evBK ss n F args h
noncomputable def callSK (l ss : List KSpec) (n f : Nat) (args : List AV) (h : Heap) : Option (AV × Heap) :=
 match frzL (frz h 0 8) args with
 | some (args', ids) => (match lookS l f args' with | some v => some (v, if scal v then h else kill h ids) | none => evFnK ss n f args h)
 | none => evFnK ss n f args h
theorem evCall_specK (ss : List KSpec) (n f : Nat) (args : List AV) (h : Heap) : evCall (envK ss) (n + 1) f args h = callSK (lookF (ss ++ clones) f) ss n f args h := by
 conv => lhs; unfold evCall
 unfold callSK
 have e : ∀ a, lookS (lookF (ss ++ clones) f) f a = (envK ss).prim f a := fun a => lookF_eq f a _
 have e2 : (envK ss).fn f = fnAtK f := rfl
 have key : evFnK ss n f args h = (match (envK ss).fn f with
  | none => none
  | some F =>
    match evCode (evCall (envK ss) n) n F.code (args ++ List.replicate (F.ntmps - args.length) .undef) ⟨h.next, h.objs, h.next, h.next⟩ with
    | some (.exit _, _, _) => none
    | some (_, fr, h') => (resAll fr h' F.results).map fun vs => finish F.keep h (oneOf vs) h'
    | none => none) := by
  rw [e2]
  unfold evFnK
  cases fnAtK f with
  | none => rfl
  | some F =>
    dsimp only
    unfold evBK
    cases evCode (evCall (envK ss) n) n F.code (args ++ List.replicate (F.ntmps - args.length) .undef) ⟨h.next, h.objs, h.next, h.next⟩ with
    | none => rfl
    | some r =>
      obtain ⟨ex, fr, h'⟩ := r
      cases ex <;> first | rfl | (dsimp only; cases resAll fr h' F.results <;> rfl)
 cases hz : frzL (frz h 0 8) args with
 | none => exact key.symm
 | some p =>
   obtain ⟨args', ids⟩ := p
   dsimp only [Option.bind]
   rw [e]
   cases hp : (envK ss).prim f args' with
   | none => exact key.symm
   | some v => rfl
theorem callS_nilK (ss : List KSpec) (n f : Nat) (args : List AV) (h : Heap) : callSK [] ss n f args h = evFnK ss n f args h := by
 unfold callSK
 split
 ·rfl
 ·rfl
theorem callS_oneK (s : KSpec) (ss : List KSpec) (n f : Nat) (args : List AV) (h : Heap) (hf : s.f = f) : callSK [s] ss n f args h = match frzL (frz h 0 8) args with
 | some (args', ids) => (match s.S args' with | some v => some (v, if scal v then h else kill h ids) | none => evFnK ss n f args h)
 | none => evFnK ss n f args h := by
 unfold callSK
 split
 ·simp only [lookS, hf, if_true]
  split
  ·rename_i h1
   split at h1
   ·rename_i h2; cases h1; rw [h2]
   ·cases h1
  ·rename_i h1
   split at h1
   ·cases h1
   ·rename_i h2; rw [h2]
 ·rfl
noncomputable def spKK (ss : List KSpec) (n f : Nat) (args : List AV) (h : Heap) (ids : List Nat) : Option AV → Option (AV × Heap)
 | some v => some (v, if scal v then h else kill h ids)
 | none => evFnK ss n f args h
noncomputable def frKK (s : KSpec) (ss : List KSpec) (n f : Nat) (args : List AV) (h : Heap) : Option (List AV × List Nat) → Option (AV × Heap)
 | some p => spKK ss n f args h p.2 (s.S p.1)
 | none => evFnK ss n f args h
theorem spK_sK (ss : List KSpec) (n f : Nat) (args : List AV) (h : Heap) (ids : List Nat) (v : AV) : spKK ss n f args h ids (some v) = some (v, if scal v then h else kill h ids) := rfl
theorem spK_nK (ss : List KSpec) (n f : Nat) (args : List AV) (h : Heap) (ids : List Nat) : spKK ss n f args h ids none = evFnK ss n f args h := rfl
theorem frK_sK (s : KSpec) (ss : List KSpec) (n f : Nat) (args : List AV) (h : Heap) (bs : List AV) (ids : List Nat) : frKK s ss n f args h (some (bs, ids)) = spKK ss n f args h ids (s.S bs) := rfl
theorem frK_nK (s : KSpec) (ss : List KSpec) (n f : Nat) (args : List AV) (h : Heap) : frKK s ss n f args h none = evFnK ss n f args h := rfl
theorem callS_oneFK (s : KSpec) (ss : List KSpec) (n f : Nat) (args : List AV) (h : Heap) (hf : s.f = f) : callSK [s] ss n f args h = frKK s ss n f args h (frzL (frz h 0 8) args) := by
 rw [callS_oneK s ss n f args h hf]
 rcases frzL (frz h 0 8) args with _ | ⟨bs, ids⟩
 ·rfl
 ·rfl
theorem evB_fmK (ss : List KSpec) (n : Nat) (F : AFun) (args : List AV) (h : Heap) (hle : args.length ≤ F.ntmps) : evBK ss n F args h =
 match evCode (evCall (envK ss) n) n F.code (FM F.ntmps (enumA 0 args)) ⟨h.next, h.objs, h.next, h.next⟩ with
  | some (.exit _, _, _) => none
  | some (_, fr, h') => (match resAll fr h' F.results with | some vs => some (finish F.keep h (oneOf vs) h') | none => none)
  | none => none := by
 rw [← FM_args args hle]
 rfl
theorem run28K (ss : List KSpec) (n : Nat) (args : List AV) (h : Heap) : evFnK ss n 28 args h = evBK ss n c28 args h := rfl
theorem run29K (ss : List KSpec) (n : Nat) (args : List AV) (h : Heap) : evFnK ss n 29 args h = evBK ss n c29 args h := rfl
theorem run30K (ss : List KSpec) (n : Nat) (args : List AV) (h : Heap) : evFnK ss n 30 args h = evBK ss n c30k args h := rfl
theorem run32K (ss : List KSpec) (n : Nat) (args : List AV) (h : Heap) : evFnK ss n 32 args h = evBK ss n c32 args h := rfl
theorem run35K (ss : List KSpec) (n : Nat) (args : List AV) (h : Heap) : evFnK ss n 35 args h = evBK ss n c35k args h := rfl
theorem run56K (ss : List KSpec) (n : Nat) (args : List AV) (h : Heap) : evFnK ss n 56 args h = evBK ss n c56 args h := rfl
theorem run58K (ss : List KSpec) (n : Nat) (args : List AV) (h : Heap) : evFnK ss n 58 args h = evBK ss n c58 args h := rfl
theorem run82K (ss : List KSpec) (n : Nat) (args : List AV) (h : Heap) : evFnK ss n 82 args h = evBK ss n c82 args h := rfl
theorem run117K (ss : List KSpec) (n : Nat) (args : List AV) (h : Heap) : evFnK ss n 117 args h = evBK ss n c117 args h := rfl
theorem run118K (ss : List KSpec) (n : Nat) (args : List AV) (h : Heap) : evFnK ss n 118 args h = evBK ss n c118 args h := rfl
theorem run151K (ss : List KSpec) (n : Nat) (args : List AV) (h : Heap) : evFnK ss n 151 args h = evBK ss n c151 args h := rfl
theorem run165K (ss : List KSpec) (n : Nat) (args : List AV) (h : Heap) : evFnK ss n 165 args h = evBK ss n c165 args h := rfl
end Go.Proofs.YtlakiipofcibhaaGreatDoor
