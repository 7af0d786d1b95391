import Derived.Test.YtnkafagfkblfeaaDoorCode1
import Derived.Test.YtnkafagfkblfeaaDoorCode2
import Derived.Test.YtnkafagfkblfeaaDoorSz3
set_option linter.unusedVariables false
set_option linter.unusedSimpArgs false
set_option linter.unusedSectionVars false

namespace Go.Proofs.YtnkafagfkblfeaaDoor
open Go Sz

def fnAt : Nat → Option AFun
  | 2 => some c2
  | 3 => some c3
  | 4 => some c4
  | 5 => some c5
  | 6 => some c6
  | 7 => some c7
  | 8 => some c8
  | 9 => some c9
  | 10 => some c10
  | 11 => some c11
  | 12 => some c12
  | 13 => some c13
  | 14 => some c14
  | 15 => some c15
  | 16 => some c16
  | 17 => some c17
  | 18 => some c18
  | 19 => some c19
  | 20 => some c20
  | 21 => some c21
  | 22 => some c22
  | 23 => some c23
  | 24 => some c24
  | 25 => some c25
  | 26 => some c26
  | 27 => some c27
  | 28 => some c28
  | 29 => some c29
  | 30 => some c30
  | 31 => some c31
  | 32 => some c32
  | 33 => some c33
  | 34 => some c34
  | 35 => some c35
  | 36 => some c36
  | 37 => some c37
  | 38 => some c38
  | 39 => some c39
  | 40 => some c40
  | 41 => some c41
  | 42 => some c42
  | 43 => some c43
  | 44 => some c44
  | 45 => some c45
  | 46 => some c46
  | 47 => some c47
  | 48 => some c48
  | 49 => some c49
  | 50 => some c50
  | 51 => some c51
  | 52 => some c52
  | 53 => some c53
  | 54 => some c54
  | 55 => some c55
  | 56 => some c56
  | 57 => some c57
  | 58 => some c58
  | 59 => some c59
  | 60 => some c60
  | 61 => some c61
  | 62 => some c62
  | 63 => some c63
  | 64 => some c64
  | 65 => some c65
  | 66 => some c66
  | 67 => some c67
  | 68 => some c68
  | 69 => some c69
  | 70 => some c70
  | 71 => some c71
  | 72 => some c72
  | 73 => some c73
  | 74 => some c74
  | 75 => some c75
  | 83 => some c83
  | 86 => some c86
  | _ => none

theorem fnAt_ok (f : Nat) (F : AFun) (h : fnAt f = some F) : FnOK Tryd.prog f F := by
  unfold fnAt at h
  split at h
  · cases h; exact ok2
  · cases h; exact ok3
  · cases h; exact ok4
  · cases h; exact ok5
  · cases h; exact ok6
  · cases h; exact ok7
  · cases h; exact ok8
  · cases h; exact ok9
  · cases h; exact ok10
  · cases h; exact ok11
  · cases h; exact ok12
  · cases h; exact ok13
  · cases h; exact ok14
  · cases h; exact ok15
  · cases h; exact ok16
  · cases h; exact ok17
  · cases h; exact ok18
  · cases h; exact ok19
  · cases h; exact ok20
  · cases h; exact ok21
  · cases h; exact ok22
  · cases h; exact ok23
  · cases h; exact ok24
  · cases h; exact ok25
  · cases h; exact ok26
  · cases h; exact ok27
  · cases h; exact ok28
  · cases h; exact ok29
  · cases h; exact ok30
  · cases h; exact ok31
  · cases h; exact ok32
  · cases h; exact ok33
  · cases h; exact ok34
  · cases h; exact ok35
  · cases h; exact ok36
  · cases h; exact ok37
  · cases h; exact ok38
  · cases h; exact ok39
  · cases h; exact ok40
  · cases h; exact ok41
  · cases h; exact ok42
  · cases h; exact ok43
  · cases h; exact ok44
  · cases h; exact ok45
  · cases h; exact ok46
  · cases h; exact ok47
  · cases h; exact ok48
  · cases h; exact ok49
  · cases h; exact ok50
  · cases h; exact ok51
  · cases h; exact ok52
  · cases h; exact ok53
  · cases h; exact ok54
  · cases h; exact ok55
  · cases h; exact ok56
  · cases h; exact ok57
  · cases h; exact ok58
  · cases h; exact ok59
  · cases h; exact ok60
  · cases h; exact ok61
  · cases h; exact ok62
  · cases h; exact ok63
  · cases h; exact ok64
  · cases h; exact ok65
  · cases h; exact ok66
  · cases h; exact ok67
  · cases h; exact ok68
  · cases h; exact ok69
  · cases h; exact ok70
  · cases h; exact ok71
  · cases h; exact ok72
  · cases h; exact ok73
  · cases h; exact ok74
  · cases h; exact ok75
  · cases h; exact ok83
  · cases h; exact ok86
  · cases h

theorem mixed : Tryd.prog.follows .mixedOrders = true := by kernel_rfl

def cloneS (f : Nat) : KSpec := ⟨f, fun | [.nils] => some .nils | [.sl []] => some .nils | _ => none⟩
theorem cloneS_f (f : Nat) : (cloneS f).f = f := (rfl)
theorem cloneS_nils (f : Nat) : (cloneS f).S [.nils] = some .nils := rfl
theorem cloneS_sl0 (f : Nat) : (cloneS f).S [.sl []] = some .nils := rfl
theorem cloneS_sl (f : Nat) {xs : List AV} (h : xs ≠ []) : (cloneS f).S [.sl xs] = none := by
  cases xs with
  | nil => exact absurd rfl h
  | cons x r => rfl
theorem cloneS_ok {f : Nat} (hc : CloneAt Tryd.prog f) : KSpecOK Tryd.prog (cloneS f) := fun args v hv => by
  have key : ∀ x, x = AV.nils ∨ x = .sl [] → args = [x] → v = .nils → PrimOK Tryd.prog f args v := fun x hx ha h2 => by
    subst ha h2
    exact prim_weak (h' := h0) rfl (by rcases hx with rfl | rfl <;> rfl) fun φ w cargs hr hG ha => .inl (clone_prim mixed hc hx hr hG ha)
  unfold cloneS at hv
  dsimp only at hv
  split at hv
  · cases hv; exact key _ (.inl rfl) rfl rfl
  · cases hv; exact key _ (.inr rfl) rfl rfl
  · cases hv

def clones : List KSpec := [cloneS 53, cloneS 71, cloneS 83]
theorem clones_ok : ∀ s ∈ clones, KSpecOK Tryd.prog s := by
  intro s hs
  simp only [clones, List.mem_cons, List.not_mem_nil, or_false] at hs
  rcases hs with rfl | rfl | rfl
  · exact cloneS_ok clone53
  · exact cloneS_ok clone71
  · exact cloneS_ok clone83

noncomputable def envOf (ss : List KSpec) : Env := mkEnv fnAt (ss ++ clones)
theorem envOf_okX {X : World → Prop} {ss : List KSpec} (hs : ∀ s ∈ ss, KSpecOKX Tryd.prog X s) : EnvOKX Tryd.prog X (envOf ss) :=
  mkEnv_ok mixed fnAt_ok fun s h => by
    rcases List.mem_append.1 h with h | h
    · exact hs s h
    · exact (clones_ok s h).lift
theorem envOf_ok {ss : List KSpec} (hs : ∀ s ∈ ss, KSpecOK Tryd.prog s) : EnvOK Tryd.prog (envOf ss) := envOf_okX hs

/-- A function's run. -/
noncomputable def evB (ss : List KSpec) (n : Nat) (F : AFun) (args : List AV) (h : Heap) : Option (AV × Heap) :=
  match evCode (evCall (envOf ss) n) n F.code (args ++ List.replicate (F.ntmps - args.length) .undef) ⟨h.next, h.objs, h.next, h.next⟩ with
    | some (.exit _, _, _) => none
    | some (_, fr, h') => (match resAll fr h' F.results with | some vs => some (finish F.keep h (oneOf vs) h') | none => none)
    | none => none
/-- A call without its answer being known ahead. -/
noncomputable def evFn (ss : List KSpec) (n f : Nat) (args : List AV) (h : Heap) : Option (AV × Heap) :=
  match fnAt f with
  | none => none
  | some F => evB ss n F args h
/-- A call, where these specs are the function's. -/
noncomputable def callS (l ss : List KSpec) (n f : Nat) (args : List AV) (h : Heap) : Option (AV × Heap) :=
  match frzL (frz h 0 8) args with
  | some (args', ids) => (match lookS l f args' with | some v => some (v, if scal v then h else kill h ids) | none => evFn ss n f args h)
  | none => evFn ss n f args h
theorem evCall_spec (ss : List KSpec) (n f : Nat) (args : List AV) (h : Heap) : evCall (envOf ss) (n + 1) f args h = callS (lookF (ss ++ clones) f) ss n f args h := by
  conv => lhs; unfold evCall
  unfold callS
  have e : ∀ a, lookS (lookF (ss ++ clones) f) f a = (envOf ss).prim f a := fun a => lookF_eq f a _
  have e2 : (envOf ss).fn f = fnAt f := rfl
  have key : evFn ss n f args h = (match (envOf ss).fn f with
      | none => none
      | some F =>
        match evCode (evCall (envOf ss) n) n F.code (args ++ List.replicate (F.ntmps - args.length) .undef) ⟨h.next, h.objs, h.next, h.next⟩ with
        | some (.exit _, _, _) => none
        | some (_, fr, h') => (resAll fr h' F.results).map fun vs => finish F.keep h (oneOf vs) h'
        | none => none) := by
    rw [e2]
    unfold evFn
    cases fnAt f with
    | none => rfl
    | some F =>
      dsimp only
      unfold evB
      cases evCode (evCall (envOf ss) n) n F.code (args ++ List.replicate (F.ntmps - args.length) .undef) ⟨h.next, h.objs, h.next, h.next⟩ with
      | none => rfl
      | some r =>
        obtain ⟨ex, fr, h'⟩ := r
        cases ex <;> first | rfl | (dsimp only; cases resAll fr h' F.results <;> rfl)
  cases hz : frzL (frz h 0 8) args with
  | none => exact key.symm
  | some p =>
    obtain ⟨args', ids⟩ := p
    dsimp only [Option.bind]
    rw [e]
    cases hp : (envOf ss).prim f args' with
    | none => exact key.symm
    | some v => rfl
theorem callS_nil (ss : List KSpec) (n f : Nat) (args : List AV) (h : Heap) : callS [] ss n f args h = evFn ss n f args h := by
  unfold callS
  split
  · rfl
  · rfl
theorem callS_one (s : KSpec) (ss : List KSpec) (n f : Nat) (args : List AV) (h : Heap) (hf : s.f = f) : callS [s] ss n f args h = match frzL (frz h 0 8) args with
  | some (args', ids) => (match s.S args' with | some v => some (v, if scal v then h else kill h ids) | none => evFn ss n f args h)
  | none => evFn ss n f args h := by
  unfold callS
  split
  · simp only [lookS, hf, if_true]
    split
    · rename_i h1
      split at h1
      · rename_i h2; cases h1; rw [h2]
      · cases h1
    · rename_i h1
      split at h1
      · cases h1
      · rename_i h2; rw [h2]
  · rfl

/-- A known call's answer, or the run. -/
noncomputable def spK (ss : List KSpec) (n f : Nat) (args : List AV) (h : Heap) (ids : List Nat) : Option AV → Option (AV × Heap)
  | some v => some (v, if scal v then h else kill h ids)
  | none => evFn ss n f args h
noncomputable def frK (s : KSpec) (ss : List KSpec) (n f : Nat) (args : List AV) (h : Heap) : Option (List AV × List Nat) → Option (AV × Heap)
  | some p => spK ss n f args h p.2 (s.S p.1)
  | none => evFn ss n f args h
theorem spK_s (ss : List KSpec) (n f : Nat) (args : List AV) (h : Heap) (ids : List Nat) (v : AV) : spK ss n f args h ids (some v) = some (v, if scal v then h else kill h ids) := rfl
theorem spK_n (ss : List KSpec) (n f : Nat) (args : List AV) (h : Heap) (ids : List Nat) : spK ss n f args h ids none = evFn ss n f args h := rfl
theorem frK_s (s : KSpec) (ss : List KSpec) (n f : Nat) (args : List AV) (h : Heap) (bs : List AV) (ids : List Nat) : frK s ss n f args h (some (bs, ids)) = spK ss n f args h ids (s.S bs) := rfl
theorem frK_n (s : KSpec) (ss : List KSpec) (n f : Nat) (args : List AV) (h : Heap) : frK s ss n f args h none = evFn ss n f args h := rfl
theorem callS_oneF (s : KSpec) (ss : List KSpec) (n f : Nat) (args : List AV) (h : Heap) (hf : s.f = f) : callS [s] ss n f args h = frK s ss n f args h (frzL (frz h 0 8) args) := by
  rw [callS_one s ss n f args h hf]
  rcases frzL (frz h 0 8) args with _ | ⟨bs, ids⟩
  · rfl
  · rfl

theorem evB_fm (ss : List KSpec) (n : Nat) (F : AFun) (args : List AV) (h : Heap) (hle : args.length ≤ F.ntmps) : evB ss n F args h =
  match evCode (evCall (envOf ss) n) n F.code (FM F.ntmps (enumA 0 args)) ⟨h.next, h.objs, h.next, h.next⟩ with
    | some (.exit _, _, _) => none
    | some (_, fr, h') => (match resAll fr h' F.results with | some vs => some (finish F.keep h (oneOf vs) h') | none => none)
    | none => none := by
  rw [← FM_args args hle]
  rfl
theorem run2 (ss : List KSpec) (n : Nat) (args : List AV) (h : Heap) : evFn ss n 2 args h = evB ss n c2 args h := rfl
theorem run3 (ss : List KSpec) (n : Nat) (args : List AV) (h : Heap) : evFn ss n 3 args h = evB ss n c3 args h := rfl
theorem run4 (ss : List KSpec) (n : Nat) (args : List AV) (h : Heap) : evFn ss n 4 args h = evB ss n c4 args h := rfl
theorem run5 (ss : List KSpec) (n : Nat) (args : List AV) (h : Heap) : evFn ss n 5 args h = evB ss n c5 args h := rfl
theorem run6 (ss : List KSpec) (n : Nat) (args : List AV) (h : Heap) : evFn ss n 6 args h = evB ss n c6 args h := rfl
theorem run7 (ss : List KSpec) (n : Nat) (args : List AV) (h : Heap) : evFn ss n 7 args h = evB ss n c7 args h := rfl
theorem run8 (ss : List KSpec) (n : Nat) (args : List AV) (h : Heap) : evFn ss n 8 args h = evB ss n c8 args h := rfl
theorem run9 (ss : List KSpec) (n : Nat) (args : List AV) (h : Heap) : evFn ss n 9 args h = evB ss n c9 args h := rfl
theorem run10 (ss : List KSpec) (n : Nat) (args : List AV) (h : Heap) : evFn ss n 10 args h = evB ss n c10 args h := rfl
theorem run11 (ss : List KSpec) (n : Nat) (args : List AV) (h : Heap) : evFn ss n 11 args h = evB ss n c11 args h := rfl
theorem run12 (ss : List KSpec) (n : Nat) (args : List AV) (h : Heap) : evFn ss n 12 args h = evB ss n c12 args h := rfl
theorem run13 (ss : List KSpec) (n : Nat) (args : List AV) (h : Heap) : evFn ss n 13 args h = evB ss n c13 args h := rfl
theorem run14 (ss : List KSpec) (n : Nat) (args : List AV) (h : Heap) : evFn ss n 14 args h = evB ss n c14 args h := rfl
theorem run15 (ss : List KSpec) (n : Nat) (args : List AV) (h : Heap) : evFn ss n 15 args h = evB ss n c15 args h := rfl
theorem run16 (ss : List KSpec) (n : Nat) (args : List AV) (h : Heap) : evFn ss n 16 args h = evB ss n c16 args h := rfl
theorem run17 (ss : List KSpec) (n : Nat) (args : List AV) (h : Heap) : evFn ss n 17 args h = evB ss n c17 args h := rfl
theorem run18 (ss : List KSpec) (n : Nat) (args : List AV) (h : Heap) : evFn ss n 18 args h = evB ss n c18 args h := rfl
theorem run19 (ss : List KSpec) (n : Nat) (args : List AV) (h : Heap) : evFn ss n 19 args h = evB ss n c19 args h := rfl
theorem run20 (ss : List KSpec) (n : Nat) (args : List AV) (h : Heap) : evFn ss n 20 args h = evB ss n c20 args h := rfl
theorem run21 (ss : List KSpec) (n : Nat) (args : List AV) (h : Heap) : evFn ss n 21 args h = evB ss n c21 args h := rfl
theorem run22 (ss : List KSpec) (n : Nat) (args : List AV) (h : Heap) : evFn ss n 22 args h = evB ss n c22 args h := rfl
theorem run23 (ss : List KSpec) (n : Nat) (args : List AV) (h : Heap) : evFn ss n 23 args h = evB ss n c23 args h := rfl
theorem run24 (ss : List KSpec) (n : Nat) (args : List AV) (h : Heap) : evFn ss n 24 args h = evB ss n c24 args h := rfl
theorem run25 (ss : List KSpec) (n : Nat) (args : List AV) (h : Heap) : evFn ss n 25 args h = evB ss n c25 args h := rfl
theorem run26 (ss : List KSpec) (n : Nat) (args : List AV) (h : Heap) : evFn ss n 26 args h = evB ss n c26 args h := rfl
theorem run27 (ss : List KSpec) (n : Nat) (args : List AV) (h : Heap) : evFn ss n 27 args h = evB ss n c27 args h := rfl
theorem run28 (ss : List KSpec) (n : Nat) (args : List AV) (h : Heap) : evFn ss n 28 args h = evB ss n c28 args h := rfl
theorem run29 (ss : List KSpec) (n : Nat) (args : List AV) (h : Heap) : evFn ss n 29 args h = evB ss n c29 args h := rfl
theorem run30 (ss : List KSpec) (n : Nat) (args : List AV) (h : Heap) : evFn ss n 30 args h = evB ss n c30 args h := rfl
theorem run31 (ss : List KSpec) (n : Nat) (args : List AV) (h : Heap) : evFn ss n 31 args h = evB ss n c31 args h := rfl
theorem run32 (ss : List KSpec) (n : Nat) (args : List AV) (h : Heap) : evFn ss n 32 args h = evB ss n c32 args h := rfl
theorem run33 (ss : List KSpec) (n : Nat) (args : List AV) (h : Heap) : evFn ss n 33 args h = evB ss n c33 args h := rfl
theorem run34 (ss : List KSpec) (n : Nat) (args : List AV) (h : Heap) : evFn ss n 34 args h = evB ss n c34 args h := rfl
theorem run35 (ss : List KSpec) (n : Nat) (args : List AV) (h : Heap) : evFn ss n 35 args h = evB ss n c35 args h := rfl
theorem run36 (ss : List KSpec) (n : Nat) (args : List AV) (h : Heap) : evFn ss n 36 args h = evB ss n c36 args h := rfl
theorem run37 (ss : List KSpec) (n : Nat) (args : List AV) (h : Heap) : evFn ss n 37 args h = evB ss n c37 args h := rfl
theorem run38 (ss : List KSpec) (n : Nat) (args : List AV) (h : Heap) : evFn ss n 38 args h = evB ss n c38 args h := rfl
theorem run39 (ss : List KSpec) (n : Nat) (args : List AV) (h : Heap) : evFn ss n 39 args h = evB ss n c39 args h := rfl
theorem run40 (ss : List KSpec) (n : Nat) (args : List AV) (h : Heap) : evFn ss n 40 args h = evB ss n c40 args h := rfl
theorem run41 (ss : List KSpec) (n : Nat) (args : List AV) (h : Heap) : evFn ss n 41 args h = evB ss n c41 args h := rfl
theorem run42 (ss : List KSpec) (n : Nat) (args : List AV) (h : Heap) : evFn ss n 42 args h = evB ss n c42 args h := rfl
theorem run43 (ss : List KSpec) (n : Nat) (args : List AV) (h : Heap) : evFn ss n 43 args h = evB ss n c43 args h := rfl
theorem run44 (ss : List KSpec) (n : Nat) (args : List AV) (h : Heap) : evFn ss n 44 args h = evB ss n c44 args h := rfl
theorem run45 (ss : List KSpec) (n : Nat) (args : List AV) (h : Heap) : evFn ss n 45 args h = evB ss n c45 args h := rfl
theorem run46 (ss : List KSpec) (n : Nat) (args : List AV) (h : Heap) : evFn ss n 46 args h = evB ss n c46 args h := rfl
theorem run47 (ss : List KSpec) (n : Nat) (args : List AV) (h : Heap) : evFn ss n 47 args h = evB ss n c47 args h := rfl
theorem run48 (ss : List KSpec) (n : Nat) (args : List AV) (h : Heap) : evFn ss n 48 args h = evB ss n c48 args h := rfl
theorem run49 (ss : List KSpec) (n : Nat) (args : List AV) (h : Heap) : evFn ss n 49 args h = evB ss n c49 args h := rfl
theorem run50 (ss : List KSpec) (n : Nat) (args : List AV) (h : Heap) : evFn ss n 50 args h = evB ss n c50 args h := rfl
theorem run51 (ss : List KSpec) (n : Nat) (args : List AV) (h : Heap) : evFn ss n 51 args h = evB ss n c51 args h := rfl
theorem run52 (ss : List KSpec) (n : Nat) (args : List AV) (h : Heap) : evFn ss n 52 args h = evB ss n c52 args h := rfl
theorem run53 (ss : List KSpec) (n : Nat) (args : List AV) (h : Heap) : evFn ss n 53 args h = evB ss n c53 args h := rfl
theorem run54 (ss : List KSpec) (n : Nat) (args : List AV) (h : Heap) : evFn ss n 54 args h = evB ss n c54 args h := rfl
theorem run55 (ss : List KSpec) (n : Nat) (args : List AV) (h : Heap) : evFn ss n 55 args h = evB ss n c55 args h := rfl
theorem run56 (ss : List KSpec) (n : Nat) (args : List AV) (h : Heap) : evFn ss n 56 args h = evB ss n c56 args h := rfl
theorem run57 (ss : List KSpec) (n : Nat) (args : List AV) (h : Heap) : evFn ss n 57 args h = evB ss n c57 args h := rfl
theorem run58 (ss : List KSpec) (n : Nat) (args : List AV) (h : Heap) : evFn ss n 58 args h = evB ss n c58 args h := rfl
theorem run59 (ss : List KSpec) (n : Nat) (args : List AV) (h : Heap) : evFn ss n 59 args h = evB ss n c59 args h := rfl
theorem run60 (ss : List KSpec) (n : Nat) (args : List AV) (h : Heap) : evFn ss n 60 args h = evB ss n c60 args h := rfl
theorem run61 (ss : List KSpec) (n : Nat) (args : List AV) (h : Heap) : evFn ss n 61 args h = evB ss n c61 args h := rfl
theorem run62 (ss : List KSpec) (n : Nat) (args : List AV) (h : Heap) : evFn ss n 62 args h = evB ss n c62 args h := rfl
theorem run63 (ss : List KSpec) (n : Nat) (args : List AV) (h : Heap) : evFn ss n 63 args h = evB ss n c63 args h := rfl
theorem run64 (ss : List KSpec) (n : Nat) (args : List AV) (h : Heap) : evFn ss n 64 args h = evB ss n c64 args h := rfl
theorem run65 (ss : List KSpec) (n : Nat) (args : List AV) (h : Heap) : evFn ss n 65 args h = evB ss n c65 args h := rfl
theorem run66 (ss : List KSpec) (n : Nat) (args : List AV) (h : Heap) : evFn ss n 66 args h = evB ss n c66 args h := rfl
theorem run67 (ss : List KSpec) (n : Nat) (args : List AV) (h : Heap) : evFn ss n 67 args h = evB ss n c67 args h := rfl
theorem run68 (ss : List KSpec) (n : Nat) (args : List AV) (h : Heap) : evFn ss n 68 args h = evB ss n c68 args h := rfl
theorem run69 (ss : List KSpec) (n : Nat) (args : List AV) (h : Heap) : evFn ss n 69 args h = evB ss n c69 args h := rfl
theorem run70 (ss : List KSpec) (n : Nat) (args : List AV) (h : Heap) : evFn ss n 70 args h = evB ss n c70 args h := rfl
theorem run71 (ss : List KSpec) (n : Nat) (args : List AV) (h : Heap) : evFn ss n 71 args h = evB ss n c71 args h := rfl
theorem run72 (ss : List KSpec) (n : Nat) (args : List AV) (h : Heap) : evFn ss n 72 args h = evB ss n c72 args h := rfl
theorem run73 (ss : List KSpec) (n : Nat) (args : List AV) (h : Heap) : evFn ss n 73 args h = evB ss n c73 args h := rfl
theorem run74 (ss : List KSpec) (n : Nat) (args : List AV) (h : Heap) : evFn ss n 74 args h = evB ss n c74 args h := rfl
theorem run75 (ss : List KSpec) (n : Nat) (args : List AV) (h : Heap) : evFn ss n 75 args h = evB ss n c75 args h := rfl
theorem run83 (ss : List KSpec) (n : Nat) (args : List AV) (h : Heap) : evFn ss n 83 args h = evB ss n c83 args h := rfl
theorem run86 (ss : List KSpec) (n : Nat) (args : List AV) (h : Heap) : evFn ss n 86 args h = evB ss n c86 args h := rfl

end Go.Proofs.YtnkafagfkblfeaaDoor
