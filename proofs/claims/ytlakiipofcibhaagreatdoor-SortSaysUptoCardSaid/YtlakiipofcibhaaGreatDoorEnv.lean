import Derived.Test.YtlakiipofcibhaaGreatDoorCode1
import Derived.Test.YtlakiipofcibhaaGreatDoorCode2
import Derived.Test.YtlakiipofcibhaaGreatDoorSz3
set_option linter.unusedVariables false
set_option linter.unusedSimpArgs false
set_option linter.unusedSectionVars false
set_option maxHeartbeats 16000000
set_option maxRecDepth 100000

namespace Go.Proofs.YtlakiipofcibhaaGreatDoor
open Go Sz
set_option maxHeartbeats 4000000
def fnAt : Nat → Option AFun
  | 2 => some c2
  | 9 => some c9
  | 12 => some c12
  | 14 => some c14
  | 15 => some c15
  | 16 => some c16
  | 17 => some c17
  | 21 => some c21
  | 23 => some c23
  | 24 => some c24
  | 25 => some c25
  | 26 => some c26
  | 27 => some c27
  | 28 => some c28
  | 29 => some c29
  | 30 => some c30
  | 31 => some c31
  | 32 => some c32
  | 33 => some c33
  | 34 => some c34
  | 35 => some c35
  | 36 => some c36
  | 37 => some c37
  | 38 => some c38
  | 39 => some c39
  | 42 => some c42
  | 43 => some c43
  | 44 => some c44
  | 45 => some c45
  | 46 => some c46
  | 47 => some c47
  | 52 => some c52
  | 53 => some c53
  | 54 => some c54
  | 55 => some c55
  | 56 => some c56
  | 57 => some c57
  | 58 => some c58
  | 59 => some c59
  | 60 => some c60
  | 61 => some c61
  | 62 => some c62
  | 63 => some c63
  | 64 => some c64
  | 65 => some c65
  | 66 => some c66
  | 67 => some c67
  | 68 => some c68
  | 72 => some c72
  | 73 => some c73
  | 74 => some c74
  | 75 => some c75
  | 76 => some c76
  | 78 => some c78
  | 79 => some c79
  | 80 => some c80
  | 81 => some c81
  | 82 => some c82
  | 83 => some c83
  | 84 => some c84
  | 85 => some c85
  | 86 => some c86
  | 87 => some c87
  | 88 => some c88
  | 89 => some c89
  | 90 => some c90
  | 91 => some c91
  | 92 => some c92
  | 93 => some c93
  | 94 => some c94
  | 95 => some c95
  | 99 => some c99
  | 100 => some c100
  | 101 => some c101
  | 102 => some c102
  | 103 => some c103
  | 104 => some c104
  | 105 => some c105
  | 106 => some c106
  | 107 => some c107
  | 117 => some c117
  | 118 => some c118
  | 119 => some c119
  | 120 => some c120
  | 121 => some c121
  | 123 => some c123
  | 124 => some c124
  | 125 => some c125
  | 126 => some c126
  | 128 => some c128
  | 129 => some c129
  | 130 => some c130
  | 131 => some c131
  | 132 => some c132
  | 133 => some c133
  | 134 => some c134
  | 135 => some c135
  | 136 => some c136
  | 137 => some c137
  | 138 => some c138
  | 140 => some c140
  | 141 => some c141
  | 142 => some c142
  | 143 => some c143
  | 144 => some c144
  | 145 => some c145
  | 146 => some c146
  | 148 => some c148
  | 151 => some c151
  | 153 => some c153
  | 159 => some c159
  | 160 => some c160
  | 165 => some c165
  | 179 => some c179
  | _ => none
theorem fnAt_ok (f : Nat) (F : AFun) (h : fnAt f = some F) : FnOK Tryz.prog f F := by
  unfold fnAt at h
  split at h
  · cases h; exact ok2
  · cases h; exact ok9
  · cases h; exact ok12
  · cases h; exact ok14
  · cases h; exact ok15
  · cases h; exact ok16
  · cases h; exact ok17
  · cases h; exact ok21
  · cases h; exact ok23
  · cases h; exact ok24
  · cases h; exact ok25
  · cases h; exact ok26
  · cases h; exact ok27
  · cases h; exact ok28
  · cases h; exact ok29
  · cases h; exact ok30
  · cases h; exact ok31
  · cases h; exact ok32
  · cases h; exact ok33
  · cases h; exact ok34
  · cases h; exact ok35
  · cases h; exact ok36
  · cases h; exact ok37
  · cases h; exact ok38
  · cases h; exact ok39
  · cases h; exact ok42
  · cases h; exact ok43
  · cases h; exact ok44
  · cases h; exact ok45
  · cases h; exact ok46
  · cases h; exact ok47
  · cases h; exact ok52
  · cases h; exact ok53
  · cases h; exact ok54
  · cases h; exact ok55
  · cases h; exact ok56
  · cases h; exact ok57
  · cases h; exact ok58
  · cases h; exact ok59
  · cases h; exact ok60
  · cases h; exact ok61
  · cases h; exact ok62
  · cases h; exact ok63
  · cases h; exact ok64
  · cases h; exact ok65
  · cases h; exact ok66
  · cases h; exact ok67
  · cases h; exact ok68
  · cases h; exact ok72
  · cases h; exact ok73
  · cases h; exact ok74
  · cases h; exact ok75
  · cases h; exact ok76
  · cases h; exact ok78
  · cases h; exact ok79
  · cases h; exact ok80
  · cases h; exact ok81
  · cases h; exact ok82
  · cases h; exact ok83
  · cases h; exact ok84
  · cases h; exact ok85
  · cases h; exact ok86
  · cases h; exact ok87
  · cases h; exact ok88
  · cases h; exact ok89
  · cases h; exact ok90
  · cases h; exact ok91
  · cases h; exact ok92
  · cases h; exact ok93
  · cases h; exact ok94
  · cases h; exact ok95
  · cases h; exact ok99
  · cases h; exact ok100
  · cases h; exact ok101
  · cases h; exact ok102
  · cases h; exact ok103
  · cases h; exact ok104
  · cases h; exact ok105
  · cases h; exact ok106
  · cases h; exact ok107
  · cases h; exact ok117
  · cases h; exact ok118
  · cases h; exact ok119
  · cases h; exact ok120
  · cases h; exact ok121
  · cases h; exact ok123
  · cases h; exact ok124
  · cases h; exact ok125
  · cases h; exact ok126
  · cases h; exact ok128
  · cases h; exact ok129
  · cases h; exact ok130
  · cases h; exact ok131
  · cases h; exact ok132
  · cases h; exact ok133
  · cases h; exact ok134
  · cases h; exact ok135
  · cases h; exact ok136
  · cases h; exact ok137
  · cases h; exact ok138
  · cases h; exact ok140
  · cases h; exact ok141
  · cases h; exact ok142
  · cases h; exact ok143
  · cases h; exact ok144
  · cases h; exact ok145
  · cases h; exact ok146
  · cases h; exact ok148
  · cases h; exact ok151
  · cases h; exact ok153
  · cases h; exact ok159
  · cases h; exact ok160
  · cases h; exact ok165
  · cases h; exact ok179
  · cases h
theorem mixed : Tryz.prog.follows .mixedOrders = true := by kernel_rfl
def cloneS (f : Nat) : KSpec := ⟨f, fun | [.nils] => some .nils | [.sl []] => some .nils | _ => none⟩
theorem cloneS_f (f : Nat) : (cloneS f).f = f := (rfl)
theorem cloneS_nils (f : Nat) : (cloneS f).S [.nils] = some .nils := rfl
theorem cloneS_sl0 (f : Nat) : (cloneS f).S [.sl []] = some .nils := rfl
theorem cloneS_sl (f : Nat) {xs : List AV} (h : xs ≠ []) : (cloneS f).S [.sl xs] = none := by
  cases xs with
  | nil => exact absurd rfl h
  | cons x r => rfl
theorem cloneS_ok {f : Nat} (hc : CloneAt Tryz.prog f) : KSpecOK Tryz.prog (cloneS f) := fun args v hv => by
  have key : ∀ x, x = AV.nils ∨ x = .sl [] → args = [x] → v = .nils → PrimOK Tryz.prog f args v := fun x hx ha h2 => by
    subst ha h2
    exact prim_weak (h' := h0) rfl (by rcases hx with rfl | rfl <;> rfl) fun φ w cargs hr hG ha => .inl (clone_prim mixed hc hx hr hG ha)
  unfold cloneS at hv
  dsimp only at hv
  split at hv
  · cases hv; exact key _ (.inl rfl) rfl rfl
  · cases hv; exact key _ (.inr rfl) rfl rfl
  · cases hv
def clones : List KSpec := [cloneS 46]
theorem clones_ok : ∀ s ∈ clones, KSpecOK Tryz.prog s := by
  intro s hs
  simp only [clones, List.mem_cons, List.not_mem_nil, or_false] at hs
  subst hs
  · exact cloneS_ok clone46
noncomputable def envOf (ss : List KSpec) : Env := mkEnv fnAt (ss ++ clones)
theorem envOf_okX {X : World → Prop} {ss : List KSpec} (hs : ∀ s ∈ ss, KSpecOKX Tryz.prog X s) : EnvOKX Tryz.prog X (envOf ss) :=
  mkEnv_ok mixed fnAt_ok fun s h => by
    rcases List.mem_append.1 h with h | h
    · exact hs s h
    · exact (clones_ok s h).lift
theorem envOf_ok {ss : List KSpec} (hs : ∀ s ∈ ss, KSpecOK Tryz.prog s) : EnvOK Tryz.prog (envOf ss) := envOf_okX hs
noncomputable def evB (ss : List KSpec) (n : Nat) (F : AFun) (args : List AV) (h : Heap) : Option (AV × Heap) :=
  match evCode (evCall (envOf ss) n) n F.code (args ++ List.replicate (F.ntmps - args.length) .undef) ⟨h.next, h.objs, h.next, h.next⟩ with
    | some (.exit _, _, _) => none
    | some (_, fr, h') => (match resAll fr h' F.results with | some vs => some (finish F.keep h (oneOf vs) h') | none => none)
    | none => none
noncomputable def evFn (ss : List KSpec) (n f : Nat) (args : List AV) (h : Heap) : Option (AV × Heap) :=
  match fnAt f with
  | none => none
  | some F => evB ss n F args h
noncomputable def callS (l ss : List KSpec) (n f : Nat) (args : List AV) (h : Heap) : Option (AV × Heap) :=
  match frzL (frz h 0 8) args with
  | some (args', ids) => (match lookS l f args' with | some v => some (v, if scal v then h else kill h ids) | none => evFn ss n f args h)
  | none => evFn ss n f args h
theorem evCall_spec (ss : List KSpec) (n f : Nat) (args : List AV) (h : Heap) : evCall (envOf ss) (n + 1) f args h = callS (lookF (ss ++ clones) f) ss n f args h := by
  conv => lhs; unfold evCall
  unfold callS
  have e : ∀ a, lookS (lookF (ss ++ clones) f) f a = (envOf ss).prim f a := fun a => lookF_eq f a _
  have e2 : (envOf ss).fn f = fnAt f := rfl
  have key : evFn ss n f args h = (match (envOf ss).fn f with
      | none => none
      | some F =>
        match evCode (evCall (envOf ss) n) n F.code (args ++ List.replicate (F.ntmps - args.length) .undef) ⟨h.next, h.objs, h.next, h.next⟩ with
        | some (.exit _, _, _) => none
        | some (_, fr, h') => (resAll fr h' F.results).map fun vs => finish F.keep h (oneOf vs) h'
        | none => none) := by
    rw [e2]
    unfold evFn
    cases fnAt f with
    | none => rfl
    | some F =>
      dsimp only
      unfold evB
      cases evCode (evCall (envOf ss) n) n F.code (args ++ List.replicate (F.ntmps - args.length) .undef) ⟨h.next, h.objs, h.next, h.next⟩ with
      | none => rfl
      | some r =>
        obtain ⟨ex, fr, h'⟩ := r
        cases ex <;> first | rfl | (dsimp only; cases resAll fr h' F.results <;> rfl)
  cases hz : frzL (frz h 0 8) args with
  | none => exact key.symm
  | some p =>
    obtain ⟨args', ids⟩ := p
    dsimp only [Option.bind]
    rw [e]
    cases hp : (envOf ss).prim f args' with
    | none => exact key.symm
    | some v => rfl
theorem callS_nil (ss : List KSpec) (n f : Nat) (args : List AV) (h : Heap) : callS [] ss n f args h = evFn ss n f args h := by
  unfold callS
  split
  · rfl
  · rfl
theorem callS_one (s : KSpec) (ss : List KSpec) (n f : Nat) (args : List AV) (h : Heap) (hf : s.f = f) : callS [s] ss n f args h = match frzL (frz h 0 8) args with
  | some (args', ids) => (match s.S args' with | some v => some (v, if scal v then h else kill h ids) | none => evFn ss n f args h)
  | none => evFn ss n f args h := by
  unfold callS
  split
  · simp only [lookS, hf, if_true]
    split
    · rename_i h1
      split at h1
      · rename_i h2; cases h1; rw [h2]
      · cases h1
    · rename_i h1
      split at h1
      · cases h1
      · rename_i h2; rw [h2]
  · rfl
noncomputable def spK (ss : List KSpec) (n f : Nat) (args : List AV) (h : Heap) (ids : List Nat) : Option AV → Option (AV × Heap)
  | some v => some (v, if scal v then h else kill h ids)
  | none => evFn ss n f args h
noncomputable def frK (s : KSpec) (ss : List KSpec) (n f : Nat) (args : List AV) (h : Heap) : Option (List AV × List Nat) → Option (AV × Heap)
  | some p => spK ss n f args h p.2 (s.S p.1)
  | none => evFn ss n f args h
theorem spK_s (ss : List KSpec) (n f : Nat) (args : List AV) (h : Heap) (ids : List Nat) (v : AV) : spK ss n f args h ids (some v) = some (v, if scal v then h else kill h ids) := rfl
theorem spK_n (ss : List KSpec) (n f : Nat) (args : List AV) (h : Heap) (ids : List Nat) : spK ss n f args h ids none = evFn ss n f args h := rfl
theorem frK_s (s : KSpec) (ss : List KSpec) (n f : Nat) (args : List AV) (h : Heap) (bs : List AV) (ids : List Nat) : frK s ss n f args h (some (bs, ids)) = spK ss n f args h ids (s.S bs) := rfl
theorem frK_n (s : KSpec) (ss : List KSpec) (n f : Nat) (args : List AV) (h : Heap) : frK s ss n f args h none = evFn ss n f args h := rfl
theorem callS_oneF (s : KSpec) (ss : List KSpec) (n f : Nat) (args : List AV) (h : Heap) (hf : s.f = f) : callS [s] ss n f args h = frK s ss n f args h (frzL (frz h 0 8) args) := by
  rw [callS_one s ss n f args h hf]
  rcases frzL (frz h 0 8) args with _ | ⟨bs, ids⟩
  · rfl
  · rfl
theorem evB_fm (ss : List KSpec) (n : Nat) (F : AFun) (args : List AV) (h : Heap) (hle : args.length ≤ F.ntmps) : evB ss n F args h =
  match evCode (evCall (envOf ss) n) n F.code (FM F.ntmps (enumA 0 args)) ⟨h.next, h.objs, h.next, h.next⟩ with
    | some (.exit _, _, _) => none
    | some (_, fr, h') => (match resAll fr h' F.results with | some vs => some (finish F.keep h (oneOf vs) h') | none => none)
    | none => none := by
  rw [← FM_args args hle]
  rfl
theorem run9 (ss : List KSpec) (n : Nat) (args : List AV) (h : Heap) : evFn ss n 9 args h = evB ss n c9 args h := rfl
theorem run15 (ss : List KSpec) (n : Nat) (args : List AV) (h : Heap) : evFn ss n 15 args h = evB ss n c15 args h := rfl
theorem run16 (ss : List KSpec) (n : Nat) (args : List AV) (h : Heap) : evFn ss n 16 args h = evB ss n c16 args h := rfl
theorem run17 (ss : List KSpec) (n : Nat) (args : List AV) (h : Heap) : evFn ss n 17 args h = evB ss n c17 args h := rfl
theorem run21 (ss : List KSpec) (n : Nat) (args : List AV) (h : Heap) : evFn ss n 21 args h = evB ss n c21 args h := rfl
theorem run23 (ss : List KSpec) (n : Nat) (args : List AV) (h : Heap) : evFn ss n 23 args h = evB ss n c23 args h := rfl
theorem run26 (ss : List KSpec) (n : Nat) (args : List AV) (h : Heap) : evFn ss n 26 args h = evB ss n c26 args h := rfl
theorem run27 (ss : List KSpec) (n : Nat) (args : List AV) (h : Heap) : evFn ss n 27 args h = evB ss n c27 args h := rfl
theorem run30 (ss : List KSpec) (n : Nat) (args : List AV) (h : Heap) : evFn ss n 30 args h = evB ss n c30 args h := rfl
theorem run31 (ss : List KSpec) (n : Nat) (args : List AV) (h : Heap) : evFn ss n 31 args h = evB ss n c31 args h := rfl
theorem run33 (ss : List KSpec) (n : Nat) (args : List AV) (h : Heap) : evFn ss n 33 args h = evB ss n c33 args h := rfl
theorem run35 (ss : List KSpec) (n : Nat) (args : List AV) (h : Heap) : evFn ss n 35 args h = evB ss n c35 args h := rfl
theorem run36 (ss : List KSpec) (n : Nat) (args : List AV) (h : Heap) : evFn ss n 36 args h = evB ss n c36 args h := rfl
theorem run37 (ss : List KSpec) (n : Nat) (args : List AV) (h : Heap) : evFn ss n 37 args h = evB ss n c37 args h := rfl
theorem run38 (ss : List KSpec) (n : Nat) (args : List AV) (h : Heap) : evFn ss n 38 args h = evB ss n c38 args h := rfl
theorem run39 (ss : List KSpec) (n : Nat) (args : List AV) (h : Heap) : evFn ss n 39 args h = evB ss n c39 args h := rfl
theorem run45 (ss : List KSpec) (n : Nat) (args : List AV) (h : Heap) : evFn ss n 45 args h = evB ss n c45 args h := rfl
theorem run46 (ss : List KSpec) (n : Nat) (args : List AV) (h : Heap) : evFn ss n 46 args h = evB ss n c46 args h := rfl
theorem run47 (ss : List KSpec) (n : Nat) (args : List AV) (h : Heap) : evFn ss n 47 args h = evB ss n c47 args h := rfl
theorem run52 (ss : List KSpec) (n : Nat) (args : List AV) (h : Heap) : evFn ss n 52 args h = evB ss n c52 args h := rfl
theorem run53 (ss : List KSpec) (n : Nat) (args : List AV) (h : Heap) : evFn ss n 53 args h = evB ss n c53 args h := rfl
theorem run54 (ss : List KSpec) (n : Nat) (args : List AV) (h : Heap) : evFn ss n 54 args h = evB ss n c54 args h := rfl
theorem run55 (ss : List KSpec) (n : Nat) (args : List AV) (h : Heap) : evFn ss n 55 args h = evB ss n c55 args h := rfl
theorem run57 (ss : List KSpec) (n : Nat) (args : List AV) (h : Heap) : evFn ss n 57 args h = evB ss n c57 args h := rfl
theorem run59 (ss : List KSpec) (n : Nat) (args : List AV) (h : Heap) : evFn ss n 59 args h = evB ss n c59 args h := rfl
theorem run60 (ss : List KSpec) (n : Nat) (args : List AV) (h : Heap) : evFn ss n 60 args h = evB ss n c60 args h := rfl
theorem run61 (ss : List KSpec) (n : Nat) (args : List AV) (h : Heap) : evFn ss n 61 args h = evB ss n c61 args h := rfl
theorem run62 (ss : List KSpec) (n : Nat) (args : List AV) (h : Heap) : evFn ss n 62 args h = evB ss n c62 args h := rfl
theorem run63 (ss : List KSpec) (n : Nat) (args : List AV) (h : Heap) : evFn ss n 63 args h = evB ss n c63 args h := rfl
theorem run64 (ss : List KSpec) (n : Nat) (args : List AV) (h : Heap) : evFn ss n 64 args h = evB ss n c64 args h := rfl
theorem run65 (ss : List KSpec) (n : Nat) (args : List AV) (h : Heap) : evFn ss n 65 args h = evB ss n c65 args h := rfl
theorem run66 (ss : List KSpec) (n : Nat) (args : List AV) (h : Heap) : evFn ss n 66 args h = evB ss n c66 args h := rfl
theorem run67 (ss : List KSpec) (n : Nat) (args : List AV) (h : Heap) : evFn ss n 67 args h = evB ss n c67 args h := rfl
theorem run68 (ss : List KSpec) (n : Nat) (args : List AV) (h : Heap) : evFn ss n 68 args h = evB ss n c68 args h := rfl
theorem run72 (ss : List KSpec) (n : Nat) (args : List AV) (h : Heap) : evFn ss n 72 args h = evB ss n c72 args h := rfl
theorem run76 (ss : List KSpec) (n : Nat) (args : List AV) (h : Heap) : evFn ss n 76 args h = evB ss n c76 args h := rfl
theorem run79 (ss : List KSpec) (n : Nat) (args : List AV) (h : Heap) : evFn ss n 79 args h = evB ss n c79 args h := rfl
theorem run80 (ss : List KSpec) (n : Nat) (args : List AV) (h : Heap) : evFn ss n 80 args h = evB ss n c80 args h := rfl
theorem run81 (ss : List KSpec) (n : Nat) (args : List AV) (h : Heap) : evFn ss n 81 args h = evB ss n c81 args h := rfl
theorem run83 (ss : List KSpec) (n : Nat) (args : List AV) (h : Heap) : evFn ss n 83 args h = evB ss n c83 args h := rfl
theorem run84 (ss : List KSpec) (n : Nat) (args : List AV) (h : Heap) : evFn ss n 84 args h = evB ss n c84 args h := rfl
theorem run85 (ss : List KSpec) (n : Nat) (args : List AV) (h : Heap) : evFn ss n 85 args h = evB ss n c85 args h := rfl
theorem run86 (ss : List KSpec) (n : Nat) (args : List AV) (h : Heap) : evFn ss n 86 args h = evB ss n c86 args h := rfl
theorem run87 (ss : List KSpec) (n : Nat) (args : List AV) (h : Heap) : evFn ss n 87 args h = evB ss n c87 args h := rfl
theorem run88 (ss : List KSpec) (n : Nat) (args : List AV) (h : Heap) : evFn ss n 88 args h = evB ss n c88 args h := rfl
theorem run89 (ss : List KSpec) (n : Nat) (args : List AV) (h : Heap) : evFn ss n 89 args h = evB ss n c89 args h := rfl
theorem run90 (ss : List KSpec) (n : Nat) (args : List AV) (h : Heap) : evFn ss n 90 args h = evB ss n c90 args h := rfl
theorem run91 (ss : List KSpec) (n : Nat) (args : List AV) (h : Heap) : evFn ss n 91 args h = evB ss n c91 args h := rfl
theorem run92 (ss : List KSpec) (n : Nat) (args : List AV) (h : Heap) : evFn ss n 92 args h = evB ss n c92 args h := rfl
theorem run93 (ss : List KSpec) (n : Nat) (args : List AV) (h : Heap) : evFn ss n 93 args h = evB ss n c93 args h := rfl
theorem run94 (ss : List KSpec) (n : Nat) (args : List AV) (h : Heap) : evFn ss n 94 args h = evB ss n c94 args h := rfl
theorem run95 (ss : List KSpec) (n : Nat) (args : List AV) (h : Heap) : evFn ss n 95 args h = evB ss n c95 args h := rfl
theorem run99 (ss : List KSpec) (n : Nat) (args : List AV) (h : Heap) : evFn ss n 99 args h = evB ss n c99 args h := rfl
theorem run100 (ss : List KSpec) (n : Nat) (args : List AV) (h : Heap) : evFn ss n 100 args h = evB ss n c100 args h := rfl
theorem run101 (ss : List KSpec) (n : Nat) (args : List AV) (h : Heap) : evFn ss n 101 args h = evB ss n c101 args h := rfl
theorem run102 (ss : List KSpec) (n : Nat) (args : List AV) (h : Heap) : evFn ss n 102 args h = evB ss n c102 args h := rfl
theorem run119 (ss : List KSpec) (n : Nat) (args : List AV) (h : Heap) : evFn ss n 119 args h = evB ss n c119 args h := rfl
theorem run120 (ss : List KSpec) (n : Nat) (args : List AV) (h : Heap) : evFn ss n 120 args h = evB ss n c120 args h := rfl
theorem run121 (ss : List KSpec) (n : Nat) (args : List AV) (h : Heap) : evFn ss n 121 args h = evB ss n c121 args h := rfl
theorem run123 (ss : List KSpec) (n : Nat) (args : List AV) (h : Heap) : evFn ss n 123 args h = evB ss n c123 args h := rfl
theorem run124 (ss : List KSpec) (n : Nat) (args : List AV) (h : Heap) : evFn ss n 124 args h = evB ss n c124 args h := rfl
theorem run125 (ss : List KSpec) (n : Nat) (args : List AV) (h : Heap) : evFn ss n 125 args h = evB ss n c125 args h := rfl
theorem run126 (ss : List KSpec) (n : Nat) (args : List AV) (h : Heap) : evFn ss n 126 args h = evB ss n c126 args h := rfl
theorem run153 (ss : List KSpec) (n : Nat) (args : List AV) (h : Heap) : evFn ss n 153 args h = evB ss n c153 args h := rfl
theorem run160 (ss : List KSpec) (n : Nat) (args : List AV) (h : Heap) : evFn ss n 160 args h = evB ss n c160 args h := rfl
theorem run179 (ss : List KSpec) (n : Nat) (args : List AV) (h : Heap) : evFn ss n 179 args h = evB ss n c179 args h := rfl
end Go.Proofs.YtlakiipofcibhaaGreatDoor
