import Derived.Test.YtlakiipofcibhaaGreatDoorCode1
import Derived.Test.YtlakiipofcibhaaGreatDoorCode2
import Derived.Test.YtlakiipofcibhaaGreatDoorCode3
import Derived.Test.YtlakiipofcibhaaGreatDoorSz3
set_option linter.unusedVariables false
set_option linter.unusedSimpArgs false
set_option linter.unusedSectionVars false

namespace Go.Proofs.YtlakiipofcibhaaGreatDoor
open Go Sz

def fnAt : Nat → Option AFun
  | 2 => some c2
  | 3 => some c3
  | 4 => some c4
  | 8 => some c8
  | 10 => some c10
  | 11 => some c11
  | 12 => some c12
  | 13 => some c13
  | 14 => some c14
  | 15 => some c15
  | 16 => some c16
  | 17 => some c17
  | 18 => some c18
  | 19 => some c19
  | 20 => some c20
  | 21 => some c21
  | 22 => some c22
  | 23 => some c23
  | 25 => some c25
  | 27 => some c27
  | 28 => some c28
  | 29 => some c29
  | 30 => some c30
  | 31 => some c31
  | 32 => some c32
  | 33 => some c33
  | 34 => some c34
  | 35 => some c35
  | 40 => some c40
  | 41 => some c41
  | 42 => some c42
  | 43 => some c43
  | 44 => some c44
  | 45 => some c45
  | 46 => some c46
  | 47 => some c47
  | 48 => some c48
  | 49 => some c49
  | 50 => some c50
  | 51 => some c51
  | 52 => some c52
  | 53 => some c53
  | 54 => some c54
  | 55 => some c55
  | 56 => some c56
  | 57 => some c57
  | 58 => some c58
  | 59 => some c59
  | 60 => some c60
  | 66 => some c66
  | 69 => some c69
  | 70 => some c70
  | 71 => some c71
  | 72 => some c72
  | 73 => some c73
  | 74 => some c74
  | 75 => some c75
  | 76 => some c76
  | 77 => some c77
  | 79 => some c79
  | 80 => some c80
  | 81 => some c81
  | 82 => some c82
  | 83 => some c83
  | 84 => some c84
  | 85 => some c85
  | 86 => some c86
  | 87 => some c87
  | 88 => some c88
  | 93 => some c93
  | 94 => some c94
  | 95 => some c95
  | 96 => some c96
  | 97 => some c97
  | 98 => some c98
  | 99 => some c99
  | 100 => some c100
  | 101 => some c101
  | 102 => some c102
  | 103 => some c103
  | 104 => some c104
  | 105 => some c105
  | 106 => some c106
  | 107 => some c107
  | 108 => some c108
  | 109 => some c109
  | 110 => some c110
  | 111 => some c111
  | 112 => some c112
  | 113 => some c113
  | 114 => some c114
  | 115 => some c115
  | 116 => some c116
  | 117 => some c117
  | 119 => some c119
  | 120 => some c120
  | 121 => some c121
  | 122 => some c122
  | 123 => some c123
  | 124 => some c124
  | 125 => some c125
  | 126 => some c126
  | 128 => some c128
  | 129 => some c129
  | 130 => some c130
  | 131 => some c131
  | 132 => some c132
  | 133 => some c133
  | 134 => some c134
  | 135 => some c135
  | 136 => some c136
  | 137 => some c137
  | 138 => some c138
  | 140 => some c140
  | 141 => some c141
  | 142 => some c142
  | 143 => some c143
  | 144 => some c144
  | 145 => some c145
  | 146 => some c146
  | 148 => some c148
  | 149 => some c149
  | 152 => some c152
  | 153 => some c153
  | 159 => some c159
  | 160 => some c160
  | 166 => some c166
  | 167 => some c167
  | 179 => some c179
  | 186 => some c186
  | 187 => some c187
  | 188 => some c188
  | 189 => some c189
  | 192 => some c192
  | 193 => some c193
  | _ => none

set_option maxRecDepth 100000 in
theorem fnAt_ok (f : Nat) (F : AFun) (h : fnAt f = some F) : FnOK Tryz.prog f F := by
  unfold fnAt at h
  split at h
  · cases h; exact ok2
  · cases h; exact ok3
  · cases h; exact ok4
  · cases h; exact ok8
  · cases h; exact ok10
  · cases h; exact ok11
  · cases h; exact ok12
  · cases h; exact ok13
  · cases h; exact ok14
  · cases h; exact ok15
  · cases h; exact ok16
  · cases h; exact ok17
  · cases h; exact ok18
  · cases h; exact ok19
  · cases h; exact ok20
  · cases h; exact ok21
  · cases h; exact ok22
  · cases h; exact ok23
  · cases h; exact ok25
  · cases h; exact ok27
  · cases h; exact ok28
  · cases h; exact ok29
  · cases h; exact ok30
  · cases h; exact ok31
  · cases h; exact ok32
  · cases h; exact ok33
  · cases h; exact ok34
  · cases h; exact ok35
  · cases h; exact ok40
  · cases h; exact ok41
  · cases h; exact ok42
  · cases h; exact ok43
  · cases h; exact ok44
  · cases h; exact ok45
  · cases h; exact ok46
  · cases h; exact ok47
  · cases h; exact ok48
  · cases h; exact ok49
  · cases h; exact ok50
  · cases h; exact ok51
  · cases h; exact ok52
  · cases h; exact ok53
  · cases h; exact ok54
  · cases h; exact ok55
  · cases h; exact ok56
  · cases h; exact ok57
  · cases h; exact ok58
  · cases h; exact ok59
  · cases h; exact ok60
  · cases h; exact ok66
  · cases h; exact ok69
  · cases h; exact ok70
  · cases h; exact ok71
  · cases h; exact ok72
  · cases h; exact ok73
  · cases h; exact ok74
  · cases h; exact ok75
  · cases h; exact ok76
  · cases h; exact ok77
  · cases h; exact ok79
  · cases h; exact ok80
  · cases h; exact ok81
  · cases h; exact ok82
  · cases h; exact ok83
  · cases h; exact ok84
  · cases h; exact ok85
  · cases h; exact ok86
  · cases h; exact ok87
  · cases h; exact ok88
  · cases h; exact ok93
  · cases h; exact ok94
  · cases h; exact ok95
  · cases h; exact ok96
  · cases h; exact ok97
  · cases h; exact ok98
  · cases h; exact ok99
  · cases h; exact ok100
  · cases h; exact ok101
  · cases h; exact ok102
  · cases h; exact ok103
  · cases h; exact ok104
  · cases h; exact ok105
  · cases h; exact ok106
  · cases h; exact ok107
  · cases h; exact ok108
  · cases h; exact ok109
  · cases h; exact ok110
  · cases h; exact ok111
  · cases h; exact ok112
  · cases h; exact ok113
  · cases h; exact ok114
  · cases h; exact ok115
  · cases h; exact ok116
  · cases h; exact ok117
  · cases h; exact ok119
  · cases h; exact ok120
  · cases h; exact ok121
  · cases h; exact ok122
  · cases h; exact ok123
  · cases h; exact ok124
  · cases h; exact ok125
  · cases h; exact ok126
  · cases h; exact ok128
  · cases h; exact ok129
  · cases h; exact ok130
  · cases h; exact ok131
  · cases h; exact ok132
  · cases h; exact ok133
  · cases h; exact ok134
  · cases h; exact ok135
  · cases h; exact ok136
  · cases h; exact ok137
  · cases h; exact ok138
  · cases h; exact ok140
  · cases h; exact ok141
  · cases h; exact ok142
  · cases h; exact ok143
  · cases h; exact ok144
  · cases h; exact ok145
  · cases h; exact ok146
  · cases h; exact ok148
  · cases h; exact ok149
  · cases h; exact ok152
  · cases h; exact ok153
  · cases h; exact ok159
  · cases h; exact ok160
  · cases h; exact ok166
  · cases h; exact ok167
  · cases h; exact ok179
  · cases h; exact ok186
  · cases h; exact ok187
  · cases h; exact ok188
  · cases h; exact ok189
  · cases h; exact ok192
  · cases h; exact ok193
  · cases h

theorem mixed : Tryz.prog.follows .mixedOrders = true := by kernel_rfl

def cloneS (f : Nat) : KSpec := ⟨f, fun | [.nils] => some .nils | [.sl []] => some .nils | _ => none⟩
theorem cloneS_f (f : Nat) : (cloneS f).f = f := (rfl)
theorem cloneS_nils (f : Nat) : (cloneS f).S [.nils] = some .nils := rfl
theorem cloneS_sl0 (f : Nat) : (cloneS f).S [.sl []] = some .nils := rfl
theorem cloneS_sl (f : Nat) {xs : List AV} (h : xs ≠ []) : (cloneS f).S [.sl xs] = none := by
  cases xs with
  | nil => exact absurd rfl h
  | cons x r => rfl
theorem cloneS_ok {f : Nat} (hc : CloneAt Tryz.prog f) : KSpecOK Tryz.prog (cloneS f) := fun args v hv => by
  have key : ∀ x, x = AV.nils ∨ x = .sl [] → args = [x] → v = .nils → PrimOK Tryz.prog f args v := fun x hx ha h2 => by
    subst ha h2
    exact prim_weak (h' := h0) rfl (by rcases hx with rfl | rfl <;> rfl) fun φ w cargs hr hG ha => .inl (clone_prim mixed hc hx hr hG ha)
  unfold cloneS at hv
  dsimp only at hv
  split at hv
  · cases hv; exact key _ (.inl rfl) rfl rfl
  · cases hv; exact key _ (.inr rfl) rfl rfl
  · cases hv

def clones : List KSpec := [cloneS 46]
theorem clones_ok : ∀ s ∈ clones, KSpecOK Tryz.prog s := by
  intro s hs
  simp only [clones, List.mem_cons, List.not_mem_nil, or_false] at hs
  subst hs
  · exact cloneS_ok clone46

noncomputable def envOf (ss : List KSpec) : Env := mkEnv fnAt (ss ++ clones)
theorem envOf_okX {X : World → Prop} {ss : List KSpec} (hs : ∀ s ∈ ss, KSpecOKX Tryz.prog X s) : EnvOKX Tryz.prog X (envOf ss) :=
  mkEnv_ok mixed fnAt_ok fun s h => by
    rcases List.mem_append.1 h with h | h
    · exact hs s h
    · exact (clones_ok s h).lift
theorem envOf_ok {ss : List KSpec} (hs : ∀ s ∈ ss, KSpecOK Tryz.prog s) : EnvOK Tryz.prog (envOf ss) := envOf_okX hs

/-- A function's run. -/
noncomputable def evB (ss : List KSpec) (n : Nat) (F : AFun) (args : List AV) (h : Heap) : Option (AV × Heap) :=
  match evCode (evCall (envOf ss) n) n F.code (args ++ List.replicate (F.ntmps - args.length) .undef) ⟨h.next, h.objs, h.next, h.next⟩ with
    | some (.exit _, _, _) => none
    | some (_, fr, h') => (match resAll fr h' F.results with | some vs => some (finish F.keep h (oneOf vs) h') | none => none)
    | none => none
/-- A call without its answer being known ahead. -/
noncomputable def evFn (ss : List KSpec) (n f : Nat) (args : List AV) (h : Heap) : Option (AV × Heap) :=
  match fnAt f with
  | none => none
  | some F => evB ss n F args h
/-- A call, where these specs are the function's. -/
noncomputable def callS (l ss : List KSpec) (n f : Nat) (args : List AV) (h : Heap) : Option (AV × Heap) :=
  match frzL (frz h 0 8) args with
  | some (args', ids) => (match lookS l f args' with | some v => some (v, if scal v then h else kill h ids) | none => evFn ss n f args h)
  | none => evFn ss n f args h
theorem evCall_spec (ss : List KSpec) (n f : Nat) (args : List AV) (h : Heap) : evCall (envOf ss) (n + 1) f args h = callS (lookF (ss ++ clones) f) ss n f args h := by
  conv => lhs; unfold evCall
  unfold callS
  have e : ∀ a, lookS (lookF (ss ++ clones) f) f a = (envOf ss).prim f a := fun a => lookF_eq f a _
  have e2 : (envOf ss).fn f = fnAt f := rfl
  have key : evFn ss n f args h = (match (envOf ss).fn f with
      | none => none
      | some F =>
        match evCode (evCall (envOf ss) n) n F.code (args ++ List.replicate (F.ntmps - args.length) .undef) ⟨h.next, h.objs, h.next, h.next⟩ with
        | some (.exit _, _, _) => none
        | some (_, fr, h') => (resAll fr h' F.results).map fun vs => finish F.keep h (oneOf vs) h'
        | none => none) := by
    rw [e2]
    unfold evFn
    cases fnAt f with
    | none => rfl
    | some F =>
      dsimp only
      unfold evB
      cases evCode (evCall (envOf ss) n) n F.code (args ++ List.replicate (F.ntmps - args.length) .undef) ⟨h.next, h.objs, h.next, h.next⟩ with
      | none => rfl
      | some r =>
        obtain ⟨ex, fr, h'⟩ := r
        cases ex <;> first | rfl | (dsimp only; cases resAll fr h' F.results <;> rfl)
  cases hz : frzL (frz h 0 8) args with
  | none => exact key.symm
  | some p =>
    obtain ⟨args', ids⟩ := p
    dsimp only [Option.bind]
    rw [e]
    cases hp : (envOf ss).prim f args' with
    | none => exact key.symm
    | some v => rfl
theorem callS_nil (ss : List KSpec) (n f : Nat) (args : List AV) (h : Heap) : callS [] ss n f args h = evFn ss n f args h := by
  unfold callS
  split
  · rfl
  · rfl
theorem callS_one (s : KSpec) (ss : List KSpec) (n f : Nat) (args : List AV) (h : Heap) (hf : s.f = f) : callS [s] ss n f args h = match frzL (frz h 0 8) args with
  | some (args', ids) => (match s.S args' with | some v => some (v, if scal v then h else kill h ids) | none => evFn ss n f args h)
  | none => evFn ss n f args h := by
  unfold callS
  split
  · simp only [lookS, hf, if_true]
    split
    · rename_i h1
      split at h1
      · rename_i h2; cases h1; rw [h2]
      · cases h1
    · rename_i h1
      split at h1
      · cases h1
      · rename_i h2; rw [h2]
  · rfl

/-- A known call's answer, or the run. -/
noncomputable def spK (ss : List KSpec) (n f : Nat) (args : List AV) (h : Heap) (ids : List Nat) : Option AV → Option (AV × Heap)
  | some v => some (v, if scal v then h else kill h ids)
  | none => evFn ss n f args h
noncomputable def frK (s : KSpec) (ss : List KSpec) (n f : Nat) (args : List AV) (h : Heap) : Option (List AV × List Nat) → Option (AV × Heap)
  | some p => spK ss n f args h p.2 (s.S p.1)
  | none => evFn ss n f args h
theorem spK_s (ss : List KSpec) (n f : Nat) (args : List AV) (h : Heap) (ids : List Nat) (v : AV) : spK ss n f args h ids (some v) = some (v, if scal v then h else kill h ids) := rfl
theorem spK_n (ss : List KSpec) (n f : Nat) (args : List AV) (h : Heap) (ids : List Nat) : spK ss n f args h ids none = evFn ss n f args h := rfl
theorem frK_s (s : KSpec) (ss : List KSpec) (n f : Nat) (args : List AV) (h : Heap) (bs : List AV) (ids : List Nat) : frK s ss n f args h (some (bs, ids)) = spK ss n f args h ids (s.S bs) := rfl
theorem frK_n (s : KSpec) (ss : List KSpec) (n f : Nat) (args : List AV) (h : Heap) : frK s ss n f args h none = evFn ss n f args h := rfl
theorem callS_oneF (s : KSpec) (ss : List KSpec) (n f : Nat) (args : List AV) (h : Heap) (hf : s.f = f) : callS [s] ss n f args h = frK s ss n f args h (frzL (frz h 0 8) args) := by
  rw [callS_one s ss n f args h hf]
  rcases frzL (frz h 0 8) args with _ | ⟨bs, ids⟩
  · rfl
  · rfl

theorem evB_fm (ss : List KSpec) (n : Nat) (F : AFun) (args : List AV) (h : Heap) (hle : args.length ≤ F.ntmps) : evB ss n F args h =
  match evCode (evCall (envOf ss) n) n F.code (FM F.ntmps (enumA 0 args)) ⟨h.next, h.objs, h.next, h.next⟩ with
    | some (.exit _, _, _) => none
    | some (_, fr, h') => (match resAll fr h' F.results with | some vs => some (finish F.keep h (oneOf vs) h') | none => none)
    | none => none := by
  rw [← FM_args args hle]
  rfl
theorem run2 (ss : List KSpec) (n : Nat) (args : List AV) (h : Heap) : evFn ss n 2 args h = evB ss n c2 args h := rfl
theorem run3 (ss : List KSpec) (n : Nat) (args : List AV) (h : Heap) : evFn ss n 3 args h = evB ss n c3 args h := rfl
theorem run4 (ss : List KSpec) (n : Nat) (args : List AV) (h : Heap) : evFn ss n 4 args h = evB ss n c4 args h := rfl
theorem run8 (ss : List KSpec) (n : Nat) (args : List AV) (h : Heap) : evFn ss n 8 args h = evB ss n c8 args h := rfl
theorem run10 (ss : List KSpec) (n : Nat) (args : List AV) (h : Heap) : evFn ss n 10 args h = evB ss n c10 args h := rfl
theorem run11 (ss : List KSpec) (n : Nat) (args : List AV) (h : Heap) : evFn ss n 11 args h = evB ss n c11 args h := rfl
theorem run12 (ss : List KSpec) (n : Nat) (args : List AV) (h : Heap) : evFn ss n 12 args h = evB ss n c12 args h := rfl
theorem run13 (ss : List KSpec) (n : Nat) (args : List AV) (h : Heap) : evFn ss n 13 args h = evB ss n c13 args h := rfl
theorem run14 (ss : List KSpec) (n : Nat) (args : List AV) (h : Heap) : evFn ss n 14 args h = evB ss n c14 args h := rfl
theorem run15 (ss : List KSpec) (n : Nat) (args : List AV) (h : Heap) : evFn ss n 15 args h = evB ss n c15 args h := rfl
theorem run16 (ss : List KSpec) (n : Nat) (args : List AV) (h : Heap) : evFn ss n 16 args h = evB ss n c16 args h := rfl
theorem run17 (ss : List KSpec) (n : Nat) (args : List AV) (h : Heap) : evFn ss n 17 args h = evB ss n c17 args h := rfl
theorem run18 (ss : List KSpec) (n : Nat) (args : List AV) (h : Heap) : evFn ss n 18 args h = evB ss n c18 args h := rfl
theorem run19 (ss : List KSpec) (n : Nat) (args : List AV) (h : Heap) : evFn ss n 19 args h = evB ss n c19 args h := rfl
theorem run20 (ss : List KSpec) (n : Nat) (args : List AV) (h : Heap) : evFn ss n 20 args h = evB ss n c20 args h := rfl
theorem run21 (ss : List KSpec) (n : Nat) (args : List AV) (h : Heap) : evFn ss n 21 args h = evB ss n c21 args h := rfl
theorem run22 (ss : List KSpec) (n : Nat) (args : List AV) (h : Heap) : evFn ss n 22 args h = evB ss n c22 args h := rfl
theorem run23 (ss : List KSpec) (n : Nat) (args : List AV) (h : Heap) : evFn ss n 23 args h = evB ss n c23 args h := rfl
theorem run25 (ss : List KSpec) (n : Nat) (args : List AV) (h : Heap) : evFn ss n 25 args h = evB ss n c25 args h := rfl
theorem run27 (ss : List KSpec) (n : Nat) (args : List AV) (h : Heap) : evFn ss n 27 args h = evB ss n c27 args h := rfl
theorem run28 (ss : List KSpec) (n : Nat) (args : List AV) (h : Heap) : evFn ss n 28 args h = evB ss n c28 args h := rfl
theorem run29 (ss : List KSpec) (n : Nat) (args : List AV) (h : Heap) : evFn ss n 29 args h = evB ss n c29 args h := rfl
theorem run30 (ss : List KSpec) (n : Nat) (args : List AV) (h : Heap) : evFn ss n 30 args h = evB ss n c30 args h := rfl
theorem run31 (ss : List KSpec) (n : Nat) (args : List AV) (h : Heap) : evFn ss n 31 args h = evB ss n c31 args h := rfl
theorem run32 (ss : List KSpec) (n : Nat) (args : List AV) (h : Heap) : evFn ss n 32 args h = evB ss n c32 args h := rfl
theorem run33 (ss : List KSpec) (n : Nat) (args : List AV) (h : Heap) : evFn ss n 33 args h = evB ss n c33 args h := rfl
theorem run34 (ss : List KSpec) (n : Nat) (args : List AV) (h : Heap) : evFn ss n 34 args h = evB ss n c34 args h := rfl
theorem run35 (ss : List KSpec) (n : Nat) (args : List AV) (h : Heap) : evFn ss n 35 args h = evB ss n c35 args h := rfl
theorem run40 (ss : List KSpec) (n : Nat) (args : List AV) (h : Heap) : evFn ss n 40 args h = evB ss n c40 args h := rfl
theorem run41 (ss : List KSpec) (n : Nat) (args : List AV) (h : Heap) : evFn ss n 41 args h = evB ss n c41 args h := rfl
theorem run42 (ss : List KSpec) (n : Nat) (args : List AV) (h : Heap) : evFn ss n 42 args h = evB ss n c42 args h := rfl
theorem run43 (ss : List KSpec) (n : Nat) (args : List AV) (h : Heap) : evFn ss n 43 args h = evB ss n c43 args h := rfl
theorem run44 (ss : List KSpec) (n : Nat) (args : List AV) (h : Heap) : evFn ss n 44 args h = evB ss n c44 args h := rfl
theorem run45 (ss : List KSpec) (n : Nat) (args : List AV) (h : Heap) : evFn ss n 45 args h = evB ss n c45 args h := rfl
theorem run46 (ss : List KSpec) (n : Nat) (args : List AV) (h : Heap) : evFn ss n 46 args h = evB ss n c46 args h := rfl
theorem run47 (ss : List KSpec) (n : Nat) (args : List AV) (h : Heap) : evFn ss n 47 args h = evB ss n c47 args h := rfl
theorem run48 (ss : List KSpec) (n : Nat) (args : List AV) (h : Heap) : evFn ss n 48 args h = evB ss n c48 args h := rfl
theorem run49 (ss : List KSpec) (n : Nat) (args : List AV) (h : Heap) : evFn ss n 49 args h = evB ss n c49 args h := rfl
theorem run50 (ss : List KSpec) (n : Nat) (args : List AV) (h : Heap) : evFn ss n 50 args h = evB ss n c50 args h := rfl
theorem run51 (ss : List KSpec) (n : Nat) (args : List AV) (h : Heap) : evFn ss n 51 args h = evB ss n c51 args h := rfl
theorem run52 (ss : List KSpec) (n : Nat) (args : List AV) (h : Heap) : evFn ss n 52 args h = evB ss n c52 args h := rfl
theorem run53 (ss : List KSpec) (n : Nat) (args : List AV) (h : Heap) : evFn ss n 53 args h = evB ss n c53 args h := rfl
theorem run54 (ss : List KSpec) (n : Nat) (args : List AV) (h : Heap) : evFn ss n 54 args h = evB ss n c54 args h := rfl
theorem run55 (ss : List KSpec) (n : Nat) (args : List AV) (h : Heap) : evFn ss n 55 args h = evB ss n c55 args h := rfl
theorem run56 (ss : List KSpec) (n : Nat) (args : List AV) (h : Heap) : evFn ss n 56 args h = evB ss n c56 args h := rfl
theorem run57 (ss : List KSpec) (n : Nat) (args : List AV) (h : Heap) : evFn ss n 57 args h = evB ss n c57 args h := rfl
theorem run58 (ss : List KSpec) (n : Nat) (args : List AV) (h : Heap) : evFn ss n 58 args h = evB ss n c58 args h := rfl
theorem run59 (ss : List KSpec) (n : Nat) (args : List AV) (h : Heap) : evFn ss n 59 args h = evB ss n c59 args h := rfl
theorem run60 (ss : List KSpec) (n : Nat) (args : List AV) (h : Heap) : evFn ss n 60 args h = evB ss n c60 args h := rfl
theorem run66 (ss : List KSpec) (n : Nat) (args : List AV) (h : Heap) : evFn ss n 66 args h = evB ss n c66 args h := rfl
theorem run69 (ss : List KSpec) (n : Nat) (args : List AV) (h : Heap) : evFn ss n 69 args h = evB ss n c69 args h := rfl
theorem run70 (ss : List KSpec) (n : Nat) (args : List AV) (h : Heap) : evFn ss n 70 args h = evB ss n c70 args h := rfl
theorem run71 (ss : List KSpec) (n : Nat) (args : List AV) (h : Heap) : evFn ss n 71 args h = evB ss n c71 args h := rfl
theorem run72 (ss : List KSpec) (n : Nat) (args : List AV) (h : Heap) : evFn ss n 72 args h = evB ss n c72 args h := rfl
theorem run73 (ss : List KSpec) (n : Nat) (args : List AV) (h : Heap) : evFn ss n 73 args h = evB ss n c73 args h := rfl
theorem run74 (ss : List KSpec) (n : Nat) (args : List AV) (h : Heap) : evFn ss n 74 args h = evB ss n c74 args h := rfl
theorem run75 (ss : List KSpec) (n : Nat) (args : List AV) (h : Heap) : evFn ss n 75 args h = evB ss n c75 args h := rfl
theorem run76 (ss : List KSpec) (n : Nat) (args : List AV) (h : Heap) : evFn ss n 76 args h = evB ss n c76 args h := rfl
theorem run77 (ss : List KSpec) (n : Nat) (args : List AV) (h : Heap) : evFn ss n 77 args h = evB ss n c77 args h := rfl
theorem run79 (ss : List KSpec) (n : Nat) (args : List AV) (h : Heap) : evFn ss n 79 args h = evB ss n c79 args h := rfl
theorem run80 (ss : List KSpec) (n : Nat) (args : List AV) (h : Heap) : evFn ss n 80 args h = evB ss n c80 args h := rfl
theorem run81 (ss : List KSpec) (n : Nat) (args : List AV) (h : Heap) : evFn ss n 81 args h = evB ss n c81 args h := rfl
theorem run82 (ss : List KSpec) (n : Nat) (args : List AV) (h : Heap) : evFn ss n 82 args h = evB ss n c82 args h := rfl
theorem run83 (ss : List KSpec) (n : Nat) (args : List AV) (h : Heap) : evFn ss n 83 args h = evB ss n c83 args h := rfl
theorem run84 (ss : List KSpec) (n : Nat) (args : List AV) (h : Heap) : evFn ss n 84 args h = evB ss n c84 args h := rfl
theorem run85 (ss : List KSpec) (n : Nat) (args : List AV) (h : Heap) : evFn ss n 85 args h = evB ss n c85 args h := rfl
theorem run86 (ss : List KSpec) (n : Nat) (args : List AV) (h : Heap) : evFn ss n 86 args h = evB ss n c86 args h := rfl
theorem run87 (ss : List KSpec) (n : Nat) (args : List AV) (h : Heap) : evFn ss n 87 args h = evB ss n c87 args h := rfl
theorem run88 (ss : List KSpec) (n : Nat) (args : List AV) (h : Heap) : evFn ss n 88 args h = evB ss n c88 args h := rfl
theorem run93 (ss : List KSpec) (n : Nat) (args : List AV) (h : Heap) : evFn ss n 93 args h = evB ss n c93 args h := rfl
theorem run94 (ss : List KSpec) (n : Nat) (args : List AV) (h : Heap) : evFn ss n 94 args h = evB ss n c94 args h := rfl
theorem run95 (ss : List KSpec) (n : Nat) (args : List AV) (h : Heap) : evFn ss n 95 args h = evB ss n c95 args h := rfl
theorem run96 (ss : List KSpec) (n : Nat) (args : List AV) (h : Heap) : evFn ss n 96 args h = evB ss n c96 args h := rfl
theorem run97 (ss : List KSpec) (n : Nat) (args : List AV) (h : Heap) : evFn ss n 97 args h = evB ss n c97 args h := rfl
theorem run98 (ss : List KSpec) (n : Nat) (args : List AV) (h : Heap) : evFn ss n 98 args h = evB ss n c98 args h := rfl
theorem run99 (ss : List KSpec) (n : Nat) (args : List AV) (h : Heap) : evFn ss n 99 args h = evB ss n c99 args h := rfl
theorem run100 (ss : List KSpec) (n : Nat) (args : List AV) (h : Heap) : evFn ss n 100 args h = evB ss n c100 args h := rfl
theorem run101 (ss : List KSpec) (n : Nat) (args : List AV) (h : Heap) : evFn ss n 101 args h = evB ss n c101 args h := rfl
theorem run102 (ss : List KSpec) (n : Nat) (args : List AV) (h : Heap) : evFn ss n 102 args h = evB ss n c102 args h := rfl
theorem run103 (ss : List KSpec) (n : Nat) (args : List AV) (h : Heap) : evFn ss n 103 args h = evB ss n c103 args h := rfl
theorem run104 (ss : List KSpec) (n : Nat) (args : List AV) (h : Heap) : evFn ss n 104 args h = evB ss n c104 args h := rfl
theorem run105 (ss : List KSpec) (n : Nat) (args : List AV) (h : Heap) : evFn ss n 105 args h = evB ss n c105 args h := rfl
theorem run106 (ss : List KSpec) (n : Nat) (args : List AV) (h : Heap) : evFn ss n 106 args h = evB ss n c106 args h := rfl
theorem run107 (ss : List KSpec) (n : Nat) (args : List AV) (h : Heap) : evFn ss n 107 args h = evB ss n c107 args h := rfl
theorem run108 (ss : List KSpec) (n : Nat) (args : List AV) (h : Heap) : evFn ss n 108 args h = evB ss n c108 args h := rfl
theorem run109 (ss : List KSpec) (n : Nat) (args : List AV) (h : Heap) : evFn ss n 109 args h = evB ss n c109 args h := rfl
theorem run110 (ss : List KSpec) (n : Nat) (args : List AV) (h : Heap) : evFn ss n 110 args h = evB ss n c110 args h := rfl
theorem run111 (ss : List KSpec) (n : Nat) (args : List AV) (h : Heap) : evFn ss n 111 args h = evB ss n c111 args h := rfl
theorem run112 (ss : List KSpec) (n : Nat) (args : List AV) (h : Heap) : evFn ss n 112 args h = evB ss n c112 args h := rfl
theorem run113 (ss : List KSpec) (n : Nat) (args : List AV) (h : Heap) : evFn ss n 113 args h = evB ss n c113 args h := rfl
theorem run114 (ss : List KSpec) (n : Nat) (args : List AV) (h : Heap) : evFn ss n 114 args h = evB ss n c114 args h := rfl
theorem run115 (ss : List KSpec) (n : Nat) (args : List AV) (h : Heap) : evFn ss n 115 args h = evB ss n c115 args h := rfl
theorem run116 (ss : List KSpec) (n : Nat) (args : List AV) (h : Heap) : evFn ss n 116 args h = evB ss n c116 args h := rfl
theorem run117 (ss : List KSpec) (n : Nat) (args : List AV) (h : Heap) : evFn ss n 117 args h = evB ss n c117 args h := rfl
theorem run119 (ss : List KSpec) (n : Nat) (args : List AV) (h : Heap) : evFn ss n 119 args h = evB ss n c119 args h := rfl
theorem run120 (ss : List KSpec) (n : Nat) (args : List AV) (h : Heap) : evFn ss n 120 args h = evB ss n c120 args h := rfl
theorem run121 (ss : List KSpec) (n : Nat) (args : List AV) (h : Heap) : evFn ss n 121 args h = evB ss n c121 args h := rfl
theorem run122 (ss : List KSpec) (n : Nat) (args : List AV) (h : Heap) : evFn ss n 122 args h = evB ss n c122 args h := rfl
theorem run123 (ss : List KSpec) (n : Nat) (args : List AV) (h : Heap) : evFn ss n 123 args h = evB ss n c123 args h := rfl
theorem run124 (ss : List KSpec) (n : Nat) (args : List AV) (h : Heap) : evFn ss n 124 args h = evB ss n c124 args h := rfl
theorem run125 (ss : List KSpec) (n : Nat) (args : List AV) (h : Heap) : evFn ss n 125 args h = evB ss n c125 args h := rfl
theorem run126 (ss : List KSpec) (n : Nat) (args : List AV) (h : Heap) : evFn ss n 126 args h = evB ss n c126 args h := rfl
theorem run128 (ss : List KSpec) (n : Nat) (args : List AV) (h : Heap) : evFn ss n 128 args h = evB ss n c128 args h := rfl
theorem run129 (ss : List KSpec) (n : Nat) (args : List AV) (h : Heap) : evFn ss n 129 args h = evB ss n c129 args h := rfl
theorem run130 (ss : List KSpec) (n : Nat) (args : List AV) (h : Heap) : evFn ss n 130 args h = evB ss n c130 args h := rfl
theorem run131 (ss : List KSpec) (n : Nat) (args : List AV) (h : Heap) : evFn ss n 131 args h = evB ss n c131 args h := rfl
theorem run132 (ss : List KSpec) (n : Nat) (args : List AV) (h : Heap) : evFn ss n 132 args h = evB ss n c132 args h := rfl
theorem run133 (ss : List KSpec) (n : Nat) (args : List AV) (h : Heap) : evFn ss n 133 args h = evB ss n c133 args h := rfl
theorem run134 (ss : List KSpec) (n : Nat) (args : List AV) (h : Heap) : evFn ss n 134 args h = evB ss n c134 args h := rfl
theorem run135 (ss : List KSpec) (n : Nat) (args : List AV) (h : Heap) : evFn ss n 135 args h = evB ss n c135 args h := rfl
theorem run136 (ss : List KSpec) (n : Nat) (args : List AV) (h : Heap) : evFn ss n 136 args h = evB ss n c136 args h := rfl
theorem run137 (ss : List KSpec) (n : Nat) (args : List AV) (h : Heap) : evFn ss n 137 args h = evB ss n c137 args h := rfl
theorem run138 (ss : List KSpec) (n : Nat) (args : List AV) (h : Heap) : evFn ss n 138 args h = evB ss n c138 args h := rfl
theorem run140 (ss : List KSpec) (n : Nat) (args : List AV) (h : Heap) : evFn ss n 140 args h = evB ss n c140 args h := rfl
theorem run141 (ss : List KSpec) (n : Nat) (args : List AV) (h : Heap) : evFn ss n 141 args h = evB ss n c141 args h := rfl
theorem run142 (ss : List KSpec) (n : Nat) (args : List AV) (h : Heap) : evFn ss n 142 args h = evB ss n c142 args h := rfl
theorem run143 (ss : List KSpec) (n : Nat) (args : List AV) (h : Heap) : evFn ss n 143 args h = evB ss n c143 args h := rfl
theorem run144 (ss : List KSpec) (n : Nat) (args : List AV) (h : Heap) : evFn ss n 144 args h = evB ss n c144 args h := rfl
theorem run145 (ss : List KSpec) (n : Nat) (args : List AV) (h : Heap) : evFn ss n 145 args h = evB ss n c145 args h := rfl
theorem run146 (ss : List KSpec) (n : Nat) (args : List AV) (h : Heap) : evFn ss n 146 args h = evB ss n c146 args h := rfl
theorem run148 (ss : List KSpec) (n : Nat) (args : List AV) (h : Heap) : evFn ss n 148 args h = evB ss n c148 args h := rfl
theorem run149 (ss : List KSpec) (n : Nat) (args : List AV) (h : Heap) : evFn ss n 149 args h = evB ss n c149 args h := rfl
theorem run152 (ss : List KSpec) (n : Nat) (args : List AV) (h : Heap) : evFn ss n 152 args h = evB ss n c152 args h := rfl
theorem run153 (ss : List KSpec) (n : Nat) (args : List AV) (h : Heap) : evFn ss n 153 args h = evB ss n c153 args h := rfl
theorem run159 (ss : List KSpec) (n : Nat) (args : List AV) (h : Heap) : evFn ss n 159 args h = evB ss n c159 args h := rfl
theorem run160 (ss : List KSpec) (n : Nat) (args : List AV) (h : Heap) : evFn ss n 160 args h = evB ss n c160 args h := rfl
theorem run166 (ss : List KSpec) (n : Nat) (args : List AV) (h : Heap) : evFn ss n 166 args h = evB ss n c166 args h := rfl
theorem run167 (ss : List KSpec) (n : Nat) (args : List AV) (h : Heap) : evFn ss n 167 args h = evB ss n c167 args h := rfl
theorem run179 (ss : List KSpec) (n : Nat) (args : List AV) (h : Heap) : evFn ss n 179 args h = evB ss n c179 args h := rfl
theorem run186 (ss : List KSpec) (n : Nat) (args : List AV) (h : Heap) : evFn ss n 186 args h = evB ss n c186 args h := rfl
theorem run187 (ss : List KSpec) (n : Nat) (args : List AV) (h : Heap) : evFn ss n 187 args h = evB ss n c187 args h := rfl
theorem run188 (ss : List KSpec) (n : Nat) (args : List AV) (h : Heap) : evFn ss n 188 args h = evB ss n c188 args h := rfl
theorem run189 (ss : List KSpec) (n : Nat) (args : List AV) (h : Heap) : evFn ss n 189 args h = evB ss n c189 args h := rfl
theorem run192 (ss : List KSpec) (n : Nat) (args : List AV) (h : Heap) : evFn ss n 192 args h = evB ss n c192 args h := rfl
theorem run193 (ss : List KSpec) (n : Nat) (args : List AV) (h : Heap) : evFn ss n 193 args h = evB ss n c193 args h := rfl

end Go.Proofs.YtlakiipofcibhaaGreatDoor
