import Derived.Test.YtleeinkdkllcdaaGreatDoorCode1
import Derived.Test.YtleeinkdkllcdaaGreatDoorCode2
import Derived.Test.YtleeinkdkllcdaaGreatDoorSz3
set_option linter.unusedVariables false
set_option linter.unusedSimpArgs false
set_option linter.unusedSectionVars false
set_option maxHeartbeats 16000000
set_option maxRecDepth 100000

namespace Go.Proofs.YtleeinkdkllcdaaGreatDoor
open Go Sz
set_option maxHeartbeats 4000000
def fnAt : Nat → Option AFun
  | 2 => some c2
  | 7 => some c7
  | 12 => some c12
  | 13 => some c13
  | 16 => some c16
  | 17 => some c17
  | 18 => some c18
  | 19 => some c19
  | 20 => some c20
  | 21 => some c21
  | 22 => some c22
  | 23 => some c23
  | 24 => some c24
  | 25 => some c25
  | 26 => some c26
  | 27 => some c27
  | 28 => some c28
  | 29 => some c29
  | 30 => some c30
  | 31 => some c31
  | 32 => some c32
  | 33 => some c33
  | 39 => some c39
  | 41 => some c41
  | 42 => some c42
  | 43 => some c43
  | 44 => some c44
  | 46 => some c46
  | 47 => some c47
  | 48 => some c48
  | 49 => some c49
  | 50 => some c50
  | 51 => some c51
  | 52 => some c52
  | 53 => some c53
  | 54 => some c54
  | 55 => some c55
  | 56 => some c56
  | 57 => some c57
  | 58 => some c58
  | 59 => some c59
  | 60 => some c60
  | 61 => some c61
  | 62 => some c62
  | 63 => some c63
  | 64 => some c64
  | 65 => some c65
  | 69 => some c69
  | 70 => some c70
  | 71 => some c71
  | 72 => some c72
  | 73 => some c73
  | 74 => some c74
  | 75 => some c75
  | 76 => some c76
  | 77 => some c77
  | 78 => some c78
  | 79 => some c79
  | 80 => some c80
  | 92 => some c92
  | 93 => some c93
  | 94 => some c94
  | 95 => some c95
  | 96 => some c96
  | 97 => some c97
  | 112 => some c112
  | 113 => some c113
  | 114 => some c114
  | 115 => some c115
  | 116 => some c116
  | 117 => some c117
  | 118 => some c118
  | 119 => some c119
  | 120 => some c120
  | 133 => some c133
  | 134 => some c134
  | 135 => some c135
  | 136 => some c136
  | 138 => some c138
  | 139 => some c139
  | 140 => some c140
  | 141 => some c141
  | 142 => some c142
  | 143 => some c143
  | 144 => some c144
  | 145 => some c145
  | 146 => some c146
  | 147 => some c147
  | 149 => some c149
  | 150 => some c150
  | 151 => some c151
  | 152 => some c152
  | 153 => some c153
  | 154 => some c154
  | 155 => some c155
  | 165 => some c165
  | 167 => some c167
  | 168 => some c168
  | 169 => some c169
  | 173 => some c173
  | _ => none
theorem fnAt_ok (f : Nat) (F : AFun) (h : fnAt f = some F) : FnOK Tryz.prog f F := by
  unfold fnAt at h
  split at h
  · cases h; exact ok2
  · cases h; exact ok7
  · cases h; exact ok12
  · cases h; exact ok13
  · cases h; exact ok16
  · cases h; exact ok17
  · cases h; exact ok18
  · cases h; exact ok19
  · cases h; exact ok20
  · cases h; exact ok21
  · cases h; exact ok22
  · cases h; exact ok23
  · cases h; exact ok24
  · cases h; exact ok25
  · cases h; exact ok26
  · cases h; exact ok27
  · cases h; exact ok28
  · cases h; exact ok29
  · cases h; exact ok30
  · cases h; exact ok31
  · cases h; exact ok32
  · cases h; exact ok33
  · cases h; exact ok39
  · cases h; exact ok41
  · cases h; exact ok42
  · cases h; exact ok43
  · cases h; exact ok44
  · cases h; exact ok46
  · cases h; exact ok47
  · cases h; exact ok48
  · cases h; exact ok49
  · cases h; exact ok50
  · cases h; exact ok51
  · cases h; exact ok52
  · cases h; exact ok53
  · cases h; exact ok54
  · cases h; exact ok55
  · cases h; exact ok56
  · cases h; exact ok57
  · cases h; exact ok58
  · cases h; exact ok59
  · cases h; exact ok60
  · cases h; exact ok61
  · cases h; exact ok62
  · cases h; exact ok63
  · cases h; exact ok64
  · cases h; exact ok65
  · cases h; exact ok69
  · cases h; exact ok70
  · cases h; exact ok71
  · cases h; exact ok72
  · cases h; exact ok73
  · cases h; exact ok74
  · cases h; exact ok75
  · cases h; exact ok76
  · cases h; exact ok77
  · cases h; exact ok78
  · cases h; exact ok79
  · cases h; exact ok80
  · cases h; exact ok92
  · cases h; exact ok93
  · cases h; exact ok94
  · cases h; exact ok95
  · cases h; exact ok96
  · cases h; exact ok97
  · cases h; exact ok112
  · cases h; exact ok113
  · cases h; exact ok114
  · cases h; exact ok115
  · cases h; exact ok116
  · cases h; exact ok117
  · cases h; exact ok118
  · cases h; exact ok119
  · cases h; exact ok120
  · cases h; exact ok133
  · cases h; exact ok134
  · cases h; exact ok135
  · cases h; exact ok136
  · cases h; exact ok138
  · cases h; exact ok139
  · cases h; exact ok140
  · cases h; exact ok141
  · cases h; exact ok142
  · cases h; exact ok143
  · cases h; exact ok144
  · cases h; exact ok145
  · cases h; exact ok146
  · cases h; exact ok147
  · cases h; exact ok149
  · cases h; exact ok150
  · cases h; exact ok151
  · cases h; exact ok152
  · cases h; exact ok153
  · cases h; exact ok154
  · cases h; exact ok155
  · cases h; exact ok165
  · cases h; exact ok167
  · cases h; exact ok168
  · cases h; exact ok169
  · cases h; exact ok173
  · cases h
theorem mixed : Tryz.prog.follows .mixedOrders = true := by kernel_rfl
def cloneS (f : Nat) : KSpec := ⟨f, fun | [.nils] => some .nils | [.sl []] => some .nils | _ => none⟩
theorem cloneS_f (f : Nat) : (cloneS f).f = f := (rfl)
theorem cloneS_nils (f : Nat) : (cloneS f).S [.nils] = some .nils := rfl
theorem cloneS_sl0 (f : Nat) : (cloneS f).S [.sl []] = some .nils := rfl
theorem cloneS_sl (f : Nat) {xs : List AV} (h : xs ≠ []) : (cloneS f).S [.sl xs] = none := by
  cases xs with
  | nil => exact absurd rfl h
  | cons x r => rfl
theorem cloneS_ok {f : Nat} (hc : CloneAt Tryz.prog f) : KSpecOK Tryz.prog (cloneS f) := fun args v hv => by
  have key : ∀ x, x = AV.nils ∨ x = .sl [] → args = [x] → v = .nils → PrimOK Tryz.prog f args v := fun x hx ha h2 => by
    subst ha h2
    exact prim_weak (h' := h0) rfl (by rcases hx with rfl | rfl <;> rfl) fun φ w cargs hr hG ha => .inl (clone_prim mixed hc hx hr hG ha)
  unfold cloneS at hv
  dsimp only at hv
  split at hv
  · cases hv; exact key _ (.inl rfl) rfl rfl
  · cases hv; exact key _ (.inr rfl) rfl rfl
  · cases hv
def clones : List KSpec := [cloneS 59]
theorem clones_ok : ∀ s ∈ clones, KSpecOK Tryz.prog s := by
  intro s hs
  simp only [clones, List.mem_cons, List.not_mem_nil, or_false] at hs
  subst hs
  · exact cloneS_ok clone59
noncomputable def envOf (ss : List KSpec) : Env := mkEnv fnAt (ss ++ clones)
theorem envOf_okX {X : World → Prop} {ss : List KSpec} (hs : ∀ s ∈ ss, KSpecOKX Tryz.prog X s) : EnvOKX Tryz.prog X (envOf ss) :=
  mkEnv_ok mixed fnAt_ok fun s h => by
    rcases List.mem_append.1 h with h | h
    · exact hs s h
    · exact (clones_ok s h).lift
theorem envOf_ok {ss : List KSpec} (hs : ∀ s ∈ ss, KSpecOK Tryz.prog s) : EnvOK Tryz.prog (envOf ss) := envOf_okX hs
noncomputable def evB (ss : List KSpec) (n : Nat) (F : AFun) (args : List AV) (h : Heap) : Option (AV × Heap) :=
  match evCode (evCall (envOf ss) n) n F.code (args ++ List.replicate (F.ntmps - args.length) .undef) ⟨h.next, h.objs, h.next, h.next⟩ with
    | some (.exit _, _, _) => none
    | some (_, fr, h') => (match resAll fr h' F.results with | some vs => some (finish F.keep h (oneOf vs) h') | none => none)
    | none => none
noncomputable def evFn (ss : List KSpec) (n f : Nat) (args : List AV) (h : Heap) : Option (AV × Heap) :=
  match fnAt f with
  | none => none
  | some F => evB ss n F args h
noncomputable def callS (l ss : List KSpec) (n f : Nat) (args : List AV) (h : Heap) : Option (AV × Heap) :=
  match frzL (frz h 0 8) args with
  | some (args', ids) => (match lookS l f args' with | some v => some (v, if scal v then h else kill h ids) | none => evFn ss n f args h)
  | none => evFn ss n f args h
theorem evCall_spec (ss : List KSpec) (n f : Nat) (args : List AV) (h : Heap) : evCall (envOf ss) (n + 1) f args h = callS (lookF (ss ++ clones) f) ss n f args h := by
  conv => lhs; unfold evCall
  unfold callS
  have e : ∀ a, lookS (lookF (ss ++ clones) f) f a = (envOf ss).prim f a := fun a => lookF_eq f a _
  have e2 : (envOf ss).fn f = fnAt f := rfl
  have key : evFn ss n f args h = (match (envOf ss).fn f with
      | none => none
      | some F =>
        match evCode (evCall (envOf ss) n) n F.code (args ++ List.replicate (F.ntmps - args.length) .undef) ⟨h.next, h.objs, h.next, h.next⟩ with
        | some (.exit _, _, _) => none
        | some (_, fr, h') => (resAll fr h' F.results).map fun vs => finish F.keep h (oneOf vs) h'
        | none => none) := by
    rw [e2]
    unfold evFn
    cases fnAt f with
    | none => rfl
    | some F =>
      dsimp only
      unfold evB
      cases evCode (evCall (envOf ss) n) n F.code (args ++ List.replicate (F.ntmps - args.length) .undef) ⟨h.next, h.objs, h.next, h.next⟩ with
      | none => rfl
      | some r =>
        obtain ⟨ex, fr, h'⟩ := r
        cases ex <;> first | rfl | (dsimp only; cases resAll fr h' F.results <;> rfl)
  cases hz : frzL (frz h 0 8) args with
  | none => exact key.symm
  | some p =>
    obtain ⟨args', ids⟩ := p
    dsimp only [Option.bind]
    rw [e]
    cases hp : (envOf ss).prim f args' with
    | none => exact key.symm
    | some v => rfl
theorem callS_nil (ss : List KSpec) (n f : Nat) (args : List AV) (h : Heap) : callS [] ss n f args h = evFn ss n f args h := by
  unfold callS
  split
  · rfl
  · rfl
theorem callS_one (s : KSpec) (ss : List KSpec) (n f : Nat) (args : List AV) (h : Heap) (hf : s.f = f) : callS [s] ss n f args h = match frzL (frz h 0 8) args with
  | some (args', ids) => (match s.S args' with | some v => some (v, if scal v then h else kill h ids) | none => evFn ss n f args h)
  | none => evFn ss n f args h := by
  unfold callS
  split
  · simp only [lookS, hf, if_true]
    split
    · rename_i h1
      split at h1
      · rename_i h2; cases h1; rw [h2]
      · cases h1
    · rename_i h1
      split at h1
      · cases h1
      · rename_i h2; rw [h2]
  · rfl
noncomputable def spK (ss : List KSpec) (n f : Nat) (args : List AV) (h : Heap) (ids : List Nat) : Option AV → Option (AV × Heap)
  | some v => some (v, if scal v then h else kill h ids)
  | none => evFn ss n f args h
noncomputable def frK (s : KSpec) (ss : List KSpec) (n f : Nat) (args : List AV) (h : Heap) : Option (List AV × List Nat) → Option (AV × Heap)
  | some p => spK ss n f args h p.2 (s.S p.1)
  | none => evFn ss n f args h
theorem spK_s (ss : List KSpec) (n f : Nat) (args : List AV) (h : Heap) (ids : List Nat) (v : AV) : spK ss n f args h ids (some v) = some (v, if scal v then h else kill h ids) := rfl
theorem spK_n (ss : List KSpec) (n f : Nat) (args : List AV) (h : Heap) (ids : List Nat) : spK ss n f args h ids none = evFn ss n f args h := rfl
theorem frK_s (s : KSpec) (ss : List KSpec) (n f : Nat) (args : List AV) (h : Heap) (bs : List AV) (ids : List Nat) : frK s ss n f args h (some (bs, ids)) = spK ss n f args h ids (s.S bs) := rfl
theorem frK_n (s : KSpec) (ss : List KSpec) (n f : Nat) (args : List AV) (h : Heap) : frK s ss n f args h none = evFn ss n f args h := rfl
theorem callS_oneF (s : KSpec) (ss : List KSpec) (n f : Nat) (args : List AV) (h : Heap) (hf : s.f = f) : callS [s] ss n f args h = frK s ss n f args h (frzL (frz h 0 8) args) := by
  rw [callS_one s ss n f args h hf]
  rcases frzL (frz h 0 8) args with _ | ⟨bs, ids⟩
  · rfl
  · rfl
theorem evB_fm (ss : List KSpec) (n : Nat) (F : AFun) (args : List AV) (h : Heap) (hle : args.length ≤ F.ntmps) : evB ss n F args h =
  match evCode (evCall (envOf ss) n) n F.code (FM F.ntmps (enumA 0 args)) ⟨h.next, h.objs, h.next, h.next⟩ with
    | some (.exit _, _, _) => none
    | some (_, fr, h') => (match resAll fr h' F.results with | some vs => some (finish F.keep h (oneOf vs) h') | none => none)
    | none => none := by
  rw [← FM_args args hle]
  rfl
theorem run7 (ss : List KSpec) (n : Nat) (args : List AV) (h : Heap) : evFn ss n 7 args h = evB ss n c7 args h := rfl
theorem run12 (ss : List KSpec) (n : Nat) (args : List AV) (h : Heap) : evFn ss n 12 args h = evB ss n c12 args h := rfl
theorem run13 (ss : List KSpec) (n : Nat) (args : List AV) (h : Heap) : evFn ss n 13 args h = evB ss n c13 args h := rfl
theorem run17 (ss : List KSpec) (n : Nat) (args : List AV) (h : Heap) : evFn ss n 17 args h = evB ss n c17 args h := rfl
theorem run18 (ss : List KSpec) (n : Nat) (args : List AV) (h : Heap) : evFn ss n 18 args h = evB ss n c18 args h := rfl
theorem run19 (ss : List KSpec) (n : Nat) (args : List AV) (h : Heap) : evFn ss n 19 args h = evB ss n c19 args h := rfl
theorem run21 (ss : List KSpec) (n : Nat) (args : List AV) (h : Heap) : evFn ss n 21 args h = evB ss n c21 args h := rfl
theorem run22 (ss : List KSpec) (n : Nat) (args : List AV) (h : Heap) : evFn ss n 22 args h = evB ss n c22 args h := rfl
theorem run23 (ss : List KSpec) (n : Nat) (args : List AV) (h : Heap) : evFn ss n 23 args h = evB ss n c23 args h := rfl
theorem run25 (ss : List KSpec) (n : Nat) (args : List AV) (h : Heap) : evFn ss n 25 args h = evB ss n c25 args h := rfl
theorem run26 (ss : List KSpec) (n : Nat) (args : List AV) (h : Heap) : evFn ss n 26 args h = evB ss n c26 args h := rfl
theorem run27 (ss : List KSpec) (n : Nat) (args : List AV) (h : Heap) : evFn ss n 27 args h = evB ss n c27 args h := rfl
theorem run28 (ss : List KSpec) (n : Nat) (args : List AV) (h : Heap) : evFn ss n 28 args h = evB ss n c28 args h := rfl
theorem run29 (ss : List KSpec) (n : Nat) (args : List AV) (h : Heap) : evFn ss n 29 args h = evB ss n c29 args h := rfl
theorem run30 (ss : List KSpec) (n : Nat) (args : List AV) (h : Heap) : evFn ss n 30 args h = evB ss n c30 args h := rfl
theorem run31 (ss : List KSpec) (n : Nat) (args : List AV) (h : Heap) : evFn ss n 31 args h = evB ss n c31 args h := rfl
theorem run32 (ss : List KSpec) (n : Nat) (args : List AV) (h : Heap) : evFn ss n 32 args h = evB ss n c32 args h := rfl
theorem run33 (ss : List KSpec) (n : Nat) (args : List AV) (h : Heap) : evFn ss n 33 args h = evB ss n c33 args h := rfl
theorem run39 (ss : List KSpec) (n : Nat) (args : List AV) (h : Heap) : evFn ss n 39 args h = evB ss n c39 args h := rfl
theorem run41 (ss : List KSpec) (n : Nat) (args : List AV) (h : Heap) : evFn ss n 41 args h = evB ss n c41 args h := rfl
theorem run42 (ss : List KSpec) (n : Nat) (args : List AV) (h : Heap) : evFn ss n 42 args h = evB ss n c42 args h := rfl
theorem run43 (ss : List KSpec) (n : Nat) (args : List AV) (h : Heap) : evFn ss n 43 args h = evB ss n c43 args h := rfl
theorem run44 (ss : List KSpec) (n : Nat) (args : List AV) (h : Heap) : evFn ss n 44 args h = evB ss n c44 args h := rfl
theorem run46 (ss : List KSpec) (n : Nat) (args : List AV) (h : Heap) : evFn ss n 46 args h = evB ss n c46 args h := rfl
theorem run47 (ss : List KSpec) (n : Nat) (args : List AV) (h : Heap) : evFn ss n 47 args h = evB ss n c47 args h := rfl
theorem run48 (ss : List KSpec) (n : Nat) (args : List AV) (h : Heap) : evFn ss n 48 args h = evB ss n c48 args h := rfl
theorem run49 (ss : List KSpec) (n : Nat) (args : List AV) (h : Heap) : evFn ss n 49 args h = evB ss n c49 args h := rfl
theorem run50 (ss : List KSpec) (n : Nat) (args : List AV) (h : Heap) : evFn ss n 50 args h = evB ss n c50 args h := rfl
theorem run53 (ss : List KSpec) (n : Nat) (args : List AV) (h : Heap) : evFn ss n 53 args h = evB ss n c53 args h := rfl
theorem run54 (ss : List KSpec) (n : Nat) (args : List AV) (h : Heap) : evFn ss n 54 args h = evB ss n c54 args h := rfl
theorem run55 (ss : List KSpec) (n : Nat) (args : List AV) (h : Heap) : evFn ss n 55 args h = evB ss n c55 args h := rfl
theorem run56 (ss : List KSpec) (n : Nat) (args : List AV) (h : Heap) : evFn ss n 56 args h = evB ss n c56 args h := rfl
theorem run57 (ss : List KSpec) (n : Nat) (args : List AV) (h : Heap) : evFn ss n 57 args h = evB ss n c57 args h := rfl
theorem run58 (ss : List KSpec) (n : Nat) (args : List AV) (h : Heap) : evFn ss n 58 args h = evB ss n c58 args h := rfl
theorem run59 (ss : List KSpec) (n : Nat) (args : List AV) (h : Heap) : evFn ss n 59 args h = evB ss n c59 args h := rfl
theorem run60 (ss : List KSpec) (n : Nat) (args : List AV) (h : Heap) : evFn ss n 60 args h = evB ss n c60 args h := rfl
theorem run61 (ss : List KSpec) (n : Nat) (args : List AV) (h : Heap) : evFn ss n 61 args h = evB ss n c61 args h := rfl
theorem run62 (ss : List KSpec) (n : Nat) (args : List AV) (h : Heap) : evFn ss n 62 args h = evB ss n c62 args h := rfl
theorem run63 (ss : List KSpec) (n : Nat) (args : List AV) (h : Heap) : evFn ss n 63 args h = evB ss n c63 args h := rfl
theorem run65 (ss : List KSpec) (n : Nat) (args : List AV) (h : Heap) : evFn ss n 65 args h = evB ss n c65 args h := rfl
theorem run72 (ss : List KSpec) (n : Nat) (args : List AV) (h : Heap) : evFn ss n 72 args h = evB ss n c72 args h := rfl
theorem run73 (ss : List KSpec) (n : Nat) (args : List AV) (h : Heap) : evFn ss n 73 args h = evB ss n c73 args h := rfl
theorem run74 (ss : List KSpec) (n : Nat) (args : List AV) (h : Heap) : evFn ss n 74 args h = evB ss n c74 args h := rfl
theorem run75 (ss : List KSpec) (n : Nat) (args : List AV) (h : Heap) : evFn ss n 75 args h = evB ss n c75 args h := rfl
theorem run76 (ss : List KSpec) (n : Nat) (args : List AV) (h : Heap) : evFn ss n 76 args h = evB ss n c76 args h := rfl
theorem run77 (ss : List KSpec) (n : Nat) (args : List AV) (h : Heap) : evFn ss n 77 args h = evB ss n c77 args h := rfl
theorem run78 (ss : List KSpec) (n : Nat) (args : List AV) (h : Heap) : evFn ss n 78 args h = evB ss n c78 args h := rfl
theorem run79 (ss : List KSpec) (n : Nat) (args : List AV) (h : Heap) : evFn ss n 79 args h = evB ss n c79 args h := rfl
theorem run80 (ss : List KSpec) (n : Nat) (args : List AV) (h : Heap) : evFn ss n 80 args h = evB ss n c80 args h := rfl
theorem run92 (ss : List KSpec) (n : Nat) (args : List AV) (h : Heap) : evFn ss n 92 args h = evB ss n c92 args h := rfl
theorem run96 (ss : List KSpec) (n : Nat) (args : List AV) (h : Heap) : evFn ss n 96 args h = evB ss n c96 args h := rfl
theorem run97 (ss : List KSpec) (n : Nat) (args : List AV) (h : Heap) : evFn ss n 97 args h = evB ss n c97 args h := rfl
theorem run112 (ss : List KSpec) (n : Nat) (args : List AV) (h : Heap) : evFn ss n 112 args h = evB ss n c112 args h := rfl
theorem run113 (ss : List KSpec) (n : Nat) (args : List AV) (h : Heap) : evFn ss n 113 args h = evB ss n c113 args h := rfl
theorem run114 (ss : List KSpec) (n : Nat) (args : List AV) (h : Heap) : evFn ss n 114 args h = evB ss n c114 args h := rfl
theorem run115 (ss : List KSpec) (n : Nat) (args : List AV) (h : Heap) : evFn ss n 115 args h = evB ss n c115 args h := rfl
theorem run133 (ss : List KSpec) (n : Nat) (args : List AV) (h : Heap) : evFn ss n 133 args h = evB ss n c133 args h := rfl
theorem run134 (ss : List KSpec) (n : Nat) (args : List AV) (h : Heap) : evFn ss n 134 args h = evB ss n c134 args h := rfl
theorem run135 (ss : List KSpec) (n : Nat) (args : List AV) (h : Heap) : evFn ss n 135 args h = evB ss n c135 args h := rfl
theorem run136 (ss : List KSpec) (n : Nat) (args : List AV) (h : Heap) : evFn ss n 136 args h = evB ss n c136 args h := rfl
theorem run165 (ss : List KSpec) (n : Nat) (args : List AV) (h : Heap) : evFn ss n 165 args h = evB ss n c165 args h := rfl
theorem run169 (ss : List KSpec) (n : Nat) (args : List AV) (h : Heap) : evFn ss n 169 args h = evB ss n c169 args h := rfl
theorem run173 (ss : List KSpec) (n : Nat) (args : List AV) (h : Heap) : evFn ss n 173 args h = evB ss n c173 args h := rfl
end Go.Proofs.YtleeinkdkllcdaaGreatDoor
