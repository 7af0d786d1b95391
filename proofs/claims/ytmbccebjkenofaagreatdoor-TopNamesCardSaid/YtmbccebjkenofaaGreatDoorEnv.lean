import Derived.Test.YtmbccebjkenofaaGreatDoorCode1
import Derived.Test.YtmbccebjkenofaaGreatDoorCode2
import Derived.Test.YtmbccebjkenofaaGreatDoorCode3
import Derived.Test.YtmbccebjkenofaaGreatDoorShelf
import Derived.Test.YtmbccebjkenofaaGreatDoorSz4
import Derived.Test.YtmbccebjkenofaaGreatDoorArg
import Derived.LaidSub
set_option linter.unusedVariables false
set_option linter.unusedSimpArgs false
set_option linter.unusedSectionVars false

namespace Go.Proofs.YtmbccebjkenofaaGreatDoor
open Go Sz
set_option maxHeartbeats 4000000
def fnAt : Nat → Option AFun
  | 3 => some c3
  | 4 => some c4
  | 5 => some c5
  | 6 => some c6
  | 7 => some c7
  | 8 => some c8
  | 9 => some c9
  | 10 => some c10
  | 11 => some c11
  | 12 => some c12
  | 13 => some c13
  | 14 => some c14
  | 16 => some c16
  | 17 => some c17
  | 18 => some c18
  | 19 => some c19
  | 20 => some c20
  | 21 => some c21
  | 22 => some c22
  | 23 => some c23
  | 24 => some c24
  | 25 => some c25
  | 26 => some c26
  | 27 => some c27
  | 28 => some c28
  | 29 => some c29
  | 30 => some c30
  | 31 => some c31
  | 32 => some c32
  | 33 => some c33
  | 34 => some c34
  | 35 => some c35
  | 36 => some c36
  | 39 => some c39
  | 40 => some c40
  | 41 => some c41
  | 42 => some c42
  | 43 => some c43
  | 44 => some c44
  | 45 => some c45
  | 46 => some c46
  | 47 => some c47
  | 49 => some c49
  | 50 => some c50
  | 51 => some c51
  | 54 => some c54
  | 55 => some c55
  | 56 => some c56
  | 57 => some c57
  | 58 => some c58
  | 59 => some c59
  | 60 => some c60
  | 61 => some c61
  | 62 => some c62
  | 63 => some c63
  | 64 => some c64
  | 66 => some c66
  | 72 => some c72
  | 73 => some c73
  | 74 => some c74
  | 75 => some c75
  | 76 => some c76
  | 78 => some c78
  | 83 => some c83
  | 84 => some c84
  | 85 => some c85
  | 86 => some c86
  | 87 => some c87
  | 89 => some c89
  | 90 => some c90
  | 91 => some c91
  | 92 => some c92
  | 95 => some c95
  | 96 => some c96
  | 97 => some c97
  | 98 => some c98
  | 99 => some c99
  | 101 => some c101
  | 102 => some c102
  | 103 => some c103
  | 105 => some c105
  | 106 => some c106
  | 107 => some c107
  | 108 => some c108
  | 109 => some c109
  | 110 => some c110
  | 114 => some c114
  | 115 => some c115
  | 116 => some c116
  | 126 => some c126
  | 130 => some c130
  | 131 => some c131
  | 132 => some c132
  | 133 => some c133
  | 134 => some c134
  | 135 => some c135
  | 136 => some c136
  | 137 => some c137
  | 138 => some c138
  | 139 => some c139
  | 140 => some c140
  | 142 => some c142
  | 145 => some c145
  | 147 => some c147
  | 149 => some c149
  | 150 => some c150
  | 151 => some c151
  | 152 => some c152
  | 153 => some c153
  | 165 => some c165
  | 166 => some c166
  | 167 => some c167
  | 168 => some c168
  | 169 => some c169
  | 170 => some c170
  | 172 => some c172
  | 173 => some c173
  | 174 => some c174
  | 175 => some c175
  | 176 => some c176
  | 178 => some c178
  | 179 => some c179
  | 181 => some c181
  | 182 => some c182
  | 183 => some c183
  | 185 => some c185
  | 186 => some c186
  | 195 => some c195
  | 198 => some c198
  | 200 => some c200
  | 202 => some c202
  | 203 => some c203
  | 204 => some c204
  | 210 => some c210
  | 211 => some c211
  | 212 => some c212
  | 213 => some c213
  | 218 => some c218
  | 221 => some c221
  | 222 => some c222
  | 223 => some c223
  | 224 => some c224
  | 232 => some c232
  | 233 => some c233
  | 242 => some c242
  | 243 => some c243
  | 247 => some c247
  | 248 => some c248
  | 249 => some c249
  | 250 => some c250
  | 262 => some c262
  | 265 => some c265
  | 270 => some c270
  | 271 => some c271
  | 272 => some c272
  | 273 => some c273
  | 274 => some c274
  | 275 => some c275
  | 276 => some c276
  | 277 => some c277
  | 307 => some c307
  | 308 => some c308
  | 309 => some c309
  | 310 => some c310
  | _ => none
set_option maxRecDepth 100000 in
theorem fnAt_ok (f : Nat) (F : AFun) (h : fnAt f = some F) : FnOK Tryz.prog f F := by
  unfold fnAt at h
  split at h
  · cases h; exact ok3
  · cases h; exact ok4
  · cases h; exact ok5
  · cases h; exact ok6
  · cases h; exact ok7
  · cases h; exact ok8
  · cases h; exact ok9
  · cases h; exact ok10
  · cases h; exact ok11
  · cases h; exact ok12
  · cases h; exact ok13
  · cases h; exact ok14
  · cases h; exact ok16
  · cases h; exact ok17
  · cases h; exact ok18
  · cases h; exact ok19
  · cases h; exact ok20
  · cases h; exact ok21
  · cases h; exact ok22
  · cases h; exact ok23
  · cases h; exact ok24
  · cases h; exact ok25
  · cases h; exact ok26
  · cases h; exact ok27
  · cases h; exact ok28
  · cases h; exact ok29
  · cases h; exact ok30
  · cases h; exact ok31
  · cases h; exact ok32
  · cases h; exact ok33
  · cases h; exact ok34
  · cases h; exact ok35
  · cases h; exact ok36
  · cases h; exact ok39
  · cases h; exact ok40
  · cases h; exact ok41
  · cases h; exact ok42
  · cases h; exact ok43
  · cases h; exact ok44
  · cases h; exact ok45
  · cases h; exact ok46
  · cases h; exact ok47
  · cases h; exact ok49
  · cases h; exact ok50
  · cases h; exact ok51
  · cases h; exact ok54
  · cases h; exact ok55
  · cases h; exact ok56
  · cases h; exact ok57
  · cases h; exact ok58
  · cases h; exact ok59
  · cases h; exact ok60
  · cases h; exact ok61
  · cases h; exact ok62
  · cases h; exact ok63
  · cases h; exact ok64
  · cases h; exact ok66
  · cases h; exact ok72
  · cases h; exact ok73
  · cases h; exact ok74
  · cases h; exact ok75
  · cases h; exact ok76
  · cases h; exact ok78
  · cases h; exact ok83
  · cases h; exact ok84
  · cases h; exact ok85
  · cases h; exact ok86
  · cases h; exact ok87
  · cases h; exact ok89
  · cases h; exact ok90
  · cases h; exact ok91
  · cases h; exact ok92
  · cases h; exact ok95
  · cases h; exact ok96
  · cases h; exact ok97
  · cases h; exact ok98
  · cases h; exact ok99
  · cases h; exact ok101
  · cases h; exact ok102
  · cases h; exact ok103
  · cases h; exact ok105
  · cases h; exact ok106
  · cases h; exact ok107
  · cases h; exact ok108
  · cases h; exact ok109
  · cases h; exact ok110
  · cases h; exact ok114
  · cases h; exact ok115
  · cases h; exact ok116
  · cases h; exact ok126
  · cases h; exact ok130
  · cases h; exact ok131
  · cases h; exact ok132
  · cases h; exact ok133
  · cases h; exact ok134
  · cases h; exact ok135
  · cases h; exact ok136
  · cases h; exact ok137
  · cases h; exact ok138
  · cases h; exact ok139
  · cases h; exact ok140
  · cases h; exact ok142
  · cases h; exact ok145
  · cases h; exact ok147
  · cases h; exact ok149
  · cases h; exact ok150
  · cases h; exact ok151
  · cases h; exact ok152
  · cases h; exact ok153
  · cases h; exact ok165
  · cases h; exact ok166
  · cases h; exact ok167
  · cases h; exact ok168
  · cases h; exact ok169
  · cases h; exact ok170
  · cases h; exact ok172
  · cases h; exact ok173
  · cases h; exact ok174
  · cases h; exact ok175
  · cases h; exact ok176
  · cases h; exact ok178
  · cases h; exact ok179
  · cases h; exact ok181
  · cases h; exact ok182
  · cases h; exact ok183
  · cases h; exact ok185
  · cases h; exact ok186
  · cases h; exact ok195
  · cases h; exact ok198
  · cases h; exact ok200
  · cases h; exact ok202
  · cases h; exact ok203
  · cases h; exact ok204
  · cases h; exact ok210
  · cases h; exact ok211
  · cases h; exact ok212
  · cases h; exact ok213
  · cases h; exact ok218
  · cases h; exact ok221
  · cases h; exact ok222
  · cases h; exact ok223
  · cases h; exact ok224
  · cases h; exact ok232
  · cases h; exact ok233
  · cases h; exact ok242
  · cases h; exact ok243
  · cases h; exact ok247
  · cases h; exact ok248
  · cases h; exact ok249
  · cases h; exact ok250
  · cases h; exact ok262
  · cases h; exact ok265
  · cases h; exact ok270
  · cases h; exact ok271
  · cases h; exact ok272
  · cases h; exact ok273
  · cases h; exact ok274
  · cases h; exact ok275
  · cases h; exact ok276
  · cases h; exact ok277
  · cases h; exact ok307
  · cases h; exact ok308
  · cases h; exact ok309
  · cases h; exact ok310
  · cases h
theorem mixed : Tryz.prog.follows .mixedOrders = true := by kernel_rfl
def cloneS (f : Nat) : KSpec := ⟨f, fun | [.nils] => some .nils | [.sl []] => some .nils | _ => none⟩
theorem cloneS_ok {f : Nat} (hc : CloneAt Tryz.prog f) : KSpecOK Tryz.prog (cloneS f) := fun args v hv => by
  have key : ∀ x, x = AV.nils ∨ x = .sl [] → args = [x] → v = .nils → PrimOK Tryz.prog f args v := fun x hx ha h2 => by
    subst ha h2
    exact prim_weak (h' := h0) rfl (by rcases hx with rfl | rfl <;> rfl) fun φ w cargs hr hG ha => .inl (clone_prim mixed hc hx hr hG ha)
  unfold cloneS at hv
  dsimp only at hv
  split at hv
  · cases hv; exact key _ (.inl rfl) rfl rfl
  · cases hv; exact key _ (.inr rfl) rfl rfl
  · cases hv
def clones : List KSpec := [cloneS 22, cloneS 58, cloneS 108, cloneS 110, cloneS 218]
theorem clones_ok : ∀ s ∈ clones, KSpecOK Tryz.prog s := by
  intro s hs
  simp only [clones, List.mem_cons, List.not_mem_nil, or_false] at hs
  rcases hs with rfl | rfl | rfl | rfl | rfl
  · exact cloneS_ok clone22
  · exact cloneS_ok clone58
  · exact cloneS_ok clone108
  · exact cloneS_ok clone110
  · exact cloneS_ok clone218
theorem enters (f : Nat) {fn : Func} (hfn : Tryz.prog.funcs[f]? = some fn) (hname : (fn.name == "runtime.NumGoroutine") = false) (hbody : fn.body.isSome = true) (cargs : Array Value) (w : World) : (callFunc f cargs).run Tryz.prog w = .ok (.enter f cargs) w := by
  obtain ⟨c, hc⟩ := Option.isSome_iff_exists.1 hbody
  have hne : ¬ fn.name = "runtime.NumGoroutine" := by simpa using hname
  simp [callFunc, hfn, hne, hc]
theorem mcl52 : MapsCloneOK Tryz.prog 52 := fun b es clk w hb => ⟨enters 52 Tryz.func52 rfl rfl _ w, AnyW.maps_Clone Tryz.laysW52 b es clk w hb⟩
theorem mcl53 : MapsCloneOK Tryz.prog 53 := fun b es clk w hb => ⟨enters 53 Tryz.func53 rfl rfl _ w, AnyW.maps_Clone Tryz.laysW53 b es clk w hb⟩
def mclT : Nat → Bool := fun f => Nat.beq f 52 || Nat.beq f 53
theorem mclT_ok (f : Nat) (h : mclT f = true) : MapsCloneOK Tryz.prog f := by
  simp only [mclT, Bool.or_eq_true] at h
  rcases h with h | h
  · rw [Nat.eq_of_beq_eq_true h]; exact mcl52
  · rw [Nat.eq_of_beq_eq_true h]; exact mcl53
def envOf (ss : List KSpec) : Env := mkEnvC fnAt (ss ++ clones) mclT
theorem envOf_okX {X : World → Prop} {ss : List KSpec} (hs : ∀ s ∈ ss, KSpecOKX Tryz.prog X s) : EnvOKX Tryz.prog X (envOf ss) :=
  mkEnvC_ok mixed fnAt_ok (fun s h => by
    rcases List.mem_append.1 h with h | h
    · exact hs s h
    · exact (clones_ok s h).lift) mclT_ok
theorem envOf_ok {ss : List KSpec} (hs : ∀ s ∈ ss, KSpecOK Tryz.prog s) : EnvOK Tryz.prog (envOf ss) := envOf_okX hs
end Go.Proofs.YtmbccebjkenofaaGreatDoor

namespace Go.Proofs.YtmbccebjkenofaaGreatDoor
open Go Sz Go.RowKit
theorem below_eq {w w' : World} (h : w' = w) : Below w.heap.size w w' := h ▸ Below.refl _ _
def idxB (c : Nat) : List UInt8 → Int
  | [] => -1
  | b :: r => if Nat.beq b.toNat c then 0 else match idxB c r with | .ofNat n => .ofNat (n + 1) | .negSucc _ => -1
theorem idxB_eq (c : UInt8) : ∀ l, Lib.indexByte l c = idxB c.toNat l
  | [] => rfl
  | b :: r => by
    unfold Lib.indexByte idxB
    rw [idxB_eq c r]
    have e : Nat.beq b.toNat c.toNat = (b == c) := by
      by_cases h : b = c
      · subst h; simp [Nat.beq_refl]
      · have h2 : (b == c) = false := by simpa using h
        rw [h2]
        cases h3 : Nat.beq b.toNat c.toNat with
        | false => rfl
        | true => exact absurd (UInt8.toNat_inj.1 (Nat.eq_of_beq_eq_true h3)) h
    rw [e]
    cases hb : b == c with
    | true => rfl
    | false =>
      simp only [Bool.false_eq_true, if_false]
      cases h : idxB c.toNat r with
      | ofNat n =>
        have : ((Int.ofNat n) == -1) = false := by simp
        rw [this]
        rfl
      | negSucc n =>
        have hn : n = 0 := by
          have : ∀ l k, idxB c.toNat l = .negSucc k → k = 0 := fun l => by
            induction l with
            | nil => intro k hk; cases hk; rfl
            | cons b r ih =>
              intro k hk
              unfold idxB at hk
              split at hk
              · cases hk
              · split at hk
                · cases hk
                · cases hk; rfl
          exact this r n h
        subst hn
        rfl
def indexByteS : KSpec := ⟨79, fun | [.str s, .int .u8 c] => if 0 ≤ c ∧ c < 256 then some (.int .i64 (idxB c.toNat s)) else none | _ => none⟩
theorem indexByteS_ok : KSpecOK Tryz.prog indexByteS := fun args v hv => by
  unfold indexByteS at hv ⊢
  dsimp only at hv ⊢
  split at hv
  · rename_i s c
    split at hv
    · rename_i hc
      cases hv
      refine prim_below (enters 79 Tryz.func79 rfl rfl) fun φ h w cargs hr hG ha => ?_
      obtain ⟨cx, cy, rfl, h1, h2⟩ := args_two ha
      rw [str_inv h1, RV.int_inv h2]
      refine (Tryz.stringslite_IndexByte ⟨s.toArray⟩ c w).mono fun e w' ⟨he, hw⟩ => ?_
      refine ⟨below_eq hw, _, he, ?_⟩
      have e1 : c.toNat.toUInt8.toNat = c.toNat := by
        show (UInt8.ofNat c.toNat).toNat = _
        rw [UInt8.toNat_ofNat']
        omega
      rw [idxB_eq, e1]
      exact .int _ _
    · cases hv
  · cases hv
def idxT (sub : List UInt8) : List UInt8 → Int
  | [] => if sub.isEmpty then 0 else -1
  | b :: l => if sub.isPrefixOf (b :: l) then 0 else match idxT sub l with | .ofNat n => .ofNat (n + 1) | .negSucc _ => -1
theorem idxT_neg (sub : List UInt8) : ∀ l k, idxT sub l = .negSucc k → k = 0
  | [], k, h => by
    unfold idxT at h
    split at h
    · cases h
    · cases h; rfl
  | b :: l, k, h => by
    unfold idxT at h
    split at h
    · cases h
    · split at h
      · cases h
      · cases h; rfl
theorem idxT_eq (sub : List UInt8) : ∀ l, Lib.index l sub = idxT sub l
  | [] => rfl
  | b :: r => by
    unfold Lib.index idxT
    rw [idxT_eq sub r]
    cases sub.isPrefixOf (b :: r) with
    | true => rfl
    | false =>
      simp only [Bool.false_eq_true, if_false]
      cases h : idxT sub r with
      | ofNat n =>
        have : ((Int.ofNat n) == -1) = false := by simp
        rw [this]
        rfl
      | negSucc n =>
        rw [idxT_neg sub r n h]
        rfl
def indexS : KSpec := ⟨48, fun | [.str s, .str p] => if s.length < 100000 then some (.int .i64 (idxT p s)) else none | _ => none⟩
theorem indexS_ok : KSpecOK Tryz.prog indexS := fun args v hv => by
  unfold indexS at hv ⊢
  dsimp only at hv ⊢
  split at hv
  · rename_i s p
    split at hv
    · rename_i hl
      cases hv
      refine prim_strI (enters 48 Tryz.func48 rfl rfl) fun w hw => (Tryz.stringslite_Index_shaped ⟨s.toArray⟩ ⟨p.toArray⟩ w hw (by rw [Lib.size_eq]; simp; omega)).mono fun e w' ⟨h1, h2⟩ => ⟨?_, below_eq h2⟩
      rw [h1, ← idxT_eq]
    · cases hv
  · cases hv
def digits : List UInt8 := [48, 49, 50, 51, 52, 53, 54, 55, 56, 57]
def cutset : List UInt8 := [97, 98, 99, 100, 101, 102, 103, 104, 105, 106, 107, 108, 109, 110, 111, 112, 113, 114, 115, 116, 117, 118, 119, 120, 121, 122, 48, 49, 50, 51, 52, 53, 54, 55, 56, 57, 95]
def trimT (c s : List UInt8) : List UInt8 := (s.reverse.dropWhile (c.contains ·)).reverse.dropWhile (c.contains ·)
def trimS : KSpec := ⟨77, fun | [.str s, .str c] => if s.length < 100000 ∧ (c = digits ∨ c = cutset) then some (.str (trimT c s)) else none | _ => none⟩
theorem trimS_ok : KSpecOK Tryz.prog trimS := fun args v hv => by
  unfold trimS at hv ⊢
  dsimp only at hv ⊢
  split at hv
  · rename_i s c
    split at hv
    · rename_i hl
      obtain ⟨hl, hc⟩ := hl
      cases hv
      rcases hc with rfl | rfl
      · refine prim_str2 (enters 77 Tryz.func77 rfl rfl) fun w _ => (Any.strings_Trim_laid Tryz.lays160 (by kernel_rfl) ⟨s.toArray⟩ ⟨digits.toArray⟩ w (by rw [Lib.size_eq]; simp; omega) (by decide) (ascii_of_all (by decide))).mono fun e w' ⟨h1, h2⟩ => ⟨?_, h2⟩
        rw [h1]
        rfl
      · refine prim_str2 (enters 77 Tryz.func77 rfl rfl) fun w _ => (Any.strings_Trim_laid Tryz.lays160 (by kernel_rfl) ⟨s.toArray⟩ ⟨cutset.toArray⟩ w (by rw [Lib.size_eq]; simp; omega) (by decide) (ascii_of_all (by decide))).mono fun e w' ⟨h1, h2⟩ => ⟨?_, h2⟩
        rw [h1]
        rfl
    · cases hv
  · cases hv
def ssA : List KSpec := [indexByteS, indexS, trimS]
theorem ssA_ok : ∀ s ∈ ssA, KSpecOK Tryz.prog s := by simp [ssA, indexByteS_ok, indexS_ok, trimS_ok]
end Go.Proofs.YtmbccebjkenofaaGreatDoor
