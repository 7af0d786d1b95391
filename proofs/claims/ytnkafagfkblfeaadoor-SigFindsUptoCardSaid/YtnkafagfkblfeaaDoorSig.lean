import Derived.Test.YtnkafagfkblfeaaDoorFnB
import Derived.Lib.ItoaNum
import Derived.Test.YtnkafagfkblfeaaDoorSigS
import Derived.Test.YtnkafagfkblfeaaDoorFast
import Derived.Test.YtnkafagfkblfeaaDoorFn
import Derived.Test.YtnkafagfkblfeaaDoorTy
import Derived.LaidSub
import Derived.MakeChecks
set_option linter.unusedVariables false
set_option linter.unusedSimpArgs false
set_option linter.unusedSectionVars false

namespace Go.Proofs.YtnkafagfkblfeaaDoor
open Go Sz
set_option linter.unusedSimpArgs false

/-! The machine's own predicates. No program here. -/

/-- A number's digits. -/
def digF : Nat → Nat → List UInt8
  | 0, _ => []
  | f + 1, u => if u < 10 then [UInt8.ofNat (48 + u)] else digF f (u / 10) ++ [UInt8.ofNat (48 + u % 10)]
theorem digF_eq : ∀ (f u : Nat), u < 10 ^ f → u = 0 → f ≠ 0 → digF f u = Lib.decDigits u
  | 0, _, _, _, h => absurd rfl h
  | f + 1, u, _, h0, _ => by
    subst h0
    rw [Lib.decDigits]
    simp [digF]
theorem digF_eq' : ∀ (f u : Nat), u < 10 ^ (f + 1) → digF (f + 1) u = Lib.decDigits u
  | 0, u, h => by
    have : u < 10 := by simpa using h
    rw [Lib.decDigits, dif_pos this]
    simp [digF, this]
  | f + 1, u, h => by
    rw [Lib.decDigits]
    unfold digF
    by_cases h1 : u < 10
    · rw [if_pos h1, dif_pos h1]
    · rw [if_neg h1, dif_neg h1, digF_eq' f (u / 10) (by rw [Nat.pow_succ] at h; omega)]
def itoaK (n : Int) : List UInt8 := if n < 0 then 45 :: digF 20 n.natAbs else digF 20 n.toNat
theorem itoaK_eq (n : Int) (h1 : -9223372036854775808 ≤ n) (h2 : n < 9223372036854775808) : itoaK n = Lib.itoa n := by
  unfold itoaK Lib.itoa
  rw [digF_eq' 19 _ (by omega), digF_eq' 19 _ (by omega)]

def isDig (c : UInt8) : Bool := decide (48 ≤ c.toNat) && decide (c.toNat ≤ 57)
theorem isDig_of {u : Nat} (h : u < 10) : isDig (UInt8.ofNat (48 + u)) = true := by
  have : (UInt8.ofNat (48 + u)).toNat = 48 + u := by
    rw [UInt8.toNat_ofNat']
    omega
  simp [isDig, this]
  omega
theorem digF_all : ∀ (f u : Nat), ∀ c ∈ digF f u, isDig c = true
  | 0, _, c, h => by simp [digF] at h
  | f + 1, u, c, h => by
    unfold digF at h
    split at h
    · rename_i h1
      rw [List.mem_singleton] at h
      subst h
      exact isDig_of h1
    · rcases List.mem_append.1 h with h | h
      · exact digF_all f _ c h
      · rw [List.mem_singleton] at h
        subst h
        exact isDig_of (Nat.mod_lt u (by decide))
theorem digF_one {f u : Nat} {d : Nat} (hd : d < 10) (h : digF (f + 2) u = [UInt8.ofNat (48 + d)]) : u = d := by
  unfold digF at h
  split at h
  · rename_i h1
    have e1 : (UInt8.ofNat (48 + u)).toNat = 48 + u := by rw [UInt8.toNat_ofNat']; omega
    have e2 : (UInt8.ofNat (48 + d)).toNat = 48 + d := by rw [UInt8.toNat_ofNat']; omega
    have h := (List.cons.inj h).1
    have := congrArg UInt8.toNat h
    rw [e1, e2] at this
    omega
  · have := congrArg List.length h
    simp at this
    have h3 : ∀ v, (digF (f + 1) v).length ≠ 0 := fun v => by
      unfold digF
      split <;> simp
    exact absurd (by simpa using this) (h3 (u / 10))
def itoaC (c : UInt8) : Bool := isDig c || c == 45
theorem itoaK_all (n : Int) : ∀ c ∈ itoaK n, itoaC c = true := by
  intro c hc
  unfold itoaK at hc
  split at hc
  · rcases List.mem_cons.1 hc with rfl | hc
    · rfl
    · simp [itoaC, digF_all 20 _ c hc]
  · simp [itoaC, digF_all 20 _ c hc]
theorem itoaK_small {k : Nat} (h : k < 10) : itoaK k = [UInt8.ofNat (48 + k)] := by
  unfold itoaK
  rw [if_neg (by omega), show ((k : Int).toNat) = k by omega]
  unfold digF
  rw [if_pos h]
theorem itoaK_one {n : Int} {d : Nat} (hd : d < 10) (h : itoaK n = [UInt8.ofNat (48 + d)]) : n = d := by
  unfold itoaK at h
  split at h
  · rename_i hn
    have hl := congrArg List.length h
    simp at hl
    have h3 : ∀ v, (digF 20 v).length ≠ 0 := fun v => by
      unfold digF
      split <;> simp
    exact absurd (by simpa using hl) (h3 n.natAbs)
  · have := digF_one hd h
    omega

theorem index_split (sub : List UInt8) : ∀ s : List UInt8, 0 ≤ Lib.index s sub → ∃ a b, s = a ++ (sub ++ b)
  | [], h => by
    unfold Lib.index at h
    split at h
    · rename_i h1
      simp at h1
      exact ⟨[], [], by simp [h1]⟩
    · omega
  | b :: l, h => by
    unfold Lib.index at h
    split at h
    · rename_i h1
      obtain ⟨t, ht⟩ := List.isPrefixOf_iff_prefix.1 h1
      exact ⟨[], t, by simp [ht]⟩
    · split at h
      · omega
      · rename_i h2
        have h3 := Lib.index_ge l sub
        have h4 : Lib.index l sub ≠ -1 := by simpa using h2
        obtain ⟨a, c, e⟩ := index_split sub l (by omega)
        exact ⟨b :: a, c, by rw [e]; rfl⟩
theorem contains_one (c : UInt8) : ∀ s : List UInt8, Lib.contains s [c] = false → c ∉ s
  | [], _ => by simp
  | b :: l, h => by
    unfold Lib.contains at h
    simp only [decide_eq_false_iff_not] at h
    by_cases hb : b = c
    · subst hb
      rw [index_one_eq] at h
      omega
    · rw [index_one_ne l hb] at h
      have ih := contains_one c l (by
        unfold Lib.contains
        simp only [decide_eq_false_iff_not]
        intro h2
        rw [if_neg (by simp; omega)] at h
        omega)
      simp [ih, Ne.symm hb]

theorem cut_tail {c : UInt8} {t b : List UInt8} (ht : c ∉ t) : ∀ a : List UInt8, t ∈ (cutB c (a ++ c :: (t ++ c :: b))).tail
  | [] => by
    have e : cutB c (c :: (t ++ c :: b)) = [] :: cutB c (t ++ c :: b) := by
      conv => lhs; unfold cutB
      rw [if_pos rfl]
    rw [List.nil_append, e, List.tail_cons, cutB_app _ ht]
    simp
  | d :: a => by
    have ih := cut_tail (b := b) ht a
    rw [List.cons_append]
    unfold cutB
    split
    · rw [List.tail_cons]
      exact List.mem_of_mem_tail ih
    · cases hc : cutB c (a ++ c :: (t ++ c :: b)) with
      | nil => exact absurd hc (cutB_ne _ _)
      | cons p r =>
        rw [hc] at ih
        exact ih

def plainC : List UInt8 := [32, 116, 114, 117, 101, 47, 48, 32, 102, 97, 105, 108, 47, 48, 32, 33, 47, 48, 32, 44, 47, 50, 32, 59, 47, 50, 32, 45, 62, 47, 50, 32, 92, 43, 47, 49, 32, 99, 97, 108, 108, 47, 49, 32, 99, 97, 116, 99, 104, 47, 51, 32, 116, 104, 114, 111, 119, 47, 49, 32, 102, 105, 110, 100, 97, 108, 108, 47, 51, 32, 61, 47, 50, 32, 92, 61, 47, 50, 32, 61, 61, 47, 50, 32, 92, 61, 61, 47, 50, 32, 64, 60, 47, 50, 32, 64, 62, 47, 50, 32, 64, 61, 60, 47, 50, 32, 64, 62, 61, 47, 50, 32, 118, 97, 114, 47, 49, 32, 110, 111, 110, 118, 97, 114, 47, 49, 32, 97, 116, 111, 109, 47, 49, 32, 105, 110, 116, 101, 103, 101, 114, 47, 49, 32, 97, 116, 111, 109, 105, 99, 47, 49, 32, 99, 111, 109, 112, 111, 117, 110, 100, 47, 49, 32, 105, 115, 47, 50, 32, 61, 58, 61, 47, 50, 32, 61, 92, 61, 47, 50, 32, 60, 47, 50, 32, 62, 47, 50, 32, 61, 60, 47, 50, 32, 62, 61, 47, 50, 32, 102, 117, 110, 99, 116, 111, 114, 47, 51, 32, 97, 114, 103, 47, 51, 32, 61, 46, 46, 47, 50, 32, 99, 111, 112, 121, 95, 116, 101, 114, 109, 47, 50, 32, 97, 116, 111, 109, 95, 108, 101, 110, 103, 116, 104, 47, 50, 32, 97, 116, 111, 109, 95, 99, 104, 97, 114, 115, 47, 50, 32, 110, 117, 109, 98, 101, 114, 95, 99, 104, 97, 114, 115, 47, 50, 32, 115, 111, 114, 116, 47, 50, 32, 109, 115, 111, 114, 116, 47, 50, 32, 107, 101, 121, 115, 111, 114, 116, 47, 50, 32, 108, 101, 110, 103, 116, 104, 47, 50, 32, 97, 115, 115, 101, 114, 116, 122, 47, 49, 32, 97, 115, 115, 101, 114, 116, 97, 47, 49, 32, 114, 101, 116, 114, 97, 99, 116, 47, 49, 32, 108, 97, 98, 101, 108, 47, 49, 32, 116, 111, 95, 108, 97, 98, 101, 108, 101, 100, 47, 52, 32, 117, 110, 108, 97, 98, 101, 108, 47, 50, 32, 58, 45, 47, 50, 32]
def toks : List (List UInt8) := (cutB 32 plainC).tail

def plainK (name : List UInt8) (a : Int) : Bool := !(Lib.contains name [32]) && Lib.contains plainC (32 :: (name ++ (47 :: (itoaK a ++ [32]))))
theorem plain_tok {name : List UInt8} {a : Int} (h : plainK name a = true) : name ++ 47 :: itoaK a ∈ toks := by
  unfold plainK at h
  simp only [Bool.and_eq_true, Bool.not_eq_true'] at h
  obtain ⟨h1, h2⟩ := h
  have h3 := contains_one 32 name h1
  unfold Lib.contains at h2
  obtain ⟨x, y, e⟩ := index_split _ plainC (by simpa using h2)
  have h4 : (32 : UInt8) ∉ name ++ 47 :: itoaK a := by
    simp only [List.mem_append, List.mem_cons, not_or]
    refine ⟨h3, by decide, fun h => ?_⟩
    have := itoaK_all a 32 h
    simp [itoaC, isDig] at this
  have := cut_tail (b := y) h4 x
  unfold toks
  rw [e]
  simpa [List.append_assoc] using this

def afterSlash (t : List UInt8) : List UInt8 := (t.reverse.takeWhile (· != 47)).reverse
theorem takeWhile_app {p : UInt8 → Bool} {c : UInt8} (hc : p c = false) : ∀ {l : List UInt8} (r : List UInt8), (∀ x ∈ l, p x = true) → (l ++ c :: r).takeWhile p = l
  | [], r, _ => by simp [List.takeWhile, hc]
  | a :: l, r, h => by
    rw [List.cons_append, List.takeWhile_cons_of_pos (h a (by simp)), takeWhile_app hc r fun x hx => h x (by simp [hx])]
theorem afterSlash_of {name i : List UInt8} (h : ∀ c ∈ i, c ≠ 47) : afterSlash (name ++ 47 :: i) = i := by
  unfold afterSlash
  rw [List.reverse_append, List.reverse_cons, List.append_assoc, List.singleton_append, takeWhile_app (by decide) _ (fun x hx => by simpa using h x (by simpa using hx))]
  simp

def tokOK (t : List UInt8) : Bool := t == [] || (decide (t.length ≤ 30) && (List.range 9).any fun d => afterSlash t == [UInt8.ofNat (48 + d)])
theorem toks_ok : (toks.all tokOK) = true := by kernel_rfl
theorem toks_one : (toks.all fun t => toks.all fun u => !(t.dropLast == u.dropLast) || t == u) = true := by kernel_rfl

theorem plainK_small {name : List UInt8} {a : Int} (h : plainK name a = true) : name.length ≤ 30 ∧ 0 ≤ a ∧ a ≤ 8 := by
  have h1 := plain_tok h
  have h2 := List.all_eq_true.1 toks_ok _ h1
  unfold tokOK at h2
  simp only [Bool.or_eq_true, beq_iff_eq, Bool.and_eq_true, decide_eq_true_eq, List.any_eq_true, List.mem_range] at h2
  rcases h2 with h2 | ⟨h2, d, hd, h3⟩
  · simp at h2
  · rw [afterSlash_of fun c hc e => by
      have := itoaK_all a c hc
      subst e
      simp [itoaC, isDig] at this] at h3
    have := itoaK_one (by omega) h3
    simp at h2
    omega
theorem plainK_one {name : List UInt8} {j k : Nat} (hj : j < 10) (hk : k < 10) (h1 : plainK name j = true) (h2 : plainK name k = true) : j = k := by
  have t1 := plain_tok h1
  have t2 := plain_tok h2
  have h3 := List.all_eq_true.1 (List.all_eq_true.1 toks_one _ t1) _ t2
  rw [itoaK_small hj, itoaK_small hk] at h3
  have e : ∀ c : UInt8, (name ++ [47, c]).dropLast = name ++ [47] := fun c => by
    rw [show name ++ [47, c] = (name ++ [47]) ++ [c] by simp, List.dropLast_concat]
  simp only [e, beq_self_eq_true, Bool.not_true, Bool.false_or, beq_iff_eq, List.append_cancel_left_eq, List.cons.injEq, and_true, true_and] at h3
  have e1 : (UInt8.ofNat (48 + j)).toNat = 48 + j := by rw [UInt8.toNat_ofNat']; omega
  have e2 : (UInt8.ofNat (48 + k)).toNat = 48 + k := by rw [UInt8.toNat_ofNat']; omega
  have := congrArg UInt8.toNat h3
  rw [e1, e2] at this
  omega

end Go.Proofs.YtnkafagfkblfeaaDoor

namespace Go.Proofs.YtnkafagfkblfeaaDoor
open Go Sz Go.RowKit
set_option linter.unusedSimpArgs false
attribute [local simp] seqF condF stepF callF callvF guardF trF step1F call1F callv1F guard1F seqK_n seqK_e seqK_r condK_t condK_f stK_s gdK_t gdK_f cvK_f trK_s trK1_s stK1_s gdK1_t gdK1_f cvK1_f evCode_skip evCode_reg evCode_dreg evCode_block evCode_exit evCode_ret evSteps_nil evTr_nil ldId chkTr
 evOp_mov evOp_pick evOp_box evOp_bld evOp_bsl evOp_ld evOp_st evOp_nck evOp_bin evOp_beq evOp_ceq evOp_peq evOp_not evOp_neg evOp_xor evOp_cvi evOp_cvss evOp_cvis evOp_cvsb evOp_mki evOp_mkf evOp_mkm evOp_mks evOp_sls evOp_slv evOp_fad evOp_fld1 evOp_fldn evOp_iad evOp_ixs evOp_ext evOp_lens evOp_lenv evOp_mx evOp_mn evOp_app evOp_bs0 evOp_snil evOp_clr
 FM_ev ev_const FM_put put_none FM_unwanted lk_hit lk_miss lk_nil FM_clear FM_clearB trues pick gc_FM gc_FM0 incK snds renM allM evB_fm enumA cells_agg cells_bool cells_int cells_str cells_nilp cells_ptr cells_ip cells_nils cells_sl cells_vec cells_nilm cells_map cells_nilfn cells_fn cells_nili cells_iface ldA row_mk get_mk set_mk mark_mk alloc_mk' trunc_mk binA resAll_nil resAll_cons FM_resT FM_resC oneOf finish_mk frz_undef frz_bool frz_int frz_str frz_nilp frz_ptr frz_ip frz_nils frz_sl frz_nilm frz_map frz_nilfn frz_fn frz_nili frz_iface frz_old frz_agg frz_tuple frzL_nil frzL_cons kill_nil kill_cons chunk_zero chunk_succ AV.refs AV.refsL evCall_spec lookF_nil lookF_cons callS_nil callS_oneF spK_s spK_n frK_s frK_n clones cloneS_f cloneS_nils cloneS_sl0 fillA putAt_nil putAt_cons evCode_loop bgn_mk aft_mk keeps objsAt ren renId AV.top lowObj h0 succ_le_f oldK oldAll oldLow oldRen lowCells_row lowCells_map lowCells_dead objCells topLow renObj List.idxOf_cons List.idxOf_nil nilA nilK elemsA_nils elemsA_vec elemsA_str evOp_die evOp_lkp evOp_cvbs lookA scal_bool scal_int scal_str scal_nils scal_sl scal_tuple scal_agg scal1_bool scal1_int scal1_str scal1_nils scal1_sl scal1_agg
attribute [local simp low] frz_vecR

/-! sig.Plain. -/

/-- The table of powers of ten is as it is laid. -/
def TabX (w : World) : Prop := Lib.TabIs Tryd.prog w "internal/strconv.uint64pow10" .u64 Lib.pow10Tab

def itoaS : KSpec := ⟨66, fun | [.int .i64 n] => if -9223372036854775808 ≤ n ∧ n < 9223372036854775808 then some (.str (itoaK n)) else none | _ => none⟩
theorem itoaS_f : itoaS.f = 66 := (rfl)
theorem itoaS_at (n : Int) (h : -9223372036854775808 ≤ n ∧ n < 9223372036854775808) : itoaS.S [.int .i64 n] = some (.str (itoaK n)) := if_pos h
theorem itoaS_ok : KSpecOKX Tryd.prog TabX itoaS := fun args v hv => by
  unfold itoaS at hv ⊢
  dsimp only at hv ⊢
  split at hv
  · rename_i n
    split at hv
    · rename_i hn
      cases hv
      rw [itoaK_eq n hn.1 hn.2]
      refine prim_below (enters 66 Tryd.func66 rfl rfl) fun φ h w cargs hr hG ha => ?_
      obtain ⟨cx, rfl, h1⟩ := args_one ha
      rw [int_eq h1]
      refine (Tryd.strconv_Itoa n hn.1 (by omega) w (hG.tab fun w h => h)).mono fun e w' ⟨he, k, os, hw⟩ => ?_
      subst hw
      exact ⟨below_grow _ _ _, _, he, .str' _⟩
    · cases hv
  · cases hv

theorem contains_byte (s : List UInt8) (c : UInt8) : Lib.contains s [c] = decide (0 ≤ Lib.indexByte s c) := by
  have key : ∀ s : List UInt8, Lib.index s [c] = Lib.indexByte s c := by
    intro s
    induction s with
    | nil => rfl
    | cons b l ih =>
      unfold Lib.indexByte
      by_cases h : b = c
      · subst h
        rw [index_one_eq]
        simp
      · rw [index_one_ne l h, ih]
        have : (b == c) = false := by simpa using h
        rw [this]
        simp
  unfold Lib.contains
  rw [key]

def subS : KSpec := ⟨65, fun | [.str s, .str p] => if s.length < maxStr ∨ p.length = 1 then some (.bool (Lib.contains s p)) else none | _ => none⟩
theorem subS_f : subS.f = 65 := (rfl)
theorem subS_at (s p : List UInt8) (h : s.length < maxStr ∨ p.length = 1) : subS.S [.str s, .str p] = some (.bool (Lib.contains s p)) := if_pos h
theorem subS_ok : KSpecOK Tryd.prog subS := fun args v hv => by
  unfold subS at hv ⊢
  dsimp only at hv ⊢
  split at hv
  · rename_i s p
    split at hv
    · rename_i hl
      cases hv
      rcases hl with hl | hl
      · exact prim_strB (enters 65 Tryd.func65 rfl rfl) fun w hw => (Tryd.strings_Contains_shaped ⟨s.toArray⟩ ⟨p.toArray⟩ w hw (by rw [Lib.size_eq]; unfold maxStr at hl; simp; omega)).mono fun e w' ⟨h1, h2⟩ => ⟨h1, below_eq h2⟩
      · obtain ⟨c, rfl⟩ : ∃ c, p = [c] := by
          cases p with
          | nil => simp at hl
          | cons c r => cases r with
            | nil => exact ⟨c, rfl⟩
            | cons _ _ => simp at hl
        rw [contains_byte]
        exact prim_strB (enters 65 Tryd.func65 rfl rfl) fun w hw => (Tryd.strings_Contains_one ⟨s.toArray⟩ c w).mono fun e w' ⟨h1, h2⟩ => ⟨h1, below_eq h2⟩
    · cases hv
  · cases hv

theorem digF_len : ∀ (f u : Nat), (digF f u).length ≤ f
  | 0, u => by simp [digF]
  | f + 1, u => by
    unfold digF
    split
    · simp
    · have := digF_len f (u / 10)
      simp
      exact this
theorem itoaK_len (n : Int) : (itoaK n).length ≤ 21 := by
  unfold itoaK
  split
  · have := digF_len 20 n.natAbs
    simp
    omega
  · have := digF_len 20 n.toNat
    omega

def plainS : KSpec := ⟨42, fun | [.str s, .int .i64 n] => if s.length < 9223372036854775000 ∧ -9223372036854775808 ≤ n ∧ n < 9223372036854775808 then some (.bool (plainK s n)) else none | _ => none⟩
theorem plainS_f : plainS.f = 42 := (rfl)
theorem plainS_at (s : List UInt8) (n : Int) (h : s.length < 9223372036854775000 ∧ -9223372036854775808 ≤ n ∧ n < 9223372036854775808) : plainS.S [.str s, .int .i64 n] = some (.bool (plainK s n)) := if_pos h

set_option maxRecDepth 100000 in
theorem plainS_ok : KSpecOKX Tryd.prog TabX plainS := fun args v hv => by
  unfold plainS at hv ⊢
  dsimp only at hv ⊢
  split at hv
  · rename_i s n
    split at hv
    · rename_i hc
      cases hv
      obtain ⟨hl, h1, h2⟩ := hc
      refine prim_of (n := 3) (h' := h0) (envOf_okX (ss := [subS, itoaS]) (by simp [subS_ok.lift, itoaS_ok])) ?_ rfl rfl
      have c1 := subS_at s [32] (.inr rfl)
      have i1 := itoaS_at n ⟨h1, h2⟩
      have hi := itoaK_len n
      have c2 := subS_at plainC (32 :: (s ++ (47 :: (itoaK n ++ [32])))) (.inl (by decide +kernel))
      unfold plainK
      have g1 : s.length + 1 < 9223372036854775808 := by omega
      have g1' : 1 + s.length < 9223372036854775808 := by omega
      have g2 : s.length + 1 + 1 < 9223372036854775808 := by omega
      have g3 : s.length + 1 + 1 + (itoaK n).length < 9223372036854775808 := by omega
      have g4 : s.length + ((itoaK n).length + 1) + 1 + 1 < 9223372036854775808 := by omega
      unfold plainC at c2 ⊢
      cases hq : Lib.contains s [32] with
      | true =>
        rw [hq] at c1
        simp [run42, c42, subS_f, itoaS_f, c1, i1, c2, g1, g1', g2, g3, g4]
      | false =>
        rw [hq] at c1
        simp [run42, c42, subS_f, itoaS_f, c1, i1, c2, g1, g1', g2, g3, g4]
    · cases hv
  · cases hv

end Go.Proofs.YtnkafagfkblfeaaDoor

namespace Go.Proofs.YtnkafagfkblfeaaDoor
open Go Sz
set_option linter.unusedSimpArgs false
attribute [local simp] seqF condF stepF callF callvF guardF trF step1F call1F callv1F guard1F seqK_n seqK_e seqK_r condK_t condK_f stK_s gdK_t gdK_f cvK_f trK_s trK1_s stK1_s gdK1_t gdK1_f cvK1_f evCode_skip evCode_reg evCode_dreg evCode_block evCode_exit evCode_ret evSteps_nil evTr_nil ldId chkTr
 evOp_mov evOp_pick evOp_box evOp_bld evOp_bsl evOp_ld evOp_st evOp_nck evOp_bin evOp_beq evOp_ceq evOp_peq evOp_not evOp_neg evOp_xor evOp_cvi evOp_cvss evOp_cvis evOp_cvsb evOp_mki evOp_mkf evOp_mkm evOp_mks evOp_sls evOp_slv evOp_fad evOp_fld1 evOp_fldn evOp_iad evOp_ixs evOp_ext evOp_lens evOp_lenv evOp_mx evOp_mn evOp_app evOp_bs0 evOp_snil evOp_clr
 FM_ev ev_const FM_put put_none FM_unwanted lk_hit lk_miss lk_nil FM_clear FM_clearB trues pick gc_FM gc_FM0 incK snds renM allM evB_fm enumA cells_agg cells_bool cells_int cells_str cells_nilp cells_ptr cells_ip cells_nils cells_sl cells_vec cells_nilm cells_map cells_nilfn cells_fn cells_nili cells_iface ldA row_mk get_mk set_mk mark_mk alloc_mk' trunc_mk binA resAll_nil resAll_cons FM_resT FM_resC oneOf finish_mk frz_undef frz_bool frz_int frz_str frz_nilp frz_ptr frz_ip frz_nils frz_sl frz_nilm frz_map frz_nilfn frz_fn frz_nili frz_iface frz_old frz_agg frz_tuple frzL_nil frzL_cons kill_nil kill_cons chunk_zero chunk_succ AV.refs AV.refsL evCall_spec lookF_nil lookF_cons callS_nil callS_oneF spK_s spK_n frK_s frK_n clones cloneS_f cloneS_nils cloneS_sl0 fillA putAt_nil putAt_cons evCode_loop bgn_mk aft_mk keeps objsAt ren renId AV.top lowObj h0 succ_le_f oldK oldAll oldLow oldRen lowCells_row lowCells_map lowCells_dead objCells topLow renObj List.idxOf_cons List.idxOf_nil nilA nilK elemsA_nils elemsA_vec elemsA_str evOp_die evOp_lkp evOp_cvbs lookA scal_bool scal_int scal_str scal_nils scal_sl scal_tuple scal_agg scal1_bool scal1_int scal1_str scal1_nils scal1_sl scal1_agg
attribute [local simp low] frz_vecR

/-! SigPlain. -/

def sigAwakeS : KSpec := ⟨41, fun | [] => some (.bool true) | _ => none⟩
theorem sigAwakeS_f : sigAwakeS.f = 41 := (rfl)
theorem sigAwakeS_at : sigAwakeS.S [] = some (.bool true) := rfl
noncomputable def sigAwakeRun : Option (AV × Heap) := evCall (envOf [goodS, fitsS, plainS]) 80 41 [] h0
theorem sigAwake_run : (match sigAwakeRun with | some (.bool true, _) => true | _ => false) = true := by kernel_rfl
theorem sigAwakeS_ok : KSpecOKX Tryd.prog TabX sigAwakeS := fun args v hv => by
  unfold sigAwakeS at hv ⊢
  dsimp only at hv ⊢
  split at hv
  · cases hv
    have h := sigAwake_run
    split at h
    · rename_i h' e
      exact prim_of (n := 80) (h' := h') (envOf_okX (ss := [goodS, fitsS, plainS]) (by simp [(goodS_ok trimS_ok).lift, (fitsS_ok trimS_ok).lift, plainS_ok])) e rfl rfl
    · cases h
  · cases hv

/-- How many of the first numbers of Args are its own. -/
def ownK (s : List UInt8) : Nat → Nat
  | 0 => 0
  | k + 1 => ownK s k + if plainK s k then 1 else 0
theorem ownK_le (s : List UInt8) : ∀ k, k ≤ 10 → ownK s k ≤ 1 ∧ ∀ j, j < k → plainK s j = true → ownK s k = 1
  | 0, _ => ⟨by simp [ownK], fun j h => by omega⟩
  | k + 1, hk => by
    obtain ⟨h1, h2⟩ := ownK_le s k (by omega)
    unfold ownK
    cases hp : plainK s k with
    | false =>
      simp only [Bool.false_eq_true, if_false, Nat.add_zero]
      refine ⟨h1, fun j hj hj2 => ?_⟩
      by_cases e : j = k
      · subst e; rw [hp] at hj2; cases hj2
      · exact h2 j (by omega) hj2
    | true =>
      have h0 : ownK s k = 0 := by
        have key : ∀ i, i ≤ k → ownK s i = 0 := by
          intro i
          induction i with
          | zero => intro _; rfl
          | succ i ih =>
            intro hi
            unfold ownK
            rw [ih (by omega)]
            cases hpi : plainK s i with
            | false => rfl
            | true =>
              have := plainK_one (j := i) (k := k) (by omega) (by omega) hpi hp
              omega
        exact key k (Nat.le_refl _)
      rw [h0]
      simp

theorem c11_loop (n : Nat) (s : List UInt8) (a : Int) (hs : s.length < 9223372036854775000) : ∀ (d k m : Nat), k + d = 9 → d < m →
    aft 0 0 (loopH (evCode (evCall (envOf [sigAwakeS, plainS]) (n + 1)) (n + 1) c11_b0) c11_m0 0 m (c11_f0 (.str s) (.int .i64 a) (.int .i64 (ownK s k)) (.int .i64 k)) ⟨0, [], 0, 0⟩) =
      some (.exit 0, FM 41 [(0, .str s), (1, .int .i64 a), (5, .int .i64 (ownK s 9))], ⟨0, [], 0, 0⟩)
  | 0, k, m + 1, h, _ => by
    obtain rfl : k = 9 := by omega
    simp [loopH_succ, c11_b0]
  | d + 1, k, m + 1, h, hm => by
    have ih := c11_loop n s a hs d (k + 1) m (by omega) (by omega)
    have h1 : ((k : Int) ≤ 8) = True := eq_true (by omega)
    have h3 : IntKind.i64.wrap ((k : Int) + 1) = (k : Int) + 1 := wrap_i64 (by omega) (by omega)
    have hp := plainS_at s k ⟨hs, by omega, by omega⟩
    have hle := (ownK_le s k (by omega)).1
    have h4 : IntKind.i64.wrap ((ownK s k : Int) + 1) = (ownK s k : Int) + 1 := wrap_i64 (by omega) (by omega)
    simp only [Int.natCast_add, Int.natCast_one, show ((1 : Nat) : Int) = 1 from rfl] at ih
    rw [loopH_succ]
    unfold ownK at ih
    cases hq : plainK s k with
    | false =>
      rw [hq] at hp ih
      simp at ih
      simp [c11_b0, c11_m0, h1, h3, hp, sigAwakeS_f, plainS_f]
      exact ih
    | true =>
      rw [hq] at hp ih
      simp at ih
      simp [c11_b0, c11_m0, h1, h3, h4, hp, sigAwakeS_f, plainS_f]
      exact ih

theorem sigPlain_prim (s : List UInt8) (a : Int) (hs : s.length < 9223372036854775000) (h1 : -9223372036854775808 ≤ a) (h2 : a < 9223372036854775808) : PrimOKX Tryd.prog TabX 11 [.str s, .int .i64 a] (.bool true) := by
  refine prim_of (n := 50) (h' := h0) (envOf_okX (ss := [sigAwakeS, plainS]) (by simp [sigAwakeS_ok, plainS_ok])) ?_ rfl rfl
  have hp := plainS_at s a ⟨hs, h1, h2⟩
  by_cases h64 : (64 : Int) < (s.length : Int)
  · have hq : plainK s a = false := by
      cases hq : plainK s a with
      | false => rfl
      | true => have := (plainK_small hq).1; omega
    rw [hq] at hp
    simp [run11, c11, h64, hp, sigAwakeS_f, sigAwakeS_at, plainS_f]
  · have lp := c11_loop 48 s a hs 9 0 49 rfl (by omega)
    simp only [show ((0 : Nat) : Int) = 0 from rfl, show ownK s 0 = 0 from rfl, c11_m0] at lp
    have h5 : ((ownK s 9 : Int) ≤ 1) = True := eq_true (by have := (ownK_le s 9 (by omega)).1; omega)
    by_cases c1 : 0 ≤ a
    · by_cases c2 : a ≤ 8
      · simp [run11, c11, c11_m0, h64, h5, lp, c1, c2, hp, sigAwakeS_f, sigAwakeS_at, plainS_f]
      · have hq : plainK s a = false := by
          cases hq : plainK s a with
          | false => rfl
          | true => have := (plainK_small hq).2; omega
        rw [hq] at hp
        simp [run11, c11, c11_m0, h64, h5, lp, c1, c2, hp, sigAwakeS_f, sigAwakeS_at, plainS_f]
    · have hq : plainK s a = false := by
        cases hq : plainK s a with
        | false => rfl
        | true => have := (plainK_small hq).2; omega
      rw [hq] at hp
      simp [run11, c11, c11_m0, h64, h5, lp, c1, hp, sigAwakeS_f, sigAwakeS_at, plainS_f]

end Go.Proofs.YtnkafagfkblfeaaDoor

namespace Go.Proofs.YtnkafagfkblfeaaDoor
open Go Sz

/-- From a row's list to the table. -/
theorem TabX_of {l : List (String × DataW Unit)} {W : World} (hL : laidMetH Tryd.prog l W) (h : (l.filter fun x => x.1 == "internal/strconv.uint64pow10") = [("internal/strconv.uint64pow10", Lib.tabData .u64 Lib.pow10Tab)]) : TabX W := by
  have h1 := hL.filter fun x => x.1 == "internal/strconv.uint64pow10"
  rw [h, MakeChecks.laidMetH_plain _ _ _ (by kernel_rfl)] at h1
  exact Lib.tabIs_of_head (g := 1) (by kernel_rfl) (t := 154) (by kernel_rfl) (e := 36) (n := 20) (by kernel_rfl) (by kernel_rfl) (by kernel_rfl) (by kernel_rfl) h1

theorem sigPlain_lawX {H : Type} (ds : List (DataW H)) (h : HasTys Tryd.prog Tryd.f11.params.toList (ds.map avOf)) (hw : (DataW.weightsEach Tryd.prog Tryd.f11.params.toList ds).all (· ≤ reachBytes) = true) : PrimOKX Tryd.prog TabX 11 (ds.map avOf) (.bool true) := by
  rw [Tryd.params11] at h hw
  match ds, h with
  | [d1, d2], .cons h1 (.cons h2 .nil) =>
    obtain ⟨s, e1, _⟩ := ty_str Tryd.underlying9 h1
    obtain ⟨a, e2, h3, h4⟩ := ty_i64 Tryd.underlying3 h2
    have hd := avOf_str e1
    subst hd
    have hs : s.length ≤ reachBytes := by
      have := List.all_eq_true.1 hw s.length (by simp [DataW.weightsEach, DataW.weights])
      simpa using this
    have hr : reachBytes = 140737488351232 := rfl
    simp only [List.map_cons, List.map_nil, e1, e2]
    exact sigPlain_prim s a (by omega) h3 h4
end Go.Proofs.YtnkafagfkblfeaaDoor

namespace Go.Proofs.YtnkafagfkblfeaaDoor
open Go Sz

/-! SigKnown. -/

theorem contains_of {sub b : List UInt8} : ∀ a : List UInt8, Lib.contains (a ++ (sub ++ b)) sub = true
  | [] => by
    unfold Lib.contains
    have hp : sub.isPrefixOf (sub ++ b) = true := List.isPrefixOf_iff_prefix.2 ⟨b, rfl⟩
    cases h : sub ++ b with
    | nil =>
      have : sub = [] := (List.append_eq_nil_iff.1 h).1
      subst this
      simp [Lib.index, h]
    | cons c r =>
      rw [h] at hp
      simp only [List.nil_append, h]
      unfold Lib.index
      rw [hp]
      rfl
  | c :: a => by
    have ih := contains_of (sub := sub) (b := b) a
    unfold Lib.contains at ih ⊢
    simp only [decide_eq_true_eq] at ih ⊢
    rw [List.cons_append]
    unfold Lib.index
    split
    · omega
    · rw [if_neg (by simp; omega)]
      omega
theorem contains_one' (c : UInt8) (s : List UInt8) : Lib.contains s [c] = s.contains c := by
  cases h : Lib.contains s [c] with
  | false =>
    have := contains_one c s h
    simpa using this
  | true =>
    unfold Lib.contains at h
    obtain ⟨a, b, e⟩ := index_split [c] s (by simpa using h)
    rw [e]
    simp

def plainF (name : List UInt8) (a : Int) : Bool := !(name.contains 32) && toks.contains (name ++ 47 :: itoaK a)
theorem toks_in : (toks.all fun t => t == [] || Lib.contains plainC (32 :: (t ++ [32]))) = true := by kernel_rfl
theorem plainK_F (name : List UInt8) (a : Int) : plainK name a = plainF name a := by
  rw [Bool.eq_iff_iff]
  constructor
  · intro h
    have h1 := plain_tok h
    unfold plainK at h
    simp only [Bool.and_eq_true] at h
    unfold plainF
    rw [contains_one'] at h
    simp only [Bool.and_eq_true]
    exact ⟨h.1, by simpa using h1⟩
  · intro h
    unfold plainF at h
    simp only [Bool.and_eq_true] at h
    have h2 := List.all_eq_true.1 toks_in _ (by simpa using h.2)
    unfold plainK
    rw [contains_one']
    simp only [Bool.and_eq_true]
    refine ⟨h.1, ?_⟩
    have h3 : (name ++ 47 :: itoaK a == []) = false := by
      cases name <;> rfl
    rw [h3, Bool.false_or] at h2
    simpa [List.append_assoc] using h2

def plainFS : KSpec := ⟨42, fun | [.str s, .int .i64 n] => if s.length < 9223372036854775000 ∧ -9223372036854775808 ≤ n ∧ n < 9223372036854775808 then some (.bool (plainF s n)) else none | _ => none⟩
theorem plainFS_ok : KSpecOKX Tryd.prog TabX plainFS := fun args v hv => by
  unfold plainFS at hv ⊢
  dsimp only at hv ⊢
  split at hv
  · rename_i s n
    split at hv
    · rename_i h
      cases hv
      have := plainS_ok [.str s, .int .i64 n] (.bool (plainK s n)) (plainS_at s n h)
      rw [plainK_F] at this
      exact this
    · cases hv
  · cases hv

end Go.Proofs.YtnkafagfkblfeaaDoor
