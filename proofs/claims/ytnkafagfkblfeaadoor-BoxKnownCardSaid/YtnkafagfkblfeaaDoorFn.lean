import Derived.Test.YtnkafagfkblfeaaDoorEnv
import Derived.Test.YtnkafagfkblfeaaDoorShelf
import Derived.Test.YtnkafagfkblfeaaDoorArg
import Derived.Shelf.Strings.SlTrimAscii
import Derived.KernelRfl
set_option linter.unusedVariables false
set_option linter.unusedSimpArgs false
set_option linter.unusedSectionVars false

namespace Go.Proofs.YtnkafagfkblfeaaDoor
open Go Sz Go.RowKit
set_option linter.unusedSimpArgs false

/-! Strings, lists of strings. -/

def decStr : AV → Option (List UInt8)
  | .str s => some s
  | _ => none

def decStrL : List AV → Option (List (List UInt8))
  | [] => some []
  | .str s :: r => (decStrL r).map (s :: ·)
  | _ => none

def decStrs : AV → Option (List (List UInt8))
  | .nils => some []
  | .sl xs => decStrL xs
  | _ => none

theorem decStrL_map : ∀ l : List (List UInt8), decStrL (l.map .str) = some l
  | [] => rfl
  | s :: r => by simp [decStrL, decStrL_map r]
theorem decStrL_inv : ∀ (xs : List AV) (l : List (List UInt8)), decStrL xs = some l → xs = l.map .str
  | [], l, h => by simp [decStrL] at h; subst h; rfl
  | x :: r, l, h => by
    cases x <;> simp [decStrL] at h
    obtain ⟨t, h1, rfl⟩ := h
    simp [decStrL_inv r t h1]
theorem decStrs_sl (l : List (List UInt8)) : decStrs (.sl (l.map .str)) = some l := decStrL_map l
theorem decStrs_nils : decStrs .nils = some [] := rfl
theorem decStrs_inv {v : AV} {l : List (List UInt8)} (h : decStrs v = some l) : v = .sl (l.map .str) ∨ (v = .nils ∧ l = []) := by
  cases v <;> simp [decStrs] at h
  · exact .inr ⟨rfl, h⟩
  · exact .inl (by rw [decStrL_inv _ _ h])
theorem strs_refs (l : List (List UInt8)) : AV.refsL (l.map .str) = 0 := by
  induction l with
  | nil => rfl
  | cons s r ih => simp [AV.refsL, AV.refs, ih]

theorem enters (f : Nat) {fn : Func} (hfn : Tryd.prog.funcs[f]? = some fn) (hname : (fn.name == "runtime.NumGoroutine") = false) (hbody : fn.body.isSome = true) (cargs : Array Value) (w : World) : (callFunc f cargs).run Tryd.prog w = .ok (.enter f cargs) w :=
  mixed_enter hfn hname hbody cargs w

theorem below_eq {w w' : World} (h : w' = w) : Below w.heap.size w w' := h ▸ Below.refl _ _

/-! The library's. -/

def maxStr : Nat := 4294967281

def trimPrefixS : KSpec := ⟨56, fun | [.str s, .str p] => some (.str (Lib.trimPrefix s p)) | _ => none⟩
theorem trimPrefixS_f : trimPrefixS.f = 56 := (rfl)
theorem trimPrefixS_at (s p : List UInt8) : trimPrefixS.S [.str s, .str p] = some (.str (Lib.trimPrefix s p)) := rfl
theorem trimPrefixS_ok : KSpecOK Tryd.prog trimPrefixS := fun args v hv => by
  unfold trimPrefixS at hv ⊢
  dsimp only at hv ⊢
  split at hv
  · rename_i s p
    cases hv
    exact prim_str2 (enters 56 Tryd.func56 rfl rfl) fun w _ => (Tryd.strings_TrimPrefix ⟨s.toArray⟩ ⟨p.toArray⟩ w).mono fun e w' ⟨h1, h2⟩ => ⟨by simpa using h1, below_eq h2⟩
  · cases hv

def trimSuffixS : KSpec := ⟨55, fun | [.str s, .str p] => if s.length < maxStr then some (.str (Lib.trimSuffix s p)) else none | _ => none⟩
theorem trimSuffixS_f : trimSuffixS.f = 55 := (rfl)
theorem trimSuffixS_at (s p : List UInt8) (h : s.length < maxStr) : trimSuffixS.S [.str s, .str p] = some (.str (Lib.trimSuffix s p)) := if_pos h
theorem trimSuffixS_ok : KSpecOK Tryd.prog trimSuffixS := fun args v hv => by
  unfold trimSuffixS at hv ⊢
  dsimp only at hv ⊢
  split at hv
  · rename_i s p
    split at hv
    · rename_i hl
      cases hv
      exact prim_str2 (enters 55 Tryd.func55 rfl rfl) fun w _ => (Tryd.strings_TrimSuffix ⟨s.toArray⟩ ⟨p.toArray⟩ w (by rw [Lib.size_eq]; unfold maxStr at hl; simp; omega)).mono fun e w' ⟨h1, h2⟩ => ⟨by simpa using h1, below_eq h2⟩
    · cases hv
  · cases hv

def splitS : KSpec := ⟨54, fun | [.str s, .str p] => if s.length < maxStr ∧ 1 ≤ p.length then some (.sl ((Lib.split s p).map .str)) else none | _ => none⟩
theorem splitS_f : splitS.f = 54 := (rfl)
theorem splitS_at (s p : List UInt8) (h : s.length < maxStr ∧ 1 ≤ p.length) : splitS.S [.str s, .str p] = some (.sl ((Lib.split s p).map .str)) := if_pos h
theorem splitS_ok : KSpecOK Tryd.prog splitS := fun args v hv => by
  unfold splitS at hv ⊢
  dsimp only at hv ⊢
  split at hv
  · rename_i s p
    split at hv
    · rename_i hl
      cases hv
      have e : (Lib.split s p).map AV.str = (Lib.splitB ⟨p.toArray⟩ 0 (Lib.countB ⟨s.toArray⟩ ⟨p.toArray⟩) ⟨s.toArray⟩).map fun x => AV.str x.data.toList := by
        have := Lib.splitB_data ⟨p.toArray⟩ 0 (Lib.countB ⟨s.toArray⟩ ⟨p.toArray⟩) ⟨s.toArray⟩
        rw [show (fun x : ByteArray => AV.str x.data.toList) = AV.str ∘ (fun x => x.data.toList) from rfl, ← List.map_map, this]
        simp [Lib.split, Lib.countB]
      rw [e]
      refine prim_strs (el := 9) (enters 54 Tryd.func54 rfl rfl) fun w hw => (Tryd.strings_Split_shaped ⟨s.toArray⟩ ⟨p.toArray⟩ w hw (by rw [Lib.size_eq]; unfold maxStr at hl; simp; omega) (by rw [Lib.size_eq]; simp; omega)).mono fun e w' ⟨h1, h2⟩ => ⟨?_, h2⟩
      rw [h1, Lib.splitB_all _ (by rw [Lib.size_eq]; simp; omega) 0 _ _ rfl]
    · cases hv
  · cases hv

def joinS : KSpec := ⟨63, fun | [x, .str p] => (match decStrs x with | some l => if (Lib.join l p).length ≤ 140737488355328 ∧ l.length ≤ 140737488355328 then some (.str (Lib.join l p)) else none | none => none) | _ => none⟩
theorem joinS_f : joinS.f = 63 := (rfl)
theorem joinS_at (x : AV) (l : List (List UInt8)) (p : List UInt8) (hx : decStrs x = some l) (h : (Lib.join l p).length ≤ 140737488355328 ∧ l.length ≤ 140737488355328) : joinS.S [x, .str p] = some (.str (Lib.join l p)) := by
  unfold joinS
  dsimp only
  rw [hx]
  exact if_pos h
theorem joinS_ok : KSpecOK Tryd.prog joinS := fun args v hv => by
  unfold joinS at hv ⊢
  dsimp only at hv ⊢
  split at hv
  · rename_i x p
    split at hv
    · rename_i l hx
      split at hv
      · rename_i hl
        cases hv
        obtain ⟨k1, k2⟩ := prim_join (P := Tryd.prog) (f := 63) (xs := l) (p := p) (r := Lib.join l p) (enters 63 Tryd.func63 rfl rfl) (fun he a c w => by
            subst he
            exact (Tryd.strings_Join_none a c ⟨p.toArray⟩ w).mono fun e w' ⟨h1, h2⟩ => ⟨h1, below_eq h2⟩)
          (fun bk o c w hc hb hcap => by
            have e1 : (l.map fun x => (⟨x.toArray⟩ : ByteArray)).map (fun x => x.data.toList) = l := by
              rw [List.map_map]
              exact (List.map_congr_left fun x _ => by simp).trans (List.map_id l)
            have := Tryd.strings_Join bk o c (l.map fun x => ⟨x.toArray⟩) ⟨p.toArray⟩ w hc hb (by simpa using hl.2) (by simpa using hcap) (by rw [e1]; exact hl.1)
            rw [e1, List.length_map] at this
            exact this)
        rcases decStrs_inv hx with rfl | ⟨rfl, rfl⟩
        · exact k1
        · exact k2 rfl
      · cases hv
    · cases hv
  · cases hv

end Go.Proofs.YtnkafagfkblfeaaDoor

namespace Go.Proofs.YtnkafagfkblfeaaDoor
open Go Sz
set_option linter.unusedSimpArgs false
attribute [local simp] evCode_skip evCode_reg evCode_dreg evCode_seq evCode_cond evCode_block evCode_exit evCode_ret evSteps_nil evSteps_op evSteps_opg evSteps_call evSteps_callg evSteps_callv evSteps_callvg evTr_nil evTr_cons evStep_op evStep_opg evStep_call evStep_callg evStep_callv evStep_callvg ldId chkTr
  evOp_mov evOp_pick evOp_box evOp_bld evOp_bsl evOp_ld evOp_st evOp_nck evOp_bin evOp_beq evOp_ceq evOp_peq evOp_not evOp_neg evOp_xor evOp_cvi evOp_cvss evOp_cvis evOp_cvsb evOp_mki evOp_mkf evOp_mkm evOp_mks evOp_sls evOp_slv evOp_fad evOp_fld1 evOp_fldn evOp_iad evOp_ixs evOp_ext evOp_lens evOp_lenv evOp_mx evOp_mn evOp_app evOp_bs0 evOp_snil evOp_clr
  FM_ev ev_const FM_put put_none FM_unwanted lk_hit lk_miss lk_nil FM_clear FM_clearB trues pick gc_FM gc_FM0 incK snds renM allM evB_fm enumA cells_agg cells_bool cells_int cells_str cells_nilp cells_ptr cells_ip cells_nils cells_sl cells_vec cells_nilm cells_map cells_nilfn cells_fn cells_nili cells_iface ldA row_mk get_mk set_mk mark_mk alloc_mk' trunc_mk binA resAll_nil resAll_cons FM_resT FM_resC oneOf finish_mk frz_undef frz_bool frz_int frz_str frz_nilp frz_ptr frz_ip frz_nils frz_sl frz_nilm frz_map frz_nilfn frz_fn frz_nili frz_iface frz_old frz_agg frz_tuple frzL_nil frzL_cons kill_nil kill_cons chunk_zero chunk_succ AV.refs AV.refsL evCall_spec lookF_nil lookF_cons callS_nil callS_one clones cloneS_f cloneS_nils cloneS_sl0 fillA putAt_nil putAt_cons evCode_loop bgn_mk aft_mk keeps objsAt ren renId AV.top lowObj h0 succ_le_f elemsA_nils elemsA_vec elemsA_str evOp_die evOp_lkp evOp_cvbs lookA scal_bool scal_int scal_str scal_nils scal_sl scal_tuple scal_agg scal1_bool scal1_int scal1_str scal1_nils scal1_sl scal1_agg

/-! Where a string stands in a list. -/

def idx (s : List UInt8) : List (List UInt8) → Option Nat
  | [] => none
  | x :: r => if s == x then some 0 else (idx s r).map (· + 1)

def idxI (s : List UInt8) (l : List (List UInt8)) : Int := match idx s l with | some i => (i : Int) | none => -1

theorem c57_loop (C : Nat → List AV → Heap → Option (AV × Heap)) (n : Nat) (l : List (List UInt8)) (s : List UInt8) (hl : l.length < 4611686018427387904) : ∀ post pre m, l = pre ++ post → post.length < m →
    aft 0 0 (loopH (evCode C n c57_b0) c57_m0 0 m (c57_f0 (.sl (l.map .str)) (.str s) (.int .i64 l.length) (.int .i64 pre.length)) ⟨0, [], 0, 0⟩) =
      match idx s post with
      | some i => some (.ret, FM 19 [(4, .int .i64 (pre.length + i : Nat))], ⟨0, [], 0, 0⟩)
      | none => some (.exit 0, FM 19 [], ⟨0, [], 0, 0⟩)
  | [], pre, m + 1, e, _ => by
    subst e
    simp [idx, loopH_succ, c57_b0]
  | o :: post, pre, m + 1, e, hm => by
    have ih := c57_loop C n l s hl post (pre ++ [o]) m (by simp [e]) (by rw [List.length_cons] at hm; omega)
    have h1 : l[pre.length]? = some o := by rw [e]; simp
    have h3 : IntKind.i64.wrap ((pre.length : Int) + 1) = (pre.length : Int) + 1 := by
      rw [wrap_succ (by rw [e] at hl; simp at hl; omega)]; simp
    have h5 : AV.refsL (l.map .str) = 0 := strs_refs l
    have h6 : (pre.length : Int) < (l.length : Int) := by rw [e, List.length_append, List.length_cons]; omega
    simp only [List.length_append, List.length_cons, List.length_nil, Nat.zero_add, Int.natCast_add, Int.natCast_one] at ih
    rw [loopH_succ]
    cases hp : s == o with
    | true => simp [idx, c57_b0, c57_m0, h1, h3, h5, h6, hp]
    | false =>
      simp [idx, c57_b0, c57_m0, h1, h3, h5, h6, hp]
      refine Eq.trans ih ?_
      cases idx s post with
      | none => rfl
      | some i =>
        have e1 : (pre.length : Int) + 1 + (i : Int) = (pre.length : Int) + ((i : Int) + 1) := by omega
        simp [e1]

def indexS : KSpec := ⟨57, fun | [x, .str s] => (match decStrs x with | some l => if l.length < 4611686018427387904 then some (.int .i64 (idxI s l)) else none | none => none) | _ => none⟩
theorem indexS_f : indexS.f = 57 := (rfl)
theorem indexS_at (x : AV) (l : List (List UInt8)) (s : List UInt8) (hx : decStrs x = some l) (h : l.length < 4611686018427387904) : indexS.S [x, .str s] = some (.int .i64 (idxI s l)) := by
  unfold indexS
  dsimp only
  rw [hx]
  exact if_pos h
theorem indexS_ok : KSpecOK Tryd.prog indexS := fun args v hv => by
  unfold indexS at hv ⊢
  dsimp only at hv ⊢
  split at hv
  · rename_i x s
    split at hv
    · rename_i l hx
      split at hv
      · rename_i hl
        cases hv
        rcases decStrs_inv hx with rfl | ⟨rfl, rfl⟩
        · refine prim_of (n := l.length + 2) (h' := h0) (envOf_ok (ss := []) (by simp)) ?_ rfl (by simp [AV.refsL, AV.refs, strs_refs])
          have h5 : AV.refsL (l.map .str) = 0 := strs_refs l
          have h := c57_loop (evCall (envOf []) (l.length + 1)) (l.length + 1) l s hl l [] (l.length + 1) rfl (by omega)
          simp only [List.length_nil] at h
          unfold idxI
          cases hi : idx s l with
          | none =>
            rw [hi] at h
            simp [run57, c57, c57_m0, h5] at h ⊢
            simp [h]
          | some i =>
            rw [hi] at h
            simp [run57, c57, c57_m0, h5] at h ⊢
            simp [h]
        · refine prim_of (n := 2) (h' := h0) (envOf_ok (ss := []) (by simp)) ?_ rfl (by simp [AV.refsL, AV.refs])
          simp [run57, c57, c57_m0, c57_b0, loopH_succ, idxI, idx]
      · cases hv
    · cases hv
  · cases hv

theorem idxI_nonneg (s : List UInt8) (l : List (List UInt8)) : decide (0 ≤ idxI s l) = (idx s l).isSome := by
  unfold idxI
  cases idx s l with
  | none => rfl
  | some i => simp

def containsS : KSpec := ⟨61, fun | [x, .str s] => (match decStrs x with | some l => if l.length < 4611686018427387904 then some (.bool (idx s l).isSome) else none | none => none) | _ => none⟩
theorem containsS_f : containsS.f = 61 := (rfl)
theorem containsS_at (x : AV) (l : List (List UInt8)) (s : List UInt8) (hx : decStrs x = some l) (h : l.length < 4611686018427387904) : containsS.S [x, .str s] = some (.bool (idx s l).isSome) := by
  unfold containsS
  dsimp only
  rw [hx]
  exact if_pos h
theorem containsS_ok : KSpecOK Tryd.prog containsS := fun args v hv => by
  unfold containsS at hv ⊢
  dsimp only at hv ⊢
  split at hv
  · rename_i x s
    split at hv
    · rename_i l hx
      split at hv
      · rename_i hl
        cases hv
        have h1 := indexS_at x l s hx hl
        have h2 := idxI_nonneg s l
        rcases decStrs_inv hx with rfl | ⟨rfl, rfl⟩
        · refine prim_of (n := 3) (h' := h0) (envOf_ok (ss := [indexS]) (by simp [indexS_ok])) ?_ rfl (by simp [AV.refsL, AV.refs, strs_refs])
          have h5 : AV.refsL (l.map .str) = 0 := strs_refs l
          simp [run61, c61, h5, indexS_f, h1, h2]
        · refine prim_of (n := 3) (h' := h0) (envOf_ok (ss := [indexS]) (by simp [indexS_ok])) ?_ rfl (by simp [AV.refsL, AV.refs])
          simp [run61, c61, indexS_f, h1, h2]
      · cases hv
    · cases hv
  · cases hv

/-! A name. -/

def cutset : List UInt8 := [97, 98, 99, 100, 101, 102, 103, 104, 105, 106, 107, 108, 109, 110, 111, 112, 113, 114, 115, 116, 117, 118, 119, 120, 121, 122, 48, 49, 50, 51, 52, 53, 54, 55, 56, 57, 95]

def trimC (s : List UInt8) : List UInt8 := (s.reverse.dropWhile (cutset.contains ·)).reverse.dropWhile (cutset.contains ·)

def trimS : KSpec := ⟨79, fun | [.str s, .str c] => if s.length < maxStr ∧ c = cutset then some (.str (trimC s)) else none | _ => none⟩
theorem trimS_f : trimS.f = 79 := (rfl)
theorem trimS_at (s : List UInt8) (h : s.length < maxStr) : trimS.S [.str s, .str cutset] = some (.str (trimC s)) := if_pos ⟨h, rfl⟩

def nameK (s : List UInt8) : Bool := match s with
  | [] => false
  | c :: r => decide (r.length < 16) && decide (97 ≤ c.toNat) && decide (c.toNat ≤ 122) && (trimC s == [])

def nameS : KSpec := ⟨60, fun | [.str s] => some (.bool (nameK s)) | _ => none⟩
theorem nameS_f : nameS.f = 60 := (rfl)
theorem nameS_at (s : List UInt8) : nameS.S [.str s] = some (.bool (nameK s)) := rfl
theorem nameS_ok (hT : KSpecOK Tryd.prog trimS) : KSpecOK Tryd.prog nameS := fun args v hv => by
  unfold nameS at hv ⊢
  dsimp only at hv ⊢
  split at hv
  · rename_i s
    cases hv
    refine prim_of (n := 3) (h' := h0) (envOf_ok (ss := [trimS]) (by simp [hT])) ?_ rfl (by simp [AV.refsL, AV.refs])
    have ht : s.length < maxStr → trimS.S [.str s, .str [97, 98, 99, 100, 101, 102, 103, 104, 105, 106, 107, 108, 109, 110, 111, 112, 113, 114, 115, 116, 117, 118, 119, 120, 121, 122, 48, 49, 50, 51, 52, 53, 54, 55, 56, 57, 95]] = some (.str (trimC s)) := trimS_at s
    cases s with
    | nil => simp [run60, c60, nameK, trimS_f]
    | cons c r =>
      by_cases h1 : (16 : Int) < ((r.length : Int) + 1)
      · have : ¬ r.length < 16 := by omega
        simp [run60, c60, nameK, trimS_f, h1, this]
      · have h1' : r.length < 16 := by omega
        have ht := ht (by unfold maxStr; simp; omega)
        by_cases h2 : (c.toNat : Int) < 97
        · have : ¬ 97 ≤ c.toNat := by omega
          simp [run60, c60, nameK, trimS_f, h1, h2, this]
        · have h2' : 97 ≤ c.toNat := by omega
          by_cases h3 : (122 : Int) < (c.toNat : Int)
          · have : ¬ c.toNat ≤ 122 := by omega
            simp [run60, c60, nameK, trimS_f, h1, h2, h3, this]
          · have h3' : c.toNat ≤ 122 := by omega
            simp [run60, c60, nameK, h1, h2, h3, h1', h2', h3', trimS_f, ht]
  · cases hv

end Go.Proofs.YtnkafagfkblfeaaDoor

namespace Go.Proofs.YtnkafagfkblfeaaDoor
open Go Sz Go.RowKit

theorem trimS_ok : KSpecOK Tryd.prog trimS := fun args v hv => by
  unfold trimS at hv ⊢
  dsimp only at hv ⊢
  split at hv
  · rename_i s c
    split at hv
    · rename_i hl
      obtain ⟨hl, rfl⟩ := hl
      cases hv
      refine prim_str2 (enters 79 Tryd.func79 rfl rfl) fun w _ => (Any.strings_Trim_laid Tryd.lays160 (by kernel_rfl) ⟨s.toArray⟩ ⟨cutset.toArray⟩ w (by rw [Lib.size_eq]; unfold maxStr at hl; simp; omega) (by decide) (ascii_of_all (by decide))).mono fun e w' ⟨h1, h2⟩ => ⟨?_, h2⟩
      rw [h1]
      rfl
    · cases hv
  · cases hv

end Go.Proofs.YtnkafagfkblfeaaDoor

namespace Go.Proofs.YtnkafagfkblfeaaDoor
open Go Sz
set_option linter.unusedSimpArgs false
attribute [local simp] evCode_skip evCode_reg evCode_dreg evCode_seq evCode_cond evCode_block evCode_exit evCode_ret evSteps_nil evSteps_op evSteps_opg evSteps_call evSteps_callg evSteps_callv evSteps_callvg evTr_nil evTr_cons evStep_op evStep_opg evStep_call evStep_callg evStep_callv evStep_callvg ldId chkTr
  evOp_mov evOp_pick evOp_box evOp_bld evOp_bsl evOp_ld evOp_st evOp_nck evOp_bin evOp_beq evOp_ceq evOp_peq evOp_not evOp_neg evOp_xor evOp_cvi evOp_cvss evOp_cvis evOp_cvsb evOp_mki evOp_mkf evOp_mkm evOp_mks evOp_sls evOp_slv evOp_fad evOp_fld1 evOp_fldn evOp_iad evOp_ixs evOp_ext evOp_lens evOp_lenv evOp_mx evOp_mn evOp_app evOp_bs0 evOp_snil evOp_clr
  FM_ev ev_const FM_put put_none FM_unwanted lk_hit lk_miss lk_nil FM_clear FM_clearB trues pick gc_FM gc_FM0 incK snds renM allM evB_fm enumA cells_agg cells_bool cells_int cells_str cells_nilp cells_ptr cells_ip cells_nils cells_sl cells_vec cells_nilm cells_map cells_nilfn cells_fn cells_nili cells_iface ldA row_mk get_mk set_mk mark_mk alloc_mk' trunc_mk binA resAll_nil resAll_cons FM_resT FM_resC oneOf finish_mk frz_undef frz_bool frz_int frz_str frz_nilp frz_ptr frz_ip frz_nils frz_sl frz_nilm frz_map frz_nilfn frz_fn frz_nili frz_iface frz_old frz_agg frz_tuple frzL_nil frzL_cons kill_nil kill_cons chunk_zero chunk_succ AV.refs AV.refsL evCall_spec lookF_nil lookF_cons callS_nil callS_one clones cloneS_f cloneS_nils cloneS_sl0 fillA putAt_nil putAt_cons evCode_loop bgn_mk aft_mk keeps objsAt ren renId AV.top lowObj h0 succ_le_f elemsA_nils elemsA_vec elemsA_str evOp_die evOp_lkp evOp_cvbs lookA scal_bool scal_int scal_str scal_nils scal_sl scal_tuple scal_agg scal1_bool scal1_int scal1_str scal1_nils scal1_sl scal1_agg

/-! Labels. -/

/-- A label's number. -/
def labN (x : BitVec 64) : Int := (x.toNat : Int)
theorem labN_inj {x y : BitVec 64} : labN x = labN y ↔ x = y := by
  unfold labN
  rw [Int.ofNat_inj, BitVec.toNat_inj]
theorem labN_zero : labN 0#64 = 0 := rfl
abbrev labA (x : BitVec 64) : AV := .int .u64 (labN x)
def decLab : AV → Option (BitVec 64)
  | .int .u64 n => if labN (BitVec.ofInt 64 n) = n then some (BitVec.ofInt 64 n) else none
  | _ => none
theorem ofInt_labN (x : BitVec 64) : BitVec.ofInt 64 (labN x) = x := by simp [labN]
theorem decLab_at (x : BitVec 64) : decLab (.int .u64 (labN x)) = some x := by
  simp only [decLab, ofInt_labN, if_true]
theorem decLab_inv {v : AV} {x : BitVec 64} (h : decLab v = some x) : v = .int .u64 (labN x) := by
  unfold decLab at h
  split at h
  · rename_i n
    split at h
    · rename_i hn
      cases h
      rw [hn]
    · cases h
  · cases h

theorem wrap_lab (x : BitVec 64) : IntKind.u64.wrap (x.toNat : Int) = labN x := by
  have h := x.isLt
  unfold labN
  rw [IntKind.wrap_u64]
  omega
theorem ofInt_lab (x : BitVec 64) : BitVec.ofInt IntKind.u64.bits (labN x) = x := ofInt_labN x
theorem bits_or (x y : BitVec 64) : bitsI .or .u64 (labN x) (labN y) = labN (x ||| y) := by
  unfold bitsI
  simp only [ofInt_lab]
  exact wrap_lab _
theorem bits_and (x y : BitVec 64) : bitsI .and .u64 (labN x) (labN y) = labN (x &&& y) := by
  unfold bitsI
  simp only [ofInt_lab]
  exact wrap_lab _
theorem bits_andNot (x y : BitVec 64) : bitsI .andNot .u64 (labN x) (labN y) = labN (x &&& ~~~y) := by
  unfold bitsI
  simp only [ofInt_lab]
  exact wrap_lab _

def leqK (x y : BitVec 64) : Bool := x &&& ~~~y == 0
def leqS : KSpec := ⟨28, fun | [a, b] => (match decLab a, decLab b with | some x, some y => some (.bool (leqK x y)) | _, _ => none) | _ => none⟩
theorem leqS_f : leqS.f = 28 := (rfl)
theorem leqS_at (x y : BitVec 64) : leqS.S [.int .u64 (labN x), .int .u64 (labN y)] = some (.bool (leqK x y)) := by
  simp only [leqS, decLab_at]
theorem leqS_ok : KSpecOK Tryd.prog leqS := fun args v hv => by
  unfold leqS at hv ⊢
  dsimp only at hv ⊢
  split at hv
  · rename_i a b
    split at hv
    · rename_i x y hx hy
      cases hv
      rw [decLab_inv hx, decLab_inv hy]
      refine prim_of (n := 3) (h' := h0) (envOf_ok (ss := []) (by simp)) ?_ rfl (by simp [AV.refsL, AV.refs])
      have e : decide (labN (x &&& ~~~y) = 0) = leqK x y := by
        unfold leqK
        rw [← labN_zero]
        simp only [labN_inj]
        rfl
      simp [run28, c28, bits_andNot, e]
    · cases hv
  · cases hv

def meetS : KSpec := ⟨37, fun | [a, b] => (match decLab a, decLab b with | some x, some y => some (labA (x &&& y)) | _, _ => none) | _ => none⟩
theorem meetS_f : meetS.f = 37 := (rfl)
theorem meetS_at (x y : BitVec 64) : meetS.S [.int .u64 (labN x), .int .u64 (labN y)] = some (labA (x &&& y)) := by
  simp only [meetS, decLab_at]
theorem meetS_ok : KSpecOK Tryd.prog meetS := fun args v hv => by
  unfold meetS at hv ⊢
  dsimp only at hv ⊢
  split at hv
  · rename_i a b
    split at hv
    · rename_i x y hx hy
      cases hv
      rw [decLab_inv hx, decLab_inv hy]
      refine prim_of (n := 3) (h' := h0) (envOf_ok (ss := []) (by simp)) ?_ rfl (by simp [AV.refsL, AV.refs])
      simp [run37, c37, bits_and]
    · cases hv
  · cases hv

/-! All of many. -/

def decLabL : List AV → Option (List (BitVec 64))
  | [] => some []
  | v :: r => match decLab v, decLabL r with
    | some x, some l => some (x :: l)
    | _, _ => none
def decLabs : AV → Option (List (BitVec 64))
  | .nils => some []
  | .sl xs => decLabL xs
  | _ => none
theorem decLabL_inv : ∀ (xs : List AV) (l : List (BitVec 64)), decLabL xs = some l → xs = l.map labA
  | [], l, h => by simp [decLabL] at h; subst h; rfl
  | x :: r, l, h => by
    unfold decLabL at h
    split at h
    · rename_i y t h1 h2
      cases h
      rw [decLab_inv h1, decLabL_inv r t h2]
      rfl
    · cases h
theorem decLabL_map : ∀ l : List (BitVec 64), decLabL (l.map labA) = some l
  | [] => rfl
  | x :: r => by
    rw [List.map_cons]
    unfold decLabL
    rw [decLabL_map r, decLab_at]
theorem decLabs_sl (l : List (BitVec 64)) : decLabs (.sl (l.map labA)) = some l := decLabL_map l
theorem decLabs_inv {v : AV} {l : List (BitVec 64)} (h : decLabs v = some l) : v = .sl (l.map labA) ∨ (v = .nils ∧ l = []) := by
  cases v <;> simp [decLabs] at h
  · exact .inr ⟨rfl, h⟩
  · exact .inl (by rw [decLabL_inv _ _ h])
theorem labs_refs (l : List (BitVec 64)) : AV.refsL (l.map labA) = 0 := by
  induction l with
  | nil => rfl
  | cons s r ih => simp [AV.refsL, AV.refs, ih]

def joinK (l : List (BitVec 64)) : BitVec 64 := l.foldl (· ||| ·) 0

theorem c27_loop (C : Nat → List AV → Heap → Option (AV × Heap)) (n : Nat) (l : List (BitVec 64)) (hl : l.length < 4611686018427387904) : ∀ post pre m (acc : BitVec 64), l = pre ++ post → post.length < m →
    aft 0 0 (loopH (evCode C n c27_b0) c27_m0 0 m (c27_f0 (labA acc) (.sl (l.map labA)) (.int .i64 l.length) (.int .i64 pre.length)) ⟨0, [], 0, 0⟩) =
      some (.exit 0, FM 17 [(3, labA (post.foldl (· ||| ·) acc))], ⟨0, [], 0, 0⟩)
  | [], pre, m + 1, acc, e, _ => by
    subst e
    simp [loopH_succ, c27_b0]
  | o :: post, pre, m + 1, acc, e, hm => by
    have ih := c27_loop C n l hl post (pre ++ [o]) m (acc ||| o) (by simp [e]) (by rw [List.length_cons] at hm; omega)
    have h1 : l[pre.length]? = some o := by rw [e]; simp
    have h3 : IntKind.i64.wrap ((pre.length : Int) + 1) = (pre.length : Int) + 1 := by
      rw [wrap_succ (by rw [e] at hl; simp at hl; omega)]; simp
    have h5 : AV.refsL (l.map labA) = 0 := labs_refs l
    have h6 : (pre.length : Int) < (l.length : Int) := by rw [e, List.length_append, List.length_cons]; omega
    simp only [List.length_append, List.length_cons, List.length_nil, Nat.zero_add, Int.natCast_add, Int.natCast_one] at ih
    rw [loopH_succ]
    simp [c27_b0, c27_m0, h1, h3, h5, h6, bits_or]
    exact ih

def labJoinS : KSpec := ⟨27, fun | [x] => (match decLabs x with | some l => if l.length < 4611686018427387904 then some (labA (joinK l)) else none | none => none) | _ => none⟩
theorem labJoinS_f : labJoinS.f = 27 := (rfl)
theorem labJoinS_at (x : AV) (l : List (BitVec 64)) (hx : decLabs x = some l) (h : l.length < 4611686018427387904) : labJoinS.S [x] = some (labA (joinK l)) := by
  unfold labJoinS
  dsimp only
  rw [hx]
  exact if_pos h
theorem labJoinS_ok : KSpecOK Tryd.prog labJoinS := fun args v hv => by
  unfold labJoinS at hv ⊢
  dsimp only at hv ⊢
  split at hv
  · rename_i x
    split at hv
    · rename_i l hx
      split at hv
      · rename_i hl
        cases hv
        rcases decLabs_inv hx with rfl | ⟨rfl, rfl⟩
        · refine prim_of (n := l.length + 2) (h' := h0) (envOf_ok (ss := []) (by simp)) ?_ rfl (by simp [AV.refsL, AV.refs, labs_refs])
          have h5 : AV.refsL (l.map labA) = 0 := labs_refs l
          have h := c27_loop (evCall (envOf []) (l.length + 1)) (l.length + 1) l hl l [] (l.length + 1) 0#64 rfl (by omega)
          simp only [List.length_nil, show labA 0#64 = AV.int .u64 0 from rfl] at h
          simp [run27, c27, c27_m0, h5, labN_zero] at h ⊢
          simp [h, joinK]
        · refine prim_of (n := 2) (h' := h0) (envOf_ok (ss := []) (by simp)) ?_ rfl (by simp [AV.refsL, AV.refs])
          simp [run27, c27, c27_m0, c27_b0, loopH_succ, joinK, labN_zero]
      · cases hv
    · cases hv
  · cases hv

/-! Names. -/

def goodP (pre : List (List UInt8)) : List (List UInt8) → Bool
  | [] => true
  | x :: r => nameK x && !(idx x pre).isSome && goodP (pre ++ [x]) r
def goodN (n : List (List UInt8)) : Bool := decide (1 ≤ n.length) && decide (n.length ≤ 64) && goodP [] n

theorem all_str (l : List (List UInt8)) : ((l.map AV.str).all fun x => (x.cells?.map List.length) == some 1) = true := by
  induction l with
  | nil => rfl
  | cons x r ih => simp [AV.cells?] at ih ⊢

set_option maxRecDepth 100000 in
set_option maxHeartbeats 4000000 in
theorem c32_loop (l : List (List UInt8)) (hl : l.length ≤ 64) : ∀ post pre m, l = pre ++ post → post.length < m →
    aft 0 0 (loopH (evCode (evCall (envOf [nameS, containsS]) 70) 70 c32_b0) c32_m0 0 m (c32_f0 (.sl (l.map .str)) (.sl (l.map .str)) (.int .i64 l.length) (.int .i64 pre.length)) ⟨0, [], 0, 0⟩) =
      if goodP pre post then some (.exit 0, FM 31 [], ⟨0, [], 0, 0⟩) else some (.ret, FM 31 [(2, .bool false)], ⟨0, [], 0, 0⟩)
  | [], pre, m + 1, e, _ => by
    subst e
    simp [goodP, loopH_succ, c32_b0]
  | o :: post, pre, m + 1, e, hm => by
    have ih := c32_loop l hl post (pre ++ [o]) m (by simp [e]) (by rw [List.length_cons] at hm; omega)
    have h1 : l[pre.length]? = some o := by rw [e]; simp
    have h3 : IntKind.i64.wrap ((pre.length : Int) + 1) = (pre.length : Int) + 1 := by
      rw [wrap_succ (by rw [e] at hl; simp at hl; omega)]; simp
    have h5 : AV.refsL (l.map .str) = 0 := strs_refs l
    have h6 : (pre.length : Int) < (l.length : Int) := by rw [e, List.length_append, List.length_cons]; omega
    have h7 : l.take pre.length = pre := by rw [e]; simp
    have h8 := containsS_at (.sl (pre.map .str)) pre o (decStrs_sl pre) (by rw [e] at hl; simp at hl; omega)
    have h9 := all_str l
    have h10 : sliceC l.length l.length none (some (.int .i64 pre.length)) none = some (0, pre.length, none) := by
      have : (pre.length : Int) ≤ (l.length : Int) := by omega
      simp [sliceC, sliceB, this]
    simp only [List.length_append, List.length_cons, List.length_nil, Nat.zero_add, Int.natCast_add, Int.natCast_one] at ih
    rw [loopH_succ]
    cases hn : nameK o with
    | false => simp [goodP, c32_b0, c32_m0, h1, h3, h5, h6, hn, nameS_f, nameS_at, containsS_f]
    | true =>
      cases hi : (idx o pre).isSome with
      | true => simp [goodP, c32_b0, c32_m0, h1, h3, h5, h6, h7, h8, h9, hn, hi, nameS_f, nameS_at, containsS_f, h10, ← List.map_take]
      | false =>
        simp [goodP, c32_b0, c32_m0, h1, h3, h5, h6, h7, h8, h9, hn, hi, nameS_f, nameS_at, containsS_f, h10, ← List.map_take]
        exact ih

def goodS : KSpec := ⟨32, fun | [x] => (match decStrs x with | some l => some (.bool (goodN l)) | none => none) | _ => none⟩
theorem goodS_f : goodS.f = 32 := (rfl)
theorem goodS_at (x : AV) (l : List (List UInt8)) (hx : decStrs x = some l) : goodS.S [x] = some (.bool (goodN l)) := by
  simp only [goodS, hx]
theorem goodS_ok (hT : KSpecOK Tryd.prog trimS) : KSpecOK Tryd.prog goodS := fun args v hv => by
  unfold goodS at hv ⊢
  dsimp only at hv ⊢
  split at hv
  · rename_i x
    split at hv
    · rename_i l hx
      cases hv
      rcases decStrs_inv hx with rfl | ⟨rfl, rfl⟩
      · refine prim_of (n := 71) (h' := h0) (envOf_ok (ss := [nameS, containsS]) (by simp [nameS_ok hT, containsS_ok])) ?_ rfl (by simp [AV.refsL, AV.refs, strs_refs])
        have h5 : AV.refsL (l.map .str) = 0 := strs_refs l
        by_cases h1 : (l.length : Int) < 1
        · have : ¬ 1 ≤ l.length := by omega
          simp [run32, c32, goodN, h1, this, nameS_f, containsS_f]
        · have h1' : 1 ≤ l.length := by omega
          by_cases h2 : (64 : Int) < (l.length : Int)
          · have : ¬ l.length ≤ 64 := by omega
            simp [run32, c32, goodN, h1, h2, this, nameS_f, containsS_f]
          · have h2' : l.length ≤ 64 := by omega
            have h := c32_loop l h2' l [] 70 rfl (by omega)
            simp only [List.length_nil] at h
            cases hg : goodP [] l with
            | true =>
              rw [hg] at h
              simp [run32, c32, c32_m0, h5, goodN, h1, h2, h1', h2', hg, nameS_f, containsS_f] at h ⊢
              simp [h]
            | false =>
              rw [hg] at h
              simp [run32, c32, c32_m0, h5, goodN, h1, h2, h1', h2', hg, nameS_f, containsS_f] at h ⊢
              simp [h]
      · refine prim_of (n := 3) (h' := h0) (envOf_ok (ss := [nameS, containsS]) (by simp [nameS_ok hT, containsS_ok])) ?_ rfl (by simp [AV.refsL, AV.refs])
        simp [run32, c32, goodN, nameS_f, containsS_f]
    · cases hv
  · cases hv

end Go.Proofs.YtnkafagfkblfeaaDoor

namespace Go.Proofs.YtnkafagfkblfeaaDoor
open Go Sz
set_option linter.unusedSimpArgs false
attribute [local simp] evCode_skip evCode_reg evCode_dreg evCode_seq evCode_cond evCode_block evCode_exit evCode_ret evSteps_nil evSteps_op evSteps_opg evSteps_call evSteps_callg evSteps_callv evSteps_callvg evTr_nil evTr_cons evStep_op evStep_opg evStep_call evStep_callg evStep_callv evStep_callvg ldId chkTr
  evOp_mov evOp_pick evOp_box evOp_bld evOp_bsl evOp_ld evOp_st evOp_nck evOp_bin evOp_beq evOp_ceq evOp_peq evOp_not evOp_neg evOp_xor evOp_cvi evOp_cvss evOp_cvis evOp_cvsb evOp_mki evOp_mkf evOp_mkm evOp_mks evOp_sls evOp_slv evOp_fad evOp_fld1 evOp_fldn evOp_iad evOp_ixs evOp_ext evOp_lens evOp_lenv evOp_mx evOp_mn evOp_app evOp_bs0 evOp_snil evOp_clr
  FM_ev ev_const FM_put put_none FM_unwanted lk_hit lk_miss lk_nil FM_clear FM_clearB trues pick gc_FM gc_FM0 incK snds renM allM evB_fm enumA cells_agg cells_bool cells_int cells_str cells_nilp cells_ptr cells_ip cells_nils cells_sl cells_vec cells_nilm cells_map cells_nilfn cells_fn cells_nili cells_iface ldA row_mk get_mk set_mk mark_mk alloc_mk' trunc_mk binA resAll_nil resAll_cons FM_resT FM_resC oneOf finish_mk frz_undef frz_bool frz_int frz_str frz_nilp frz_ptr frz_ip frz_nils frz_sl frz_nilm frz_map frz_nilfn frz_fn frz_nili frz_iface frz_old frz_agg frz_tuple frzL_nil frzL_cons kill_nil kill_cons chunk_zero chunk_succ AV.refs AV.refsL evCall_spec lookF_nil lookF_cons callS_nil callS_one clones cloneS_f cloneS_nils cloneS_sl0 fillA putAt_nil putAt_cons evCode_loop bgn_mk aft_mk keeps objsAt ren renId AV.top lowObj h0 succ_le_f elemsA_nils elemsA_vec elemsA_str evOp_die evOp_lkp evOp_cvbs lookA scal_bool scal_int scal_str scal_nils scal_sl scal_tuple scal_agg scal1_bool scal1_int scal1_str scal1_nils scal1_sl scal1_agg

theorem shr_lab (x : BitVec 64) (i : Nat) : (labN x).fdiv (2 ^ i) = labN (x >>> i) := by
  unfold labN
  rw [BitVec.toNat_ushiftRight, Nat.shiftRight_eq_div_pow, Int.fdiv_eq_ediv_of_nonneg _ (Int.le_of_lt (Int.pow_pos (by decide)))]
  simp

/-- All bits of so many names. -/
def topK (n : List (List UInt8)) : BitVec 64 := if goodN n then BitVec.allOnes 64 >>> (64 - n.length) else 0

theorem goodN_len {n : List (List UInt8)} (h : goodN n = true) : 1 ≤ n.length ∧ n.length ≤ 64 := by
  unfold goodN at h
  simp only [Bool.and_eq_true, decide_eq_true_eq] at h
  exact h.1

def topS : KSpec := ⟨38, fun | [x] => (match decStrs x with | some l => some (labA (topK l)) | none => none) | _ => none⟩
theorem topS_f : topS.f = 38 := (rfl)
theorem topS_at (x : AV) (l : List (List UInt8)) (hx : decStrs x = some l) : topS.S [x] = some (labA (topK l)) := by
  simp only [topS, hx]
theorem topS_ok (hT : KSpecOK Tryd.prog trimS) : KSpecOK Tryd.prog topS := fun args v hv => by
  unfold topS at hv ⊢
  dsimp only at hv ⊢
  split at hv
  · rename_i x
    split at hv
    · rename_i l hx
      cases hv
      have hg := goodS_at x l hx
      rcases decStrs_inv hx with rfl | ⟨rfl, rfl⟩
      · refine prim_of (n := 3) (h' := h0) (envOf_ok (ss := [goodS]) (by simp [goodS_ok hT])) ?_ rfl (by simp [AV.refsL, AV.refs, strs_refs])
        have h5 : AV.refsL (l.map .str) = 0 := strs_refs l
        cases hl : goodN l with
        | false =>
          rw [hl] at hg
          simp [run38, c38, h5, goodS_f, hg, topK, hl, labN_zero]
        | true =>
          obtain ⟨g1, g2⟩ := goodN_len hl
          rw [hl] at hg
          have e1 : IntKind.i64.wrap (64 - (l.length : Int)) = ((64 - l.length : Nat) : Int) := by
            rw [IntKind.wrap_i64]; omega
          have e2 : ¬ ((64 - l.length : Nat) : Int) < 0 := by omega
          have e3 : (18446744073709551615 : Int).fdiv (2 ^ (64 - l.length)) = labN (BitVec.allOnes 64 >>> (64 - l.length)) := by
            rw [← shr_lab]; rfl
          have e4 : min (64 - l.length) IntKind.u64.bits = 64 - l.length := by
            have : IntKind.u64.bits = 64 := rfl
            omega
          simp [run38, c38, h5, goodS_f, hg, topK, hl, e1, e2, e3, e4]
      · refine prim_of (n := 3) (h' := h0) (envOf_ok (ss := [goodS]) (by simp [goodS_ok hT])) ?_ rfl (by simp [AV.refsL, AV.refs])
        have hl : goodN [] = false := rfl
        rw [hl] at hg
        simp [run38, c38, goodS_f, hg, topK, hl, labN_zero]
    · cases hv
  · cases hv

def fitsK (n : List (List UInt8)) (x : BitVec 64) : Bool := goodN n && leqK x (topK n)
def fitsS : KSpec := ⟨33, fun | [x, y] => (match decStrs x, decLab y with | some l, some b => some (.bool (fitsK l b)) | _, _ => none) | _ => none⟩
theorem fitsS_f : fitsS.f = 33 := (rfl)
theorem fitsS_at (x : AV) (l : List (List UInt8)) (b : BitVec 64) (hx : decStrs x = some l) : fitsS.S [x, .int .u64 (labN b)] = some (.bool (fitsK l b)) := by
  simp only [fitsS, hx, decLab_at]
theorem fitsS_ok (hT : KSpecOK Tryd.prog trimS) : KSpecOK Tryd.prog fitsS := fun args v hv => by
  unfold fitsS at hv ⊢
  dsimp only at hv ⊢
  split at hv
  · rename_i x y
    split at hv
    · rename_i l b hx hb
      cases hv
      rw [decLab_inv hb]
      have hg := goodS_at x l hx
      have ht := topS_at x l hx
      have hq := leqS_at b (topK l)
      have hr : x.refs = 0 := by
        rcases decStrs_inv hx with rfl | ⟨rfl, rfl⟩
        · simp [AV.refs, strs_refs]
        · rfl
      have hc : x = .sl (l.map .str) ∨ x = .nils := by
        rcases decStrs_inv hx with h | ⟨h, _⟩
        · exact .inl h
        · exact .inr h
      have h5 : AV.refsL (l.map .str) = 0 := strs_refs l
      refine prim_of (n := 3) (h' := h0) (envOf_ok (ss := [goodS, topS, leqS]) (by simp [goodS_ok hT, topS_ok hT, leqS_ok])) ?_ rfl (by simp [AV.refsL, AV.refs, hr])
      cases hl : goodN l with
      | false =>
        rw [hl] at hg
        rcases hc with rfl | rfl <;> simp [run33, c33, h5, goodS_f, topS_f, leqS_f, hg, fitsK, hl]
      | true =>
        rw [hl] at hg
        rcases hc with rfl | rfl <;> simp [run33, c33, h5, goodS_f, topS_f, leqS_f, hg, ht, hq, fitsK, hl]
    · cases hv
  · cases hv

def namesS : KSpec := ⟨39, fun | [] => some (.sl [.str [97], .str [98], .str [99]]) | _ => none⟩
theorem namesS_f : namesS.f = 39 := (rfl)
theorem namesS_at : namesS.S [] = some (.sl [.str [97], .str [98], .str [99]]) := rfl
theorem namesS_ok : KSpecOK Tryd.prog namesS := fun args v hv => by
  unfold namesS at hv ⊢
  dsimp only at hv ⊢
  split at hv
  · cases hv
    refine prim_of (n := 3) (E := envOf []) (h' := h0) (envOf_ok (ss := []) (by simp)) ?_ rfl rfl
    kernel_rfl
  · cases hv

end Go.Proofs.YtnkafagfkblfeaaDoor

namespace Go.Proofs.YtnkafagfkblfeaaDoor
open Go Sz
set_option linter.unusedSimpArgs false
attribute [local simp] evCode_skip evCode_reg evCode_dreg evCode_seq evCode_cond evCode_block evCode_exit evCode_ret evSteps_nil evSteps_op evSteps_opg evSteps_call evSteps_callg evSteps_callv evSteps_callvg evTr_nil evTr_cons evStep_op evStep_opg evStep_call evStep_callg evStep_callv evStep_callvg ldId chkTr
  evOp_mov evOp_pick evOp_box evOp_bld evOp_bsl evOp_ld evOp_st evOp_nck evOp_bin evOp_beq evOp_ceq evOp_peq evOp_not evOp_neg evOp_xor evOp_cvi evOp_cvss evOp_cvis evOp_cvsb evOp_mki evOp_mkf evOp_mkm evOp_mks evOp_sls evOp_slv evOp_fad evOp_fld1 evOp_fldn evOp_iad evOp_ixs evOp_ext evOp_lens evOp_lenv evOp_mx evOp_mn evOp_app evOp_bs0 evOp_snil evOp_clr
  FM_ev ev_const FM_put put_none FM_unwanted lk_hit lk_miss lk_nil FM_clear FM_clearB trues pick gc_FM gc_FM0 incK snds renM allM evB_fm enumA cells_agg cells_bool cells_int cells_str cells_nilp cells_ptr cells_ip cells_nils cells_sl cells_vec cells_nilm cells_map cells_nilfn cells_fn cells_nili cells_iface ldA row_mk get_mk set_mk mark_mk alloc_mk' trunc_mk binA resAll_nil resAll_cons FM_resT FM_resC oneOf finish_mk frz_undef frz_bool frz_int frz_str frz_nilp frz_ptr frz_ip frz_nils frz_sl frz_nilm frz_map frz_nilfn frz_fn frz_nili frz_iface frz_old frz_agg frz_tuple frzL_nil frzL_cons kill_nil kill_cons chunk_zero chunk_succ AV.refs AV.refsL evCall_spec lookF_nil lookF_cons callS_nil callS_one clones cloneS_f cloneS_nils cloneS_sl0 fillA putAt_nil putAt_cons evCode_loop bgn_mk aft_mk keeps objsAt ren renId AV.top lowObj h0 succ_le_f elemsA_nils elemsA_vec elemsA_str evOp_die evOp_lkp evOp_cvbs lookA scal_bool scal_int scal_str scal_nils scal_sl scal_tuple scal_agg scal1_bool scal1_int scal1_str scal1_nils scal1_sl scal1_agg

/-! A label's text. -/

def pickL (x : BitVec 64) : Nat → List (List UInt8) → List (List UInt8)
  | _, [] => []
  | i, s :: r => if x.getLsbD i then s :: pickL x (i + 1) r else pickL x (i + 1) r

theorem bit_lab (x : BitVec 64) (i : Nat) : bitsI .and .u64 (labN (x >>> i)) 1 = if x.getLsbD i then 1 else 0 := by
  have h1 : (1 : Int) = labN 1#64 := rfl
  rw [h1, bits_and]
  have h2 : (x >>> i) &&& 1#64 = if x.getLsbD i then 1#64 else 0#64 := by
    apply BitVec.eq_of_getLsbD_eq
    intro j hj
    rw [BitVec.getLsbD_and, BitVec.getLsbD_ushiftRight]
    cases j with
    | zero => cases x.getLsbD i <;> simp
    | succ j => cases x.getLsbD i <;> simp [BitVec.getLsbD_one]
  rw [h2]
  cases x.getLsbD i <;> rfl

set_option maxRecDepth 100000 in
set_option maxHeartbeats 4000000 in
theorem c35_loop (C : Nat → List AV → Heap → Option (AV × Heap)) (n : Nat) (l : List (List UInt8)) (x : BitVec 64) (hl : l.length ≤ 64) : ∀ post pre acc m, l = pre ++ post → acc ≠ [] → acc.length ≤ pre.length → post.length < m →
    aft 0 0 (loopH (evCode C n c35_b0) c35_m0 0 m (c35_f0 (labA x) (.vec 0 0 acc.length 1 acc.length) (.sl (l.map .str)) (.int .i64 l.length) (.int .i64 pre.length)) ⟨1, [.row (acc.map .str)], 0, 0⟩) =
      some (.exit 0, FM 33 [(5, .vec 0 0 (acc ++ pickL x pre.length post).length 1 (acc ++ pickL x pre.length post).length)], ⟨1, [.row ((acc ++ pickL x pre.length post).map .str)], 0, 0⟩)
  | [], pre, acc, m + 1, e, _, _, _ => by
    subst e
    have h5 : AV.refsL (acc.map .str) = 0 := strs_refs acc
    simp [pickL, loopH_succ, c35_b0, h5]
  | o :: post, pre, acc, m + 1, e, hne, ha, hm => by
    have ih1 := c35_loop C n l x hl post (pre ++ [o]) acc m (by simp [e]) hne (by simp; omega) (by rw [List.length_cons] at hm; omega)
    have ih2 := c35_loop C n l x hl post (pre ++ [o]) (acc ++ [o]) m (by simp [e]) (by simp) (by simp; omega) (by rw [List.length_cons] at hm; omega)
    have h1 : l[pre.length]? = some o := by rw [e]; simp
    have h3 : IntKind.i64.wrap ((pre.length : Int) + 1) = (pre.length : Int) + 1 := by
      rw [wrap_succ (by rw [e] at hl; simp at hl; omega)]; simp
    have h5 : AV.refsL (l.map .str) = 0 := strs_refs l
    have h5' : AV.refsL (acc.map .str) = 0 := strs_refs acc
    have h5'' : AV.refsL (acc.map .str ++ [.str o]) = 0 := by have := strs_refs (acc ++ [o]); simpa using this
    have h6 : (pre.length : Int) < (l.length : Int) := by rw [e, List.length_append, List.length_cons]; omega
    have h6' : pre.length ≤ 64 := by omega
    have h7 : min pre.length IntKind.u64.bits = pre.length := by
      have : IntKind.u64.bits = 64 := rfl
      omega
    have h8 : (acc.length + 1) * 16 ≤ 140737488355328 := by omega
    have h9 : acc.length + 1 < 9223372036854775808 := by omega
    have h10 : (acc.map AV.str).take acc.length = acc.map .str := by rw [List.take_of_length_le]; simp
    have h11 : ¬ ((pre.length : Int) < 0) := by omega
    have hb := bit_lab x pre.length
    simp only [List.length_append, List.length_cons, List.length_nil, Nat.zero_add, Int.natCast_add, Int.natCast_one, List.map_append, List.map_cons, List.map_nil] at ih1 ih2
    rw [loopH_succ]
    cases hx : x.getLsbD pre.length with
    | false =>
      rw [hx] at hb
      simp [pickL, c35_b0, c35_m0, h1, h3, h5, h5', h6, h7, h11, shr_lab, hb, hx]
      refine Eq.trans ih1 ?_
      simp
    | true =>
      rw [hx] at hb
      simp [pickL, c35_b0, c35_m0, h1, h3, h5, h5', h5'', h6, h7, h8, h9, h10, h11, shr_lab, hb, hx, elemsA]
      refine Eq.trans ih2 ?_
      simp [Nat.add_comm, Nat.add_left_comm, Nat.add_assoc]

def outV : List (List UInt8) → AV
  | [] => .nils
  | s :: r => .vec 0 0 (r.length + 1) 1 (r.length + 1)
def outH : List (List UInt8) → Heap
  | [] => ⟨0, [], 0, 0⟩
  | s :: r => ⟨1, [.row ((s :: r).map .str)], 0, 0⟩

set_option maxRecDepth 100000 in
set_option maxHeartbeats 4000000 in
theorem c35_loop0 (C : Nat → List AV → Heap → Option (AV × Heap)) (n : Nat) (l : List (List UInt8)) (x : BitVec 64) (hl : l.length ≤ 64) : ∀ post pre m, l = pre ++ post → post.length < m →
    aft 0 0 (loopH (evCode C n c35_b0) c35_m0 0 m (c35_f0 (labA x) .nils (.sl (l.map .str)) (.int .i64 l.length) (.int .i64 pre.length)) ⟨0, [], 0, 0⟩) =
      some (.exit 0, FM 33 [(5, outV (pickL x pre.length post))], outH (pickL x pre.length post))
  | [], pre, m + 1, e, _ => by
    subst e
    simp [pickL, loopH_succ, c35_b0, outV, outH]
  | o :: post, pre, m + 1, e, hm => by
    have ih1 := c35_loop0 C n l x hl post (pre ++ [o]) m (by simp [e]) (by rw [List.length_cons] at hm; omega)
    have ih2 := c35_loop C n l x hl post (pre ++ [o]) [o] m (by simp [e]) (by simp) (by simp) (by rw [List.length_cons] at hm; omega)
    have h1 : l[pre.length]? = some o := by rw [e]; simp
    have h3 : IntKind.i64.wrap ((pre.length : Int) + 1) = (pre.length : Int) + 1 := by
      rw [wrap_succ (by rw [e] at hl; simp at hl; omega)]; simp
    have h5 : AV.refsL (l.map .str) = 0 := strs_refs l
    have h6 : (pre.length : Int) < (l.length : Int) := by rw [e, List.length_append, List.length_cons]; omega
    have h6' : pre.length ≤ 64 := by omega
    have h7 : min pre.length IntKind.u64.bits = pre.length := by
      have : IntKind.u64.bits = 64 := rfl
      omega
    have h11 : ¬ ((pre.length : Int) < 0) := by omega
    have hb := bit_lab x pre.length
    simp only [List.length_append, List.length_cons, List.length_nil, Nat.zero_add, Int.natCast_add, Int.natCast_one, List.map_append, List.map_cons, List.map_nil] at ih1 ih2
    rw [loopH_succ]
    cases hx : x.getLsbD pre.length with
    | false =>
      rw [hx] at hb
      simp [pickL, c35_b0, c35_m0, h1, h3, h5, h6, h7, h11, shr_lab, hb, hx]
      exact ih1
    | true =>
      rw [hx] at hb
      simp [pickL, c35_b0, c35_m0, h1, h3, h5, h6, h7, h11, shr_lab, hb, hx, elemsA]
      refine Eq.trans ih2 ?_
      simp [outV, outH, Nat.add_comm]

theorem pickL_len (x : BitVec 64) : ∀ (l : List (List UInt8)) (i : Nat), (pickL x i l).length ≤ l.length
  | [], i => Nat.le_refl _
  | s :: r, i => by
    unfold pickL
    have := pickL_len x r (i + 1)
    split <;> simp <;> omega
theorem pickL_mem (x : BitVec 64) : ∀ (l : List (List UInt8)) (i : Nat), ∀ s ∈ pickL x i l, s ∈ l
  | [], i, s, h => by simp [pickL] at h
  | t :: r, i, s, h => by
    unfold pickL at h
    split at h
    · rcases List.mem_cons.1 h with rfl | h
      · simp
      · exact List.mem_cons_of_mem _ (pickL_mem x r (i + 1) s h)
    · exact List.mem_cons_of_mem _ (pickL_mem x r (i + 1) s h)

theorem goodP_name : ∀ (post pre : List (List UInt8)), goodP pre post = true → ∀ s ∈ post, nameK s = true
  | [], _, _, s, h => by simp at h
  | t :: r, pre, hg, s, h => by
    simp only [goodP, Bool.and_eq_true] at hg
    rcases List.mem_cons.1 h with rfl | h
    · exact hg.1.1
    · exact goodP_name r (pre ++ [t]) hg.2 s h
theorem nameK_len {s : List UInt8} (h : nameK s = true) : s.length ≤ 16 := by
  cases s with
  | nil => simp
  | cons c r =>
    simp only [nameK, Bool.and_eq_true, decide_eq_true_eq] at h
    have := h.1.1.1
    simp
    omega
theorem join_len (c : UInt8) : ∀ l : List (List UInt8), (∀ s ∈ l, s.length ≤ 16) → (Lib.join l [c]).length ≤ 17 * l.length
  | [], _ => by simp [Lib.join_nil]
  | [s], h => by
    have := h s (by simp)
    rw [Lib.join_one]
    simp
    omega
  | s :: t :: r, h => by
    have := h s (by simp)
    have ih := join_len c (t :: r) fun s hs => h s (List.mem_cons_of_mem _ hs)
    have e : Lib.join (s :: t :: r) [c] = s ++ ([c] ++ Lib.join (t :: r) [c]) := by simp [Lib.join, List.intercalate]
    rw [e]
    simp at ih ⊢
    omega

def textK (n : List (List UInt8)) (x : BitVec 64) : List UInt8 := if fitsK n x then [123] ++ Lib.join (pickL x 0 n) [44] ++ [125] else []

end Go.Proofs.YtnkafagfkblfeaaDoor

namespace Go.Proofs.YtnkafagfkblfeaaDoor
open Go Sz
set_option linter.unusedSimpArgs false
attribute [local simp] evCode_skip evCode_reg evCode_dreg evCode_seq evCode_cond evCode_block evCode_exit evCode_ret evSteps_nil evSteps_op evSteps_opg evSteps_call evSteps_callg evSteps_callv evSteps_callvg evTr_nil evTr_cons evStep_op evStep_opg evStep_call evStep_callg evStep_callv evStep_callvg ldId chkTr
  evOp_mov evOp_pick evOp_box evOp_bld evOp_bsl evOp_ld evOp_st evOp_nck evOp_bin evOp_beq evOp_ceq evOp_peq evOp_not evOp_neg evOp_xor evOp_cvi evOp_cvss evOp_cvis evOp_cvsb evOp_mki evOp_mkf evOp_mkm evOp_mks evOp_sls evOp_slv evOp_fad evOp_fld1 evOp_fldn evOp_iad evOp_ixs evOp_ext evOp_lens evOp_lenv evOp_mx evOp_mn evOp_app evOp_bs0 evOp_snil evOp_clr
  FM_ev ev_const FM_put put_none FM_unwanted lk_hit lk_miss lk_nil FM_clear FM_clearB trues pick gc_FM gc_FM0 incK snds renM allM evB_fm enumA cells_agg cells_bool cells_int cells_str cells_nilp cells_ptr cells_ip cells_nils cells_sl cells_vec cells_nilm cells_map cells_nilfn cells_fn cells_nili cells_iface ldA row_mk get_mk set_mk mark_mk alloc_mk' trunc_mk binA resAll_nil resAll_cons FM_resT FM_resC oneOf finish_mk frz_undef frz_bool frz_int frz_str frz_nilp frz_ptr frz_ip frz_nils frz_sl frz_nilm frz_map frz_nilfn frz_fn frz_nili frz_iface frz_old frz_agg frz_tuple frzL_nil frzL_cons kill_nil kill_cons chunk_zero chunk_succ AV.refs AV.refsL evCall_spec lookF_nil lookF_cons callS_nil callS_one clones cloneS_f cloneS_nils cloneS_sl0 fillA putAt_nil putAt_cons evCode_loop bgn_mk aft_mk keeps objsAt ren renId AV.top lowObj h0 succ_le_f elemsA_nils elemsA_vec elemsA_str evOp_die evOp_lkp evOp_cvbs lookA scal_bool scal_int scal_str scal_nils scal_sl scal_tuple scal_agg scal1_bool scal1_int scal1_str scal1_nils scal1_sl scal1_agg

theorem strs_elem (l : List (List UInt8)) : ∀ x ∈ l.map AV.str, Elem 1 x := by
  intro x hx
  obtain ⟨s, _, rfl⟩ := List.mem_map.1 hx
  exact ⟨rfl, rfl, fun _ => rfl, fun h => absurd rfl h, rfl⟩
theorem strs_flat (l : List (List UInt8)) : (l.map AV.str).flatMap AV.cells = l.map .str := by
  induction l with
  | nil => rfl
  | cons s r ih =>
    simp only [List.map_cons, List.flatMap_cons, AV.cells, ih]
    rfl

def textS : KSpec := ⟨35, fun | [x, y] => (match decStrs x, decLab y with | some l, some b => some (.str (textK l b)) | _, _ => none) | _ => none⟩
theorem textS_f : textS.f = 35 := (rfl)
theorem textS_at (x : AV) (l : List (List UInt8)) (b : BitVec 64) (hx : decStrs x = some l) : textS.S [x, .int .u64 (labN b)] = some (.str (textK l b)) := by
  simp only [textS, hx, decLab_at]
theorem textS_ok (hT : KSpecOK Tryd.prog trimS) : KSpecOK Tryd.prog textS := fun args v hv => by
  unfold textS at hv ⊢
  dsimp only at hv ⊢
  split at hv
  · rename_i x y
    split at hv
    · rename_i l b hx hb
      cases hv
      rw [decLab_inv hb]
      have hq := fitsS_at x l b hx
      have h5 : AV.refsL (l.map .str) = 0 := strs_refs l
      have hr : x.refs = 0 := by
        rcases decStrs_inv hx with rfl | ⟨rfl, rfl⟩
        · simp [AV.refs, strs_refs]
        · rfl
      refine prim_of (n := 72) (h' := h0) (envOf_ok (ss := [fitsS, joinS]) (by simp [fitsS_ok hT, joinS_ok])) ?_ rfl (by simp [AV.refsL, AV.refs, hr])
      cases hf : fitsK l b with
      | false =>
        rw [hf] at hq
        rcases decStrs_inv hx with rfl | ⟨rfl, rfl⟩ <;> simp [run35, c35, h5, fitsS_f, joinS_f, hq, textK, hf]
      | true =>
        rw [hf] at hq
        have hg : goodN l = true := by
          unfold fitsK at hf
          simp only [Bool.and_eq_true] at hf
          exact hf.1
        obtain ⟨g1, g2⟩ := goodN_len hg
        have hn : ∀ s ∈ pickL b 0 l, s.length ≤ 16 := fun s hs => by
          unfold goodN at hg
          simp only [Bool.and_eq_true] at hg
          exact nameK_len (goodP_name l [] hg.2 s (pickL_mem b l 0 s hs))
        have hjl := join_len 44 _ hn
        have hpl := pickL_len b l 0
        rcases decStrs_inv hx with rfl | ⟨rfl, rfl⟩
        · have h := c35_loop0 (evCall (envOf [fitsS, joinS]) 71) 71 l b g2 l [] 71 rfl (by omega)
          simp only [List.length_nil] at h
          cases hA : pickL b 0 l with
          | nil =>
            rw [hA] at h
            have hj := joinS_at .nils [] [44] rfl (by simp [Lib.join_nil])
            rw [Lib.join_nil] at hj
            simp [run35, c35, c35_m0, h5, fitsS_f, joinS_f, hq, hf, textK, hA, outV, outH, hj, Lib.join_nil] at h ⊢
            simp [h, hj]
          | cons s r =>
            rw [hA] at h hjl hpl
            have hj := joinS_at (.sl ((s :: r).map .str)) (s :: r) [44] (decStrs_sl _) (by constructor <;> omega)
            have hfz := frz_vec (h := ⟨1, [.row ((s :: r).map .str)], 0, 0⟩) (n0 := 0) (d := 6) (id := 0) (len := r.length + 1) (sz := 1) (lb := r.length + 1) (xs := (s :: r).map .str) (cs := (s :: r).map .str) (by omega) rfl (by omega) (strs_elem _) (by simp) (by simp) (by rw [strs_flat]; exact List.take_of_length_le (by simp))
            have h12' : 1 + (Lib.join (s :: r) [44]).length < 9223372036854775808 := by omega
            have h12 : (Lib.join (s :: r) [44]).length + 1 < 9223372036854775808 := by omega
            have h13 : (Lib.join (s :: r) [44]).length + 1 + 1 < 9223372036854775808 := by omega
            simp only [List.map_cons] at hj hfz
            simp [run35, c35, c35_m0, h5, fitsS_f, joinS_f, hq, hf, textK, hA, outV, outH, hj, hfz] at h ⊢
            simp [h, hj, hfz, h12, h12', h13]
        · exact absurd g1 (by simp)
    · cases hv
  · cases hv

end Go.Proofs.YtnkafagfkblfeaaDoor

namespace Go.Proofs.YtnkafagfkblfeaaDoor
open Go Sz
set_option linter.unusedSimpArgs false
attribute [local simp] evCode_skip evCode_reg evCode_dreg evCode_seq evCode_cond evCode_block evCode_exit evCode_ret evSteps_nil evSteps_op evSteps_opg evSteps_call evSteps_callg evSteps_callv evSteps_callvg evTr_nil evTr_cons evStep_op evStep_opg evStep_call evStep_callg evStep_callv evStep_callvg ldId chkTr
  evOp_mov evOp_pick evOp_box evOp_bld evOp_bsl evOp_ld evOp_st evOp_nck evOp_bin evOp_beq evOp_ceq evOp_peq evOp_not evOp_neg evOp_xor evOp_cvi evOp_cvss evOp_cvis evOp_cvsb evOp_mki evOp_mkf evOp_mkm evOp_mks evOp_sls evOp_slv evOp_fad evOp_fld1 evOp_fldn evOp_iad evOp_ixs evOp_ext evOp_lens evOp_lenv evOp_mx evOp_mn evOp_app evOp_bs0 evOp_snil evOp_clr
  FM_ev ev_const FM_put put_none FM_unwanted lk_hit lk_miss lk_nil FM_clear FM_clearB trues pick gc_FM gc_FM0 incK snds renM allM evB_fm enumA cells_agg cells_bool cells_int cells_str cells_nilp cells_ptr cells_ip cells_nils cells_sl cells_vec cells_nilm cells_map cells_nilfn cells_fn cells_nili cells_iface ldA row_mk get_mk set_mk mark_mk alloc_mk' trunc_mk binA resAll_nil resAll_cons FM_resT FM_resC oneOf finish_mk frz_undef frz_bool frz_int frz_str frz_nilp frz_ptr frz_ip frz_nils frz_sl frz_nilm frz_map frz_nilfn frz_fn frz_nili frz_iface frz_old frz_agg frz_tuple frzL_nil frzL_cons kill_nil kill_cons chunk_zero chunk_succ AV.refs AV.refsL evCall_spec lookF_nil lookF_cons callS_nil callS_one clones cloneS_f cloneS_nils cloneS_sl0 fillA putAt_nil putAt_cons evCode_loop bgn_mk aft_mk keeps objsAt ren renId AV.top lowObj h0 succ_le_f elemsA_nils elemsA_vec elemsA_str evOp_die evOp_lkp evOp_cvbs lookA scal_bool scal_int scal_str scal_nils scal_sl scal_tuple scal_agg scal1_bool scal1_int scal1_str scal1_nils scal1_sl scal1_agg

/-! A label read. -/

def parseL (n : List (List UInt8)) (x : BitVec 64) : List (List UInt8) → BitVec 64
  | [] => x
  | p :: r => parseL n (match idx p n with | some i => x ||| (1#64 <<< i) | none => x) r

def pieces (s : List UInt8) : List (List UInt8) := Lib.split (Lib.trimSuffix (Lib.trimPrefix s [123]) [125]) [44]
def parseX (n : List (List UInt8)) (s : List UInt8) : BitVec 64 := parseL n 0#64 (pieces s)
def parseK (n : List (List UInt8)) (s : List UInt8) : BitVec 64 × Bool :=
  if goodN n && (textK n (parseX n s) == s) then (parseX n s, true) else (0#64, false)

theorem idx_lt (s : List UInt8) : ∀ (l : List (List UInt8)) (i : Nat), idx s l = some i → i < l.length
  | [], i, h => by simp [idx] at h
  | x :: r, i, h => by
    unfold idx at h
    split at h
    · cases h; simp
    · obtain ⟨j, hj, rfl⟩ := Option.map_eq_some_iff.1 h
      have := idx_lt s r j hj
      simp
      omega

theorem shl_lab (i : Nat) : IntKind.u64.wrap (1 * 2 ^ i) = labN (1#64 <<< i) := by
  rw [IntKind.wrap_u64]
  unfold labN
  rw [BitVec.toNat_shiftLeft, Nat.shiftLeft_eq]
  simp

set_option maxRecDepth 100000 in
set_option maxHeartbeats 4000000 in
theorem c29_loop (n : Nat) (l : List (List UInt8)) (s : List UInt8) (hl : l.length ≤ 64) (ps : List (List UInt8)) (hp : ps.length < 4611686018427387904) : ∀ post pre m (x : BitVec 64), ps = pre ++ post → post.length < m →
    aft 0 0 (loopH (evCode (evCall (envOf [goodS, trimPrefixS, trimSuffixS, splitS, indexS, textS]) (n + 1)) (n + 1) c29_b0) c29_m0 0 m (c29_f0 (.sl (l.map .str)) (.str s) (labA x) (.sl (ps.map .str)) (.int .i64 ps.length) (.int .i64 pre.length)) ⟨0, [], 0, 0⟩) =
      some (.exit 0, FM 38 [(0, .sl (l.map .str)), (1, .str s), (6, labA (parseL l x post))], ⟨0, [], 0, 0⟩)
  | [], pre, m + 1, x, e, _ => by
    subst e
    have hr : AV.refsL (l.map .str) = 0 := strs_refs l
    simp [parseL, loopH_succ, c29_b0, hr]
  | o :: post, pre, m + 1, x, e, hm => by
    have ih := c29_loop n l s hl ps hp post (pre ++ [o]) m
    have h1 : ps[pre.length]? = some o := by rw [e]; simp
    have h3 : IntKind.i64.wrap ((pre.length : Int) + 1) = (pre.length : Int) + 1 := by
      rw [wrap_succ (by rw [e] at hp; simp at hp; omega)]; simp
    have h5 : AV.refsL (ps.map .str) = 0 := strs_refs ps
    have hr : AV.refsL (l.map .str) = 0 := strs_refs l
    have h6 : (pre.length : Int) < (ps.length : Int) := by rw [e, List.length_append, List.length_cons]; omega
    have hi := indexS_at (.sl (l.map .str)) l o (decStrs_sl l) (by omega)
    simp only [List.length_append, List.length_cons, List.length_nil, Nat.zero_add, Int.natCast_add, Int.natCast_one] at ih
    rw [loopH_succ]
    cases hx : idx o l with
    | none =>
      have ih := ih x (by simp [e]) (by rw [List.length_cons] at hm; omega)
      simp [parseL, c29_b0, c29_m0, h1, h3, h5, h6, hr, hi, hx, idxI, goodS_f, trimPrefixS_f, trimSuffixS_f, splitS_f, indexS_f, textS_f]
      exact ih
    | some i =>
      have hi2 := idx_lt o l i hx
      have ih := ih (x ||| (1#64 <<< i)) (by simp [e]) (by rw [List.length_cons] at hm; omega)
      have h7 : min i IntKind.u64.bits = i := by
        have : IntKind.u64.bits = 64 := rfl
        omega
      have h8 : ¬ ((i : Int) < 0) := by omega
      have h9 := shl_lab i
      have h9' : IntKind.u64.wrap (2 ^ i) = labN (1#64 <<< i) := by rw [← h9, Int.one_mul]
      simp [parseL, c29_b0, c29_m0, h1, h3, h5, h6, hr, hi, hx, idxI, h7, h8, h9', bits_or, goodS_f, trimPrefixS_f, trimSuffixS_f, splitS_f, indexS_f, textS_f]
      exact ih

end Go.Proofs.YtnkafagfkblfeaaDoor

namespace Go.Proofs.YtnkafagfkblfeaaDoor
open Go Sz
set_option linter.unusedSimpArgs false
attribute [local simp] evCode_skip evCode_reg evCode_dreg evCode_seq evCode_cond evCode_block evCode_exit evCode_ret evSteps_nil evSteps_op evSteps_opg evSteps_call evSteps_callg evSteps_callv evSteps_callvg evTr_nil evTr_cons evStep_op evStep_opg evStep_call evStep_callg evStep_callv evStep_callvg ldId chkTr
  evOp_mov evOp_pick evOp_box evOp_bld evOp_bsl evOp_ld evOp_st evOp_nck evOp_bin evOp_beq evOp_ceq evOp_peq evOp_not evOp_neg evOp_xor evOp_cvi evOp_cvss evOp_cvis evOp_cvsb evOp_mki evOp_mkf evOp_mkm evOp_mks evOp_sls evOp_slv evOp_fad evOp_fld1 evOp_fldn evOp_iad evOp_ixs evOp_ext evOp_lens evOp_lenv evOp_mx evOp_mn evOp_app evOp_bs0 evOp_snil evOp_clr
  FM_ev ev_const FM_put put_none FM_unwanted lk_hit lk_miss lk_nil FM_clear FM_clearB trues pick gc_FM gc_FM0 incK snds renM allM evB_fm enumA cells_agg cells_bool cells_int cells_str cells_nilp cells_ptr cells_ip cells_nils cells_sl cells_vec cells_nilm cells_map cells_nilfn cells_fn cells_nili cells_iface ldA row_mk get_mk set_mk mark_mk alloc_mk' trunc_mk binA resAll_nil resAll_cons FM_resT FM_resC oneOf finish_mk frz_undef frz_bool frz_int frz_str frz_nilp frz_ptr frz_ip frz_nils frz_sl frz_nilm frz_map frz_nilfn frz_fn frz_nili frz_iface frz_old frz_agg frz_tuple frzL_nil frzL_cons kill_nil kill_cons chunk_zero chunk_succ AV.refs AV.refsL evCall_spec lookF_nil lookF_cons callS_nil callS_one clones cloneS_f cloneS_nils cloneS_sl0 fillA putAt_nil putAt_cons evCode_loop bgn_mk aft_mk keeps objsAt ren renId AV.top lowObj h0 succ_le_f elemsA_nils elemsA_vec elemsA_str evOp_die evOp_lkp evOp_cvbs lookA scal_bool scal_int scal_str scal_nils scal_sl scal_tuple scal_agg scal1_bool scal1_int scal1_str scal1_nils scal1_sl scal1_agg

def parseC (s : List UInt8) : Prop := s.length < maxStr ∧ (Lib.trimPrefix s [123]).length < maxStr ∧ (Lib.trimSuffix (Lib.trimPrefix s [123]) [125]).length < maxStr ∧ (pieces s).length < 4611686018427387904
instance (s : List UInt8) : Decidable (parseC s) := by unfold parseC; infer_instance

def parseS : KSpec := ⟨29, fun | [x, .str s] => (match decStrs x with | some l => if parseC s then some (.tuple [labA (parseK l s).1, .bool (parseK l s).2]) else none | none => none) | _ => none⟩
theorem parseS_f : parseS.f = 29 := (rfl)
theorem parseS_at (x : AV) (l : List (List UInt8)) (s : List UInt8) (hx : decStrs x = some l) (hs : parseC s) : parseS.S [x, .str s] = some (.tuple [labA (parseK l s).1, .bool (parseK l s).2]) := by
  simp only [parseS, hx, hs, if_true]

set_option maxRecDepth 100000 in
set_option maxHeartbeats 4000000 in
theorem parseS_ok (hT : KSpecOK Tryd.prog trimS) : KSpecOK Tryd.prog parseS := fun args v hv => by
  unfold parseS at hv ⊢
  dsimp only at hv ⊢
  split at hv
  · rename_i x s
    split at hv
    · rename_i l hx
      split at hv
      · rename_i hc
        cases hv
        obtain ⟨c1, c2, c3, c4⟩ := hc
        have hr : x.refs = 0 := by
          rcases decStrs_inv hx with rfl | ⟨rfl, rfl⟩
          · simp [AV.refs, strs_refs]
          · rfl
        refine prim_of (n := (pieces s).length + 3) (h' := h0) (envOf_ok (ss := [goodS, trimPrefixS, trimSuffixS, splitS, indexS, textS]) (by simp [goodS_ok hT, trimPrefixS_ok, trimSuffixS_ok, splitS_ok, indexS_ok, textS_ok hT])) ?_ rfl (by simp [AV.refsL, AV.refs, hr])
        have hg := goodS_at x l hx
        have h5 : AV.refsL (l.map .str) = 0 := strs_refs l
        cases hl : goodN l with
        | false =>
          rw [hl] at hg
          rcases decStrs_inv hx with rfl | ⟨rfl, rfl⟩ <;> simp [run29, c29, h5, hg, parseK, hl, labN_zero, goodS_f, trimPrefixS_f, trimSuffixS_f, splitS_f, indexS_f, textS_f]
        | true =>
          rw [hl] at hg
          obtain ⟨g1, g2⟩ := goodN_len hl
          have h1 := trimPrefixS_at s [123]
          have h2 := trimSuffixS_at (Lib.trimPrefix s [123]) [125] c2
          have h3 := splitS_at (Lib.trimSuffix (Lib.trimPrefix s [123]) [125]) [44] ⟨c3, by simp⟩
          have h6 : AV.refsL ((pieces s).map .str) = 0 := strs_refs _
          have h := c29_loop ((pieces s).length + 1) l s g2 (pieces s) c4 (pieces s) [] ((pieces s).length + 2) 0#64 rfl (by omega)
          simp only [List.length_nil, show labA 0#64 = AV.int .u64 0 from rfl] at h
          have ht := textS_at x l (parseX l s) hx
          rw [show Lib.split (Lib.trimSuffix (Lib.trimPrefix s [123]) [125]) [44] = pieces s from rfl] at h3
          rw [show parseL l 0#64 (pieces s) = parseX l s from rfl] at h
          rcases decStrs_inv hx with rfl | ⟨rfl, rfl⟩
          · cases he : textK l (parseX l s) == s with
            | true =>
              simp [run29, c29, c29_m0, h5, h6, hg, h1, h2, h3, ht, he, parseK, hl, goodS_f, trimPrefixS_f, trimSuffixS_f, splitS_f, indexS_f, textS_f] at h ⊢
              simp [h, h5, ht, he, goodS_f, trimPrefixS_f, trimSuffixS_f, splitS_f, indexS_f, textS_f]
            | false =>
              simp [run29, c29, c29_m0, h5, h6, hg, h1, h2, h3, ht, he, parseK, hl, labN_zero, goodS_f, trimPrefixS_f, trimSuffixS_f, splitS_f, indexS_f, textS_f] at h ⊢
              simp [h, h5, ht, he, labN_zero, goodS_f, trimPrefixS_f, trimSuffixS_f, splitS_f, indexS_f, textS_f]
          · exact absurd g1 (by simp)
      · cases hv
    · cases hv
  · cases hv

end Go.Proofs.YtnkafagfkblfeaaDoor

namespace Go.Proofs.YtnkafagfkblfeaaDoor
open Go Sz
set_option linter.unusedSimpArgs false
attribute [local simp] evCode_skip evCode_reg evCode_dreg evCode_seq evCode_cond evCode_block evCode_exit evCode_ret evSteps_nil evSteps_op evSteps_opg evSteps_call evSteps_callg evSteps_callv evSteps_callvg evTr_nil evTr_cons evStep_op evStep_opg evStep_call evStep_callg evStep_callv evStep_callvg ldId chkTr
  evOp_mov evOp_pick evOp_box evOp_bld evOp_bsl evOp_ld evOp_st evOp_nck evOp_bin evOp_beq evOp_ceq evOp_peq evOp_not evOp_neg evOp_xor evOp_cvi evOp_cvss evOp_cvis evOp_cvsb evOp_mki evOp_mkf evOp_mkm evOp_mks evOp_sls evOp_slv evOp_fad evOp_fld1 evOp_fldn evOp_iad evOp_ixs evOp_ext evOp_lens evOp_lenv evOp_mx evOp_mn evOp_app evOp_bs0 evOp_snil evOp_clr
  FM_ev ev_const FM_put put_none FM_unwanted lk_hit lk_miss lk_nil FM_clear FM_clearB trues pick gc_FM gc_FM0 incK snds renM allM evB_fm enumA cells_agg cells_bool cells_int cells_str cells_nilp cells_ptr cells_ip cells_nils cells_sl cells_vec cells_nilm cells_map cells_nilfn cells_fn cells_nili cells_iface ldA row_mk get_mk set_mk mark_mk alloc_mk' trunc_mk binA resAll_nil resAll_cons FM_resT FM_resC oneOf finish_mk frz_undef frz_bool frz_int frz_str frz_nilp frz_ptr frz_ip frz_nils frz_sl frz_nilm frz_map frz_nilfn frz_fn frz_nili frz_iface frz_old frz_agg frz_tuple frzL_nil frzL_cons kill_nil kill_cons chunk_zero chunk_succ AV.refs AV.refsL evCall_spec lookF_nil lookF_cons callS_nil callS_one clones cloneS_f cloneS_nils cloneS_sl0 fillA putAt_nil putAt_cons evCode_loop bgn_mk aft_mk keeps objsAt ren renId AV.top lowObj h0 succ_le_f elemsA_nils elemsA_vec elemsA_str evOp_die evOp_lkp evOp_cvbs lookA scal_bool scal_int scal_str scal_nils scal_sl scal_tuple scal_agg scal1_bool scal1_int scal1_str scal1_nils scal1_sl scal1_agg

def awakeS : KSpec := ⟨26, fun | [] => some (.bool true) | _ => none⟩
theorem awakeS_f : awakeS.f = 26 := (rfl)
theorem awakeS_at : awakeS.S [] = some (.bool true) := rfl
theorem awakeS_ok (hT : KSpecOK Tryd.prog trimS) : KSpecOK Tryd.prog awakeS := fun args v hv => by
  unfold awakeS at hv ⊢
  dsimp only at hv ⊢
  split at hv
  · cases hv
    refine prim_of (n := 5) (h' := h0) (envOf_ok (ss := [namesS, parseS, textS, goodS]) (by simp [namesS_ok, parseS_ok hT, textS_ok hT, goodS_ok hT])) ?_ rfl rfl
    kernel_rfl
  · cases hv

end Go.Proofs.YtnkafagfkblfeaaDoor

namespace Go.Proofs.YtnkafagfkblfeaaDoor
open Go Sz
set_option linter.unusedSimpArgs false
attribute [local simp] evCode_skip evCode_reg evCode_dreg evCode_seq evCode_cond evCode_block evCode_exit evCode_ret evSteps_nil evSteps_op evSteps_opg evSteps_call evSteps_callg evSteps_callv evSteps_callvg evTr_nil evTr_cons evStep_op evStep_opg evStep_call evStep_callg evStep_callv evStep_callvg ldId chkTr
  evOp_mov evOp_pick evOp_box evOp_bld evOp_bsl evOp_ld evOp_st evOp_nck evOp_bin evOp_beq evOp_ceq evOp_peq evOp_not evOp_neg evOp_xor evOp_cvi evOp_cvss evOp_cvis evOp_cvsb evOp_mki evOp_mkf evOp_mkm evOp_mks evOp_sls evOp_slv evOp_fad evOp_fld1 evOp_fldn evOp_iad evOp_ixs evOp_ext evOp_lens evOp_lenv evOp_mx evOp_mn evOp_app evOp_bs0 evOp_snil evOp_clr
  FM_ev ev_const FM_put put_none FM_unwanted lk_hit lk_miss lk_nil FM_clear FM_clearB trues pick gc_FM gc_FM0 incK snds renM allM evB_fm enumA cells_agg cells_bool cells_int cells_str cells_nilp cells_ptr cells_ip cells_nils cells_sl cells_vec cells_nilm cells_map cells_nilfn cells_fn cells_nili cells_iface ldA row_mk get_mk set_mk mark_mk alloc_mk' trunc_mk binA resAll_nil resAll_cons FM_resT FM_resC oneOf finish_mk frz_undef frz_bool frz_int frz_str frz_nilp frz_ptr frz_ip frz_nils frz_sl frz_nilm frz_map frz_nilfn frz_fn frz_nili frz_iface frz_old frz_agg frz_tuple frzL_nil frzL_cons kill_nil kill_cons chunk_zero chunk_succ AV.refs AV.refsL evCall_spec lookF_nil lookF_cons callS_nil callS_one clones cloneS_f cloneS_nils cloneS_sl0 fillA putAt_nil putAt_cons evCode_loop bgn_mk aft_mk keeps objsAt ren renId AV.top lowObj h0 succ_le_f elemsA_nils elemsA_vec elemsA_str evOp_die evOp_lkp evOp_cvbs lookA scal_bool scal_int scal_str scal_nils scal_sl scal_tuple scal_agg scal1_bool scal1_int scal1_str scal1_nils scal1_sl scal1_agg

def n3 : List (List UInt8) := [[97], [98], [99]]
def chk8 (x y : BitVec 64) : Bool := ((textK n3 x == textK n3 y) == (x == y)) && ((leqK x y && leqK y x) == (x == y)) && (x &&& joinK [x, y] == x) && (joinK [x, x &&& y] == x)
theorem chk8_all : ((List.range 8).all fun i => (List.range 8).all fun j => chk8 (BitVec.ofNat 64 i) (BitVec.ofNat 64 j)) = true := by kernel_rfl
theorem low3 (x : BitVec 64) : ∃ i, i < 8 ∧ x &&& 7#64 = BitVec.ofNat 64 i := by
  refine ⟨(x &&& 7#64).toNat, ?_, by simp⟩
  have : (x &&& 7#64).toNat ≤ 7 := by
    rw [BitVec.toNat_and]
    exact Nat.and_le_right
  omega
theorem chk8_at (a b : BitVec 64) : chk8 (a &&& 7#64) (b &&& 7#64) = true := by
  obtain ⟨i, hi, e1⟩ := low3 a
  obtain ⟨j, hj, e2⟩ := low3 b
  rw [e1, e2]
  have := List.all_eq_true.1 (List.all_eq_true.1 chk8_all i (List.mem_range.2 hi)) j (List.mem_range.2 hj)
  exact this

theorem labN_eq (x y : BitVec 64) : decide (labN x = labN y) = (x == y) := by
  simp only [labN_inj]
  rfl

set_option maxRecDepth 100000 in
set_option maxHeartbeats 4000000 in
theorem labelTexts_prim (hT : KSpecOK Tryd.prog trimS) (a b : BitVec 64) : PrimOK Tryd.prog 8 [labA a, labA b] (.bool true) := by
  refine prim_of (n := 5) (h' := h0) (envOf_ok (ss := [awakeS, namesS, textS, leqS, meetS, labJoinS]) (by simp [awakeS_ok hT, namesS_ok, textS_ok hT, leqS_ok, meetS_ok, labJoinS_ok])) ?_ rfl rfl
  have hc := chk8_at a b
  have h7 : (7 : Int) = labN 7#64 := rfl
  have e1 : bitsI .and .u64 (labN a) 7 = labN (a &&& 7#64) := by rw [h7, bits_and]
  have e2 : bitsI .and .u64 (labN b) 7 = labN (b &&& 7#64) := by rw [h7, bits_and]
  generalize a &&& 7#64 = x at e1 hc
  generalize b &&& 7#64 = y at e2 hc
  unfold chk8 at hc
  simp only [Bool.and_eq_true, beq_iff_eq] at hc
  obtain ⟨⟨⟨c1, c2⟩, c3⟩, c4⟩ := hc
  have t1 := textS_at (.sl [.str [97], .str [98], .str [99]]) n3 x rfl
  have t2 := textS_at (.sl [.str [97], .str [98], .str [99]]) n3 y rfl
  have l1 := leqS_at x y
  have l2 := leqS_at y x
  have j1 := labJoinS_at (.sl [labA x, labA y]) [x, y] (decLabs_sl [x, y]) (by simp)
  have j2 := labJoinS_at (.sl [labA x, labA (x &&& y)]) [x, x &&& y] (decLabs_sl [x, x &&& y]) (by simp)
  have m1 := meetS_at x (joinK [x, y])
  have m2 := meetS_at x y
  rw [c3] at m1
  rw [c4] at j2
  have q1 := labN_eq x y
  have f1 : frz ⟨1, [.row [labA x, labA y]], 0, 0⟩ 0 8 (.vec 0 0 2 1 2) = some (.sl [labA x, labA y], [0]) := rfl
  have f2 : frz ⟨2, [.row [labA x, labA (x &&& y)], .row [labA x, labA y]], 0, 0⟩ 0 8 (.vec 1 0 2 1 2) = some (.sl [labA x, labA (x &&& y)], [1]) := rfl
  cases hxy : x == y with
  | true =>
    rw [hxy] at c1 c2 q1
    simp only [Bool.and_eq_true] at c2
    simp [run8, c8, awakeS_f, namesS_f, textS_f, leqS_f, meetS_f, labJoinS_f, awakeS_at, namesS_at, e1, e2, f1, f2, t1, t2, l1, l2, j1, j2, m1, m2, c1, c2, q1]
  | false =>
    rw [hxy] at c1 c2 q1
    cases hl : leqK x y with
    | true =>
      rw [hl] at c2 l1
      simp only [Bool.true_and] at c2
      simp [run8, c8, awakeS_f, namesS_f, textS_f, leqS_f, meetS_f, labJoinS_f, awakeS_at, namesS_at, e1, e2, f1, f2, t1, t2, l1, l2, j1, j2, m1, m2, c1, c2, q1]
    | false =>
      rw [hl] at l1
      simp [run8, c8, awakeS_f, namesS_f, textS_f, leqS_f, meetS_f, labJoinS_f, awakeS_at, namesS_at, e1, e2, f1, f2, t1, t2, l1, l2, j1, j2, m1, m2, c1, q1]

end Go.Proofs.YtnkafagfkblfeaaDoor

namespace Go.Proofs.YtnkafagfkblfeaaDoor
open Go Sz
set_option linter.unusedSimpArgs false
attribute [local simp] evCode_skip evCode_reg evCode_dreg evCode_seq evCode_cond evCode_block evCode_exit evCode_ret evSteps_nil evSteps_op evSteps_opg evSteps_call evSteps_callg evSteps_callv evSteps_callvg evTr_nil evTr_cons evStep_op evStep_opg evStep_call evStep_callg evStep_callv evStep_callvg ldId chkTr
  evOp_mov evOp_pick evOp_box evOp_bld evOp_bsl evOp_ld evOp_st evOp_nck evOp_bin evOp_beq evOp_ceq evOp_peq evOp_not evOp_neg evOp_xor evOp_cvi evOp_cvss evOp_cvis evOp_cvsb evOp_mki evOp_mkf evOp_mkm evOp_mks evOp_sls evOp_slv evOp_fad evOp_fld1 evOp_fldn evOp_iad evOp_ixs evOp_ext evOp_lens evOp_lenv evOp_mx evOp_mn evOp_app evOp_bs0 evOp_snil evOp_clr
  FM_ev ev_const FM_put put_none FM_unwanted lk_hit lk_miss lk_nil FM_clear FM_clearB trues pick gc_FM gc_FM0 incK snds renM allM evB_fm enumA cells_agg cells_bool cells_int cells_str cells_nilp cells_ptr cells_ip cells_nils cells_sl cells_vec cells_nilm cells_map cells_nilfn cells_fn cells_nili cells_iface ldA row_mk get_mk set_mk mark_mk alloc_mk' trunc_mk binA resAll_nil resAll_cons FM_resT FM_resC oneOf finish_mk frz_undef frz_bool frz_int frz_str frz_nilp frz_ptr frz_ip frz_nils frz_sl frz_nilm frz_map frz_nilfn frz_fn frz_nili frz_iface frz_old frz_agg frz_tuple frzL_nil frzL_cons kill_nil kill_cons chunk_zero chunk_succ AV.refs AV.refsL evCall_spec lookF_nil lookF_cons callS_nil callS_one clones cloneS_f cloneS_nils cloneS_sl0 fillA putAt_nil putAt_cons evCode_loop bgn_mk aft_mk keeps objsAt ren renId AV.top lowObj h0 succ_le_f elemsA_nils elemsA_vec elemsA_str evOp_die evOp_lkp evOp_cvbs lookA scal_bool scal_int scal_str scal_nils scal_sl scal_tuple scal_agg scal1_bool scal1_int scal1_str scal1_nils scal1_sl scal1_agg

/-! LabelJoins. -/

def belowK (t : BitVec 64) (l : List (BitVec 64)) : Bool := l.all fun x => x ||| t == t

set_option maxRecDepth 100000 in
set_option maxHeartbeats 4000000 in
theorem c6_loop0 (C : Nat → List AV → Heap → Option (AV × Heap)) (n : Nat) (l : List (BitVec 64)) (t : BitVec 64) (hl : l.length ≤ 100) : ∀ post pre m, l = pre ++ post → pre ≠ [] → post.length < m →
    aft 0 0 (loopH (evCode C n c6_b0) c6_m0 0 m (c6_f0 (.sl (l.map labA)) (labA t) (.vec 0 0 pre.length 1 pre.length) (.bool (belowK t pre)) (.int .i64 pre.length)) ⟨1, [.row (pre.map labA)], 0, 0⟩) =
      some (.exit 0, FM 59 [(1, labA t), (5, .vec 0 0 l.length 1 l.length), (6, .bool (belowK t l))], ⟨1, [.row (l.map labA)], 0, 0⟩)
  | [], pre, m + 1, e, _, _ => by
    simp at e
    subst e
    have h5 : AV.refsL (l.map labA) = 0 := labs_refs l
    simp [loopH_succ, c6_b0, h5]
  | o :: post, pre, m + 1, e, hne, hm => by
    have ih := c6_loop0 C n l t hl post (pre ++ [o]) m (by simp [e]) (by simp) (by rw [List.length_cons] at hm; omega)
    have h1 : l[pre.length]? = some o := by rw [e]; simp
    have h3 : IntKind.i64.wrap ((pre.length : Int) + 1) = (pre.length : Int) + 1 := by
      rw [wrap_succ (by rw [e] at hl; simp at hl; omega)]; simp
    have h5 : AV.refsL (l.map labA) = 0 := labs_refs l
    have h5' : AV.refsL (pre.map labA) = 0 := labs_refs pre
    have h5'' : AV.refsL (pre.map labA ++ [labA o]) = 0 := by have := labs_refs (pre ++ [o]); simpa using this
    have h6 : (pre.length : Int) < (l.length : Int) := by rw [e, List.length_append, List.length_cons]; omega
    have h8 : (pre.length + 1) * 8 ≤ 140737488355328 := by omega
    have h9 : pre.length + 1 < 9223372036854775808 := by omega
    have h10 : (pre.map labA).take pre.length = pre.map labA := by rw [List.take_of_length_le]; simp
    have hq := labN_eq (o ||| t) t
    have hb : belowK t (pre ++ [o]) = (belowK t pre && (o ||| t == t)) := by simp [belowK]
    rw [hb] at ih
    simp only [List.length_append, List.length_cons, List.length_nil, Nat.zero_add, Int.natCast_add, Int.natCast_one, List.map_append, List.map_cons, List.map_nil] at ih
    rw [loopH_succ]
    cases hp : belowK t pre with
    | false =>
      rw [hp] at ih
      simp [c6_b0, c6_m0, h1, h3, h5, h5', h5'', h6, h8, h9, h10, elemsA]
      exact ih
    | true =>
      rw [hp] at ih
      simp only [Bool.true_and] at ih
      simp [c6_b0, c6_m0, h1, h3, h5, h5', h5'', h6, h8, h9, h10, elemsA, bits_or, hq]
      exact ih

set_option maxRecDepth 100000 in
set_option maxHeartbeats 4000000 in
theorem c6_loop1 (n : Nat) (l : List (BitVec 64)) (t j : BitVec 64) (ab : Bool) (hl : l.length ≤ 100) (hj : ∀ x ∈ l, leqK x j = true) : ∀ post pre m, l = pre ++ post → post.length < m →
    aft 1 0 (loopH (evCode (evCall (envOf [awakeS, leqS, labJoinS]) (n + 1)) (n + 1) c6_b1) c6_m1 1 m (c6_f1 (labA t) (.vec 0 0 l.length 1 l.length) (.bool ab) (labA j) (.int .i64 pre.length)) ⟨1, [.row (l.map labA)], 1, 0⟩) =
      some (.exit 2, FM 59 [(1, labA t), (6, .bool ab), (8, labA j)], ⟨1, [.row (l.map labA)], 0, 0⟩)
  | [], pre, m + 1, e, _ => by
    simp at e
    subst e
    have h5 : AV.refsL (l.map labA) = 0 := labs_refs l
    simp [loopH_succ, c6_b1, h5]
  | o :: post, pre, m + 1, e, hm => by
    have ih := c6_loop1 n l t j ab hl hj post (pre ++ [o]) m (by simp [e]) (by rw [List.length_cons] at hm; omega)
    have h1 : l[pre.length]? = some o := by rw [e]; simp
    have h3 : IntKind.i64.wrap ((pre.length : Int) + 1) = (pre.length : Int) + 1 := by
      rw [wrap_succ (by rw [e] at hl; simp at hl; omega)]; simp
    have h5 : AV.refsL (l.map labA) = 0 := labs_refs l
    have h6 : (pre.length : Int) < (l.length : Int) := by rw [e, List.length_append, List.length_cons]; omega
    have h7 := leqS_at o j
    rw [hj o (by rw [e]; simp)] at h7
    simp only [List.length_append, List.length_cons, List.length_nil, Nat.zero_add, Int.natCast_add, Int.natCast_one] at ih
    rw [loopH_succ]
    simp [c6_b1, c6_m1, h1, h3, h5, h6, h7, awakeS_f, leqS_f, labJoinS_f]
    exact ih

end Go.Proofs.YtnkafagfkblfeaaDoor

namespace Go.Proofs.YtnkafagfkblfeaaDoor
open Go Sz
set_option linter.unusedSimpArgs false
attribute [local simp] evCode_skip evCode_reg evCode_dreg evCode_seq evCode_cond evCode_block evCode_exit evCode_ret evSteps_nil evSteps_op evSteps_opg evSteps_call evSteps_callg evSteps_callv evSteps_callvg evTr_nil evTr_cons evStep_op evStep_opg evStep_call evStep_callg evStep_callv evStep_callvg ldId chkTr
  evOp_mov evOp_pick evOp_box evOp_bld evOp_bsl evOp_ld evOp_st evOp_nck evOp_bin evOp_beq evOp_ceq evOp_peq evOp_not evOp_neg evOp_xor evOp_cvi evOp_cvss evOp_cvis evOp_cvsb evOp_mki evOp_mkf evOp_mkm evOp_mks evOp_sls evOp_slv evOp_fad evOp_fld1 evOp_fldn evOp_iad evOp_ixs evOp_ext evOp_lens evOp_lenv evOp_mx evOp_mn evOp_app evOp_bs0 evOp_snil evOp_clr
  FM_ev ev_const FM_put put_none FM_unwanted lk_hit lk_miss lk_nil FM_clear FM_clearB trues pick gc_FM gc_FM0 incK snds renM allM evB_fm enumA cells_agg cells_bool cells_int cells_str cells_nilp cells_ptr cells_ip cells_nils cells_sl cells_vec cells_nilm cells_map cells_nilfn cells_fn cells_nili cells_iface ldA row_mk get_mk set_mk mark_mk alloc_mk' trunc_mk binA resAll_nil resAll_cons FM_resT FM_resC oneOf finish_mk frz_undef frz_bool frz_int frz_str frz_nilp frz_ptr frz_ip frz_nils frz_sl frz_nilm frz_map frz_nilfn frz_fn frz_nili frz_iface frz_old frz_agg frz_tuple frzL_nil frzL_cons kill_nil kill_cons chunk_zero chunk_succ AV.refs AV.refsL evCall_spec lookF_nil lookF_cons callS_nil callS_one clones cloneS_f cloneS_nils cloneS_sl0 fillA putAt_nil putAt_cons evCode_loop bgn_mk aft_mk keeps objsAt ren renId AV.top lowObj h0 succ_le_f elemsA_nils elemsA_vec elemsA_str evOp_die evOp_lkp evOp_cvbs lookA scal_bool scal_int scal_str scal_nils scal_sl scal_tuple scal_agg scal1_bool scal1_int scal1_str scal1_nils scal1_sl scal1_agg

theorem leqK_iff (x y : BitVec 64) : leqK x y = true ↔ ∀ i, x.getLsbD i = true → y.getLsbD i = true := by
  unfold leqK
  rw [beq_iff_eq]
  constructor
  · intro h i hx
    have := congrArg (fun z => z.getLsbD i) h
    simp [hx] at this
    have hi : i < 64 := BitVec.lt_of_getLsbD hx
    exact this hi
  · intro h
    apply BitVec.eq_of_getLsbD_eq
    intro i hi
    have := h i
    cases hx : x.getLsbD i <;> simp_all
theorem join_bit (i : Nat) : ∀ (l : List (BitVec 64)) (acc : BitVec 64), (l.foldl (· ||| ·) acc).getLsbD i = (acc.getLsbD i || l.any (·.getLsbD i))
  | [], acc => by simp
  | x :: r, acc => by
    rw [List.foldl_cons, join_bit i r]
    simp [Bool.or_assoc]
theorem joinK_bit (l : List (BitVec 64)) (i : Nat) : (joinK l).getLsbD i = l.any (·.getLsbD i) := by
  unfold joinK
  rw [join_bit]
  simp
theorem joinK_above (l : List (BitVec 64)) : ∀ x ∈ l, leqK x (joinK l) = true := fun x hx => by
  rw [leqK_iff]
  intro i hi
  rw [joinK_bit]
  exact List.any_eq_true.2 ⟨x, hx, hi⟩
theorem or_eq_iff (x t : BitVec 64) : (x ||| t == t) = leqK x t := by
  rw [Bool.eq_iff_iff, leqK_iff, beq_iff_eq]
  constructor
  · intro h i hi
    have := congrArg (fun z => z.getLsbD i) h
    simpa [hi] using this
  · intro h
    apply BitVec.eq_of_getLsbD_eq
    intro i hi
    have := h i
    cases hx : x.getLsbD i <;> simp_all
theorem joinK_least (l : List (BitVec 64)) (t : BitVec 64) : leqK (joinK l) t = belowK t l := by
  rw [Bool.eq_iff_iff, leqK_iff]
  unfold belowK
  rw [List.all_eq_true]
  constructor
  · intro h x hx
    rw [or_eq_iff, leqK_iff]
    intro i hi
    exact h i (by rw [joinK_bit]; exact List.any_eq_true.2 ⟨x, hx, hi⟩)
  · intro h i hi
    rw [joinK_bit] at hi
    obtain ⟨x, hx, h2⟩ := List.any_eq_true.1 hi
    have := h x hx
    rw [or_eq_iff, leqK_iff] at this
    exact this i h2

end Go.Proofs.YtnkafagfkblfeaaDoor
