import Derived.Test.YtleeinkdkllcdaaGreatDoorFn
import Derived.Test.YtleeinkdkllcdaaGreatDoorKe
set_option linter.unusedVariables false
set_option linter.unusedSimpArgs false
set_option linter.unusedSectionVars false

namespace Go.Proofs.YtleeinkdkllcdaaGreatDoor
open Go Sz
set_option linter.unusedSimpArgs false
attribute [local simp] seqF condF stepF callF callvF guardF trF step1F call1F callv1F guard1F seqK_n seqK_e seqK_r condK_t condK_f stK_s gdK_t gdK_f cvK_f trK_s trK1_s stK1_s gdK1_t gdK1_f cvK1_f evCode_skip evCode_reg evCode_dreg evCode_block evCode_exit evCode_ret evSteps_nil evTr_nil ldId chkTr
 evOp_mov evOp_pick evOp_box evOp_bld evOp_bsl evOp_ld evOp_st evOp_nck evOp_bin evOp_beq evOp_ceq evOp_peq evOp_not evOp_neg evOp_xor evOp_cvi evOp_cvss evOp_cvis evOp_cvsb evOp_mki evOp_mkf evOp_mkm evOp_mks evOp_sls evOp_slv evOp_fad evOp_fld1 evOp_fldn evOp_iad evOp_ixs evOp_ext evOp_lens evOp_lenv evOp_mx evOp_mn evOp_app evOp_bs0 evOp_snil evOp_clr
 FM_ev ev_const FM_put put_none FM_unwanted lk_hit lk_miss lk_nil FM_clear FM_clearB trues pick gc_FM gc_FM0 incK snds renM allM evB_fm enumA cells_agg cells_bool cells_int cells_str cells_nilp cells_ptr cells_ip cells_nils cells_sl cells_vec cells_nilm cells_map cells_nilfn cells_fn cells_nili cells_iface ldA row_mk get_mk set_mk mark_mk alloc_mk' trunc_mk binA resAll_nil resAll_cons FM_resT FM_resC oneOf finish_mk frz_undef frz_bool frz_int frz_str frz_nilp frz_ptr frz_ip frz_nils frz_sl frz_nilm frz_map frz_nilfn frz_fn frz_nili frz_iface frz_old frz_agg frz_tuple frzL_nil frzL_cons kill_nil kill_cons chunk_zero chunk_succ AV.refs AV.refsL evCall_spec lookF_nil lookF_cons callS_nil callS_oneF spK_s spK_n frK_s frK_n clones cloneS_f cloneS_nils cloneS_sl0 fillA putAt_nil putAt_cons evCode_loop bgn_mk aft_mk keeps objsAt ren renId AV.top lowObj h0 succ_le_f oldK oldAll oldLow oldRen lowCells_row lowCells_map lowCells_dead objCells topLow renObj List.idxOf_cons List.idxOf_nil nilA nilK elemsA_nils elemsA_vec elemsA_str evOp_die evOp_lkp evOp_cvbs lookA scal_bool scal_int scal_str scal_nils scal_sl scal_tuple scal_agg scal1_bool scal1_int scal1_str scal1_nils scal1_sl scal1_agg
attribute [local simp low] frz_vecR

/-! shape.Make. -/

def varT (k : Int) : Tm := .nl 0 k []
/-- Variables from a number on. -/
def varsT (first : Int) : Nat → List Tm
  | 0 => []
  | n + 1 => varsT first n ++ [varT (first + n)]
theorem varsT_len (first : Int) : ∀ n, (varsT first n).length = n
  | 0 => rfl
  | n + 1 => by simp [varsT, varsT_len first n]

set_option maxRecDepth 100000 in
set_option maxHeartbeats 4000000 in
theorem c14_loop (C : Nat → List AV → Heap → Option (AV × Heap)) (n : Nat) (K : Int) (N : Int) (s : List UInt8) (first : Int) (hf0 : 0 ≤ first) (hf1 : first ≤ 2147483639) (ar : Nat) (har : ar ≤ 8)
    (hC : ∀ (k : Int) (h : Heap), C 26 [.int .i64 k] h = some ((varT k).enc, h)) : ∀ (j i m : Nat), i + j = ar → 0 < i → j < m →
    aft 2 0 (loopH (evCode C n c14_b0) c14_m0 2 m (c14_f0 (.int .i64 first) (.ptr 0 0) (.ptr 1 0) (.int .i64 ar) (.int .i64 i)) ⟨3, [.row (flatT (varsT first i)), .row [.int .i64 0, .int .i64 0, .str [], .nils], .row [.int .i64 K, .int .i64 N, .str s, .vec 2 0 i 4 i]], 0, 0⟩) =
      some (.exit 1, FM 65 [(3, .ptr 0 0), (6, .ptr 1 0)], ⟨3, [.row (flatT (varsT first ar)), .row [.int .i64 0, .int .i64 0, .str [], .nils], .row [.int .i64 K, .int .i64 N, .str s, .vec 2 0 ar 4 ar]], 0, 0⟩)
  | 0, i, m + 1, e, _, _ => by
    have : i = ar := by omega
    subst this
    have hf := flatT_refs (varsT first i)
    rw [loopH_succ]
    simp [c14_b0, c14_m0, hf]
  | j + 1, i, m + 1, e, hi, hm => by
    have h3 : IntKind.i64.wrap ((i : Int) + 1) = (i : Int) + 1 := wrap_i64 (by omega) (by omega)
    have h4 : IntKind.i64.wrap (first + (i : Int)) = first + (i : Int) := wrap_i64 (by omega) (by omega)
    have h6 : ((i : Int) < (ar : Int)) = True := eq_true (by omega)
    have h7 : (i < ar) = True := eq_true (by omega)
    have hf := flatT_refs (varsT first i)
    have hv : (varT (first + (i : Int))).enc = .agg [.int .i64 0, .int .i64 (first + (i : Int)), .str [], .nils] := rfl
    have hvc : flatT (varsT first (i + 1)) = flatT (varsT first i) ++ [.int .i64 0, .int .i64 (first + (i : Int)), .str [], .nils] := by
      show flatT (varsT first i ++ [varT (first + (i : Int))]) = _
      simp [flatT, Tm.cells, varT, Tm.kind, Tm.num, Tm.name, Tm.argV]
    have hf2 : AV.refsL (flatT (varsT first i) ++ [.int .i64 0, .int .i64 (first + (i : Int)), .str [], .nils]) = 0 := by rw [← hvc]; exact flatT_refs _
    have h8 : (i + 1) * 56 ≤ 140737488355328 := by omega
    have h9 : i + 1 < 9223372036854775808 := by omega
    have h11 : (flatT (varsT first i)).length = i * 4 := by rw [flatT_len, varsT_len]
    have h10 : (flatT (varsT first i)).take (i * 4) = flatT (varsT first i) := by rw [List.take_of_length_le]; omega
    have ih := c14_loop C n K N s first hf0 hf1 ar har hC j (i + 1) m (by omega) (by omega) (by omega)
    rw [hvc] at ih
    simp only [Int.natCast_add, Int.natCast_one] at ih
    rw [loopH_succ]
    simp [c14_b0, c14_m0, h3, h4, h6, h7, hC, hv, hf, hf2, h8, h9, h10, h11, elemsA]
    exact ih

set_option maxRecDepth 100000 in
set_option maxHeartbeats 4000000 in
theorem c14_loop0 (C : Nat → List AV → Heap → Option (AV × Heap)) (n : Nat) (K : Int) (N : Int) (s : List UInt8) (first : Int) (hf0 : 0 ≤ first) (hf1 : first ≤ 2147483639) (ar : Nat) (ha0 : 0 < ar) (har : ar ≤ 8)
    (hC : ∀ (k : Int) (h : Heap), C 26 [.int .i64 k] h = some ((varT k).enc, h)) (m : Nat) (hm : ar < m + 1) :
    aft 2 0 (loopH (evCode C n c14_b0) c14_m0 2 (m + 1) (c14_f0 (.int .i64 first) (.ptr 0 0) (.ptr 1 0) (.int .i64 ar) (.int .i64 0)) ⟨2, [.row [.int .i64 0, .int .i64 0, .str [], .nils], .row [.int .i64 K, .int .i64 N, .str s, .nils]], 2, 0⟩) =
      some (.exit 1, FM 65 [(3, .ptr 0 0), (6, .ptr 1 0)], ⟨3, [.row (flatT (varsT first ar)), .row [.int .i64 0, .int .i64 0, .str [], .nils], .row [.int .i64 K, .int .i64 N, .str s, .vec 2 0 ar 4 ar]], 0, 0⟩) := by
  have ih := c14_loop C n K N s first hf0 hf1 ar har hC (ar - 1) 1 m (by omega) (by omega) (by omega)
  have hw1 : IntKind.i64.wrap 1 = 1 := by decide
  have hwf : IntKind.i64.wrap first = first := wrap_i64 (by omega) (by omega)
  have hl : ((0 : Int) < (ar : Int)) = True := eq_true (by omega)
  have hl2 : (0 < ar) = True := eq_true ha0
  have hv : (varT first).enc = .agg [.int .i64 0, .int .i64 first, .str [], .nils] := rfl
  have hfl : flatT (varsT first 1) = [.int .i64 0, .int .i64 (first + (0 : Nat)), .str [], .nils] := rfl
  rw [hfl] at ih
  simp only [Int.natCast_zero, Int.natCast_one, Int.add_zero] at ih
  rw [loopH_succ]
  simp [c14_b0, c14_m0, hC, hv, hw1, hwf, hl, hl2, elemsA]
  exact ih

def makeS : KSpec := ⟨14, fun | [.agg [.int .i64 2, .int .i64 0, .str s, .nils], .int .i64 ar, .int .i64 first] => (if goodNm s = true ∧ 0 < ar ∧ ar ≤ 8 ∧ 0 ≤ first ∧ first ≤ 2147483639 ∧ s.length < 1000000 then some (.tuple [.agg [.int .i64 2, .int .i64 0, .str s, .sl ((varsT first ar.toNat).map Tm.enc)], .int .i64 0]) else none) | _ => none⟩
theorem makeS_f : makeS.f = 14 := (rfl)
theorem makeS_at (s : List UInt8) (ar : Nat) (first : Int) (h : goodNm s = true ∧ 0 < ar ∧ ar ≤ 8 ∧ 0 ≤ first ∧ first ≤ 2147483639 ∧ s.length < 1000000) : makeS.S [.agg [.int .i64 2, .int .i64 0, .str s, .nils], .int .i64 ar, .int .i64 first] = some (.tuple [.agg [.int .i64 2, .int .i64 0, .str s, .sl ((varsT first ar).map Tm.enc)], .int .i64 0]) := by
  have : goodNm s = true ∧ (0 : Int) < (ar : Int) ∧ (ar : Int) ≤ 8 ∧ 0 ≤ first ∧ first ≤ 2147483639 ∧ s.length < 1000000 := ⟨h.1, by omega, by omega, h.2.2.2⟩
  simp only [makeS, if_pos this, Int.toNat_natCast]
theorem good_atomA (s : List UInt8) : goodT (.nl 2 0 s) = goodNm s := by
  simp [goodT, Tm.size, Tm.depth, Tm.allT, oneK, Tm.kind, Tm.num, Tm.name, Tm.args]
theorem var_call (n : Nat) (k : Int) (h : Heap) : evCall (envOf [goodTS, varS]) (n + 1) 26 [.int .i64 k] h = some ((varT k).enc, h) := by
  have := varS_at k
  simp [goodTS_f, varS_f, this, varT, Tm.enc]
set_option maxRecDepth 100000 in
set_option maxHeartbeats 8000000 in
theorem makeS_ok : KSpecOK Tryz.prog makeS := fun args v hv => by
  unfold makeS at hv ⊢
  dsimp only at hv ⊢
  split at hv
  · rename_i s ar first
    split at hv
    · rename_i h
      obtain ⟨hg, h1, h2, h3, h4, h5⟩ := h
      cases hv
      obtain ⟨k, rfl⟩ : ∃ k : Nat, ar = k := ⟨ar.toNat, by omega⟩
      rw [Int.toNat_natCast]
      refine prim_of (n := 20) (h' := h0) (envOf_ok (ss := [goodTS, varS]) (by simp [goodTS_ok, varS_ok])) ?_ (by simp [AV.refs, AV.refsL]) (by simp [AV.refsL, AV.refs])
      have c1 := goodTS_at (.nl 2 0 s) (by simp [Tm.bulk]; omega)
      rw [good_atomA, hg] at c1
      have e1 : (Tm.nl 2 0 s).enc = .agg [.int .i64 2, .int .i64 0, .str s, .nils] := rfl
      rw [e1] at c1
      have lp := c14_loop0 (evCall (envOf [goodTS, varS]) 19) 19 2 0 s first h3 h4 k (by omega) (by omega) (var_call 18) 18 (by omega)
      obtain ⟨x, r, hxr⟩ : ∃ x r, varsT first k = x :: r := by
        cases hk : varsT first k with
        | nil => have := varsT_len first k; rw [hk] at this; simp at this; omega
        | cons x r => exact ⟨x, r, rfl⟩
      have hkl : k = r.length + 1 := by have := varsT_len first k; rw [hxr] at this; simp at this; omega
      rw [hxr] at lp ⊢
      have hf : ∀ (A B : AObj) (wl md d : Nat), frz ⟨3, [.row (flatT (x :: r)), A, B], wl, md⟩ 0 (d + 2) (.vec 2 0 (r.length + 1) 4 (r.length + 1)) = some (.sl ((x :: r).map Tm.enc), [2]) := fun A B wl md d =>
        frz_vec (by omega) rfl (by omega) (encs_elem (x :: r)) (by simp) (by rw [flatT_len]; simp) (by rw [flatT_eq, List.take_of_length_le]; rw [flatT_len]; simp)
      have hr := encs_refs (x :: r)
      have hr2 := flatT_refs (x :: r)
      have t1 : ((k : Int) = 0) = False := eq_false (by omega)
      have t2 : ((k : Int) < 0) = False := eq_false (by omega)
      have t3 : (first < 0) = False := eq_false (by omega)
      have t4 : ((2147483639 : Int) < first) = False := eq_false (by omega)
      have t5 : ((8 : Int) < (k : Int)) = False := eq_false (by omega)
      have t6 : (k = 0) = False := eq_false (by omega)
      have t7 : (8 < k) = False := eq_false (by omega)
      rw [hkl] at lp t1 t2 t5 t6 t7 ⊢
      simp only [c14_m0, List.map_cons, Int.natCast_add, Int.natCast_one] at lp hf hr t1 t2 t5
      simp [run14, c14, c14_m0, c1, t1, t2, t3, t4, t5, t6, t7, lp, hf, hr, hr2, goodTS_f, varS_f]
    · cases hv
  · cases hv
end Go.Proofs.YtleeinkdkllcdaaGreatDoor

namespace Go.Proofs.YtleeinkdkllcdaaGreatDoor
open Go Sz
theorem awake11_run : evCall (envOf kbS2) 90 11 [] h0 = some (.bool true, h0) := by kernel_rfl
def awake11S : KSpec := ⟨11, fun | [] => some (.bool true) | _ => none⟩
theorem awake11S_f : awake11S.f = 11 := (rfl)
theorem awake11S_at : awake11S.S [] = some (.bool true) := (rfl)
theorem awake11S_ok : KSpecOKX Tryz.prog TabX awake11S := fun args v hv => by
  unfold awake11S at hv ⊢
  dsimp only at hv ⊢
  split at hv
  · cases hv
    exact prim_of (envOf_okX kbS2_ok) awake11_run rfl rfl
  · cases hv
end Go.Proofs.YtleeinkdkllcdaaGreatDoor

namespace Go.Proofs.YtleeinkdkllcdaaGreatDoor
open Go Sz
set_option linter.unusedSimpArgs false
attribute [local simp] seqF condF stepF callF callvF guardF trF step1F call1F callv1F guard1F seqK_n seqK_e seqK_r condK_t condK_f stK_s gdK_t gdK_f cvK_f trK_s trK1_s stK1_s gdK1_t gdK1_f cvK1_f evCode_skip evCode_reg evCode_dreg evCode_block evCode_exit evCode_ret evSteps_nil evTr_nil ldId chkTr
 evOp_mov evOp_pick evOp_box evOp_bld evOp_bsl evOp_ld evOp_st evOp_nck evOp_bin evOp_beq evOp_ceq evOp_peq evOp_not evOp_neg evOp_xor evOp_cvi evOp_cvss evOp_cvis evOp_cvsb evOp_mki evOp_mkf evOp_mkm evOp_mks evOp_sls evOp_slv evOp_fad evOp_fld1 evOp_fldn evOp_iad evOp_ixs evOp_ext evOp_lens evOp_lenv evOp_mx evOp_mn evOp_app evOp_bs0 evOp_snil evOp_clr
 FM_ev ev_const FM_put put_none FM_unwanted lk_hit lk_miss lk_nil FM_clear FM_clearB trues pick gc_FM gc_FM0 incK snds renM allM evB_fm enumA cells_agg cells_bool cells_int cells_str cells_nilp cells_ptr cells_ip cells_nils cells_sl cells_vec cells_nilm cells_map cells_nilfn cells_fn cells_nili cells_iface ldA row_mk get_mk set_mk mark_mk alloc_mk' trunc_mk binA resAll_nil resAll_cons FM_resT FM_resC oneOf finish_mk frz_undef frz_bool frz_int frz_str frz_nilp frz_ptr frz_ip frz_nils frz_sl frz_nilm frz_map frz_nilfn frz_fn frz_nili frz_iface frz_old frz_agg frz_tuple frzL_nil frzL_cons kill_nil kill_cons chunk_zero chunk_succ AV.refs AV.refsL evCall_spec lookF_nil lookF_cons callS_nil callS_oneF spK_s spK_n frK_s frK_n clones cloneS_f cloneS_nils cloneS_sl0 fillA putAt_nil putAt_cons evCode_loop bgn_mk aft_mk keeps objsAt ren renId AV.top lowObj h0 succ_le_f oldK oldAll oldLow oldRen lowCells_row lowCells_map lowCells_dead objCells topLow renObj List.idxOf_cons List.idxOf_nil nilA nilK elemsA_nils elemsA_vec elemsA_str evOp_die evOp_lkp evOp_cvbs lookA scal_bool scal_int scal_str scal_nils scal_sl scal_tuple scal_agg scal1_bool scal1_int scal1_str scal1_nils scal1_sl scal1_agg
attribute [local simp low] frz_vecR

theorem gc_FM0b (n0 n nx : Nat) (os : List AObj) (wl md : Nat) (hw : (n0 ≤ wl) = False) : gc n0 (FM n []) ⟨nx, os, wl, md⟩ =
      match objsAt ⟨nx, os, wl, md⟩ n0 (oldK n0 (os.drop (nx - n0)) []) with
      | some ks => if n0 ≤ nx ∧ oldAll n0 (os.drop (nx - n0)) = true ∧ oldLow n0 ((os.drop (nx - n0)).drop (n0 - wl)) = true then
          (FM n [], ⟨n0 + ks.length, ks.reverse ++ oldRen n0 (oldK n0 (os.drop (nx - n0)) []) (os.drop (nx - n0)), wl, min md wl⟩) else (FM n [], ⟨nx, os, wl, md⟩)
      | none => (FM n [], ⟨nx, os, wl, md⟩) := by
  rw [gc_FM (m := []) n0 nx os wl md rfl]
  simp only [keeps, snds, allM, renM, hw, if_false, true_and]
  cases objsAt ⟨nx, os, wl, md⟩ n0 (oldK n0 (os.drop (nx - n0)) []) <;> rfl
theorem evOp_mup {fr : List AV} {h : Heap} (kd : Nat) (m k v : Opd) : evOp fr h (.mup kd m k v) = match m.ev fr with
    | .map id => (match h.mapAt id with
      | some es => (mupA kd (k.ev fr) (v.ev fr) es).map fun es' => (.undef, ((h.set id (.map es')).mark id (v.ev fr)).mark id (k.ev fr))
      | none => none)
    | _ => none := by
  simp only [evOp]
  cases m.ev fr <;> rfl
end Go.Proofs.YtleeinkdkllcdaaGreatDoor
