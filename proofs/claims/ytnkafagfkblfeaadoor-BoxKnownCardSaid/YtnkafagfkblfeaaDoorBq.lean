import Derived.Test.YtnkafagfkblfeaaDoorBk
set_option linter.unusedVariables false
set_option linter.unusedSimpArgs false
set_option linter.unusedSectionVars false

namespace Go.Proofs.YtnkafagfkblfeaaDoor
open Go Sz
set_option linter.unusedSimpArgs false
attribute [local simp] seqF condF stepF callF callvF guardF trF step1F call1F callv1F guard1F seqK_n seqK_e seqK_r condK_t condK_f stK_s gdK_t gdK_f cvK_f trK_s trK1_s stK1_s gdK1_t gdK1_f cvK1_f evCode_skip evCode_reg evCode_dreg evCode_block evCode_exit evCode_ret evSteps_nil evTr_nil ldId chkTr
 evOp_mov evOp_pick evOp_box evOp_bld evOp_bsl evOp_ld evOp_st evOp_nck evOp_bin evOp_beq evOp_ceq evOp_peq evOp_not evOp_neg evOp_xor evOp_cvi evOp_cvss evOp_cvis evOp_cvsb evOp_mki evOp_mkf evOp_mkm evOp_mks evOp_sls evOp_slv evOp_fad evOp_fld1 evOp_fldn evOp_iad evOp_ixs evOp_ext evOp_lens evOp_lenv evOp_mx evOp_mn evOp_app evOp_bs0 evOp_snil evOp_clr
 FM_ev ev_const FM_put put_none FM_unwanted lk_hit lk_miss lk_nil FM_clear FM_clearB trues pick gc_FM gc_FM0 incK snds renM allM evB_fm enumA cells_agg cells_bool cells_int cells_str cells_nilp cells_ptr cells_ip cells_nils cells_sl cells_vec cells_nilm cells_map cells_nilfn cells_fn cells_nili cells_iface ldA row_mk get_mk set_mk mark_mk alloc_mk' trunc_mk binA resAll_nil resAll_cons FM_resT FM_resC oneOf finish_mk frz_undef frz_bool frz_int frz_str frz_nilp frz_ptr frz_ip frz_nils frz_sl frz_nilm frz_map frz_nilfn frz_fn frz_nili frz_iface frz_old frz_agg frz_tuple frzL_nil frzL_cons kill_nil kill_cons chunk_zero chunk_succ AV.refs AV.refsL evCall_spec lookF_nil lookF_cons callS_nil callS_oneF spK_s spK_n frK_s frK_n clones cloneS_f cloneS_nils cloneS_sl0 fillA putAt_nil putAt_cons evCode_loop bgn_mk aft_mk keeps objsAt ren renId AV.top lowObj h0 succ_le_f oldK oldAll oldLow oldRen lowCells_row lowCells_map lowCells_dead objCells topLow renObj List.idxOf_cons List.idxOf_nil nilA nilK elemsA_nils elemsA_vec elemsA_str evOp_die evOp_lkp evOp_cvbs lookA scal_bool scal_int scal_str scal_nils scal_sl scal_tuple scal_agg scal1_bool scal1_int scal1_str scal1_nils scal1_sl scal1_agg
attribute [local simp low] frz_vecR

/-! BoxKnown: what is closed. -/

def n1 : List (List UInt8) := [[97]]
theorem goodS1 : goodS.S [.sl [.str [97]]] = some (.bool true) := by
  have := goodS_at (.sl [.str [97]]) n1 rfl
  rw [show goodN n1 = true by kernel_rfl] at this
  exact this
theorem goodSn : goodS.S [.nils] = some (.bool false) := by
  have := goodS_at .nils [] rfl
  rw [show goodN [] = false by kernel_rfl] at this
  exact this
theorem fits1_at (c : BitVec 64) : fitsS.S [.sl [.str [97]], .int .u64 (labN c)] = some (.bool (fitsK n1 c)) := fitsS_at (.sl [.str [97]]) n1 c rfl
theorem fits1_0 : fitsS.S [.sl [.str [97]], .int .u64 0] = some (.bool true) := by
  have := fits1_at 0#64
  rw [show fitsK n1 0#64 = true by kernel_rfl] at this
  exact this
theorem fits1_1 : fitsS.S [.sl [.str [97]], .int .u64 1] = some (.bool true) := by
  have := fits1_at 1#64
  rw [show fitsK n1 1#64 = true by kernel_rfl] at this
  exact this
theorem fits1_2 : fitsS.S [.sl [.str [97]], .int .u64 2] = some (.bool false) := by
  have := fits1_at 2#64
  rw [show fitsK n1 2#64 = false by kernel_rfl] at this
  exact this
theorem good_of (t : Tm) (h : t.bulk < 1000000000) (b : Bool) (e : goodT t = b) : goodTS.S [t.enc] = some (.bool b) := e ▸ goodTS_at t h
theorem is_of (t : Tm) (h : t.bulk < 1000000000) (b : Bool) (e : isT t = b) : isS.S [t.enc] = some (.bool b) := e ▸ isS_at t h
theorem copy_of (t u : Tm) (h : t.bulk < 1000000000) (e : copyT t = u) : copyS.S [t.enc, .nilm] = some u.enc := e ▸ size_ok t h
def fT : Tm := .mk 2 0 [102] [.nl 0 3 []]
theorem g_8 : goodTS.S [.agg [.int .i64 8, .int .i64 0, .str [], .nils]] = some (.bool false) := good_of (.nl 8 0 []) (by decide) _ rfl
theorem g_f : goodTS.S [.agg [.int .i64 2, .int .i64 0, .str [102], .sl [.agg [.int .i64 0, .int .i64 3, .str [], .nils]]]] = some (.bool true) := good_of fT (by decide) _ rfl
theorem g_v (n : Int) (h1 : 0 ≤ n) (h2 : n ≤ 2147483647) : goodTS.S [.agg [.int .i64 0, .int .i64 n, .str [], .nils]] = some (.bool true) := good_of (.nl 0 n []) (by simp [Tm.bulk]) _ (by simp [goodT, Tm.size, Tm.depth, Tm.allT, oneK, Tm.kind, Tm.num, Tm.name, Tm.args, h1, h2])
theorem g_i (n : Int) : goodTS.S [.agg [.int .i64 1, .int .i64 n, .str [], .nils]] = some (.bool true) := good_of (.nl 1 n []) (by simp [Tm.bulk]) _ (by simp [goodT, Tm.size, Tm.depth, Tm.allT, oneK, Tm.kind, Tm.num, Tm.name, Tm.args])
theorem g_a : goodTS.S [.agg [.int .i64 2, .int .i64 0, .str [36, 98, 111, 120], .nils]] = some (.bool true) := good_of (.nl 2 0 boxN) (by decide) _ rfl
theorem g_bv : goodTS.S [.agg [.int .i64 2, .int .i64 0, .str [36, 98, 111, 120], .sl [.agg [.int .i64 0, .int .i64 0, .str [], .nils]]]] = some (.bool true) := good_of (.mk 2 0 boxN [.nl 0 0 []]) (by decide) _ rfl
theorem i_a : isS.S [.agg [.int .i64 2, .int .i64 0, .str [36, 98, 111, 120], .nils]] = some (.bool false) := is_of (.nl 2 0 boxN) (by decide) _ rfl
theorem i_bv : isS.S [.agg [.int .i64 2, .int .i64 0, .str [36, 98, 111, 120], .sl [.agg [.int .i64 0, .int .i64 0, .str [], .nils]]]] = some (.bool false) := is_of (.mk 2 0 boxN [.nl 0 0 []]) (by decide) _ rfl
theorem i_bb : isS.S [.agg [.int .i64 2, .int .i64 0, .str [36, 98, 111, 120], .sl [.agg [.int .i64 1, .int .i64 1, .str [], .nils], .agg [.int .i64 1, .int .i64 2, .str [], .nils]]]] = some (.bool false) := is_of (.mk 2 0 boxN [.nl 1 1 [], .nl 1 2 []]) (by decide) _ rfl
theorem cp_f : copyS.S [.agg [.int .i64 2, .int .i64 0, .str [102], .sl [.agg [.int .i64 0, .int .i64 3, .str [], .nils]]], .nilm] = some (.agg [.int .i64 2, .int .i64 0, .str [102], .sl [.agg [.int .i64 0, .int .i64 3, .str [], .nils]]]) := copy_of fT fT (by decide) (by kernel_rfl)
theorem cp_i (n : Int) : copyS.S [.agg [.int .i64 1, .int .i64 n, .str [], .nils], .nilm] = some (.agg [.int .i64 1, .int .i64 n, .str [], .nils]) := copy_of (.nl 1 n []) (.nl 1 n []) (by simp [Tm.bulk]) (by kernel_rfl)
theorem same_f : sameS.S [.agg [.int .i64 2, .int .i64 0, .str [102], .sl [.agg [.int .i64 0, .int .i64 3, .str [], .nils]]], .agg [.int .i64 2, .int .i64 0, .str [102], .sl [.agg [.int .i64 0, .int .i64 3, .str [], .nils]]]] = some (.bool true) := by
  have := sameS_at fT fT ⟨by decide, by decide⟩
  rw [show (goodT fT && goodT fT && sameT fT fT) = true by kernel_rfl] at this
  exact this
theorem comp_f : compS.S [.str [102], .sl [.agg [.int .i64 0, .int .i64 3, .str [], .nils]]] = some (.agg [.int .i64 2, .int .i64 0, .str [102], .sl [.agg [.int .i64 0, .int .i64 3, .str [], .nils]]]) := compS_at [102] [.nl 0 3 []] (by simp)
theorem comp_bv : compS.S [.str [36, 98, 111, 120], .sl [.agg [.int .i64 0, .int .i64 0, .str [], .nils]]] = some (.agg [.int .i64 2, .int .i64 0, .str [36, 98, 111, 120], .sl [.agg [.int .i64 0, .int .i64 0, .str [], .nils]]]) := compS_at [36, 98, 111, 120] [.nl 0 0 []] (by simp)
theorem comp_bb : compS.S [.str [36, 98, 111, 120], .sl [.agg [.int .i64 1, .int .i64 1, .str [], .nils], .agg [.int .i64 1, .int .i64 2, .str [], .nils]]] = some (.agg [.int .i64 2, .int .i64 0, .str [36, 98, 111, 120], .sl [.agg [.int .i64 1, .int .i64 1, .str [], .nils], .agg [.int .i64 1, .int .i64 2, .str [], .nils]]]) := compS_at [36, 98, 111, 120] [.nl 1 1 [], .nl 1 2 []] (by simp)
end Go.Proofs.YtnkafagfkblfeaaDoor

namespace Go.Proofs.YtnkafagfkblfeaaDoor
open Go Sz
set_option linter.unusedSimpArgs false
attribute [local simp] seqF condF stepF callF callvF guardF trF step1F call1F callv1F guard1F seqK_n seqK_e seqK_r condK_t condK_f stK_s gdK_t gdK_f cvK_f trK_s trK1_s stK1_s gdK1_t gdK1_f cvK1_f evCode_skip evCode_reg evCode_dreg evCode_block evCode_exit evCode_ret evSteps_nil evTr_nil ldId chkTr
 evOp_mov evOp_pick evOp_box evOp_bld evOp_bsl evOp_ld evOp_st evOp_nck evOp_bin evOp_beq evOp_ceq evOp_peq evOp_not evOp_neg evOp_xor evOp_cvi evOp_cvss evOp_cvis evOp_cvsb evOp_mki evOp_mkf evOp_mkm evOp_mks evOp_sls evOp_slv evOp_fad evOp_fld1 evOp_fldn evOp_iad evOp_ixs evOp_ext evOp_lens evOp_lenv evOp_mx evOp_mn evOp_app evOp_bs0 evOp_snil evOp_clr
 FM_ev ev_const FM_put put_none FM_unwanted lk_hit lk_miss lk_nil FM_clear FM_clearB trues pick gc_FM gc_FM0 incK snds renM allM evB_fm enumA cells_agg cells_bool cells_int cells_str cells_nilp cells_ptr cells_ip cells_nils cells_sl cells_vec cells_nilm cells_map cells_nilfn cells_fn cells_nili cells_iface ldA row_mk get_mk set_mk mark_mk alloc_mk' trunc_mk binA resAll_nil resAll_cons FM_resT FM_resC oneOf finish_mk frz_undef frz_bool frz_int frz_str frz_nilp frz_ptr frz_ip frz_nils frz_sl frz_nilm frz_map frz_nilfn frz_fn frz_nili frz_iface frz_old frz_agg frz_tuple frzL_nil frzL_cons kill_nil kill_cons chunk_zero chunk_succ AV.refs AV.refsL evCall_spec lookF_nil lookF_cons callS_nil callS_oneF spK_s spK_n frK_s frK_n clones cloneS_f cloneS_nils cloneS_sl0 fillA putAt_nil putAt_cons evCode_loop bgn_mk aft_mk keeps objsAt ren renId AV.top lowObj h0 succ_le_f oldK oldAll oldLow oldRen lowCells_row lowCells_map lowCells_dead objCells topLow renObj List.idxOf_cons List.idxOf_nil nilA nilK elemsA_nils elemsA_vec elemsA_str evOp_die evOp_lkp evOp_cvbs lookA scal_bool scal_int scal_str scal_nils scal_sl scal_tuple scal_agg scal1_bool scal1_int scal1_str scal1_nils scal1_sl scal1_agg
attribute [local simp low] frz_vecR

/-! BoxKnown: the loop. -/

def bsK : Nat → List Bx
  | 0 => [(1#64, fT)]
  | k + 1 => bsK k ++ [(0#64, .nl 1 k [])]
theorem bsK_len : ∀ k, (bsK k).length = k + 1
  | 0 => rfl
  | k + 1 => by rw [bsK, List.length_append, bsK_len k]; rfl
theorem flat0 : flatB (bsK 0) = [.int .u64 1, .int .i64 2, .int .i64 0, .str [102], .sl [.agg [.int .i64 0, .int .i64 3, .str [], .nils]]] := rfl
theorem flatS (k : Nat) : flatB (bsK (k + 1)) = flatB (bsK k) ++ [.int .u64 0, .int .i64 1, .int .i64 k, .str [], .nils] := by
  rw [bsK, flatB_app]
  rfl
abbrev B0 : AObj := .row [.int .u64 0, .int .i64 0, .int .i64 0, .str [], .nils]
abbrev BF : AObj := .row [.int .u64 1, .int .i64 2, .int .i64 0, .str [102], .sl [.agg [.int .i64 0, .int .i64 3, .str [], .nils]]]
abbrev B1 : AObj := .row [.int .i64 2, .int .i64 0, .str [36, 98, 111, 120], .sl [.agg [.int .i64 1, .int .i64 1, .str [], .nils]]]
abbrev T0 : AObj := .row [.int .i64 0, .int .i64 0, .str [], .nils]
abbrev TF : AObj := .row [.int .i64 2, .int .i64 0, .str [102], .sl [.agg [.int .i64 0, .int .i64 3, .str [], .nils]]]
abbrev LA : AObj := .row [.str [97]]
abbrev O21 (x : AObj) (a q : Nat) : List AObj := [B0, .dead, B0, .dead, B0, .dead, B0, B0, BF, B1, .dead, x, BF, B1, TF, .dead, T0, T0, .row [.vec 1 0 1 1 1, .vec a 0 q 5 q], LA, LA]

set_option maxRecDepth 100000 in
set_option maxHeartbeats 10000000 in
theorem c5_next (n : Nat) : ∀ (r k m : Nat), k + r = 999 → r < m → 0 < k →
    aft 21 0 (loopH (evCode (evCall (envOf ss4) (n + 2)) (n + 2) c5_b0) c5_m0 21 m (c5_f0 (.int .i64 1) (.ptr 2 0) (.int .i64 1) (.int .i64 1) (.ptr 12 0) (.int .i64 0) (.int .i64 6) (.int .i64 5) (.int .i64 7) (.int .i64 7) (.int .i64 5) (.int .i64 k)) ⟨22, .row (flatB (bsK k)) :: O21 .dead 21 (k + 1), 2, 0⟩) =
      some (.exit 0, FM 204 [(2, .int .i64 1), (3, .ptr 2 0), (6, .int .i64 1), (8, .int .i64 1), (11, .ptr 12 0), (12, .int .i64 0), (14, .int .i64 6), (16, .int .i64 5), (18, .int .i64 7), (20, .int .i64 7), (22, .int .i64 5)], ⟨22, .row (flatB (bsK 999)) :: O21 .dead 21 1000, 0, 0⟩)
  | 0, k, m + 1, e, _, _ => by
    have e1 : k = 999 := by omega
    subst e1
    have fr := flatB_refs (bsK 999)
    rw [loopH_succ]
    generalize flatB (bsK 999) = FW at *
    simp [c5_b0, fr]
  | r + 1, k, m + 1, e, hm, h0 => by
    have ih := c5_next n r (k + 1) m (by omega) (by omega) (by omega)
    have h1 : ((k : Int) < 999) = True := eq_true (by omega)
    have h3 : IntKind.i64.wrap ((k : Int) + 1) = (k : Int) + 1 := wrap_i64 (by omega) (by omega)
    have fr := flatB_refs (bsK k)
    have fr2 := flatB_refs (bsK (k + 1))
    have lw := flatB_len (bsK k)
    rw [bsK_len] at lw
    rw [flatS] at ih fr2
    rw [show ((k + 1 : Nat) : Int) = (k : Int) + 1 by omega] at ih
    have cb := comp_box ((k : Int) + 1 + 1)
    have i1 := intS_at ((k : Int) + 1 + 1)
    have i2 := intS_at (k : Int)
    have b1 : (k + 1 + 1) * 64 ≤ 140737488355328 := by omega
    have b2 : k + 1 + 1 < 9223372036854775808 := by omega
    have t1 : (1000 ≤ (k : Int) + 1) = False := eq_false (by omega)
    have tP : List.take ((k + 1) * 5) (flatB (bsK k)) = flatB (bsK k) := List.take_of_length_le (by omega)
    rw [loopH_succ]
    generalize flatB (bsK k) = FW at *
    simp [c5_b0, c5_m0, run17, c17, h1, h3, fr, fr2, lw, cb, i1, i2, b1, b2, t1, tP, fits1_0, g_i, cp_i, ss4, awake14S_f, awake14S_at, goodS_f, fitsS_f, goodTS_f, copyS_f, sameS_f, compS_f, intS_f, isS_f]
    exact ih

set_option maxRecDepth 100000 in
set_option maxHeartbeats 10000000 in
theorem c5_first (n m : Nat) (hm : 999 < m) :
    aft 21 0 (loopH (evCode (evCall (envOf ss4) (n + 2)) (n + 2) c5_b0) c5_m0 21 m (c5_f0 (.int .i64 1) (.ptr 2 0) (.int .i64 1) (.int .i64 1) (.ptr 12 0) (.int .i64 0) (.int .i64 6) (.int .i64 5) (.int .i64 7) (.int .i64 7) (.int .i64 5) (.int .i64 0)) ⟨21, O21 BF 9 1, 21, 0⟩) =
      some (.exit 0, FM 204 [(2, .int .i64 1), (3, .ptr 2 0), (6, .int .i64 1), (8, .int .i64 1), (11, .ptr 12 0), (12, .int .i64 0), (14, .int .i64 6), (16, .int .i64 5), (18, .int .i64 7), (20, .int .i64 7), (22, .int .i64 5)], ⟨22, .row (flatB (bsK 999)) :: O21 .dead 21 1000, 0, 0⟩) := by
  obtain ⟨m, rfl⟩ : ∃ m', m = m' + 1 := ⟨m - 1, by omega⟩
  have ih := c5_next n 998 1 m (by omega) (by omega) (by omega)
  have fs : flatB (bsK 1) = [.int .u64 1, .int .i64 2, .int .i64 0, .str [102], .sl [.agg [.int .i64 0, .int .i64 3, .str [], .nils]], .int .u64 0, .int .i64 1, .int .i64 0, .str [], .nils] := rfl
  rw [fs] at ih
  have cb := comp_box 2
  have i1 := intS_at 2
  have i2 := intS_at 0
  have w1 : IntKind.i64.wrap 1 = 1 := rfl
  simp only [show ((1 : Nat) : Int) = 1 from rfl] at ih
  rw [loopH_succ]
  generalize flatB (bsK 999) = FW at *
  simp [w1, c5_b0, c5_m0, run17, c17, cb, i1, i2, fits1_0, g_i, cp_i, ss4, awake14S_f, awake14S_at, goodS_f, fitsS_f, goodTS_f, copyS_f, sameS_f, compS_f, intS_f, isS_f]
  exact ih
end Go.Proofs.YtnkafagfkblfeaaDoor

namespace Go.Proofs.YtnkafagfkblfeaaDoor
open Go Sz
set_option linter.unusedSimpArgs false
attribute [local simp] seqF condF stepF callF callvF guardF trF step1F call1F callv1F guard1F seqK_n seqK_e seqK_r condK_t condK_f stK_s gdK_t gdK_f cvK_f trK_s trK1_s stK1_s gdK1_t gdK1_f cvK1_f evCode_skip evCode_reg evCode_dreg evCode_block evCode_exit evCode_ret evSteps_nil evTr_nil ldId chkTr
 evOp_mov evOp_pick evOp_box evOp_bld evOp_bsl evOp_ld evOp_st evOp_nck evOp_bin evOp_beq evOp_ceq evOp_peq evOp_not evOp_neg evOp_xor evOp_cvi evOp_cvss evOp_cvis evOp_cvsb evOp_mki evOp_mkf evOp_mkm evOp_mks evOp_sls evOp_slv evOp_fad evOp_fld1 evOp_fldn evOp_iad evOp_ixs evOp_ext evOp_lens evOp_lenv evOp_mx evOp_mn evOp_app evOp_bs0 evOp_snil evOp_clr
 FM_ev ev_const FM_put put_none FM_unwanted lk_hit lk_miss lk_nil FM_clear FM_clearB trues pick gc_FM gc_FM0 incK snds renM allM evB_fm enumA cells_agg cells_bool cells_int cells_str cells_nilp cells_ptr cells_ip cells_nils cells_sl cells_vec cells_nilm cells_map cells_nilfn cells_fn cells_nili cells_iface ldA row_mk get_mk set_mk mark_mk alloc_mk' trunc_mk binA resAll_nil resAll_cons FM_resT FM_resC oneOf finish_mk frz_undef frz_bool frz_int frz_str frz_nilp frz_ptr frz_ip frz_nils frz_sl frz_nilm frz_map frz_nilfn frz_fn frz_nili frz_iface frz_old frz_agg frz_tuple frzL_nil frzL_cons kill_nil kill_cons chunk_zero chunk_succ AV.refs AV.refsL evCall_spec lookF_nil lookF_cons callS_nil callS_oneF spK_s spK_n frK_s frK_n clones cloneS_f cloneS_nils cloneS_sl0 fillA putAt_nil putAt_cons evCode_loop bgn_mk aft_mk keeps objsAt ren renId AV.top lowObj h0 succ_le_f oldK oldAll oldLow oldRen lowCells_row lowCells_map lowCells_dead objCells topLow renObj List.idxOf_cons List.idxOf_nil nilA nilK elemsA_nils elemsA_vec elemsA_str evOp_die evOp_lkp evOp_cvbs lookA scal_bool scal_int scal_str scal_nils scal_sl scal_tuple scal_agg scal1_bool scal1_int scal1_str scal1_nils scal1_sl scal1_agg
attribute [local simp low] frz_vecR

/-! BoxKnown, in pieces (printed by wip/gen/cutsimp.py). -/

theorem last_at : List.take 5 (List.drop 4995 (flatB (bsK 999))) = [.int .u64 0, .int .i64 1, .int .i64 998, .str [], .nils] := by
  have h : (bsK 999)[999]? = some (0#64, .nl 1 998 []) := by
    rw [show bsK 999 = bsK 998 ++ [(0#64, .nl 1 998 [])] from rfl, List.getElem?_append_right (by rw [bsK_len]; omega), bsK_len]
    rfl
  exact (flatB_at h).1
noncomputable abbrev kB : Nat → List AV → Heap → Option (AV × Heap) := evCall (envOf [awake14S, goodS, fitsS, goodTS, copyS, sameS, compS, intS, isS]) 1002

set_option maxRecDepth 100000 in
set_option maxHeartbeats 10000000 in
theorem c5_p0 (T : ACode) : evCode kB 1002 (.seq (.reg [⟨(some 0), .op (.mov (.const (.bool false))), none⟩]) (.seq (.seq (.reg [⟨(some 30), .call 14 [], none⟩,
   ⟨(some 31), .op (.un .not (.tmp 30)), none⟩])
 (.cond (.tmp 31) (.seq (.reg [⟨(some 0), .op (.mov (.const (.bool false))), none⟩])
  (.ret (mk 204 [0])))
 .skip)) (.seq (.reg [⟨(some 33), .call 15 [(.const .nils)], none⟩,
   ⟨(some 32), .op (.mov (.tmp 33)), none⟩,
   ⟨(some 34), .op (.ext (.tmp 32) 0), none⟩,
   ⟨(some 35), .op (.ext (.tmp 32) 1), none⟩,
   ⟨(some 1), .op (.mov (.tmp 34)), none⟩,
   ⟨(some 2), .op (.mov (.tmp 35)), none⟩]) (.seq (.reg [⟨(some 37), .op (.bsl 1 1 [(.str [])] [(0, (.const (.str [97])))]), none⟩,
   ⟨(some 38), .call 15 [(.tmp 37)], none⟩,
   ⟨(some 36), .op (.mov (.tmp 38)), none⟩,
   ⟨(some 39), .op (.ext (.tmp 36) 0), none⟩,
   ⟨(some 40), .op (.ext (.tmp 36) 1), none⟩,
   ⟨(some 3), .op (.mov (.tmp 39)), none⟩,
   ⟨(some 4), .op (.mov (.tmp 40)), none⟩]) T)))) (FM 204 []) ⟨0, [], 0, 0⟩ = evCode kB 1002 T (FM 204 [(4, AV.int IntKind.i64 0), (3, AV.ptr 2 0), (40, AV.int IntKind.i64 0), (39, AV.ptr 2 0), (36, AV.tuple [AV.ptr 2 0, AV.int IntKind.i64 0]), (38, AV.tuple [AV.ptr 2 0, AV.int IntKind.i64 0]), (37, AV.vec 0 0 1 1 1), (2, AV.int IntKind.i64 1), (1, AV.nilp), (35, AV.int IntKind.i64 1), (34, AV.nilp), (32, AV.tuple [AV.nilp, AV.int IntKind.i64 1]), (33, AV.tuple [AV.nilp, AV.int IntKind.i64 1]), (31, AV.bool false), (30, AV.bool true), (0, AV.bool false)]) { next := 3, objs := [AObj.row [AV.vec 1 0 1 1 1, AV.nils], AObj.row [AV.str [97]], AObj.row [AV.str [97]]], wl := 0, md := 0 } := by
  have i0 := intS_at 0
  have i1 := intS_at 1
  have i2 := intS_at 2
  have i1k := intS_at 1000
  have w0 : IntKind.i64.wrap 0 = 0 := rfl
  have w9 : IntKind.i64.wrap 999 = 999 := rfl
  simp [w0, w9, run15, c15, run17, c17, run20, c20, run23, c23, run24, c24, run25, c25, goodS1, goodSn, fits1_0, fits1_1, fits1_2, g_8, g_f, g_v, g_i, g_a, g_bv, i_a, i_bv, i_bb, cp_f, cp_i, same_f, comp_f, comp_bv, comp_bb, good_box, is_box, comp_box, i0, i1, i2, i1k, awake14S_f, awake14S_at, goodS_f, fitsS_f, goodTS_f, copyS_f, sameS_f, compS_f, intS_f, isS_f]

set_option maxRecDepth 100000 in
set_option maxHeartbeats 10000000 in
theorem c5_p1 (T : ACode) : evCode kB 1002 (.seq (.reg [⟨(some 42), .op (.mov (.tmp 3)), none⟩,
   ⟨(some 43), .call 24 [(.const (.str [120]))], none⟩,
   ⟨(some 44), .call 17 [(.tmp 42), (.const (.int .u64 2)), (.tmp 43)], none⟩,
   ⟨(some 41), .op (.mov (.tmp 44)), none⟩,
   ⟨(some 45), .op (.ext (.tmp 41) 0), none⟩,
   ⟨(some 46), .op (.ext (.tmp 41) 1), none⟩,
   ⟨(some 5), .op (.box (.const (.agg [(.int .i64 0), (.int .i64 0), (.str []), .nils]))), none⟩,
   ⟨none, .op (.st 4 (.tmp 5) (.tmp 45)), none⟩,
   ⟨(some 6), .op (.mov (.tmp 46)), none⟩]) (.seq (.reg [⟨(some 48), .op (.mov (.tmp 3)), none⟩,
   ⟨(some 49), .op (.bld [(.int .i64 0), (.int .i64 0), (.str []), .nils] [(0, 1, (.const (.int .i64 8)))]), none⟩,
   ⟨(some 50), .call 17 [(.tmp 48), (.const (.int .u64 1)), (.tmp 49)], none⟩,
   ⟨(some 47), .op (.mov (.tmp 50)), none⟩,
   ⟨(some 51), .op (.ext (.tmp 47) 0), none⟩,
   ⟨(some 52), .op (.ext (.tmp 47) 1), none⟩,
   ⟨(some 7), .op (.box (.const (.agg [(.int .i64 0), (.int .i64 0), (.str []), .nils]))), none⟩,
   ⟨none, .op (.st 4 (.tmp 7) (.tmp 51)), none⟩,
   ⟨(some 8), .op (.mov (.tmp 52)), none⟩]) (.seq (.reg [⟨(some 54), .op (.mov (.tmp 3)), none⟩,
   ⟨(some 55), .call 25 [(.const (.int .i64 3))], none⟩,
   ⟨(some 56), .op (.bsl 4 1 [(.int .i64 0), (.int .i64 0), (.str []), .nils] [(0, (.tmp 55))]), none⟩,
   ⟨(some 57), .call 21 [(.const (.str [102])), (.tmp 56)], none⟩,
   ⟨(some 58), .call 17 [(.tmp 54), (.const (.int .u64 1)), (.tmp 57)], none⟩,
   ⟨(some 53), .op (.mov (.tmp 58)), none⟩,
   ⟨(some 59), .op (.ext (.tmp 53) 0), none⟩,
   ⟨(some 60), .op (.ext (.tmp 53) 1), none⟩,
   ⟨(some 9), .op (.box (.const (.agg [(.int .i64 0), (.int .i64 0), (.str []), .nils]))), none⟩,
   ⟨none, .op (.st 4 (.tmp 9) (.tmp 59)), none⟩,
   ⟨(some 10), .op (.mov (.tmp 60)), none⟩]) T))) (FM 204 [(4, AV.int IntKind.i64 0), (3, AV.ptr 2 0), (40, AV.int IntKind.i64 0), (39, AV.ptr 2 0), (36, AV.tuple [AV.ptr 2 0, AV.int IntKind.i64 0]), (38, AV.tuple [AV.ptr 2 0, AV.int IntKind.i64 0]), (37, AV.vec 0 0 1 1 1), (2, AV.int IntKind.i64 1), (1, AV.nilp), (35, AV.int IntKind.i64 1), (34, AV.nilp), (32, AV.tuple [AV.nilp, AV.int IntKind.i64 1]), (33, AV.tuple [AV.nilp, AV.int IntKind.i64 1]), (31, AV.bool false), (30, AV.bool true), (0, AV.bool false)]) { next := 3, objs := [AObj.row [AV.vec 1 0 1 1 1, AV.nils], AObj.row [AV.str [97]], AObj.row [AV.str [97]]], wl := 0, md := 0 } = evCode kB 1002 T (FM 204 [(10, AV.int IntKind.i64 0), (9, AV.ptr 11 0), (60, AV.int IntKind.i64 0), (59, AV.agg [AV.int IntKind.i64 2, AV.int IntKind.i64 0, AV.str [36, 98, 111, 120], AV.sl [AV.agg [AV.int IntKind.i64 1, AV.int IntKind.i64 1, AV.str [], AV.nils]]]), (53, AV.tuple [AV.agg [AV.int IntKind.i64 2, AV.int IntKind.i64 0, AV.str [36, 98, 111, 120], AV.sl [AV.agg [AV.int IntKind.i64 1, AV.int IntKind.i64 1, AV.str [], AV.nils]]], AV.int IntKind.i64 0]), (58, AV.tuple [AV.agg [AV.int IntKind.i64 2, AV.int IntKind.i64 0, AV.str [36, 98, 111, 120], AV.sl [AV.agg [AV.int IntKind.i64 1, AV.int IntKind.i64 1, AV.str [], AV.nils]]], AV.int IntKind.i64 0]), (57, AV.agg [AV.int IntKind.i64 2, AV.int IntKind.i64 0, AV.str [102], AV.sl [AV.agg [AV.int IntKind.i64 0, AV.int IntKind.i64 3, AV.str [], AV.nils]]]), (56, AV.vec 5 0 1 4 1), (55, AV.agg [AV.int IntKind.i64 0, AV.int IntKind.i64 3, AV.str [], AV.nils]), (54, AV.ptr 2 0), (8, AV.int IntKind.i64 1), (7, AV.ptr 4 0), (52, AV.int IntKind.i64 1), (51, AV.agg [AV.int IntKind.i64 0, AV.int IntKind.i64 0, AV.str [], AV.nils]), (47, AV.tuple [AV.agg [AV.int IntKind.i64 0, AV.int IntKind.i64 0, AV.str [], AV.nils], AV.int IntKind.i64 1]), (50, AV.tuple [AV.agg [AV.int IntKind.i64 0, AV.int IntKind.i64 0, AV.str [], AV.nils], AV.int IntKind.i64 1]), (49, AV.agg [AV.int IntKind.i64 8, AV.int IntKind.i64 0, AV.str [], AV.nils]), (48, AV.ptr 2 0), (6, AV.int IntKind.i64 1), (5, AV.ptr 3 0), (46, AV.int IntKind.i64 1), (45, AV.agg [AV.int IntKind.i64 0, AV.int IntKind.i64 0, AV.str [], AV.nils]), (41, AV.tuple [AV.agg [AV.int IntKind.i64 0, AV.int IntKind.i64 0, AV.str [], AV.nils], AV.int IntKind.i64 1]), (44, AV.tuple [AV.agg [AV.int IntKind.i64 0, AV.int IntKind.i64 0, AV.str [], AV.nils], AV.int IntKind.i64 1]), (43, AV.agg [AV.int IntKind.i64 2, AV.int IntKind.i64 0, AV.str [120], AV.nils]), (42, AV.ptr 2 0), (4, AV.int IntKind.i64 0), (3, AV.ptr 2 0), (40, AV.int IntKind.i64 0), (39, AV.ptr 2 0), (36, AV.tuple [AV.ptr 2 0, AV.int IntKind.i64 0]), (38, AV.tuple [AV.ptr 2 0, AV.int IntKind.i64 0]), (37, AV.vec 0 0 1 1 1), (2, AV.int IntKind.i64 1), (1, AV.nilp), (35, AV.int IntKind.i64 1), (34, AV.nilp), (32, AV.tuple [AV.nilp, AV.int IntKind.i64 1]), (33, AV.tuple [AV.nilp, AV.int IntKind.i64 1]), (31, AV.bool false), (30, AV.bool true), (0, AV.bool false)]) { next := 12, objs := [AObj.row [AV.int IntKind.i64 2, AV.int IntKind.i64 0, AV.str [36, 98, 111, 120], AV.sl [AV.agg [AV.int IntKind.i64 1, AV.int IntKind.i64 1, AV.str [], AV.nils]]], AObj.dead, AObj.row [AV.int IntKind.u64 1, AV.int IntKind.i64 2, AV.int IntKind.i64 0, AV.str [102], AV.sl [AV.agg [AV.int IntKind.i64 0, AV.int IntKind.i64 3, AV.str [], AV.nils]]], AObj.row [AV.int IntKind.u64 1, AV.int IntKind.i64 2, AV.int IntKind.i64 0, AV.str [102], AV.sl [AV.agg [AV.int IntKind.i64 0, AV.int IntKind.i64 3, AV.str [], AV.nils]]], AObj.row [AV.int IntKind.i64 2, AV.int IntKind.i64 0, AV.str [36, 98, 111, 120], AV.sl [AV.agg [AV.int IntKind.i64 1, AV.int IntKind.i64 1, AV.str [], AV.nils]]], AObj.row [AV.int IntKind.i64 2, AV.int IntKind.i64 0, AV.str [102], AV.sl [AV.agg [AV.int IntKind.i64 0, AV.int IntKind.i64 3, AV.str [], AV.nils]]], AObj.dead, AObj.row [AV.int IntKind.i64 0, AV.int IntKind.i64 0, AV.str [], AV.nils], AObj.row [AV.int IntKind.i64 0, AV.int IntKind.i64 0, AV.str [], AV.nils], AObj.row [AV.vec 1 0 1 1 1, AV.vec 9 0 1 5 1], AObj.row [AV.str [97]], AObj.row [AV.str [97]]], wl := 0, md := 0 } := by
  have i0 := intS_at 0
  have i1 := intS_at 1
  have i2 := intS_at 2
  have i1k := intS_at 1000
  have w0 : IntKind.i64.wrap 0 = 0 := rfl
  have w9 : IntKind.i64.wrap 999 = 999 := rfl
  simp [w0, w9, run15, c15, run17, c17, run20, c20, run23, c23, run24, c24, run25, c25, goodS1, goodSn, fits1_0, fits1_1, fits1_2, g_8, g_f, g_v, g_i, g_a, g_bv, i_a, i_bv, i_bb, cp_f, cp_i, same_f, comp_f, comp_bv, comp_bb, good_box, is_box, comp_box, i0, i1, i2, i1k, awake14S_f, awake14S_at, goodS_f, fitsS_f, goodTS_f, copyS_f, sameS_f, compS_f, intS_f, isS_f]

set_option maxRecDepth 100000 in
set_option maxHeartbeats 10000000 in
theorem c5_p2 (T : ACode) : evCode kB 1002 (.seq (.reg [⟨(some 62), .op (.mov (.tmp 3)), none⟩,
   ⟨(some 63), .op (.ld (some 4) (.tmp 9)), none⟩,
   ⟨(some 64), .call 23 [(.tmp 62), (.tmp 63)], none⟩,
   ⟨(some 61), .op (.mov (.tmp 64)), none⟩,
   ⟨(some 65), .op (.ext (.tmp 61) 0), none⟩,
   ⟨(some 66), .op (.ext (.tmp 61) 1), none⟩,
   ⟨(some 11), .op (.box (.const (.agg [(.int .u64 0), (.int .i64 0), (.int .i64 0), (.str []), .nils]))), none⟩,
   ⟨none, .op (.st 5 (.tmp 11) (.tmp 65)), none⟩,
   ⟨(some 12), .op (.mov (.tmp 66)), none⟩]) (.seq (.reg [⟨(some 68), .op (.mov (.tmp 3)), none⟩,
   ⟨(some 69), .call 25 [(.const (.int .i64 0))], none⟩,
   ⟨(some 70), .call 23 [(.tmp 68), (.tmp 69)], none⟩,
   ⟨(some 67), .op (.mov (.tmp 70)), none⟩,
   ⟨(some 71), .op (.ext (.tmp 67) 0), none⟩,
   ⟨(some 72), .op (.ext (.tmp 67) 1), none⟩,
   ⟨(some 13), .op (.box (.const (.agg [(.int .u64 0), (.int .i64 0), (.int .i64 0), (.str []), .nils]))), none⟩,
   ⟨none, .op (.st 5 (.tmp 13) (.tmp 71)), none⟩,
   ⟨(some 14), .op (.mov (.tmp 72)), none⟩]) (.seq (.reg [⟨(some 74), .op (.mov (.tmp 3)), none⟩,
   ⟨(some 75), .call 24 [(.const (.str [36, 98, 111, 120]))], none⟩,
   ⟨(some 76), .call 23 [(.tmp 74), (.tmp 75)], none⟩,
   ⟨(some 73), .op (.mov (.tmp 76)), none⟩,
   ⟨(some 77), .op (.ext (.tmp 73) 0), none⟩,
   ⟨(some 78), .op (.ext (.tmp 73) 1), none⟩,
   ⟨(some 15), .op (.box (.const (.agg [(.int .u64 0), (.int .i64 0), (.int .i64 0), (.str []), .nils]))), none⟩,
   ⟨none, .op (.st 5 (.tmp 15) (.tmp 77)), none⟩,
   ⟨(some 16), .op (.mov (.tmp 78)), none⟩]) T))) (FM 204 [(10, AV.int IntKind.i64 0), (9, AV.ptr 11 0), (60, AV.int IntKind.i64 0), (59, AV.agg [AV.int IntKind.i64 2, AV.int IntKind.i64 0, AV.str [36, 98, 111, 120], AV.sl [AV.agg [AV.int IntKind.i64 1, AV.int IntKind.i64 1, AV.str [], AV.nils]]]), (53, AV.tuple [AV.agg [AV.int IntKind.i64 2, AV.int IntKind.i64 0, AV.str [36, 98, 111, 120], AV.sl [AV.agg [AV.int IntKind.i64 1, AV.int IntKind.i64 1, AV.str [], AV.nils]]], AV.int IntKind.i64 0]), (58, AV.tuple [AV.agg [AV.int IntKind.i64 2, AV.int IntKind.i64 0, AV.str [36, 98, 111, 120], AV.sl [AV.agg [AV.int IntKind.i64 1, AV.int IntKind.i64 1, AV.str [], AV.nils]]], AV.int IntKind.i64 0]), (57, AV.agg [AV.int IntKind.i64 2, AV.int IntKind.i64 0, AV.str [102], AV.sl [AV.agg [AV.int IntKind.i64 0, AV.int IntKind.i64 3, AV.str [], AV.nils]]]), (56, AV.vec 5 0 1 4 1), (55, AV.agg [AV.int IntKind.i64 0, AV.int IntKind.i64 3, AV.str [], AV.nils]), (54, AV.ptr 2 0), (8, AV.int IntKind.i64 1), (7, AV.ptr 4 0), (52, AV.int IntKind.i64 1), (51, AV.agg [AV.int IntKind.i64 0, AV.int IntKind.i64 0, AV.str [], AV.nils]), (47, AV.tuple [AV.agg [AV.int IntKind.i64 0, AV.int IntKind.i64 0, AV.str [], AV.nils], AV.int IntKind.i64 1]), (50, AV.tuple [AV.agg [AV.int IntKind.i64 0, AV.int IntKind.i64 0, AV.str [], AV.nils], AV.int IntKind.i64 1]), (49, AV.agg [AV.int IntKind.i64 8, AV.int IntKind.i64 0, AV.str [], AV.nils]), (48, AV.ptr 2 0), (6, AV.int IntKind.i64 1), (5, AV.ptr 3 0), (46, AV.int IntKind.i64 1), (45, AV.agg [AV.int IntKind.i64 0, AV.int IntKind.i64 0, AV.str [], AV.nils]), (41, AV.tuple [AV.agg [AV.int IntKind.i64 0, AV.int IntKind.i64 0, AV.str [], AV.nils], AV.int IntKind.i64 1]), (44, AV.tuple [AV.agg [AV.int IntKind.i64 0, AV.int IntKind.i64 0, AV.str [], AV.nils], AV.int IntKind.i64 1]), (43, AV.agg [AV.int IntKind.i64 2, AV.int IntKind.i64 0, AV.str [120], AV.nils]), (42, AV.ptr 2 0), (4, AV.int IntKind.i64 0), (3, AV.ptr 2 0), (40, AV.int IntKind.i64 0), (39, AV.ptr 2 0), (36, AV.tuple [AV.ptr 2 0, AV.int IntKind.i64 0]), (38, AV.tuple [AV.ptr 2 0, AV.int IntKind.i64 0]), (37, AV.vec 0 0 1 1 1), (2, AV.int IntKind.i64 1), (1, AV.nilp), (35, AV.int IntKind.i64 1), (34, AV.nilp), (32, AV.tuple [AV.nilp, AV.int IntKind.i64 1]), (33, AV.tuple [AV.nilp, AV.int IntKind.i64 1]), (31, AV.bool false), (30, AV.bool true), (0, AV.bool false)]) { next := 12, objs := [AObj.row [AV.int IntKind.i64 2, AV.int IntKind.i64 0, AV.str [36, 98, 111, 120], AV.sl [AV.agg [AV.int IntKind.i64 1, AV.int IntKind.i64 1, AV.str [], AV.nils]]], AObj.dead, AObj.row [AV.int IntKind.u64 1, AV.int IntKind.i64 2, AV.int IntKind.i64 0, AV.str [102], AV.sl [AV.agg [AV.int IntKind.i64 0, AV.int IntKind.i64 3, AV.str [], AV.nils]]], AObj.row [AV.int IntKind.u64 1, AV.int IntKind.i64 2, AV.int IntKind.i64 0, AV.str [102], AV.sl [AV.agg [AV.int IntKind.i64 0, AV.int IntKind.i64 3, AV.str [], AV.nils]]], AObj.row [AV.int IntKind.i64 2, AV.int IntKind.i64 0, AV.str [36, 98, 111, 120], AV.sl [AV.agg [AV.int IntKind.i64 1, AV.int IntKind.i64 1, AV.str [], AV.nils]]], AObj.row [AV.int IntKind.i64 2, AV.int IntKind.i64 0, AV.str [102], AV.sl [AV.agg [AV.int IntKind.i64 0, AV.int IntKind.i64 3, AV.str [], AV.nils]]], AObj.dead, AObj.row [AV.int IntKind.i64 0, AV.int IntKind.i64 0, AV.str [], AV.nils], AObj.row [AV.int IntKind.i64 0, AV.int IntKind.i64 0, AV.str [], AV.nils], AObj.row [AV.vec 1 0 1 1 1, AV.vec 9 0 1 5 1], AObj.row [AV.str [97]], AObj.row [AV.str [97]]], wl := 0, md := 0 } = evCode kB 1002 T (FM 204 [(16, AV.int IntKind.i64 5), (15, AV.ptr 14 0), (78, AV.int IntKind.i64 5), (77, AV.agg [AV.int IntKind.u64 0, AV.int IntKind.i64 0, AV.int IntKind.i64 0, AV.str [], AV.nils]), (73, AV.tuple [AV.agg [AV.int IntKind.u64 0, AV.int IntKind.i64 0, AV.int IntKind.i64 0, AV.str [], AV.nils], AV.int IntKind.i64 5]), (76, AV.tuple [AV.agg [AV.int IntKind.u64 0, AV.int IntKind.i64 0, AV.int IntKind.i64 0, AV.str [], AV.nils], AV.int IntKind.i64 5]), (75, AV.agg [AV.int IntKind.i64 2, AV.int IntKind.i64 0, AV.str [36, 98, 111, 120], AV.nils]), (74, AV.ptr 2 0), (14, AV.int IntKind.i64 6), (13, AV.ptr 13 0), (72, AV.int IntKind.i64 6), (71, AV.agg [AV.int IntKind.u64 0, AV.int IntKind.i64 0, AV.int IntKind.i64 0, AV.str [], AV.nils]), (67, AV.tuple [AV.agg [AV.int IntKind.u64 0, AV.int IntKind.i64 0, AV.int IntKind.i64 0, AV.str [], AV.nils], AV.int IntKind.i64 6]), (70, AV.tuple [AV.agg [AV.int IntKind.u64 0, AV.int IntKind.i64 0, AV.int IntKind.i64 0, AV.str [], AV.nils], AV.int IntKind.i64 6]), (69, AV.agg [AV.int IntKind.i64 0, AV.int IntKind.i64 0, AV.str [], AV.nils]), (68, AV.ptr 2 0), (12, AV.int IntKind.i64 0), (11, AV.ptr 12 0), (66, AV.int IntKind.i64 0), (65, AV.agg [AV.int IntKind.u64 1, AV.int IntKind.i64 2, AV.int IntKind.i64 0, AV.str [102], AV.sl [AV.agg [AV.int IntKind.i64 0, AV.int IntKind.i64 3, AV.str [], AV.nils]]]), (61, AV.tuple [AV.agg [AV.int IntKind.u64 1, AV.int IntKind.i64 2, AV.int IntKind.i64 0, AV.str [102], AV.sl [AV.agg [AV.int IntKind.i64 0, AV.int IntKind.i64 3, AV.str [], AV.nils]]], AV.int IntKind.i64 0]), (64, AV.tuple [AV.agg [AV.int IntKind.u64 1, AV.int IntKind.i64 2, AV.int IntKind.i64 0, AV.str [102], AV.sl [AV.agg [AV.int IntKind.i64 0, AV.int IntKind.i64 3, AV.str [], AV.nils]]], AV.int IntKind.i64 0]), (63, AV.agg [AV.int IntKind.i64 2, AV.int IntKind.i64 0, AV.str [36, 98, 111, 120], AV.sl [AV.agg [AV.int IntKind.i64 1, AV.int IntKind.i64 1, AV.str [], AV.nils]]]), (62, AV.ptr 2 0), (10, AV.int IntKind.i64 0), (9, AV.ptr 11 0), (60, AV.int IntKind.i64 0), (59, AV.agg [AV.int IntKind.i64 2, AV.int IntKind.i64 0, AV.str [36, 98, 111, 120], AV.sl [AV.agg [AV.int IntKind.i64 1, AV.int IntKind.i64 1, AV.str [], AV.nils]]]), (53, AV.tuple [AV.agg [AV.int IntKind.i64 2, AV.int IntKind.i64 0, AV.str [36, 98, 111, 120], AV.sl [AV.agg [AV.int IntKind.i64 1, AV.int IntKind.i64 1, AV.str [], AV.nils]]], AV.int IntKind.i64 0]), (58, AV.tuple [AV.agg [AV.int IntKind.i64 2, AV.int IntKind.i64 0, AV.str [36, 98, 111, 120], AV.sl [AV.agg [AV.int IntKind.i64 1, AV.int IntKind.i64 1, AV.str [], AV.nils]]], AV.int IntKind.i64 0]), (57, AV.agg [AV.int IntKind.i64 2, AV.int IntKind.i64 0, AV.str [102], AV.sl [AV.agg [AV.int IntKind.i64 0, AV.int IntKind.i64 3, AV.str [], AV.nils]]]), (56, AV.vec 5 0 1 4 1), (55, AV.agg [AV.int IntKind.i64 0, AV.int IntKind.i64 3, AV.str [], AV.nils]), (54, AV.ptr 2 0), (8, AV.int IntKind.i64 1), (7, AV.ptr 4 0), (52, AV.int IntKind.i64 1), (51, AV.agg [AV.int IntKind.i64 0, AV.int IntKind.i64 0, AV.str [], AV.nils]), (47, AV.tuple [AV.agg [AV.int IntKind.i64 0, AV.int IntKind.i64 0, AV.str [], AV.nils], AV.int IntKind.i64 1]), (50, AV.tuple [AV.agg [AV.int IntKind.i64 0, AV.int IntKind.i64 0, AV.str [], AV.nils], AV.int IntKind.i64 1]), (49, AV.agg [AV.int IntKind.i64 8, AV.int IntKind.i64 0, AV.str [], AV.nils]), (48, AV.ptr 2 0), (6, AV.int IntKind.i64 1), (5, AV.ptr 3 0), (46, AV.int IntKind.i64 1), (45, AV.agg [AV.int IntKind.i64 0, AV.int IntKind.i64 0, AV.str [], AV.nils]), (41, AV.tuple [AV.agg [AV.int IntKind.i64 0, AV.int IntKind.i64 0, AV.str [], AV.nils], AV.int IntKind.i64 1]), (44, AV.tuple [AV.agg [AV.int IntKind.i64 0, AV.int IntKind.i64 0, AV.str [], AV.nils], AV.int IntKind.i64 1]), (43, AV.agg [AV.int IntKind.i64 2, AV.int IntKind.i64 0, AV.str [120], AV.nils]), (42, AV.ptr 2 0), (4, AV.int IntKind.i64 0), (3, AV.ptr 2 0), (40, AV.int IntKind.i64 0), (39, AV.ptr 2 0), (36, AV.tuple [AV.ptr 2 0, AV.int IntKind.i64 0]), (38, AV.tuple [AV.ptr 2 0, AV.int IntKind.i64 0]), (37, AV.vec 0 0 1 1 1), (2, AV.int IntKind.i64 1), (1, AV.nilp), (35, AV.int IntKind.i64 1), (34, AV.nilp), (32, AV.tuple [AV.nilp, AV.int IntKind.i64 1]), (33, AV.tuple [AV.nilp, AV.int IntKind.i64 1]), (31, AV.bool false), (30, AV.bool true), (0, AV.bool false)]) { next := 15, objs := [AObj.row [AV.int IntKind.u64 0, AV.int IntKind.i64 0, AV.int IntKind.i64 0, AV.str [], AV.nils], AObj.row [AV.int IntKind.u64 0, AV.int IntKind.i64 0, AV.int IntKind.i64 0, AV.str [], AV.nils], AObj.row [AV.int IntKind.u64 1, AV.int IntKind.i64 2, AV.int IntKind.i64 0, AV.str [102], AV.sl [AV.agg [AV.int IntKind.i64 0, AV.int IntKind.i64 3, AV.str [], AV.nils]]], AObj.row [AV.int IntKind.i64 2, AV.int IntKind.i64 0, AV.str [36, 98, 111, 120], AV.sl [AV.agg [AV.int IntKind.i64 1, AV.int IntKind.i64 1, AV.str [], AV.nils]]], AObj.dead, AObj.row [AV.int IntKind.u64 1, AV.int IntKind.i64 2, AV.int IntKind.i64 0, AV.str [102], AV.sl [AV.agg [AV.int IntKind.i64 0, AV.int IntKind.i64 3, AV.str [], AV.nils]]], AObj.row [AV.int IntKind.u64 1, AV.int IntKind.i64 2, AV.int IntKind.i64 0, AV.str [102], AV.sl [AV.agg [AV.int IntKind.i64 0, AV.int IntKind.i64 3, AV.str [], AV.nils]]], AObj.row [AV.int IntKind.i64 2, AV.int IntKind.i64 0, AV.str [36, 98, 111, 120], AV.sl [AV.agg [AV.int IntKind.i64 1, AV.int IntKind.i64 1, AV.str [], AV.nils]]], AObj.row [AV.int IntKind.i64 2, AV.int IntKind.i64 0, AV.str [102], AV.sl [AV.agg [AV.int IntKind.i64 0, AV.int IntKind.i64 3, AV.str [], AV.nils]]], AObj.dead, AObj.row [AV.int IntKind.i64 0, AV.int IntKind.i64 0, AV.str [], AV.nils], AObj.row [AV.int IntKind.i64 0, AV.int IntKind.i64 0, AV.str [], AV.nils], AObj.row [AV.vec 1 0 1 1 1, AV.vec 9 0 1 5 1], AObj.row [AV.str [97]], AObj.row [AV.str [97]]], wl := 0, md := 0 } := by
  have i0 := intS_at 0
  have i1 := intS_at 1
  have i2 := intS_at 2
  have i1k := intS_at 1000
  have w0 : IntKind.i64.wrap 0 = 0 := rfl
  have w9 : IntKind.i64.wrap 999 = 999 := rfl
  simp [w0, w9, run15, c15, run17, c17, run20, c20, run23, c23, run24, c24, run25, c25, goodS1, goodSn, fits1_0, fits1_1, fits1_2, g_8, g_f, g_v, g_i, g_a, g_bv, i_a, i_bv, i_bb, cp_f, cp_i, same_f, comp_f, comp_bv, comp_bb, good_box, is_box, comp_box, i0, i1, i2, i1k, awake14S_f, awake14S_at, goodS_f, fitsS_f, goodTS_f, copyS_f, sameS_f, compS_f, intS_f, isS_f]

set_option maxRecDepth 100000 in
set_option maxHeartbeats 10000000 in
theorem c5_p3 (T : ACode) : evCode kB 1002 (.seq (.reg [⟨(some 80), .op (.mov (.tmp 3)), none⟩,
   ⟨(some 81), .call 22 [(.const (.int .i64 2))], none⟩,
   ⟨(some 82), .op (.bsl 4 1 [(.int .i64 0), (.int .i64 0), (.str []), .nils] [(0, (.tmp 81))]), none⟩,
   ⟨(some 83), .call 21 [(.const (.str [36, 98, 111, 120])), (.tmp 82)], none⟩,
   ⟨(some 84), .call 23 [(.tmp 80), (.tmp 83)], none⟩,
   ⟨(some 79), .op (.mov (.tmp 84)), none⟩,
   ⟨(some 85), .op (.ext (.tmp 79) 0), none⟩,
   ⟨(some 86), .op (.ext (.tmp 79) 1), none⟩,
   ⟨(some 17), .op (.box (.const (.agg [(.int .u64 0), (.int .i64 0), (.int .i64 0), (.str []), .nils]))), none⟩,
   ⟨none, .op (.st 5 (.tmp 17) (.tmp 85)), none⟩,
   ⟨(some 18), .op (.mov (.tmp 86)), none⟩]) (.seq (.reg [⟨(some 88), .op (.mov (.tmp 3)), none⟩,
   ⟨(some 89), .call 22 [(.const (.int .i64 0))], none⟩,
   ⟨(some 90), .op (.bsl 4 1 [(.int .i64 0), (.int .i64 0), (.str []), .nils] [(0, (.tmp 89))]), none⟩,
   ⟨(some 91), .call 21 [(.const (.str [36, 98, 111, 120])), (.tmp 90)], none⟩,
   ⟨(some 92), .call 23 [(.tmp 88), (.tmp 91)], none⟩,
   ⟨(some 87), .op (.mov (.tmp 92)), none⟩,
   ⟨(some 93), .op (.ext (.tmp 87) 0), none⟩,
   ⟨(some 94), .op (.ext (.tmp 87) 1), none⟩,
   ⟨(some 19), .op (.box (.const (.agg [(.int .u64 0), (.int .i64 0), (.int .i64 0), (.str []), .nils]))), none⟩,
   ⟨none, .op (.st 5 (.tmp 19) (.tmp 93)), none⟩,
   ⟨(some 20), .op (.mov (.tmp 94)), none⟩]) (.seq (.reg [⟨(some 96), .op (.mov (.tmp 3)), none⟩,
   ⟨(some 97), .call 25 [(.const (.int .i64 0))], none⟩,
   ⟨(some 98), .op (.bsl 4 1 [(.int .i64 0), (.int .i64 0), (.str []), .nils] [(0, (.tmp 97))]), none⟩,
   ⟨(some 99), .call 21 [(.const (.str [36, 98, 111, 120])), (.tmp 98)], none⟩,
   ⟨(some 100), .call 23 [(.tmp 96), (.tmp 99)], none⟩,
   ⟨(some 95), .op (.mov (.tmp 100)), none⟩,
   ⟨(some 101), .op (.ext (.tmp 95) 0), none⟩,
   ⟨(some 102), .op (.ext (.tmp 95) 1), none⟩,
   ⟨(some 21), .op (.box (.const (.agg [(.int .u64 0), (.int .i64 0), (.int .i64 0), (.str []), .nils]))), none⟩,
   ⟨none, .op (.st 5 (.tmp 21) (.tmp 101)), none⟩,
   ⟨(some 22), .op (.mov (.tmp 102)), none⟩]) T))) (FM 204 [(16, AV.int IntKind.i64 5), (15, AV.ptr 14 0), (78, AV.int IntKind.i64 5), (77, AV.agg [AV.int IntKind.u64 0, AV.int IntKind.i64 0, AV.int IntKind.i64 0, AV.str [], AV.nils]), (73, AV.tuple [AV.agg [AV.int IntKind.u64 0, AV.int IntKind.i64 0, AV.int IntKind.i64 0, AV.str [], AV.nils], AV.int IntKind.i64 5]), (76, AV.tuple [AV.agg [AV.int IntKind.u64 0, AV.int IntKind.i64 0, AV.int IntKind.i64 0, AV.str [], AV.nils], AV.int IntKind.i64 5]), (75, AV.agg [AV.int IntKind.i64 2, AV.int IntKind.i64 0, AV.str [36, 98, 111, 120], AV.nils]), (74, AV.ptr 2 0), (14, AV.int IntKind.i64 6), (13, AV.ptr 13 0), (72, AV.int IntKind.i64 6), (71, AV.agg [AV.int IntKind.u64 0, AV.int IntKind.i64 0, AV.int IntKind.i64 0, AV.str [], AV.nils]), (67, AV.tuple [AV.agg [AV.int IntKind.u64 0, AV.int IntKind.i64 0, AV.int IntKind.i64 0, AV.str [], AV.nils], AV.int IntKind.i64 6]), (70, AV.tuple [AV.agg [AV.int IntKind.u64 0, AV.int IntKind.i64 0, AV.int IntKind.i64 0, AV.str [], AV.nils], AV.int IntKind.i64 6]), (69, AV.agg [AV.int IntKind.i64 0, AV.int IntKind.i64 0, AV.str [], AV.nils]), (68, AV.ptr 2 0), (12, AV.int IntKind.i64 0), (11, AV.ptr 12 0), (66, AV.int IntKind.i64 0), (65, AV.agg [AV.int IntKind.u64 1, AV.int IntKind.i64 2, AV.int IntKind.i64 0, AV.str [102], AV.sl [AV.agg [AV.int IntKind.i64 0, AV.int IntKind.i64 3, AV.str [], AV.nils]]]), (61, AV.tuple [AV.agg [AV.int IntKind.u64 1, AV.int IntKind.i64 2, AV.int IntKind.i64 0, AV.str [102], AV.sl [AV.agg [AV.int IntKind.i64 0, AV.int IntKind.i64 3, AV.str [], AV.nils]]], AV.int IntKind.i64 0]), (64, AV.tuple [AV.agg [AV.int IntKind.u64 1, AV.int IntKind.i64 2, AV.int IntKind.i64 0, AV.str [102], AV.sl [AV.agg [AV.int IntKind.i64 0, AV.int IntKind.i64 3, AV.str [], AV.nils]]], AV.int IntKind.i64 0]), (63, AV.agg [AV.int IntKind.i64 2, AV.int IntKind.i64 0, AV.str [36, 98, 111, 120], AV.sl [AV.agg [AV.int IntKind.i64 1, AV.int IntKind.i64 1, AV.str [], AV.nils]]]), (62, AV.ptr 2 0), (10, AV.int IntKind.i64 0), (9, AV.ptr 11 0), (60, AV.int IntKind.i64 0), (59, AV.agg [AV.int IntKind.i64 2, AV.int IntKind.i64 0, AV.str [36, 98, 111, 120], AV.sl [AV.agg [AV.int IntKind.i64 1, AV.int IntKind.i64 1, AV.str [], AV.nils]]]), (53, AV.tuple [AV.agg [AV.int IntKind.i64 2, AV.int IntKind.i64 0, AV.str [36, 98, 111, 120], AV.sl [AV.agg [AV.int IntKind.i64 1, AV.int IntKind.i64 1, AV.str [], AV.nils]]], AV.int IntKind.i64 0]), (58, AV.tuple [AV.agg [AV.int IntKind.i64 2, AV.int IntKind.i64 0, AV.str [36, 98, 111, 120], AV.sl [AV.agg [AV.int IntKind.i64 1, AV.int IntKind.i64 1, AV.str [], AV.nils]]], AV.int IntKind.i64 0]), (57, AV.agg [AV.int IntKind.i64 2, AV.int IntKind.i64 0, AV.str [102], AV.sl [AV.agg [AV.int IntKind.i64 0, AV.int IntKind.i64 3, AV.str [], AV.nils]]]), (56, AV.vec 5 0 1 4 1), (55, AV.agg [AV.int IntKind.i64 0, AV.int IntKind.i64 3, AV.str [], AV.nils]), (54, AV.ptr 2 0), (8, AV.int IntKind.i64 1), (7, AV.ptr 4 0), (52, AV.int IntKind.i64 1), (51, AV.agg [AV.int IntKind.i64 0, AV.int IntKind.i64 0, AV.str [], AV.nils]), (47, AV.tuple [AV.agg [AV.int IntKind.i64 0, AV.int IntKind.i64 0, AV.str [], AV.nils], AV.int IntKind.i64 1]), (50, AV.tuple [AV.agg [AV.int IntKind.i64 0, AV.int IntKind.i64 0, AV.str [], AV.nils], AV.int IntKind.i64 1]), (49, AV.agg [AV.int IntKind.i64 8, AV.int IntKind.i64 0, AV.str [], AV.nils]), (48, AV.ptr 2 0), (6, AV.int IntKind.i64 1), (5, AV.ptr 3 0), (46, AV.int IntKind.i64 1), (45, AV.agg [AV.int IntKind.i64 0, AV.int IntKind.i64 0, AV.str [], AV.nils]), (41, AV.tuple [AV.agg [AV.int IntKind.i64 0, AV.int IntKind.i64 0, AV.str [], AV.nils], AV.int IntKind.i64 1]), (44, AV.tuple [AV.agg [AV.int IntKind.i64 0, AV.int IntKind.i64 0, AV.str [], AV.nils], AV.int IntKind.i64 1]), (43, AV.agg [AV.int IntKind.i64 2, AV.int IntKind.i64 0, AV.str [120], AV.nils]), (42, AV.ptr 2 0), (4, AV.int IntKind.i64 0), (3, AV.ptr 2 0), (40, AV.int IntKind.i64 0), (39, AV.ptr 2 0), (36, AV.tuple [AV.ptr 2 0, AV.int IntKind.i64 0]), (38, AV.tuple [AV.ptr 2 0, AV.int IntKind.i64 0]), (37, AV.vec 0 0 1 1 1), (2, AV.int IntKind.i64 1), (1, AV.nilp), (35, AV.int IntKind.i64 1), (34, AV.nilp), (32, AV.tuple [AV.nilp, AV.int IntKind.i64 1]), (33, AV.tuple [AV.nilp, AV.int IntKind.i64 1]), (31, AV.bool false), (30, AV.bool true), (0, AV.bool false)]) { next := 15, objs := [AObj.row [AV.int IntKind.u64 0, AV.int IntKind.i64 0, AV.int IntKind.i64 0, AV.str [], AV.nils], AObj.row [AV.int IntKind.u64 0, AV.int IntKind.i64 0, AV.int IntKind.i64 0, AV.str [], AV.nils], AObj.row [AV.int IntKind.u64 1, AV.int IntKind.i64 2, AV.int IntKind.i64 0, AV.str [102], AV.sl [AV.agg [AV.int IntKind.i64 0, AV.int IntKind.i64 3, AV.str [], AV.nils]]], AObj.row [AV.int IntKind.i64 2, AV.int IntKind.i64 0, AV.str [36, 98, 111, 120], AV.sl [AV.agg [AV.int IntKind.i64 1, AV.int IntKind.i64 1, AV.str [], AV.nils]]], AObj.dead, AObj.row [AV.int IntKind.u64 1, AV.int IntKind.i64 2, AV.int IntKind.i64 0, AV.str [102], AV.sl [AV.agg [AV.int IntKind.i64 0, AV.int IntKind.i64 3, AV.str [], AV.nils]]], AObj.row [AV.int IntKind.u64 1, AV.int IntKind.i64 2, AV.int IntKind.i64 0, AV.str [102], AV.sl [AV.agg [AV.int IntKind.i64 0, AV.int IntKind.i64 3, AV.str [], AV.nils]]], AObj.row [AV.int IntKind.i64 2, AV.int IntKind.i64 0, AV.str [36, 98, 111, 120], AV.sl [AV.agg [AV.int IntKind.i64 1, AV.int IntKind.i64 1, AV.str [], AV.nils]]], AObj.row [AV.int IntKind.i64 2, AV.int IntKind.i64 0, AV.str [102], AV.sl [AV.agg [AV.int IntKind.i64 0, AV.int IntKind.i64 3, AV.str [], AV.nils]]], AObj.dead, AObj.row [AV.int IntKind.i64 0, AV.int IntKind.i64 0, AV.str [], AV.nils], AObj.row [AV.int IntKind.i64 0, AV.int IntKind.i64 0, AV.str [], AV.nils], AObj.row [AV.vec 1 0 1 1 1, AV.vec 9 0 1 5 1], AObj.row [AV.str [97]], AObj.row [AV.str [97]]], wl := 0, md := 0 } = evCode kB 1002 T (FM 204 [(22, AV.int IntKind.i64 5), (21, AV.ptr 20 0), (102, AV.int IntKind.i64 5), (101, AV.agg [AV.int IntKind.u64 0, AV.int IntKind.i64 0, AV.int IntKind.i64 0, AV.str [], AV.nils]), (95, AV.tuple [AV.agg [AV.int IntKind.u64 0, AV.int IntKind.i64 0, AV.int IntKind.i64 0, AV.str [], AV.nils], AV.int IntKind.i64 5]), (100, AV.tuple [AV.agg [AV.int IntKind.u64 0, AV.int IntKind.i64 0, AV.int IntKind.i64 0, AV.str [], AV.nils], AV.int IntKind.i64 5]), (99, AV.agg [AV.int IntKind.i64 2, AV.int IntKind.i64 0, AV.str [36, 98, 111, 120], AV.sl [AV.agg [AV.int IntKind.i64 0, AV.int IntKind.i64 0, AV.str [], AV.nils]]]), (98, AV.vec 19 0 1 4 1), (97, AV.agg [AV.int IntKind.i64 0, AV.int IntKind.i64 0, AV.str [], AV.nils]), (96, AV.ptr 2 0), (20, AV.int IntKind.i64 7), (19, AV.ptr 18 0), (94, AV.int IntKind.i64 7), (93, AV.agg [AV.int IntKind.u64 0, AV.int IntKind.i64 0, AV.int IntKind.i64 0, AV.str [], AV.nils]), (87, AV.tuple [AV.agg [AV.int IntKind.u64 0, AV.int IntKind.i64 0, AV.int IntKind.i64 0, AV.str [], AV.nils], AV.int IntKind.i64 7]), (92, AV.tuple [AV.agg [AV.int IntKind.u64 0, AV.int IntKind.i64 0, AV.int IntKind.i64 0, AV.str [], AV.nils], AV.int IntKind.i64 7]), (91, AV.agg [AV.int IntKind.i64 2, AV.int IntKind.i64 0, AV.str [36, 98, 111, 120], AV.sl [AV.agg [AV.int IntKind.i64 1, AV.int IntKind.i64 0, AV.str [], AV.nils]]]), (90, AV.vec 17 0 1 4 1), (89, AV.agg [AV.int IntKind.i64 1, AV.int IntKind.i64 0, AV.str [], AV.nils]), (88, AV.ptr 2 0), (18, AV.int IntKind.i64 7), (17, AV.ptr 16 0), (86, AV.int IntKind.i64 7), (85, AV.agg [AV.int IntKind.u64 0, AV.int IntKind.i64 0, AV.int IntKind.i64 0, AV.str [], AV.nils]), (79, AV.tuple [AV.agg [AV.int IntKind.u64 0, AV.int IntKind.i64 0, AV.int IntKind.i64 0, AV.str [], AV.nils], AV.int IntKind.i64 7]), (84, AV.tuple [AV.agg [AV.int IntKind.u64 0, AV.int IntKind.i64 0, AV.int IntKind.i64 0, AV.str [], AV.nils], AV.int IntKind.i64 7]), (83, AV.agg [AV.int IntKind.i64 2, AV.int IntKind.i64 0, AV.str [36, 98, 111, 120], AV.sl [AV.agg [AV.int IntKind.i64 1, AV.int IntKind.i64 2, AV.str [], AV.nils]]]), (82, AV.vec 15 0 1 4 1), (81, AV.agg [AV.int IntKind.i64 1, AV.int IntKind.i64 2, AV.str [], AV.nils]), (80, AV.ptr 2 0), (16, AV.int IntKind.i64 5), (15, AV.ptr 14 0), (78, AV.int IntKind.i64 5), (77, AV.agg [AV.int IntKind.u64 0, AV.int IntKind.i64 0, AV.int IntKind.i64 0, AV.str [], AV.nils]), (73, AV.tuple [AV.agg [AV.int IntKind.u64 0, AV.int IntKind.i64 0, AV.int IntKind.i64 0, AV.str [], AV.nils], AV.int IntKind.i64 5]), (76, AV.tuple [AV.agg [AV.int IntKind.u64 0, AV.int IntKind.i64 0, AV.int IntKind.i64 0, AV.str [], AV.nils], AV.int IntKind.i64 5]), (75, AV.agg [AV.int IntKind.i64 2, AV.int IntKind.i64 0, AV.str [36, 98, 111, 120], AV.nils]), (74, AV.ptr 2 0), (14, AV.int IntKind.i64 6), (13, AV.ptr 13 0), (72, AV.int IntKind.i64 6), (71, AV.agg [AV.int IntKind.u64 0, AV.int IntKind.i64 0, AV.int IntKind.i64 0, AV.str [], AV.nils]), (67, AV.tuple [AV.agg [AV.int IntKind.u64 0, AV.int IntKind.i64 0, AV.int IntKind.i64 0, AV.str [], AV.nils], AV.int IntKind.i64 6]), (70, AV.tuple [AV.agg [AV.int IntKind.u64 0, AV.int IntKind.i64 0, AV.int IntKind.i64 0, AV.str [], AV.nils], AV.int IntKind.i64 6]), (69, AV.agg [AV.int IntKind.i64 0, AV.int IntKind.i64 0, AV.str [], AV.nils]), (68, AV.ptr 2 0), (12, AV.int IntKind.i64 0), (11, AV.ptr 12 0), (66, AV.int IntKind.i64 0), (65, AV.agg [AV.int IntKind.u64 1, AV.int IntKind.i64 2, AV.int IntKind.i64 0, AV.str [102], AV.sl [AV.agg [AV.int IntKind.i64 0, AV.int IntKind.i64 3, AV.str [], AV.nils]]]), (61, AV.tuple [AV.agg [AV.int IntKind.u64 1, AV.int IntKind.i64 2, AV.int IntKind.i64 0, AV.str [102], AV.sl [AV.agg [AV.int IntKind.i64 0, AV.int IntKind.i64 3, AV.str [], AV.nils]]], AV.int IntKind.i64 0]), (64, AV.tuple [AV.agg [AV.int IntKind.u64 1, AV.int IntKind.i64 2, AV.int IntKind.i64 0, AV.str [102], AV.sl [AV.agg [AV.int IntKind.i64 0, AV.int IntKind.i64 3, AV.str [], AV.nils]]], AV.int IntKind.i64 0]), (63, AV.agg [AV.int IntKind.i64 2, AV.int IntKind.i64 0, AV.str [36, 98, 111, 120], AV.sl [AV.agg [AV.int IntKind.i64 1, AV.int IntKind.i64 1, AV.str [], AV.nils]]]), (62, AV.ptr 2 0), (10, AV.int IntKind.i64 0), (9, AV.ptr 11 0), (60, AV.int IntKind.i64 0), (59, AV.agg [AV.int IntKind.i64 2, AV.int IntKind.i64 0, AV.str [36, 98, 111, 120], AV.sl [AV.agg [AV.int IntKind.i64 1, AV.int IntKind.i64 1, AV.str [], AV.nils]]]), (53, AV.tuple [AV.agg [AV.int IntKind.i64 2, AV.int IntKind.i64 0, AV.str [36, 98, 111, 120], AV.sl [AV.agg [AV.int IntKind.i64 1, AV.int IntKind.i64 1, AV.str [], AV.nils]]], AV.int IntKind.i64 0]), (58, AV.tuple [AV.agg [AV.int IntKind.i64 2, AV.int IntKind.i64 0, AV.str [36, 98, 111, 120], AV.sl [AV.agg [AV.int IntKind.i64 1, AV.int IntKind.i64 1, AV.str [], AV.nils]]], AV.int IntKind.i64 0]), (57, AV.agg [AV.int IntKind.i64 2, AV.int IntKind.i64 0, AV.str [102], AV.sl [AV.agg [AV.int IntKind.i64 0, AV.int IntKind.i64 3, AV.str [], AV.nils]]]), (56, AV.vec 5 0 1 4 1), (55, AV.agg [AV.int IntKind.i64 0, AV.int IntKind.i64 3, AV.str [], AV.nils]), (54, AV.ptr 2 0), (8, AV.int IntKind.i64 1), (7, AV.ptr 4 0), (52, AV.int IntKind.i64 1), (51, AV.agg [AV.int IntKind.i64 0, AV.int IntKind.i64 0, AV.str [], AV.nils]), (47, AV.tuple [AV.agg [AV.int IntKind.i64 0, AV.int IntKind.i64 0, AV.str [], AV.nils], AV.int IntKind.i64 1]), (50, AV.tuple [AV.agg [AV.int IntKind.i64 0, AV.int IntKind.i64 0, AV.str [], AV.nils], AV.int IntKind.i64 1]), (49, AV.agg [AV.int IntKind.i64 8, AV.int IntKind.i64 0, AV.str [], AV.nils]), (48, AV.ptr 2 0), (6, AV.int IntKind.i64 1), (5, AV.ptr 3 0), (46, AV.int IntKind.i64 1), (45, AV.agg [AV.int IntKind.i64 0, AV.int IntKind.i64 0, AV.str [], AV.nils]), (41, AV.tuple [AV.agg [AV.int IntKind.i64 0, AV.int IntKind.i64 0, AV.str [], AV.nils], AV.int IntKind.i64 1]), (44, AV.tuple [AV.agg [AV.int IntKind.i64 0, AV.int IntKind.i64 0, AV.str [], AV.nils], AV.int IntKind.i64 1]), (43, AV.agg [AV.int IntKind.i64 2, AV.int IntKind.i64 0, AV.str [120], AV.nils]), (42, AV.ptr 2 0), (4, AV.int IntKind.i64 0), (3, AV.ptr 2 0), (40, AV.int IntKind.i64 0), (39, AV.ptr 2 0), (36, AV.tuple [AV.ptr 2 0, AV.int IntKind.i64 0]), (38, AV.tuple [AV.ptr 2 0, AV.int IntKind.i64 0]), (37, AV.vec 0 0 1 1 1), (2, AV.int IntKind.i64 1), (1, AV.nilp), (35, AV.int IntKind.i64 1), (34, AV.nilp), (32, AV.tuple [AV.nilp, AV.int IntKind.i64 1]), (33, AV.tuple [AV.nilp, AV.int IntKind.i64 1]), (31, AV.bool false), (30, AV.bool true), (0, AV.bool false)]) { next := 21, objs := [AObj.row [AV.int IntKind.u64 0, AV.int IntKind.i64 0, AV.int IntKind.i64 0, AV.str [], AV.nils], AObj.dead, AObj.row [AV.int IntKind.u64 0, AV.int IntKind.i64 0, AV.int IntKind.i64 0, AV.str [], AV.nils], AObj.dead, AObj.row [AV.int IntKind.u64 0, AV.int IntKind.i64 0, AV.int IntKind.i64 0, AV.str [], AV.nils], AObj.dead, AObj.row [AV.int IntKind.u64 0, AV.int IntKind.i64 0, AV.int IntKind.i64 0, AV.str [], AV.nils], AObj.row [AV.int IntKind.u64 0, AV.int IntKind.i64 0, AV.int IntKind.i64 0, AV.str [], AV.nils], AObj.row [AV.int IntKind.u64 1, AV.int IntKind.i64 2, AV.int IntKind.i64 0, AV.str [102], AV.sl [AV.agg [AV.int IntKind.i64 0, AV.int IntKind.i64 3, AV.str [], AV.nils]]], AObj.row [AV.int IntKind.i64 2, AV.int IntKind.i64 0, AV.str [36, 98, 111, 120], AV.sl [AV.agg [AV.int IntKind.i64 1, AV.int IntKind.i64 1, AV.str [], AV.nils]]], AObj.dead, AObj.row [AV.int IntKind.u64 1, AV.int IntKind.i64 2, AV.int IntKind.i64 0, AV.str [102], AV.sl [AV.agg [AV.int IntKind.i64 0, AV.int IntKind.i64 3, AV.str [], AV.nils]]], AObj.row [AV.int IntKind.u64 1, AV.int IntKind.i64 2, AV.int IntKind.i64 0, AV.str [102], AV.sl [AV.agg [AV.int IntKind.i64 0, AV.int IntKind.i64 3, AV.str [], AV.nils]]], AObj.row [AV.int IntKind.i64 2, AV.int IntKind.i64 0, AV.str [36, 98, 111, 120], AV.sl [AV.agg [AV.int IntKind.i64 1, AV.int IntKind.i64 1, AV.str [], AV.nils]]], AObj.row [AV.int IntKind.i64 2, AV.int IntKind.i64 0, AV.str [102], AV.sl [AV.agg [AV.int IntKind.i64 0, AV.int IntKind.i64 3, AV.str [], AV.nils]]], AObj.dead, AObj.row [AV.int IntKind.i64 0, AV.int IntKind.i64 0, AV.str [], AV.nils], AObj.row [AV.int IntKind.i64 0, AV.int IntKind.i64 0, AV.str [], AV.nils], AObj.row [AV.vec 1 0 1 1 1, AV.vec 9 0 1 5 1], AObj.row [AV.str [97]], AObj.row [AV.str [97]]], wl := 0, md := 0 } := by
  have i0 := intS_at 0
  have i1 := intS_at 1
  have i2 := intS_at 2
  have i1k := intS_at 1000
  have w0 : IntKind.i64.wrap 0 = 0 := rfl
  have w9 : IntKind.i64.wrap 999 = 999 := rfl
  simp [w0, w9, run15, c15, run17, c17, run20, c20, run23, c23, run24, c24, run25, c25, goodS1, goodSn, fits1_0, fits1_1, fits1_2, g_8, g_f, g_v, g_i, g_a, g_bv, i_a, i_bv, i_bb, cp_f, cp_i, same_f, comp_f, comp_bv, comp_bb, good_box, is_box, comp_box, i0, i1, i2, i1k, awake14S_f, awake14S_at, goodS_f, fitsS_f, goodTS_f, copyS_f, sameS_f, compS_f, intS_f, isS_f]

set_option maxRecDepth 100000 in
set_option maxHeartbeats 10000000 in
theorem c5_p4 (T : ACode) (FW : List AV) (fr : AV.refsL FW = 0) (lw : FW.length = 5000) (la : List.take 5 (List.drop 4995 FW) = [.int .u64 0, .int .i64 1, .int .i64 998, .str [], .nils]) : evCode kB 1002 (.seq (.reg [⟨(some 117), .op (.mov (.tmp 3)), none⟩,
   ⟨(some 118), .call 22 [(.const (.int .i64 0))], none⟩,
   ⟨(some 119), .call 17 [(.tmp 117), (.const (.int .u64 0)), (.tmp 118)], none⟩,
   ⟨(some 116), .op (.mov (.tmp 119)), none⟩,
   ⟨(some 120), .op (.ext (.tmp 116) 0), none⟩,
   ⟨(some 121), .op (.ext (.tmp 116) 1), none⟩,
   ⟨(some 26), .op (.box (.const (.agg [(.int .i64 0), (.int .i64 0), (.str []), .nils]))), none⟩,
   ⟨none, .op (.st 4 (.tmp 26) (.tmp 120)), none⟩,
   ⟨(some 27), .op (.mov (.tmp 121)), none⟩]) (.seq (.reg [⟨(some 123), .op (.mov (.tmp 3)), none⟩,
   ⟨(some 124), .call 22 [(.const (.int .i64 1000))], none⟩,
   ⟨(some 125), .op (.bsl 4 1 [(.int .i64 0), (.int .i64 0), (.str []), .nils] [(0, (.tmp 124))]), none⟩,
   ⟨(some 126), .call 21 [(.const (.str [36, 98, 111, 120])), (.tmp 125)], none⟩,
   ⟨(some 127), .call 23 [(.tmp 123), (.tmp 126)], none⟩,
   ⟨(some 122), .op (.mov (.tmp 127)), none⟩,
   ⟨(some 128), .op (.ext (.tmp 122) 0), none⟩,
   ⟨(some 129), .op (.ext (.tmp 122) 1), none⟩,
   ⟨(some 28), .op (.box (.const (.agg [(.int .u64 0), (.int .i64 0), (.int .i64 0), (.str []), .nils]))), none⟩,
   ⟨none, .op (.st 5 (.tmp 28) (.tmp 128)), none⟩,
   ⟨(some 29), .op (.mov (.tmp 129)), none⟩]) T)) (FM 204 [(2, .int .i64 1), (3, .ptr 2 0), (6, .int .i64 1), (8, .int .i64 1), (11, .ptr 12 0), (12, .int .i64 0), (14, .int .i64 6), (16, .int .i64 5), (18, .int .i64 7), (20, .int .i64 7), (22, .int .i64 5)]) ⟨22, .row FW :: O21 .dead 21 1000, 0, 0⟩ = evCode kB 1002 T (FM 204 [(29, AV.int IntKind.i64 0), (28, AV.ptr 24 0), (129, AV.int IntKind.i64 0), (128, AV.agg [AV.int IntKind.u64 0, AV.int IntKind.i64 1, AV.int IntKind.i64 998, AV.str [], AV.nils]), (122, AV.tuple [AV.agg [AV.int IntKind.u64 0, AV.int IntKind.i64 1, AV.int IntKind.i64 998, AV.str [], AV.nils], AV.int IntKind.i64 0]), (127, AV.tuple [AV.agg [AV.int IntKind.u64 0, AV.int IntKind.i64 1, AV.int IntKind.i64 998, AV.str [], AV.nils], AV.int IntKind.i64 0]), (126, AV.agg [AV.int IntKind.i64 2, AV.int IntKind.i64 0, AV.str [36, 98, 111, 120], AV.sl [AV.agg [AV.int IntKind.i64 1, AV.int IntKind.i64 1000, AV.str [], AV.nils]]]), (125, AV.vec 23 0 1 4 1), (124, AV.agg [AV.int IntKind.i64 1, AV.int IntKind.i64 1000, AV.str [], AV.nils]), (123, AV.ptr 2 0), (27, AV.int IntKind.i64 14), (26, AV.ptr 22 0), (121, AV.int IntKind.i64 14), (120, AV.agg [AV.int IntKind.i64 0, AV.int IntKind.i64 0, AV.str [], AV.nils]), (116, AV.tuple [AV.agg [AV.int IntKind.i64 0, AV.int IntKind.i64 0, AV.str [], AV.nils], AV.int IntKind.i64 14]), (119, AV.tuple [AV.agg [AV.int IntKind.i64 0, AV.int IntKind.i64 0, AV.str [], AV.nils], AV.int IntKind.i64 14]), (118, AV.agg [AV.int IntKind.i64 1, AV.int IntKind.i64 0, AV.str [], AV.nils]), (117, AV.ptr 2 0), (2, AV.int IntKind.i64 1), (3, AV.ptr 2 0), (6, AV.int IntKind.i64 1), (8, AV.int IntKind.i64 1), (11, AV.ptr 12 0), (12, AV.int IntKind.i64 0), (14, AV.int IntKind.i64 6), (16, AV.int IntKind.i64 5), (18, AV.int IntKind.i64 7), (20, AV.int IntKind.i64 7), (22, AV.int IntKind.i64 5)]) { next := 25, objs := AObj.row [AV.int IntKind.u64 0, AV.int IntKind.i64 1, AV.int IntKind.i64 998, AV.str [], AV.nils] :: AObj.dead :: AObj.row [AV.int IntKind.i64 0, AV.int IntKind.i64 0, AV.str [], AV.nils] :: AObj.row FW :: O21 AObj.dead 21 1000, wl := 0, md := 0 } := by
  have i0 := intS_at 0
  have i1 := intS_at 1
  have i2 := intS_at 2
  have i1k := intS_at 1000
  have w0 : IntKind.i64.wrap 0 = 0 := rfl
  have w9 : IntKind.i64.wrap 999 = 999 := rfl
  simp [w0, w9, run15, c15, run17, c17, run20, c20, run23, c23, run24, c24, run25, c25, goodS1, goodSn, fits1_0, fits1_1, fits1_2, g_8, g_f, g_v, g_i, g_a, g_bv, i_a, i_bv, i_bb, cp_f, cp_i, same_f, comp_f, comp_bv, comp_bb, good_box, is_box, comp_box, i0, i1, i2, i1k, awake14S_f, awake14S_at, goodS_f, fitsS_f, goodTS_f, copyS_f, sameS_f, compS_f, intS_f, isS_f, fr, lw, la]

set_option maxRecDepth 100000 in
set_option maxHeartbeats 10000000 in
theorem c5_p5 (FW : List AV) (fr : AV.refsL FW = 0) (lw : FW.length = 5000) (la : List.take 5 (List.drop 4995 FW) = [.int .u64 0, .int .i64 1, .int .i64 998, .str [], .nils]) : evCode kB 1002 (.seq (.dreg [⟨(some 130), .op (.mov (.tmp 2)), none⟩,
   ⟨(some 131), .op (.bin .eql (.tmp 130) (.const (.int .i64 1))), none⟩,
   ⟨(some 132), .op (.mov (.tmp 131)), none⟩,
   ⟨(some 133), .op (.mov (.tmp 6)), (some (132, true))⟩,
   ⟨(some 134), .op (.bin .eql (.tmp 133) (.const (.int .i64 1))), (some (132, true))⟩,
   ⟨(some 135), .op (.pick (.tmp 132) (.tmp 134) (.const (.bool false))), none⟩,
   ⟨(some 136), .op (.mov (.tmp 135)), none⟩,
   ⟨(some 137), .op (.mov (.tmp 8)), (some (136, true))⟩,
   ⟨(some 138), .op (.bin .eql (.tmp 137) (.const (.int .i64 1))), (some (136, true))⟩,
   ⟨(some 139), .op (.pick (.tmp 136) (.tmp 138) (.const (.bool false))), none⟩,
   ⟨(some 140), .op (.mov (.tmp 139)), none⟩,
   ⟨(some 141), .op (.mov (.tmp 12)), (some (140, true))⟩,
   ⟨(some 142), .op (.bin .eql (.tmp 141) (.const (.int .i64 0))), (some (140, true))⟩,
   ⟨(some 143), .op (.pick (.tmp 140) (.tmp 142) (.const (.bool false))), none⟩,
   ⟨(some 144), .op (.mov (.tmp 143)), none⟩,
   ⟨(some 145), .op (.fad 0 (.tmp 11)), (some (144, true))⟩,
   ⟨(some 146), .op (.ld none (.tmp 145)), (some (144, true))⟩,
   ⟨(some 147), .op (.bin .eql (.tmp 146) (.const (.int .u64 1))), (some (144, true))⟩,
   ⟨(some 148), .op (.pick (.tmp 144) (.tmp 147) (.const (.bool false))), none⟩,
   ⟨(some 149), .op (.mov (.tmp 148)), none⟩,
   ⟨(some 150), .op (.fad 1 (.tmp 11)), (some (149, true))⟩,
   ⟨(some 151), .op (.ld (some 4) (.tmp 150)), (some (149, true))⟩,
   ⟨(some 152), .call 25 [(.const (.int .i64 3))], (some (149, true))⟩,
   ⟨(some 153), .op (.bsl 4 1 [(.int .i64 0), (.int .i64 0), (.str []), .nils] [(0, (.tmp 152))]), (some (149, true))⟩,
   ⟨(some 154), .call 21 [(.const (.str [102])), (.tmp 153)], (some (149, true))⟩,
   ⟨(some 155), .call 18 [(.tmp 151), (.tmp 154)], (some (149, true))⟩,
   ⟨(some 156), .op (.pick (.tmp 149) (.tmp 155) (.const (.bool false))), none⟩,
   ⟨(some 157), .op (.mov (.tmp 156)), none⟩,
   ⟨(some 158), .op (.mov (.tmp 14)), (some (157, true))⟩,
   ⟨(some 159), .op (.bin .eql (.tmp 158) (.const (.int .i64 6))), (some (157, true))⟩,
   ⟨(some 160), .op (.pick (.tmp 157) (.tmp 159) (.const (.bool false))), none⟩,
   ⟨(some 161), .op (.mov (.tmp 160)), none⟩,
   ⟨(some 162), .op (.mov (.tmp 16)), (some (161, true))⟩,
   ⟨(some 163), .op (.bin .eql (.tmp 162) (.const (.int .i64 5))), (some (161, true))⟩,
   ⟨(some 164), .op (.pick (.tmp 161) (.tmp 163) (.const (.bool false))), none⟩,
   ⟨(some 165), .op (.mov (.tmp 164)), none⟩,
   ⟨(some 166), .op (.mov (.tmp 18)), (some (165, true))⟩,
   ⟨(some 167), .op (.bin .eql (.tmp 166) (.const (.int .i64 7))), (some (165, true))⟩,
   ⟨(some 168), .op (.pick (.tmp 165) (.tmp 167) (.const (.bool false))), none⟩,
   ⟨(some 169), .op (.mov (.tmp 168)), none⟩,
   ⟨(some 170), .op (.mov (.tmp 20)), (some (169, true))⟩,
   ⟨(some 171), .op (.bin .eql (.tmp 170) (.const (.int .i64 7))), (some (169, true))⟩,
   ⟨(some 172), .op (.pick (.tmp 169) (.tmp 171) (.const (.bool false))), none⟩,
   ⟨(some 173), .op (.mov (.tmp 172)), none⟩,
   ⟨(some 174), .op (.mov (.tmp 22)), (some (173, true))⟩,
   ⟨(some 175), .op (.bin .eql (.tmp 174) (.const (.int .i64 5))), (some (173, true))⟩,
   ⟨(some 176), .op (.pick (.tmp 173) (.tmp 175) (.const (.bool false))), none⟩,
   ⟨(some 177), .op (.mov (.tmp 176)), none⟩,
   ⟨(some 178), .op (.mov (.tmp 27)), (some (177, true))⟩,
   ⟨(some 179), .op (.bin .eql (.tmp 178) (.const (.int .i64 14))), (some (177, true))⟩,
   ⟨(some 180), .op (.pick (.tmp 177) (.tmp 179) (.const (.bool false))), none⟩,
   ⟨(some 181), .op (.mov (.tmp 180)), none⟩,
   ⟨(some 182), .op (.mov (.tmp 29)), (some (181, true))⟩,
   ⟨(some 183), .op (.bin .eql (.tmp 182) (.const (.int .i64 0))), (some (181, true))⟩,
   ⟨(some 184), .op (.pick (.tmp 181) (.tmp 183) (.const (.bool false))), none⟩,
   ⟨(some 185), .op (.mov (.tmp 184)), none⟩,
   ⟨(some 186), .op (.fad 1 (.tmp 28)), (some (185, true))⟩,
   ⟨(some 187), .op (.fad 1 (.tmp 186)), (some (185, true))⟩,
   ⟨(some 188), .op (.ld none (.tmp 187)), (some (185, true))⟩,
   ⟨(some 189), .op (.bin .eql (.tmp 188) (.const (.int .i64 998))), (some (185, true))⟩,
   ⟨(some 190), .op (.pick (.tmp 185) (.tmp 189) (.const (.bool false))), none⟩,
   ⟨(some 191), .op (.mov (.tmp 190)), none⟩,
   ⟨(some 192), .op (.mov (.tmp 3)), (some (191, true))⟩,
   ⟨(some 193), .call 20 [(.tmp 192)], (some (191, true))⟩,
   ⟨(some 194), .op (.bin .eql (.tmp 193) (.const (.int .i64 1000))), (some (191, true))⟩,
   ⟨(some 195), .op (.pick (.tmp 191) (.tmp 194) (.const (.bool false))), none⟩,
   ⟨(some 196), .op (.mov (.tmp 195)), none⟩,
   ⟨(some 197), .call 22 [(.const (.int .i64 1))], (some (196, true))⟩,
   ⟨(some 198), .call 22 [(.const (.int .i64 2))], (some (196, true))⟩,
   ⟨(some 199), .op (.bsl 4 2 [(.int .i64 0), (.int .i64 0), (.str []), .nils, (.int .i64 0), (.int .i64 0), (.str []), .nils] [(0, (.tmp 197)), (1, (.tmp 198))]), (some (196, true))⟩,
   ⟨(some 200), .call 21 [(.const (.str [36, 98, 111, 120])), (.tmp 199)], (some (196, true))⟩,
   ⟨(some 201), .call 19 [(.tmp 200)], (some (196, true))⟩,
   ⟨(some 202), .op (.un .not (.tmp 201)), (some (196, true))⟩,
   ⟨(some 203), .op (.pick (.tmp 196) (.tmp 202) (.const (.bool false))), none⟩,
   ⟨(some 0), .op (.mov (.tmp 203)), none⟩] [(21, 22), (21, 23), (21, 24)]) (.ret (mk 204 [0]))) (FM 204 [(29, AV.int IntKind.i64 0), (28, AV.ptr 24 0), (129, AV.int IntKind.i64 0), (128, AV.agg [AV.int IntKind.u64 0, AV.int IntKind.i64 1, AV.int IntKind.i64 998, AV.str [], AV.nils]), (122, AV.tuple [AV.agg [AV.int IntKind.u64 0, AV.int IntKind.i64 1, AV.int IntKind.i64 998, AV.str [], AV.nils], AV.int IntKind.i64 0]), (127, AV.tuple [AV.agg [AV.int IntKind.u64 0, AV.int IntKind.i64 1, AV.int IntKind.i64 998, AV.str [], AV.nils], AV.int IntKind.i64 0]), (126, AV.agg [AV.int IntKind.i64 2, AV.int IntKind.i64 0, AV.str [36, 98, 111, 120], AV.sl [AV.agg [AV.int IntKind.i64 1, AV.int IntKind.i64 1000, AV.str [], AV.nils]]]), (125, AV.vec 23 0 1 4 1), (124, AV.agg [AV.int IntKind.i64 1, AV.int IntKind.i64 1000, AV.str [], AV.nils]), (123, AV.ptr 2 0), (27, AV.int IntKind.i64 14), (26, AV.ptr 22 0), (121, AV.int IntKind.i64 14), (120, AV.agg [AV.int IntKind.i64 0, AV.int IntKind.i64 0, AV.str [], AV.nils]), (116, AV.tuple [AV.agg [AV.int IntKind.i64 0, AV.int IntKind.i64 0, AV.str [], AV.nils], AV.int IntKind.i64 14]), (119, AV.tuple [AV.agg [AV.int IntKind.i64 0, AV.int IntKind.i64 0, AV.str [], AV.nils], AV.int IntKind.i64 14]), (118, AV.agg [AV.int IntKind.i64 1, AV.int IntKind.i64 0, AV.str [], AV.nils]), (117, AV.ptr 2 0), (2, AV.int IntKind.i64 1), (3, AV.ptr 2 0), (6, AV.int IntKind.i64 1), (8, AV.int IntKind.i64 1), (11, AV.ptr 12 0), (12, AV.int IntKind.i64 0), (14, AV.int IntKind.i64 6), (16, AV.int IntKind.i64 5), (18, AV.int IntKind.i64 7), (20, AV.int IntKind.i64 7), (22, AV.int IntKind.i64 5)]) { next := 25, objs := AObj.row [AV.int IntKind.u64 0, AV.int IntKind.i64 1, AV.int IntKind.i64 998, AV.str [], AV.nils] :: AObj.dead :: AObj.row [AV.int IntKind.i64 0, AV.int IntKind.i64 0, AV.str [], AV.nils] :: AObj.row FW :: O21 AObj.dead 21 1000, wl := 0, md := 0 } = some (Ex.ret, FM 204 [(0, AV.bool true)], { next := 27, objs := AObj.dead :: AObj.dead :: AObj.row [AV.int IntKind.u64 0, AV.int IntKind.i64 1, AV.int IntKind.i64 998, AV.str [], AV.nils] :: AObj.dead :: AObj.row [AV.int IntKind.i64 0, AV.int IntKind.i64 0, AV.str [], AV.nils] :: AObj.row FW :: O21 AObj.dead 21 1000, wl := 0, md := 0 }) := by
  have i0 := intS_at 0
  have i1 := intS_at 1
  have i2 := intS_at 2
  have i1k := intS_at 1000
  have w0 : IntKind.i64.wrap 0 = 0 := rfl
  have w9 : IntKind.i64.wrap 999 = 999 := rfl
  simp [w0, w9, run15, c15, run17, c17, run20, c20, run23, c23, run24, c24, run25, c25, goodS1, goodSn, fits1_0, fits1_1, fits1_2, g_8, g_f, g_v, g_i, g_a, g_bv, i_a, i_bv, i_bb, cp_f, cp_i, same_f, comp_f, comp_bv, comp_bb, good_box, is_box, comp_box, i0, i1, i2, i1k, awake14S_f, awake14S_at, goodS_f, fitsS_f, goodTS_f, copyS_f, sameS_f, compS_f, intS_f, isS_f, fr, lw, la]

set_option maxRecDepth 100000 in
set_option maxHeartbeats 10000000 in
theorem c5_lp (n : Nat) (hn : 999 < n) (T : ACode) : evCode (evCall (envOf [awake14S, goodS, fitsS, goodTS, copyS, sameS, compS, intS, isS]) (n + 2)) (n + 2) (.seq (.seq (.reg [⟨(some 23), .op (.mov (.const (.int .i64 0))), none⟩])
 (.block 0 (.loop c5_m0 c5_b0))) T) (FM 204 [(22, AV.int IntKind.i64 5), (21, AV.ptr 20 0), (102, AV.int IntKind.i64 5), (101, AV.agg [AV.int IntKind.u64 0, AV.int IntKind.i64 0, AV.int IntKind.i64 0, AV.str [], AV.nils]), (95, AV.tuple [AV.agg [AV.int IntKind.u64 0, AV.int IntKind.i64 0, AV.int IntKind.i64 0, AV.str [], AV.nils], AV.int IntKind.i64 5]), (100, AV.tuple [AV.agg [AV.int IntKind.u64 0, AV.int IntKind.i64 0, AV.int IntKind.i64 0, AV.str [], AV.nils], AV.int IntKind.i64 5]), (99, AV.agg [AV.int IntKind.i64 2, AV.int IntKind.i64 0, AV.str [36, 98, 111, 120], AV.sl [AV.agg [AV.int IntKind.i64 0, AV.int IntKind.i64 0, AV.str [], AV.nils]]]), (98, AV.vec 19 0 1 4 1), (97, AV.agg [AV.int IntKind.i64 0, AV.int IntKind.i64 0, AV.str [], AV.nils]), (96, AV.ptr 2 0), (20, AV.int IntKind.i64 7), (19, AV.ptr 18 0), (94, AV.int IntKind.i64 7), (93, AV.agg [AV.int IntKind.u64 0, AV.int IntKind.i64 0, AV.int IntKind.i64 0, AV.str [], AV.nils]), (87, AV.tuple [AV.agg [AV.int IntKind.u64 0, AV.int IntKind.i64 0, AV.int IntKind.i64 0, AV.str [], AV.nils], AV.int IntKind.i64 7]), (92, AV.tuple [AV.agg [AV.int IntKind.u64 0, AV.int IntKind.i64 0, AV.int IntKind.i64 0, AV.str [], AV.nils], AV.int IntKind.i64 7]), (91, AV.agg [AV.int IntKind.i64 2, AV.int IntKind.i64 0, AV.str [36, 98, 111, 120], AV.sl [AV.agg [AV.int IntKind.i64 1, AV.int IntKind.i64 0, AV.str [], AV.nils]]]), (90, AV.vec 17 0 1 4 1), (89, AV.agg [AV.int IntKind.i64 1, AV.int IntKind.i64 0, AV.str [], AV.nils]), (88, AV.ptr 2 0), (18, AV.int IntKind.i64 7), (17, AV.ptr 16 0), (86, AV.int IntKind.i64 7), (85, AV.agg [AV.int IntKind.u64 0, AV.int IntKind.i64 0, AV.int IntKind.i64 0, AV.str [], AV.nils]), (79, AV.tuple [AV.agg [AV.int IntKind.u64 0, AV.int IntKind.i64 0, AV.int IntKind.i64 0, AV.str [], AV.nils], AV.int IntKind.i64 7]), (84, AV.tuple [AV.agg [AV.int IntKind.u64 0, AV.int IntKind.i64 0, AV.int IntKind.i64 0, AV.str [], AV.nils], AV.int IntKind.i64 7]), (83, AV.agg [AV.int IntKind.i64 2, AV.int IntKind.i64 0, AV.str [36, 98, 111, 120], AV.sl [AV.agg [AV.int IntKind.i64 1, AV.int IntKind.i64 2, AV.str [], AV.nils]]]), (82, AV.vec 15 0 1 4 1), (81, AV.agg [AV.int IntKind.i64 1, AV.int IntKind.i64 2, AV.str [], AV.nils]), (80, AV.ptr 2 0), (16, AV.int IntKind.i64 5), (15, AV.ptr 14 0), (78, AV.int IntKind.i64 5), (77, AV.agg [AV.int IntKind.u64 0, AV.int IntKind.i64 0, AV.int IntKind.i64 0, AV.str [], AV.nils]), (73, AV.tuple [AV.agg [AV.int IntKind.u64 0, AV.int IntKind.i64 0, AV.int IntKind.i64 0, AV.str [], AV.nils], AV.int IntKind.i64 5]), (76, AV.tuple [AV.agg [AV.int IntKind.u64 0, AV.int IntKind.i64 0, AV.int IntKind.i64 0, AV.str [], AV.nils], AV.int IntKind.i64 5]), (75, AV.agg [AV.int IntKind.i64 2, AV.int IntKind.i64 0, AV.str [36, 98, 111, 120], AV.nils]), (74, AV.ptr 2 0), (14, AV.int IntKind.i64 6), (13, AV.ptr 13 0), (72, AV.int IntKind.i64 6), (71, AV.agg [AV.int IntKind.u64 0, AV.int IntKind.i64 0, AV.int IntKind.i64 0, AV.str [], AV.nils]), (67, AV.tuple [AV.agg [AV.int IntKind.u64 0, AV.int IntKind.i64 0, AV.int IntKind.i64 0, AV.str [], AV.nils], AV.int IntKind.i64 6]), (70, AV.tuple [AV.agg [AV.int IntKind.u64 0, AV.int IntKind.i64 0, AV.int IntKind.i64 0, AV.str [], AV.nils], AV.int IntKind.i64 6]), (69, AV.agg [AV.int IntKind.i64 0, AV.int IntKind.i64 0, AV.str [], AV.nils]), (68, AV.ptr 2 0), (12, AV.int IntKind.i64 0), (11, AV.ptr 12 0), (66, AV.int IntKind.i64 0), (65, AV.agg [AV.int IntKind.u64 1, AV.int IntKind.i64 2, AV.int IntKind.i64 0, AV.str [102], AV.sl [AV.agg [AV.int IntKind.i64 0, AV.int IntKind.i64 3, AV.str [], AV.nils]]]), (61, AV.tuple [AV.agg [AV.int IntKind.u64 1, AV.int IntKind.i64 2, AV.int IntKind.i64 0, AV.str [102], AV.sl [AV.agg [AV.int IntKind.i64 0, AV.int IntKind.i64 3, AV.str [], AV.nils]]], AV.int IntKind.i64 0]), (64, AV.tuple [AV.agg [AV.int IntKind.u64 1, AV.int IntKind.i64 2, AV.int IntKind.i64 0, AV.str [102], AV.sl [AV.agg [AV.int IntKind.i64 0, AV.int IntKind.i64 3, AV.str [], AV.nils]]], AV.int IntKind.i64 0]), (63, AV.agg [AV.int IntKind.i64 2, AV.int IntKind.i64 0, AV.str [36, 98, 111, 120], AV.sl [AV.agg [AV.int IntKind.i64 1, AV.int IntKind.i64 1, AV.str [], AV.nils]]]), (62, AV.ptr 2 0), (10, AV.int IntKind.i64 0), (9, AV.ptr 11 0), (60, AV.int IntKind.i64 0), (59, AV.agg [AV.int IntKind.i64 2, AV.int IntKind.i64 0, AV.str [36, 98, 111, 120], AV.sl [AV.agg [AV.int IntKind.i64 1, AV.int IntKind.i64 1, AV.str [], AV.nils]]]), (53, AV.tuple [AV.agg [AV.int IntKind.i64 2, AV.int IntKind.i64 0, AV.str [36, 98, 111, 120], AV.sl [AV.agg [AV.int IntKind.i64 1, AV.int IntKind.i64 1, AV.str [], AV.nils]]], AV.int IntKind.i64 0]), (58, AV.tuple [AV.agg [AV.int IntKind.i64 2, AV.int IntKind.i64 0, AV.str [36, 98, 111, 120], AV.sl [AV.agg [AV.int IntKind.i64 1, AV.int IntKind.i64 1, AV.str [], AV.nils]]], AV.int IntKind.i64 0]), (57, AV.agg [AV.int IntKind.i64 2, AV.int IntKind.i64 0, AV.str [102], AV.sl [AV.agg [AV.int IntKind.i64 0, AV.int IntKind.i64 3, AV.str [], AV.nils]]]), (56, AV.vec 5 0 1 4 1), (55, AV.agg [AV.int IntKind.i64 0, AV.int IntKind.i64 3, AV.str [], AV.nils]), (54, AV.ptr 2 0), (8, AV.int IntKind.i64 1), (7, AV.ptr 4 0), (52, AV.int IntKind.i64 1), (51, AV.agg [AV.int IntKind.i64 0, AV.int IntKind.i64 0, AV.str [], AV.nils]), (47, AV.tuple [AV.agg [AV.int IntKind.i64 0, AV.int IntKind.i64 0, AV.str [], AV.nils], AV.int IntKind.i64 1]), (50, AV.tuple [AV.agg [AV.int IntKind.i64 0, AV.int IntKind.i64 0, AV.str [], AV.nils], AV.int IntKind.i64 1]), (49, AV.agg [AV.int IntKind.i64 8, AV.int IntKind.i64 0, AV.str [], AV.nils]), (48, AV.ptr 2 0), (6, AV.int IntKind.i64 1), (5, AV.ptr 3 0), (46, AV.int IntKind.i64 1), (45, AV.agg [AV.int IntKind.i64 0, AV.int IntKind.i64 0, AV.str [], AV.nils]), (41, AV.tuple [AV.agg [AV.int IntKind.i64 0, AV.int IntKind.i64 0, AV.str [], AV.nils], AV.int IntKind.i64 1]), (44, AV.tuple [AV.agg [AV.int IntKind.i64 0, AV.int IntKind.i64 0, AV.str [], AV.nils], AV.int IntKind.i64 1]), (43, AV.agg [AV.int IntKind.i64 2, AV.int IntKind.i64 0, AV.str [120], AV.nils]), (42, AV.ptr 2 0), (4, AV.int IntKind.i64 0), (3, AV.ptr 2 0), (40, AV.int IntKind.i64 0), (39, AV.ptr 2 0), (36, AV.tuple [AV.ptr 2 0, AV.int IntKind.i64 0]), (38, AV.tuple [AV.ptr 2 0, AV.int IntKind.i64 0]), (37, AV.vec 0 0 1 1 1), (2, AV.int IntKind.i64 1), (1, AV.nilp), (35, AV.int IntKind.i64 1), (34, AV.nilp), (32, AV.tuple [AV.nilp, AV.int IntKind.i64 1]), (33, AV.tuple [AV.nilp, AV.int IntKind.i64 1]), (31, AV.bool false), (30, AV.bool true), (0, AV.bool false)]) { next := 21, objs := [AObj.row [AV.int IntKind.u64 0, AV.int IntKind.i64 0, AV.int IntKind.i64 0, AV.str [], AV.nils], AObj.dead, AObj.row [AV.int IntKind.u64 0, AV.int IntKind.i64 0, AV.int IntKind.i64 0, AV.str [], AV.nils], AObj.dead, AObj.row [AV.int IntKind.u64 0, AV.int IntKind.i64 0, AV.int IntKind.i64 0, AV.str [], AV.nils], AObj.dead, AObj.row [AV.int IntKind.u64 0, AV.int IntKind.i64 0, AV.int IntKind.i64 0, AV.str [], AV.nils], AObj.row [AV.int IntKind.u64 0, AV.int IntKind.i64 0, AV.int IntKind.i64 0, AV.str [], AV.nils], AObj.row [AV.int IntKind.u64 1, AV.int IntKind.i64 2, AV.int IntKind.i64 0, AV.str [102], AV.sl [AV.agg [AV.int IntKind.i64 0, AV.int IntKind.i64 3, AV.str [], AV.nils]]], AObj.row [AV.int IntKind.i64 2, AV.int IntKind.i64 0, AV.str [36, 98, 111, 120], AV.sl [AV.agg [AV.int IntKind.i64 1, AV.int IntKind.i64 1, AV.str [], AV.nils]]], AObj.dead, AObj.row [AV.int IntKind.u64 1, AV.int IntKind.i64 2, AV.int IntKind.i64 0, AV.str [102], AV.sl [AV.agg [AV.int IntKind.i64 0, AV.int IntKind.i64 3, AV.str [], AV.nils]]], AObj.row [AV.int IntKind.u64 1, AV.int IntKind.i64 2, AV.int IntKind.i64 0, AV.str [102], AV.sl [AV.agg [AV.int IntKind.i64 0, AV.int IntKind.i64 3, AV.str [], AV.nils]]], AObj.row [AV.int IntKind.i64 2, AV.int IntKind.i64 0, AV.str [36, 98, 111, 120], AV.sl [AV.agg [AV.int IntKind.i64 1, AV.int IntKind.i64 1, AV.str [], AV.nils]]], AObj.row [AV.int IntKind.i64 2, AV.int IntKind.i64 0, AV.str [102], AV.sl [AV.agg [AV.int IntKind.i64 0, AV.int IntKind.i64 3, AV.str [], AV.nils]]], AObj.dead, AObj.row [AV.int IntKind.i64 0, AV.int IntKind.i64 0, AV.str [], AV.nils], AObj.row [AV.int IntKind.i64 0, AV.int IntKind.i64 0, AV.str [], AV.nils], AObj.row [AV.vec 1 0 1 1 1, AV.vec 9 0 1 5 1], AObj.row [AV.str [97]], AObj.row [AV.str [97]]], wl := 0, md := 0 } = evCode (evCall (envOf [awake14S, goodS, fitsS, goodTS, copyS, sameS, compS, intS, isS]) (n + 2)) (n + 2) T (FM 204 [(2, .int .i64 1), (3, .ptr 2 0), (6, .int .i64 1), (8, .int .i64 1), (11, .ptr 12 0), (12, .int .i64 0), (14, .int .i64 6), (16, .int .i64 5), (18, .int .i64 7), (20, .int .i64 7), (22, .int .i64 5)]) ⟨22, .row (flatB (bsK 999)) :: O21 .dead 21 1000, 0, 0⟩ := by
  have hl := c5_first n (n + 2) (by omega)
  have fr := flatB_refs (bsK 999)
  simp only [c5_m0, ss4] at hl
  generalize flatB (bsK 999) = FW at *
  simp [hl, c5_m0, fr]

theorem boxKnown_run : ∃ nx os wl md, evCode kB 1002 c5.code (FM 204 []) ⟨0, [], 0, 0⟩ = some (.ret, FM 204 [(0, .bool true)], ⟨nx, os, wl, md⟩) := by
  have fr := flatB_refs (bsK 999)
  have lw := flatB_len (bsK 999)
  rw [bsK_len] at lw
  exact ⟨_, _, _, _, (c5_p0 _).trans ((c5_p1 _).trans ((c5_p2 _).trans ((c5_p3 _).trans ((c5_lp 1000 (by omega) _).trans ((c5_p4 _ _ fr lw last_at).trans (c5_p5 _ fr lw last_at))))))⟩
set_option maxRecDepth 100000 in
theorem boxKnown_prim (hT : KSpecOK Tryd.prog trimS) : PrimOK Tryd.prog 5 [] (.bool true) := by
  obtain ⟨nx, os, wl, md, e⟩ := boxKnown_run
  refine prim_of (n := 1003) (h' := ⟨0, os.drop nx, 0, 0⟩) (envOf_ok (ss4_ok hT)) ?_ rfl rfl
  have e1 : lookF (ss4 ++ clones) 5 = [] := by
    simp [ss4, lookF_cons, lookF_nil, clones, cloneS_f, awake14S_f, goodS_f, fitsS_f, goodTS_f, copyS_f, sameS_f, compS_f, intS_f, isS_f]
  rw [evCall_spec, e1, callS_nil, run5, evB_fm _ _ _ _ _ (by decide)]
  have e2 : evCode (evCall (envOf ss4) 1002) 1002 c5.code (FM c5.ntmps (enumA 0 [])) ⟨h0.next, h0.objs, h0.next, h0.next⟩ = some (.ret, FM 204 [(0, .bool true)], ⟨nx, os, wl, md⟩) := e
  rw [e2]
  simp [c5, h0, finish_mk]
theorem boxKnown_lawX {H : Type} (ds : List (DataW H)) (h : HasTys Tryd.prog Tryd.f5.params.toList (ds.map avOf)) (hw : (DataW.weightsEach Tryd.prog Tryd.f5.params.toList ds).all (· ≤ reachBytes) = true) : PrimOKX Tryd.prog (fun _ => True) 5 (ds.map avOf) (.bool true) := by
  generalize ds.map avOf = avs at h
  rw [Tryd.params5] at h
  cases h
  exact boxKnown_prim trimS_ok
end Go.Proofs.YtnkafagfkblfeaaDoor
