import Derived.Test.YtlakiipofcibhaaGreatDoorSu
import Derived.Test.YtlakiipofcibhaaGreatDoorSk
import Derived.Test.YtlakiipofcibhaaGreatDoorCut
set_option linter.unusedVariables false
set_option linter.unusedSimpArgs false
set_option linter.unusedSectionVars false

namespace Go.Proofs.YtlakiipofcibhaaGreatDoor
open Go Sz Srt
set_option linter.unusedSimpArgs false
attribute [local simp] seqF condF stepF callF callvF guardF trF step1F call1F callv1F guard1F seqK_n seqK_e seqK_r condK_t condK_f stK_s gdK_t gdK_f cvK_f trK_s trK1_s stK1_s gdK1_t gdK1_f cvK1_f evCode_skip evCode_reg evCode_dreg evCode_block evCode_exit evCode_ret evSteps_nil evTr_nil ldId chkTr
 evOp_mov evOp_pick evOp_box evOp_bld evOp_bsl evOp_ld evOp_st evOp_nck evOp_bin evOp_beq evOp_ceq evOp_peq evOp_not evOp_neg evOp_xor evOp_cvi evOp_cvss evOp_cvis evOp_cvsb evOp_mki evOp_mkf evOp_mkm evOp_mks evOp_sls evOp_slv evOp_fad evOp_fld1 evOp_fldn evOp_iad evOp_ixs evOp_ext evOp_lens evOp_lenv evOp_mx evOp_mn evOp_app evOp_bs0 evOp_snil evOp_clr
 FM_ev ev_const FM_put put_none FM_unwanted lk_hit lk_miss lk_nil FM_clear FM_clearB trues pick gc_FM gc_FM0 incK snds renM allM evB_fm enumA cells_agg cells_bool cells_int cells_str cells_nilp cells_ptr cells_ip cells_nils cells_sl cells_vec cells_nilm cells_map cells_nilfn cells_fn cells_nili cells_iface ldA row_mk get_mk set_mk mark_mk alloc_mk' trunc_mk binA resAll_nil resAll_cons FM_resT FM_resC oneOf finish_mk frz_undef frz_bool frz_int frz_str frz_nilp frz_ptr frz_ip frz_nils frz_sl frz_nilm frz_map frz_nilfn frz_fn frz_nili frz_iface frz_old frz_agg frz_tuple frzL_nil frzL_cons kill_nil kill_cons chunk_zero chunk_succ AV.refs AV.refsL evCall_spec lookF_nil lookF_cons callS_nil callS_oneF spK_s spK_n frK_s frK_n clones cloneS_f cloneS_nils cloneS_sl0 fillA putAt_nil putAt_cons evCode_loop bgn_mk aft_mk keeps objsAt ren renId AV.top lowObj h0 succ_le_f oldK oldAll oldLow oldRen lowCells_row lowCells_map lowCells_dead objCells topLow renObj List.idxOf_cons List.idxOf_nil nilA nilK elemsA_nils elemsA_vec elemsA_str evOp_die evOp_lkp evOp_cvbs lookA scal_bool scal_int scal_str scal_nils scal_sl scal_tuple scal_agg scal1_bool scal1_int scal1_str scal1_nils scal1_sl scal1_agg
attribute [local simp low] frz_vecR
def prT (k : Tm) (j : Nat) : Tm := .mk 2 0 [45] [k, .nl 1 j []]
def prs (j : Nat) : List Tm → List Tm
  | [] => []
  | k :: r => prT k j :: prs (j + 1) r
theorem prs_len : ∀ (ks : List Tm) (j : Nat), (prs j ks).length = ks.length
  | [], _ => rfl
  | k :: r, j => by simp [prs, prs_len r]
theorem prs_snoc : ∀ (ks : List Tm) (k : Tm) (j : Nat), prs j (ks ++ [k]) = prs j ks ++ [prT k (j + ks.length)]
  | [], k, j => by simp [prs]
  | x :: r, k, j => by
    simp only [List.cons_append, prs, prs_snoc r k (j + 1), List.length_cons]
    rw [show j + 1 + r.length = j + (r.length + 1) by omega]
theorem prT_enc (k : Tm) (j : Nat) : (prT k j).enc = .agg [.int .i64 2, .int .i64 0, .str [45], .sl [k.enc, .agg [.int .i64 1, .int .i64 j, .str [], .nils]]] := by
  simp [prT, Tm.enc, Tm.encL]
noncomputable def ssP : List KSpec := [awake25S, deepKS 20, intS, compS, atomS, listS, goodTS, keysS, sItemsS, lenS, cmpS, sameS]
theorem ssP_ok : ∀ s ∈ ssP, KSpecOKX Tryz.prog TabX s := by
  simp [ssP, awake25S_ok, (deepKS_all 20 (by omega)).lift, intS_ok.lift, compS_ok.lift, atomS_ok.lift, listS_ok.lift, goodTS_ok.lift, keysS_ok.lift, sItemsS_ok.lift, lenS_ok.lift, cmpS_ok.lift, sameS_ok.lift]
theorem lp7 : lookF (ssP ++ clones) 7 = [] := by rfl
theorem lp25 : lookF (ssP ++ clones) 25 = [awake25S] := by rfl
theorem lp26 : lookF (ssP ++ clones) 26 = [deepKS 20] := by rfl
theorem lp21 : lookF (ssP ++ clones) 21 = [intS] := by rfl
theorem lp16 : lookF (ssP ++ clones) 16 = [compS] := by rfl
theorem lp23 : lookF (ssP ++ clones) 23 = [atomS] := by rfl
theorem lp24 : lookF (ssP ++ clones) 24 = [listS] := by rfl
theorem lp27 : lookF (ssP ++ clones) 27 = [goodTS] := by rfl
theorem lp32 : lookF (ssP ++ clones) 32 = [keysS] := by rfl
theorem lp30 : lookF (ssP ++ clones) 30 = [sItemsS] := by rfl
theorem lp33 : lookF (ssP ++ clones) 33 = [lenS] := by rfl
theorem lp31 : lookF (ssP ++ clones) 31 = [cmpS] := by rfl
theorem lp15 : lookF (ssP ++ clones) 15 = [sameS] := by rfl
set_option maxRecDepth 100000 in
set_option maxHeartbeats 8000000 in
theorem c7_l0 (n : Nat) (us : List Tm) (hl : us.length ≤ 25) : ∀ (post pre : List Tm) (m : Nat), us = pre ++ post → pre ≠ [] → post.length < m →
    ∃ h', aft 0 0 (loopH (evCode (evCall (envOf ssP) (n + 1)) (n + 1) c7_b0) c7_m0 0 m (c7_f0 (.sl (us.map Tm.enc)) (.vec 0 0 pre.length 4 pre.length) (.int .i64 pre.length)) ⟨1, [.row (flatT (prs 0 pre))], 0, 0⟩) =
      some (if anyD (deepT 20) post then .ret else .exit 0, if anyD (deepT 20) post then FM 164 [(2, .bool true)] else FM 164 [(3, .vec 0 0 us.length 4 us.length)], h') ∧ (anyD (deepT 20) post = false → h' = ⟨1, [.row (flatT (prs 0 us))], 0, 0⟩)
  | [], pre, m + 1, e, hne, _ => by
    simp at e
    subst e
    have h5 : AV.refsL (us.map Tm.enc) = 0 := encs_refs _
    have hf := flatT_refs (prs 0 us)
    refine ⟨⟨1, [.row (flatT (prs 0 us))], 0, 0⟩, ?_, fun _ => rfl⟩
    simp [loopH_succ, c7_b0, h5, hf, anyD]
  | x :: post, pre, m + 1, e, hne, hm => by
    obtain ⟨hh, ih, ih2⟩ := c7_l0 n us hl post (pre ++ [x]) m (by simp [e]) (by simp) (by simp at hm; omega)
    have h1 : us[pre.length]? = some x := by rw [e]; simp
    have h5 : AV.refsL (us.map Tm.enc) = 0 := encs_refs _
    have hf := flatT_refs (prs 0 pre)
    have hpl : pre.length < us.length := by rw [e]; simp
    have h6 : ((pre.length : Int) < (us.length : Int)) = True := eq_true (by omega)
    have h3 : IntKind.i64.wrap ((pre.length : Int) + 1) = (pre.length : Int) + 1 := wrap_i64 (by omega) (by omega)
    have hxe := enc_kind x
    have hxr := argV_refs x
    have hxc := basic_cells (argV_basic x)
    have hc := deepKS_at 20 x
    rw [hxe, show ((20 : Nat) : Int) = 20 from rfl] at hc
    simp only [c7_m0, List.length_append, List.length_cons, List.length_nil, Nat.zero_add, Int.natCast_add, Int.natCast_one] at ih
    rw [prs_snoc, Nat.zero_add] at ih
    rw [loopH_succ]
    cases hd : deepT 20 x with
    | true =>
      rw [hd] at hc
      refine ⟨⟨0, [], 0, 0⟩, ?_, fun h => by simp [anyD, hd] at h⟩
      simp [c7_b0, c7_m0, h1, h3, h5, h6, hxe, hxr, hc, frz_argV, deepKS_f, anyD, hd, lp26, -lookF_cons, -clones, hf]
    | false =>
      rw [hd] at hc
      have cs := compS_at [45] [x, .nl 1 pre.length []] (by simp)
      have ec : (compT [45] [x, .nl 1 pre.length []]).enc = .agg [.int .i64 2, .int .i64 0, .str [45], .sl [x.enc, .agg [.int .i64 1, .int .i64 pre.length, .str [], .nils]]] := by simp [compT, Tm.enc, Tm.encL]
      have ei : (Tm.nl 1 (pre.length : Int) []).enc = .agg [.int .i64 1, .int .i64 pre.length, .str [], .nils] := rfl
      rw [ec] at cs
      simp only [List.map_cons, List.map_nil, ei, hxe] at cs
      have hi := intS_at (pre.length : Int)
      have hpl2 := prs_len pre 0
      have x1 : ((pre.length + 1) * 56 ≤ 140737488355328) = True := eq_true (by omega)
      have x2 : (pre.length + 1 < 9223372036854775808) = True := eq_true (by omega)
      have hfl := flatT_len (prs 0 pre)
      rw [hpl2] at hfl
      have k1 : (flatT (prs 0 pre)).take (pre.length * 4) = flatT (prs 0 pre) := List.take_of_length_le (by omega)
      have hfp : flatT (prs 0 pre ++ [prT x pre.length]) = flatT (prs 0 pre) ++ [.int .i64 2, .int .i64 0, .str [45], .sl [x.enc, .agg [.int .i64 1, .int .i64 pre.length, .str [], .nils]]] := by
        rw [flatT_append]
        simp [flatT, prT, Tm.cells, Tm.kind, Tm.num, Tm.name, Tm.argV, Tm.enc, Tm.encL]
      have hf2 : AV.refsL (flatT (prs 0 pre ++ [prT x pre.length])) = 0 := flatT_refs _
      rw [hfp, hxe] at ih hf2
      refine ⟨hh, ?_, fun h => ih2 (by simpa [anyD, hd] using h)⟩
      simp [c7_b0, c7_m0, h1, h3, h5, h6, hxe, hxr, hxc, hc, frz_argV, deepKS_f, anyD, hd, lp26, lp21, lp16, -lookF_cons, -clones, hf, intS_f, hi, compS_f, cs, elemsA, x1, x2, hfl, k1, hf2]
      exact ih
set_option maxRecDepth 100000 in
set_option maxHeartbeats 8000000 in
theorem c7_l00 (n : Nat) (us : List Tm) (hl : us.length ≤ 25) (hne : us ≠ []) (m : Nat) (hm : us.length < m) :
    ∃ h', aft 0 0 (loopH (evCode (evCall (envOf ssP) (n + 1)) (n + 1) c7_b0) c7_m0 0 m (c7_f0 (.sl (us.map Tm.enc)) .nils (.int .i64 0)) ⟨0, [], 0, 0⟩) =
      some (if anyD (deepT 20) us then .ret else .exit 0, if anyD (deepT 20) us then FM 164 [(2, .bool true)] else FM 164 [(3, .vec 0 0 us.length 4 us.length)], h') ∧ (anyD (deepT 20) us = false → h' = ⟨1, [.row (flatT (prs 0 us))], 0, 0⟩) := by
  obtain ⟨x, post, e⟩ : ∃ x post, us = x :: post := by
    cases us with
    | nil => exact absurd rfl hne
    | cons x post => exact ⟨x, post, rfl⟩
  obtain ⟨m, rfl⟩ : ∃ q, m = q + 1 := ⟨m - 1, by omega⟩
  obtain ⟨hh, ih, ih2⟩ := c7_l0 n us hl post [x] m (by simp [e]) (by simp) (by rw [e] at hm; simp at hm; omega)
  have h1 : ∀ h : 0 < us.length, us[0] = x := fun h => by simp [e]
  have h5 : AV.refsL (us.map Tm.enc) = 0 := encs_refs _
  have hpl : 0 < us.length := by rw [e]; simp
  have h6 : ((0 : Int) < (us.length : Int)) = True := eq_true (by omega)
  have h6' : (0 < us.length) = True := eq_true (by omega)
  have hxe := enc_kind x
  have hxr := argV_refs x
  have hxc := basic_cells (argV_basic x)
  have hc := deepKS_at 20 x
  rw [hxe, show ((20 : Nat) : Int) = 20 from rfl] at hc
  simp only [c7_m0, List.length_cons, List.length_nil, Nat.zero_add, show ((1 : Nat) : Int) = 1 from rfl] at ih
  have ed : anyD (deepT 20) us = if deepT 20 x then true else anyD (deepT 20) post := by rw [e]; rfl
  rw [ed, loopH_succ]
  cases hd : deepT 20 x with
  | true =>
    rw [hd] at hc
    refine ⟨⟨0, [], 0, 0⟩, ?_, fun h => by simp at h⟩
    simp [c7_b0, c7_m0, h1, h5, h6, h6', hxe, hxr, hc, frz_argV, deepKS_f, lp26, -lookF_cons, -clones]
  | false =>
    rw [hd] at hc
    have cs := compS_at [45] [x, .nl 1 0 []] (by simp)
    have ec : (compT [45] [x, .nl 1 0 []]).enc = .agg [.int .i64 2, .int .i64 0, .str [45], .sl [x.enc, .agg [.int .i64 1, .int .i64 0, .str [], .nils]]] := by simp [compT, Tm.enc, Tm.encL]
    have ei : (Tm.nl 1 0 []).enc = .agg [.int .i64 1, .int .i64 0, .str [], .nils] := rfl
    rw [ec] at cs
    simp only [List.map_cons, List.map_nil, ei, hxe] at cs
    have hi := intS_at 0
    have hfp : flatT (prs 0 [x]) = [.int .i64 2, .int .i64 0, .str [45], .sl [x.enc, .agg [.int .i64 1, .int .i64 0, .str [], .nils]]] := by
      simp [prs, flatT, prT, Tm.cells, Tm.kind, Tm.num, Tm.name, Tm.argV, Tm.enc, Tm.encL]
    rw [hfp, hxe] at ih
    refine ⟨hh, ?_, fun h => ih2 (by simpa using h)⟩
    simp [c7_b0, c7_m0, h1, h5, h6, h6', hxe, hxr, hxc, hc, frz_argV, deepKS_f, lp26, lp21, lp16, -lookF_cons, -clones, intS_f, hi, compS_f, cs, elemsA, wr1]
    exact ih
def keepR (p y : Tm) : Prop := ∃ k j k' j', p = prT k j ∧ y = prT k' j' ∧ (cmpT k k' < 0 ∨ cmpT k k' = 0 ∧ j < j')
set_option maxRecDepth 100000 in
set_option maxHeartbeats 8000000 in
theorem c7_l1 (n : Nat) (os : List AObj) (L S : List Tm) (hL : L.length ≤ 1000) (hSL : S.length = L.length) (hS : ∀ y ∈ S, okT y ∧ ∃ k j, okT k ∧ y = prT k j ∧ L[j]? = some y) : ∀ (post pre : List Tm) (p : Tm) (m : Nat), S = pre ++ p :: post → (p :: post).Pairwise keepR → post.length < m →
    aft 3 0 (loopH (evCode (evCall (envOf ssP) (n + 1)) (n + 1) c7_b1) c7_m1 3 m (c7_f1 (.sl (L.map Tm.enc)) (.sl (S.map Tm.enc)) (.int .i64 ((pre.length : Int) + 1))) ⟨3, os, 3, 0⟩) =
      some (.exit 2, FM 164 [], ⟨3, os, 0, 0⟩)
  | [], pre, p, m + 1, e, _, _ => by
    have hl := congrArg List.length e
    simp at hl
    have h5 : AV.refsL (S.map Tm.enc) = 0 := encs_refs _
    have h5u : AV.refsL (L.map Tm.enc) = 0 := encs_refs _
    have h6 : ((pre.length : Int) + 1 < (S.length : Int)) = False := eq_false (by omega)
    simp [loopH_succ, c7_b1, h5, h5u, h6]
  | y :: post, pre, p, m + 1, e, hs, hm => by
    have hs' := List.pairwise_cons.1 hs
    have ih := c7_l1 n os L S hL hSL hS post (pre ++ [p]) y m (by simp [e]) hs'.2 (by simp at hm; omega)
    have hl := congrArg List.length e
    simp at hl
    have h1 : S[pre.length]? = some p := by rw [e]; simp
    have h2 : S[pre.length + 1]? = some y := by
      rw [e, List.getElem?_append_right (by omega), show pre.length + 1 - pre.length = 1 by omega]; rfl
    obtain ⟨oy, k', j', ok', ey', hj'⟩ := hS y (List.mem_of_getElem? h2)
    obtain ⟨op, k0, j0, ok0, ep0, hj0⟩ := hS p (List.mem_of_getElem? h1)
    obtain ⟨k, j, k1, j1, ep, ey, hR⟩ := hs'.1 y (by simp)
    have e1 : k0 = k ∧ j0 = j := by
      rw [ep] at ep0
      simp only [prT, Tm.mk.injEq, List.cons.injEq, Tm.nl.injEq, true_and, and_true] at ep0
      exact ⟨ep0.1.symm, by have := ep0.2; omega⟩
    have e2 : k' = k1 ∧ j' = j1 := by
      rw [ey] at ey'
      simp only [prT, Tm.mk.injEq, List.cons.injEq, Tm.nl.injEq, true_and, and_true] at ey'
      exact ⟨ey'.1.symm, by have := ey'.2; omega⟩
    obtain ⟨rfl, rfl⟩ := e1
    obtain ⟨rfl, rfl⟩ := e2
    have hjl := (List.getElem?_eq_some_iff.1 hj').1
    have h5 : AV.refsL (S.map Tm.enc) = 0 := encs_refs _
    have h5u : AV.refsL (L.map Tm.enc) = 0 := encs_refs _
    have h6 : ((pre.length : Int) + 1 < (S.length : Int)) = True := eq_true (by omega)
    have h3 : IntKind.i64.wrap ((pre.length : Int) + 1 + 1) = (pre.length : Int) + 1 + 1 := wrap_i64 (by omega) (by omega)
    have h4 : IntKind.i64.wrap ((pre.length : Int) + 1 - 1) = (pre.length : Int) := by rw [wrap_i64 (by omega) (by omega)]; omega
    have h4' : IntKind.i64.wrap (pre.length : Int) = (pre.length : Int) := wrap_i64 (by omega) (by omega)
    have h7 : (0 ≤ (pre.length : Int) + 1) = True := eq_true (by omega)
    have h7' : (0 < (pre.length : Int) + 1) = True := eq_true (by omega)
    have h8 : ((pre.length : Int) + 1).toNat = pre.length + 1 := by omega
    have b1 : ((j' : Int) < 0) = False := eq_false (by omega)
    have b2 : ((L.length : Int) ≤ (j' : Int)) = False := eq_false (by omega)
    have b2' : (L.length ≤ j') = False := eq_false (by omega)
    have c1 := sameS_at y y ⟨oy.2, oy.2⟩
    rw [oy.1, sameT_good oy.1] at c1
    have c2 := cmpS_at k0 k' ⟨ok0.2, ok'.2⟩
    rw [ok0.1, ok'.1] at c2
    simp only [Bool.and_self, if_true] at c1 c2
    have hxe := enc_kind k0
    have hxr := argV_refs k0
    have hye := enc_kind k'
    have hyr := argV_refs k'
    have ye := prT_enc k' j'
    have pe := prT_enc k0 j0
    rw [← ey] at ye
    rw [← ep] at pe
    rw [hye] at ye
    rw [hxe] at pe
    rw [ye] at c1
    rw [hxe, hye] at c2
    simp only [c7_m1, List.length_append, List.length_cons, List.length_nil, Nat.zero_add, Int.natCast_add, Int.natCast_one] at ih
    rw [loopH_succ]
    rcases hR with hR | ⟨hR, hjj⟩
    · have d1 : (0 < cmpT k0 k') = False := eq_false (by omega)
      have d2 : (cmpT k0 k' = 0) = False := eq_false (by omega)
      simp [c7_b1, c7_m1, h1, h2, hj', h3, h4, h4', h5, h5u, h6, h7, h7', h8, b1, b2, b2', ye, pe, hxr, hyr, c1, c2, d1, d2, frz_argV, cmpS_f, sameS_f, lp31, lp15, -lookF_cons, -clones]
      exact ih
    · have d3 : ((j' : Int) ≤ (j0 : Int)) = False := eq_false (by omega)
      have d3' : (j' ≤ j0) = False := eq_false (by omega)
      rw [hR] at c2
      simp [c7_b1, c7_m1, h1, h2, hj', h3, h4, h4', h5, h5u, h6, h7, h7', h8, b1, b2, b2', ye, pe, hxr, hyr, c1, c2, d3, d3', frz_argV, cmpS_f, sameS_f, lp31, lp15, -lookF_cons, -clones]
      exact ih
theorem prs_get : ∀ (us : List Tm) (j t : Nat), (prs j us)[t]? = (us[t]?).map fun k => prT k (j + t)
  | [], j, t => by simp [prs]
  | k :: r, j, 0 => by simp [prs]
  | k :: r, j, t + 1 => by
    have := prs_get r (j + 1) t
    simp only [prs, List.getElem?_cons_succ, this]
    congr 1
    funext k
    rw [show j + 1 + t = j + (t + 1) by omega]
theorem pr_keyE (k : Tm) (j : Nat) : keyE1 (prT k j) = 0 := by simp [keyE1, prT, Tm.kind, Tm.name, Tm.args]
theorem prs_keyE : ∀ (us : List Tm) (j : Nat), keyE (prs j us) = 0
  | [], _ => rfl
  | k :: r, j => by rw [prs, keyE_cons, if_pos (pr_keyE k j)]; exact prs_keyE r (j + 1)
theorem pr_depth (k : Tm) (j : Nat) (h : k.depth ≤ 20) : (prT k j).depth ≤ 22 := by
  simp [prT, Tm.depth, Tm.depthL]; omega
structure KeptOf (us S : List Tm) : Prop where
  hS : S.Perm (prs 0 us)
  els : ∀ y ∈ S, okT y ∧ ∃ k j, okT k ∧ y = prT k j ∧ (prs 0 us)[j]? = some y
  rel : S.Pairwise keepR
  gS : goodT (listT S emptyT) = true
theorem keptOf {us : List Tm} (hg : goodT (listT (prs 0 us) emptyT) = true) (hb : Tm.bulkL (prs 0 us) < 100000000) (hd : ∀ x ∈ us, x.depth ≤ 20) (hN : us.length ≤ 25) : KeptOf us (sortT ordK (prs 0 us)) := by
  have o := ordK_ord cmpT_ord
  have h := isort_srt o (prs 0 us).zipIdx (zip_up (prs 0 us) 0).1
  have hW : srt ordK (prs 0 us).zipIdx = isort (cT ordK) (prs 0 us).zipIdx := srt_eq o h.2 h.1
  have hp : (sortT ordK (prs 0 us)).Perm (prs 0 us) := by rw [sortT_eq o]; exact isort_perm o _
  have gi := good_item hg
  have hk : ∀ y ∈ prs 0 us, okT y ∧ ∃ k j, okT k ∧ y = prT k j ∧ (prs 0 us)[j]? = some y := fun y hy => by
    obtain ⟨t, ht⟩ := List.getElem?_of_mem hy
    have e := prs_get us 0 t
    rw [ht] at e
    obtain ⟨k, hk, ek⟩ := Option.map_eq_some_iff.1 e.symm
    rw [Nat.zero_add] at ek
    have oy : okT y := ⟨gi y hy, by have := bulk_mem' hy; omega⟩
    refine ⟨oy, k, t, ?_, ek.symm, ht⟩
    rw [← ek] at oy
    exact okT_arg oy
  refine ⟨hp, fun y hy => hk y (hp.mem_iff.1 hy), ?_, ?_⟩
  · unfold sortT
    rw [hW]
    rw [show fs (isort (cT ordK) (prs 0 us).zipIdx) = List.map (fun p : Tm × Nat => p.1) (isort (cT ordK) (prs 0 us).zipIdx) from rfl, List.pairwise_map]
    refine List.Pairwise.imp_of_mem (fun {a b} ha hb' hl => ?_) h.1
    have key : ∀ c ∈ isort (cT ordK) (prs 0 us).zipIdx, ∃ k, c.1 = prT k c.2 := fun c hc => by
      have hm := h.2.mem_iff.1 hc
      have e1 := List.mem_zipIdx_iff_getElem?.1 hm
      have e := prs_get us 0 c.2
      rw [e1] at e
      obtain ⟨k, hk, ek⟩ := Option.map_eq_some_iff.1 e.symm
      rw [Nat.zero_add] at ek
      exact ⟨k, ek.symm⟩
    obtain ⟨k, ek⟩ := key a ha
    obtain ⟨k', ek'⟩ := key b hb'
    refine ⟨k, a.2, k', b.2, ek, ek', ?_⟩
    unfold Lt ordK at hl
    rw [ek, ek'] at hl
    exact hl
  · refine good_list 22 hg (by rw [sizeL_perm hp]; exact Nat.le_refl _) (by rw [hp.length_eq]; exact Nat.le_refl _) (fun x hx => hp.mem_iff.1 hx) (fun x hx => ?_) (by rw [prs_len]; omega)
    obtain ⟨t, ht⟩ := List.getElem?_of_mem hx
    have e := prs_get us 0 t
    rw [ht] at e
    obtain ⟨k, hk, ek⟩ := Option.map_eq_some_iff.1 e.symm
    rw [← ek]
    exact pr_depth _ _ (hd k (List.mem_of_getElem? hk))
def dropS : Nat → ACode → ACode
  | k + 1, .seq _ b => dropS k b
  | _, c => c
def kpA : ACode := dropS 5 c7.code
theorem fin_true (hh : Heap) : ∃ h', finish false ⟨0, [], 0, 0⟩ (.bool true) hh = (.bool true, h') := by
  unfold finish
  simp only [Bool.false_eq_true, if_false, frz]
  split
  · exact ⟨_, rfl⟩
  · exact ⟨_, rfl⟩
set_option maxRecDepth 100000 in
set_option maxHeartbeats 8000000 in
theorem keeps_early (us : List Tm) (h : 25 < us.length ∨ (us.length ≤ 25 ∧ us ≠ [] ∧ anyD (deepT 20) us = true)) : ∃ h', evCall (envOf ssP) (4000 + 3) 7 [.sl (us.map Tm.enc)] h0 = some (.bool true, h') := by
  have h5 : AV.refsL (us.map Tm.enc) = 0 := encs_refs _
  generalize hk : 4000 = k
  rcases h with h | ⟨h1, h2, h3⟩
  · have q : ((25 : Int) < (us.length : Int)) = True := eq_true (by omega)
    refine ⟨h0, ?_⟩
    simp [run7, c7, awake25S_f, awake25S_at, lp7, lp25, -lookF_cons, -clones, h5, q, h]
  · have q : ((25 : Int) < (us.length : Int)) = False := eq_false (by omega)
    have q' : (25 < us.length) = False := eq_false (by omega)
    obtain ⟨h', l0, _⟩ := c7_l00 (k + 1) us h1 h2 (k + 2) (by omega)
    rw [h3] at l0
    simp only [if_true, c7_m0] at l0
    obtain ⟨h2', e2⟩ := fin_true h'
    refine ⟨h2', ?_⟩
    simp [run7, c7, c7_m0, awake25S_f, awake25S_at, lp7, lp25, -lookF_cons, -clones, h5, q, q', l0]
    exact e2
set_option maxRecDepth 100000 in
set_option maxHeartbeats 8000000 in
theorem keeps_pre (us : List Tm) (h1 : us.length ≤ 25) (h2 : us ≠ []) (h3 : anyD (deepT 20) us = false) (k : Nat) (hk : 100 < k) : runK (evCall (envOf ssP) (k + 2)) (k + 2) 5 c7.code (FM 164 [(0, .sl (us.map Tm.enc))]) h0 = some (kpA, FM 164 [(3, .vec 0 0 us.length 4 us.length)], ⟨1, [.row (flatT (prs 0 us))], 0, 0⟩) := by
  have h5 : AV.refsL (us.map Tm.enc) = 0 := encs_refs _
  have q : ((25 : Int) < (us.length : Int)) = False := eq_false (by omega)
  have q' : (25 < us.length) = False := eq_false (by omega)
  obtain ⟨h', l0, e⟩ := c7_l00 (k + 1) us h1 h2 (k + 2) (by omega)
  rw [h3, e h3] at l0
  simp only [Bool.false_eq_true, if_false, c7_m0] at l0
  have hA : kpA = dropS 5 c7.code := rfl
  simp [runK, hA, dropS, c7, c7_m0, awake25S_f, awake25S_at, lp25, -lookF_cons, -clones, h5, q, q', l0]
set_option maxRecDepth 100000 in
set_option maxHeartbeats 8000000 in
theorem keeps_post (us : List Tm) (h1 : us.length ≤ 25) (h2 : us ≠ []) (h3 : anyD (deepT 20) us = false) (hb : Tm.bulkL (prs 0 us) < 100000000) (k : Nat) (hk : 2000 < k) : ∃ h', evCode (evCall (envOf ssP) (k + 2)) (k + 2) kpA (FM 164 [(3, .sl ((prs 0 us).map Tm.enc)), (3, .vec 0 0 us.length 4 us.length)]) ⟨1, [.dead], 0, 0⟩ = some (.ret, FM 164 [(2, .bool true)], h') := by
  have hdd : ∀ x ∈ us, x.depth ≤ 20 := fun x hx => deep_depth 20 x (anyD_false h3 x hx)
  have hlen := prs_len us 0
  have hbl : (listT (prs 0 us) emptyT).bulk < 1000000000 := by rw [bulk_list]; simp [emptyT, Tm.bulk]; omega
  have hls := listS_at (prs 0 us) emptyT (by omega)
  have hgs := goodTS_at (listT (prs 0 us) emptyT) hbl
  have ee : emptyT.enc = .agg [.int .i64 2, .int .i64 0, .str [91, 93], .nils] := rfl
  have hte := enc_kind (listT (prs 0 us) emptyT)
  have htr := argV_refs (listT (prs 0 us) emptyT)
  have h5 : AV.refsL ((prs 0 us).map Tm.enc) = 0 := encs_refs _
  have hsc : scal1 (listT (prs 0 us) emptyT).argV = false := by
    cases h : us with
    | nil => exact absurd h h2
    | cons z q => rfl
  have hA : kpA = dropS 5 c7.code := rfl
  cases hg : goodT (listT (prs 0 us) emptyT) with
  | false =>
    rw [hg, hte] at hgs
    rw [ee, hte] at hls
    refine ⟨⟨2, [.row (listT (prs 0 us) emptyT).cells, .dead], 0, 0⟩, ?_⟩
    simp [hA, dropS, c7, lp23, lp24, lp27, -lookF_cons, -clones, h5, atomS_f, atomS_at, listS_f, hls, goodTS_f, hgs, htr, hsc, frz_argV, Tm.cells]
  | true =>
    have ko := keptOf hg hb hdd h1
    have o := cmpT_ord
    have hSl := ko.hS.length_eq
    have bS : Tm.bulkL (sortT ordK (prs 0 us)) = Tm.bulkL (prs 0 us) := bulk_perm ko.hS
    have hb1 : (listT (sortT ordK (prs 0 us)) emptyT).bulk < 1000000000 := by rw [bulk_list]; simp [emptyT, Tm.bulk]; omega
    have q1 := keysS_at (listT (prs 0 us) emptyT) hbl o
    have q2 := sItemsS_at (listT (sortT ordK (prs 0 us)) emptyT) hb1
    have q3 := lenS_at (listT (sortT ordK (prs 0 us)) emptyT) hb1
    unfold sortKeys keysE at q1
    rw [sItems_list hg] at q1
    rw [sItems_list ko.gS] at q2 q3
    simp only [if_true, prs_keyE] at q1
    obtain ⟨p, rS, eS⟩ : ∃ p r, sortT ordK (prs 0 us) = p :: r := by
      cases h : sortT ordK (prs 0 us) with
      | nil => rw [h] at hSl; exact absurd (List.eq_nil_of_length_eq_zero (by rw [← hlen, ← hSl]; rfl)) h2
      | cons p r => exact ⟨p, r, rfl⟩
    have rel := ko.rel
    have els := ko.els
    generalize hSg : sortT ordK (prs 0 us) = S at *
    have l1 := fun os => c7_l1 (k + 1) os (prs 0 us) S (by omega) hSl els rS [] p (k + 1) eS (by rw [← eS]; exact rel) (by rw [eS] at hSl; simp at hSl; omega)
    have vS : slT S = .sl (S.map Tm.enc) := by rw [eS]; rfl
    rw [vS] at q2
    have r5 : AV.refsL (S.map Tm.enc) = 0 := encs_refs _
    have hSe := enc_kind (listT S emptyT)
    have hSr := argV_refs (listT S emptyT)
    have hn1 : ((S.length : Int) = ((prs 0 us).length : Int)) = True := eq_true (by omega)
    have hn2 : (S.length = (prs 0 us).length) = True := eq_true hSl
    -- the first row
    have hp1 : S[0]? = some p := by rw [eS]; rfl
    have hp1' : ∀ h : 0 < S.length, S[0] = p := fun h => by simp [eS]
    obtain ⟨op, k0, j0, ok0, ep0, hj0⟩ := els p (by rw [eS]; simp)
    have hjl := (List.getElem?_eq_some_iff.1 hj0).1
    have hjl' : ∀ h : j0 < (prs 0 us).length, (prs 0 us)[j0] = p := fun h => (List.getElem?_eq_some_iff.1 hj0).2
    have pe := prT_enc k0 j0
    have hxe := enc_kind k0
    have hxr := argV_refs k0
    rw [← ep0, hxe] at pe
    have c1 := sameS_at p p ⟨op.2, op.2⟩
    rw [op.1, sameT_good op.1, pe] at c1
    simp only [Bool.and_self] at c1
    have h6 : ((0 : Int) < (S.length : Int)) = True := eq_true (by rw [eS]; simp)
    have h6' : (0 < S.length) = True := eq_true (by rw [eS]; simp)
    have b1 : ((j0 : Int) < 0) = False := eq_false (by omega)
    have b2 : (((prs 0 us).length : Int) ≤ (j0 : Int)) = False := eq_false (by omega)
    have b2' : ((prs 0 us).length ≤ j0) = False := eq_false (by omega)
    simp only [c7_m1, List.length_nil, show ((0 : Nat) : Int) = 0 from rfl, Int.zero_add] at l1
    generalize listT (prs 0 us) emptyT = T at *
    generalize listT S emptyT = TS at *
    rw [hg, hte] at hgs
    rw [ee, hte] at hls
    rw [hte, hSe] at q1
    rw [hSe] at q2 q3
    refine ⟨⟨3, [.row TS.cells, .row T.cells, .dead], 0, 0⟩, ?_⟩
    simp [hA, dropS, c7, c7_m1, lp23, lp24, lp27, lp32, lp30, lp33, -lookF_cons, -clones, h5, atomS_f, atomS_at, listS_f, hls, goodTS_f, hgs, htr, hSr, hsc, frz_argV, Tm.cells, keysS_f, sItemsS_f, lenS_f, q1, q2, q3, r5, hn1, hn2]
    simp only [c7_b1, Nat.add_assoc, Nat.reduceAdd] at l1
    rw [loopH_succ]
    simp [c7_b1, c7_m1, hp1, hp1', h6, h6', pe, hxr, r5, h5, b1, b2, b2', hj0, hjl, hjl', c1, sameS_f, lp15, -lookF_cons, -clones, frz_argV, wr1, l1]
theorem keys_empty : keysE emptyT = 0 := by
  unfold keysE
  rw [items_empty]
  rfl
theorem sortk_nil : sortT ordK [] = [] := by rw [sortT_eq (ordK_ord cmpT_ord)]; rfl
theorem sortKeys_empty : sortKeys emptyT = emptyT := by
  unfold sortKeys
  rw [keys_empty, items_empty]
  simp only [if_true, sortk_nil]
  rfl
set_option maxRecDepth 100000 in
set_option maxHeartbeats 16000000 in
theorem keeps_nil : evCall (envOf ssP) (4000 + 3) 7 [.sl []] h0 = some (.bool true, h0) := by
  have o := cmpT_ord
  have hb : emptyT.bulk < 1000000000 := by decide
  have hg : goodT emptyT = true := by decide
  have q1 := keysS_at emptyT hb o
  have q2 := sItemsS_at emptyT hb
  have q3 := lenS_at emptyT hb
  have q7 := goodTS_at emptyT hb
  have q8 := listS_nils emptyT
  rw [sortKeys_empty, keys_empty] at q1
  rw [items_empty] at q2 q3
  rw [hg] at q7
  have ee : emptyT.enc = .agg [.int .i64 2, .int .i64 0, .str [91, 93], .nils] := rfl
  have s0 : slT [] = .nils := rfl
  rw [ee] at q1 q2 q3 q7 q8
  rw [s0] at q2
  generalize 4000 = k
  simp [run7, c7, c7_m0, c7_b0, c7_m1, c7_b1, loopH_succ, awake25S_f, awake25S_at, lp7, lp25, lp23, lp24, lp27, lp32, lp30, lp33, -lookF_cons, -clones, atomS_f, atomS_at, listS_f, goodTS_f, keysS_f, sItemsS_f, lenS_f, q1, q2, q3, q7, q8]
theorem keeps_prim (us : List Tm) (hb : Tm.bulkL us ≤ 2000000) : PrimOKX Tryz.prog TabX 7 [.sl (us.map Tm.enc)] (.bool true) := by
  have hr : AV.refsL [.sl (us.map Tm.enc)] = 0 := by simp [AV.refsL, AV.refs, encs_refs]
  by_cases h25 : 25 < us.length
  · obtain ⟨h', e⟩ := keeps_early us (.inl h25)
    exact prim_of (envOf_okX ssP_ok) e rfl hr
  · by_cases hne : us = []
    · subst hne
      exact prim_of (envOf_okX ssP_ok) keeps_nil rfl hr
    · cases hd : anyD (deepT 20) us with
      | true =>
        obtain ⟨h', e⟩ := keeps_early us (.inr ⟨by omega, hne, hd⟩)
        exact prim_of (envOf_okX ssP_ok) e rfl hr
      | false =>
        have hbp : ∀ (l : List Tm) (j : Nat), Tm.bulkL (prs j l) ≤ Tm.bulkL l + 20 * l.length := by
          intro l
          induction l with
          | nil => intro j; simp [prs, Tm.bulkL]
          | cons x r ih =>
            intro j
            have := ih (j + 1)
            have e : (prT x j).bulk ≤ x.bulk + 20 := by simp [prT, Tm.bulk, Tm.bulkL]; omega
            simp only [prs, Tm.bulkL, List.length_cons]
            omega
        have hbb := hbp us 0
        obtain ⟨h', hpost⟩ := keeps_post us (by omega) hne hd (by omega) 4000 (by omega)
        have hpre := keeps_pre us (by omega) hne hd 4000 (by omega)
        have hfr : FM 164 [(0, .sl (us.map Tm.enc))] = [.sl (us.map Tm.enc)] ++ List.replicate (c7.ntmps - [AV.sl (us.map Tm.enc)].length) .undef := (FM_args (n := 164) [.sl (us.map Tm.enc)] (by simp)).symm
        rw [hfr] at hpre
        have hlay : layF 3 (FM 164 [(3, .vec 0 0 us.length 4 us.length)]) ⟨1, [.row (flatT (prs 0 us))], 0, 0⟩ = some (FM 164 [(3, .sl ((prs 0 us).map Tm.enc)), (3, .vec 0 0 us.length 4 us.length)], ⟨1, [.dead], 0, 0⟩) := by
          have hg : (FM 164 [(3, AV.vec 0 0 us.length 4 us.length)]).getD 3 .undef = .vec 0 0 us.length 4 us.length := FM_getD _ (by omega)
          have hz := frz_L (h := ⟨1, [.row (flatT (prs 0 us))], 0, 0⟩) (n0 := 0) (d := 6) (lb := us.length) (prs 0 us) (prs_len us 0) (Nat.zero_le 0) rfl
          unfold layF
          rw [hg, hz]
          simp [FM_set, kill, Heap.set]
        have hg2 : (FM 164 [(2, AV.bool true)]).getD 2 .undef = .bool true := FM_getD _ (by omega)
        have hres : resAll (FM 164 [(2, AV.bool true)]) h' c7.results = some [.bool true] := by
          show (match resA (FM 164 [(2, AV.bool true)]) h' (.tmp 2), resAll (FM 164 [(2, AV.bool true)]) h' [] with | some v, some vs => some (v :: vs) | _, _ => none) = _
          simp only [resA, resAll, hg2]
        exact prim_cut (envOf_okX ssP_ok) (F := c7) rfl hpre hlay hpost (.inr rfl) (vs := [.bool true]) hres rfl hr
theorem sortKeeps_lawX {H : Type} (ds : List (DataW H)) (h : HasTys Tryz.prog Tryz.f7.params.toList (ds.map avOf)) (_ : (DataW.weightsEach Tryz.prog Tryz.f7.params.toList ds).all (· ≤ reachBytes) = true) (hk : Rows.uptoSmall H ds = true) : PrimOKX Tryz.prog TabX 7 (ds.map avOf) (.bool true) := by
  have hb := upto_le hk
  generalize ds.map avOf = avs at h hb
  rw [Tryz.params7] at h
  cases h with
  | cons h1 r1 =>
    cases r1
    obtain ⟨us, rfl, _⟩ := tms_of h1
    have := bulkL_vb us
    rw [encL_map] at this
    simp only [vbL, vb] at hb
    exact keeps_prim us (by omega)
end Go.Proofs.YtlakiipofcibhaaGreatDoor
