import Derived.Test.YtlakiipofcibhaaGreatDoorSu
set_option linter.unusedVariables false
set_option linter.unusedSimpArgs false
set_option linter.unusedSectionVars false

namespace Go.Proofs.YtlakiipofcibhaaGreatDoor
open Go Sz Srt
set_option linter.unusedSimpArgs false
attribute [local simp] seqF condF stepF callF callvF guardF trF step1F call1F callv1F guard1F seqK_n seqK_e seqK_r condK_t condK_f stK_s gdK_t gdK_f cvK_f trK_s trK1_s stK1_s gdK1_t gdK1_f cvK1_f evCode_skip evCode_reg evCode_dreg evCode_block evCode_exit evCode_ret evSteps_nil evTr_nil ldId chkTr
 evOp_mov evOp_pick evOp_box evOp_bld evOp_bsl evOp_ld evOp_st evOp_nck evOp_bin evOp_beq evOp_ceq evOp_peq evOp_not evOp_neg evOp_xor evOp_cvi evOp_cvss evOp_cvis evOp_cvsb evOp_mki evOp_mkf evOp_mkm evOp_mks evOp_sls evOp_slv evOp_fad evOp_fld1 evOp_fldn evOp_iad evOp_ixs evOp_ext evOp_lens evOp_lenv evOp_mx evOp_mn evOp_app evOp_bs0 evOp_snil evOp_clr
 FM_ev ev_const FM_put put_none FM_unwanted lk_hit lk_miss lk_nil FM_clear FM_clearB trues pick gc_FM gc_FM0 incK snds renM allM evB_fm enumA cells_agg cells_bool cells_int cells_str cells_nilp cells_ptr cells_ip cells_nils cells_sl cells_vec cells_nilm cells_map cells_nilfn cells_fn cells_nili cells_iface ldA row_mk get_mk set_mk mark_mk alloc_mk' trunc_mk binA resAll_nil resAll_cons FM_resT FM_resC oneOf finish_mk frz_undef frz_bool frz_int frz_str frz_nilp frz_ptr frz_ip frz_nils frz_sl frz_nilm frz_map frz_nilfn frz_fn frz_nili frz_iface frz_old frz_agg frz_tuple frzL_nil frzL_cons kill_nil kill_cons chunk_zero chunk_succ AV.refs AV.refsL evCall_spec lookF_nil lookF_cons callS_nil callS_oneF spK_s spK_n frK_s frK_n clones cloneS_f cloneS_nils cloneS_sl0 fillA putAt_nil putAt_cons evCode_loop bgn_mk aft_mk keeps objsAt ren renId AV.top lowObj h0 succ_le_f oldK oldAll oldLow oldRen lowCells_row lowCells_map lowCells_dead objCells topLow renObj List.idxOf_cons List.idxOf_nil nilA nilK elemsA_nils elemsA_vec elemsA_str evOp_die evOp_lkp evOp_cvbs lookA scal_bool scal_int scal_str scal_nils scal_sl scal_tuple scal_agg scal1_bool scal1_int scal1_str scal1_nils scal1_sl scal1_agg
attribute [local simp low] frz_vecR
noncomputable def ssO : List KSpec := [awake25S, deepKS 20, atomS, listS, goodTS, allS, setS, sItemsS, cmpS, sameS]
theorem ssO_ok : ∀ s ∈ ssO, KSpecOKX Tryz.prog TabX s := by
  simp [ssO, awake25S_ok, (deepKS_all 20 (by omega)).lift, atomS_ok.lift, listS_ok.lift, goodTS_ok.lift, allS_ok.lift, setS_ok.lift, sItemsS_ok.lift, cmpS_ok.lift, sameS_ok.lift]
theorem lo25 : lookF (ssO ++ clones) 25 = [awake25S] := by rfl
theorem lo26 : lookF (ssO ++ clones) 26 = [deepKS 20] := by rfl
theorem lo23 : lookF (ssO ++ clones) 23 = [atomS] := by rfl
theorem lo24 : lookF (ssO ++ clones) 24 = [listS] := by rfl
theorem lo27 : lookF (ssO ++ clones) 27 = [goodTS] := by rfl
theorem lo28 : lookF (ssO ++ clones) 28 = [allS] := by rfl
theorem lo29 : lookF (ssO ++ clones) 29 = [setS] := by rfl
theorem lo30 : lookF (ssO ++ clones) 30 = [sItemsS] := by rfl
theorem lo31 : lookF (ssO ++ clones) 31 = [cmpS] := by rfl
theorem lo15 : lookF (ssO ++ clones) 15 = [sameS] := by rfl
set_option maxRecDepth 100000 in
set_option maxHeartbeats 4000000 in
theorem c5_l0 (n : Nat) (us : List Tm) (hl : us.length ≤ 1000) : ∀ (post pre : List Tm) (m : Nat), us = pre ++ post → post.length < m →
    aft 0 0 (loopH (evCode (evCall (envOf ssO) (n + 1)) (n + 1) c5_b0) c5_m0 0 m (c5_f0 (.sl (us.map Tm.enc)) (.int .i64 pre.length)) ⟨0, [], 0, 0⟩) =
      some (if anyD (deepT 20) post then .ret else .exit 0, if anyD (deepT 20) post then FM 194 [(2, .bool true)] else FM 194 [(0, .sl (us.map Tm.enc))], ⟨0, [], 0, 0⟩)
  | [], pre, m + 1, e, _ => by
    simp at e
    subst e
    have h5 : AV.refsL (us.map Tm.enc) = 0 := encs_refs _
    simp [loopH_succ, c5_b0, h5, anyD]
  | x :: post, pre, m + 1, e, hm => by
    have ih := c5_l0 n us hl post (pre ++ [x]) m (by simp [e]) (by simp at hm; omega)
    have h1 : us[pre.length]? = some x := by rw [e]; simp
    have h5 : AV.refsL (us.map Tm.enc) = 0 := encs_refs _
    have hpl : pre.length < us.length := by rw [e]; simp
    have h6 : ((pre.length : Int) < (us.length : Int)) = True := eq_true (by omega)
    have h3 : IntKind.i64.wrap ((pre.length : Int) + 1) = (pre.length : Int) + 1 := wrap_i64 (by omega) (by omega)
    have hxe := enc_kind x
    have hxr := argV_refs x
    have hc := deepKS_at 20 x
    rw [hxe, show ((20 : Nat) : Int) = 20 from rfl] at hc
    simp only [c5_m0, List.length_append, List.length_cons, List.length_nil, Nat.zero_add, Int.natCast_add] at ih
    rw [loopH_succ]
    cases hd : deepT 20 x with
    | true =>
      rw [hd] at hc
      simp [c5_b0, c5_m0, h1, h3, h5, h6, hxe, hxr, hc, frz_argV, deepKS_f, anyD, hd, lo26, -lookF_cons, -clones]
    | false =>
      rw [hd] at hc
      simp [c5_b0, c5_m0, h1, h3, h5, h6, hxe, hxr, hc, frz_argV, deepKS_f, anyD, hd, lo26, -lookF_cons, -clones]
      exact ih
def okL (l : List Tm) : Prop := (∀ x ∈ l, okT x) ∧ l.length ≤ 1000
set_option maxRecDepth 100000 in
set_option maxHeartbeats 4000000 in
theorem c5_l1 (n : Nat) (os : List AObj) (us S Z : List Tm) (hS : okL S) : ∀ (post pre : List Tm) (p : Tm) (m : Nat), S = pre ++ p :: post → (p :: post).Pairwise (fun x y => cmpT x y ≤ 0) → post.length < m →
    aft 4 0 (loopH (evCode (evCall (envOf ssO) (n + 1)) (n + 1) c5_b1) c5_m1 4 m (c5_f1 (.sl (us.map Tm.enc)) (.sl (S.map Tm.enc)) (.sl (Z.map Tm.enc)) (.int .i64 ((pre.length : Int) + 1))) ⟨4, os, 4, 0⟩) =
      some (.exit 2, FM 194 [(0, .sl (us.map Tm.enc)), (11, .sl (S.map Tm.enc)), (13, .sl (Z.map Tm.enc))], ⟨4, os, 0, 0⟩)
  | [], pre, p, m + 1, e, _, _ => by
    have hl := congrArg List.length e
    simp at hl
    have h5 : AV.refsL (S.map Tm.enc) = 0 := encs_refs _
    have h5u : AV.refsL (us.map Tm.enc) = 0 := encs_refs _
    have h5z : AV.refsL (Z.map Tm.enc) = 0 := encs_refs _
    have h6 : ((pre.length : Int) + 1 < (S.length : Int)) = False := eq_false (by omega)
    simp [loopH_succ, c5_b1, h5, h5u, h5z, h6]
  | y :: post, pre, p, m + 1, e, hs, hm => by
    have hs' := List.pairwise_cons.1 hs
    have ih := c5_l1 n os us S Z hS post (pre ++ [p]) y m (by simp [e]) hs'.2 (by simp at hm; omega)
    have hl := congrArg List.length e
    simp at hl
    have hl2 := hS.2
    have h1 : S[pre.length]? = some p := by rw [e]; simp
    have h2 : S[pre.length + 1]? = some y := by
      rw [e, List.getElem?_append_right (by omega), show pre.length + 1 - pre.length = 1 by omega]; rfl
    have h5 : AV.refsL (S.map Tm.enc) = 0 := encs_refs _
    have h5u : AV.refsL (us.map Tm.enc) = 0 := encs_refs _
    have h5z : AV.refsL (Z.map Tm.enc) = 0 := encs_refs _
    have h6 : ((pre.length : Int) + 1 < (S.length : Int)) = True := eq_true (by omega)
    have h3 : IntKind.i64.wrap ((pre.length : Int) + 1 + 1) = (pre.length : Int) + 1 + 1 := wrap_i64 (by omega) (by omega)
    have h4 : IntKind.i64.wrap ((pre.length : Int) + 1 - 1) = (pre.length : Int) := by rw [wrap_i64 (by omega) (by omega)]; omega
    have h4' : IntKind.i64.wrap (pre.length : Int) = (pre.length : Int) := wrap_i64 (by omega) (by omega)
    have h7 : (0 ≤ (pre.length : Int) + 1) = True := eq_true (by omega)
    have h8 : ((pre.length : Int) + 1).toNat = pre.length + 1 := by omega
    have hpo := hS.1 p (by rw [e]; simp)
    have hyo := hS.1 y (by rw [e]; simp)
    have hc := cmpS_at p y ⟨hpo.2, hyo.2⟩
    rw [hpo.1, hyo.1] at hc
    have hle := hs'.1 y (by simp)
    have h9 : (0 < cmpT p y) = False := eq_false (by omega)
    have hxe := enc_kind p
    have hxr := argV_refs p
    have hye := enc_kind y
    have hyr := argV_refs y
    rw [hxe, hye] at hc
    simp only [c5_m1, List.length_append, List.length_cons, List.length_nil, Nat.zero_add, Int.natCast_add, Int.natCast_one] at ih
    rw [loopH_succ]
    simp [c5_b1, c5_m1, h1, h2, h3, h4, h4', h5, h5u, h5z, h6, h7, h8, h9, hxe, hxr, hye, hyr, hc, frz_argV, cmpS_f, lo31, -lookF_cons, -clones]
    exact ih
set_option maxRecDepth 100000 in
set_option maxHeartbeats 4000000 in
theorem c5_l2 (n : Nat) (os : List AObj) (us S Z : List Tm) (hS : okL Z) : ∀ (post pre : List Tm) (p : Tm) (m : Nat), Z = pre ++ p :: post → (p :: post).Pairwise (fun x y => cmpT x y < 0) → post.length < m →
    aft 4 0 (loopH (evCode (evCall (envOf ssO) (n + 1)) (n + 1) c5_b2) c5_m2 4 m (c5_f2 (.sl (us.map Tm.enc)) (.sl (S.map Tm.enc)) (.sl (Z.map Tm.enc)) (.int .i64 ((pre.length : Int) + 1))) ⟨4, os, 4, 0⟩) =
      some (.exit 4, FM 194 [(0, .sl (us.map Tm.enc)), (11, .sl (S.map Tm.enc)), (13, .sl (Z.map Tm.enc))], ⟨4, os, 0, 0⟩)
  | [], pre, p, m + 1, e, _, _ => by
    have hl := congrArg List.length e
    simp at hl
    have h5 : AV.refsL (S.map Tm.enc) = 0 := encs_refs _
    have h5u : AV.refsL (us.map Tm.enc) = 0 := encs_refs _
    have h5z : AV.refsL (Z.map Tm.enc) = 0 := encs_refs _
    have h6 : ((pre.length : Int) + 1 < (Z.length : Int)) = False := eq_false (by omega)
    simp [loopH_succ, c5_b2, h5, h5u, h5z, h6]
  | y :: post, pre, p, m + 1, e, hs, hm => by
    have hs' := List.pairwise_cons.1 hs
    have ih := c5_l2 n os us S Z hS post (pre ++ [p]) y m (by simp [e]) hs'.2 (by simp at hm; omega)
    have hl := congrArg List.length e
    simp at hl
    have hl2 := hS.2
    have h1 : Z[pre.length]? = some p := by rw [e]; simp
    have h2 : Z[pre.length + 1]? = some y := by
      rw [e, List.getElem?_append_right (by omega), show pre.length + 1 - pre.length = 1 by omega]; rfl
    have h5 : AV.refsL (S.map Tm.enc) = 0 := encs_refs _
    have h5u : AV.refsL (us.map Tm.enc) = 0 := encs_refs _
    have h5z : AV.refsL (Z.map Tm.enc) = 0 := encs_refs _
    have h6 : ((pre.length : Int) + 1 < (Z.length : Int)) = True := eq_true (by omega)
    have h3 : IntKind.i64.wrap ((pre.length : Int) + 1 + 1) = (pre.length : Int) + 1 + 1 := wrap_i64 (by omega) (by omega)
    have h4 : IntKind.i64.wrap ((pre.length : Int) + 1 - 1) = (pre.length : Int) := by rw [wrap_i64 (by omega) (by omega)]; omega
    have h4' : IntKind.i64.wrap (pre.length : Int) = (pre.length : Int) := wrap_i64 (by omega) (by omega)
    have h7 : (0 ≤ (pre.length : Int) + 1) = True := eq_true (by omega)
    have h8 : ((pre.length : Int) + 1).toNat = pre.length + 1 := by omega
    have hpo := hS.1 p (by rw [e]; simp)
    have hyo := hS.1 y (by rw [e]; simp)
    have hc := cmpS_at p y ⟨hpo.2, hyo.2⟩
    rw [hpo.1, hyo.1] at hc
    have hle := hs'.1 y (by simp)
    have h9 : (0 ≤ cmpT p y) = False := eq_false (by omega)
    have hxe := enc_kind p
    have hxr := argV_refs p
    have hye := enc_kind y
    have hyr := argV_refs y
    rw [hxe, hye] at hc
    simp only [c5_m2, List.length_append, List.length_cons, List.length_nil, Nat.zero_add, Int.natCast_add, Int.natCast_one] at ih
    rw [loopH_succ]
    simp [c5_b2, c5_m2, h1, h2, h3, h4, h4', h5, h5u, h5z, h6, h7, h8, h9, hxe, hxr, hye, hyr, hc, frz_argV, cmpS_f, lo31, -lookF_cons, -clones]
    exact ih
def cntS (x : Tm) (l : List Tm) : Nat := l.countP fun y => sameT y x
theorem cntS_snoc (x y : Tm) (l : List Tm) : cntS x (l ++ [y]) = cntS x l + if sameT y x then 1 else 0 := by
  unfold cntS
  rw [List.countP_append]
  simp [List.countP_cons]
set_option maxRecDepth 100000 in
set_option maxHeartbeats 4000000 in
theorem c5_l3 (n : Nat) (os : List AObj) (us S Z : List Tm) (hu : okL us) (hS : okL S) (hlen : S.length = us.length) (i : Nat) (x : Tm) (hx : us[i]? = some x) (hi : i < us.length) : ∀ (post preS postS pre : List Tm) (m : Nat), us = pre ++ post → S = preS ++ postS → preS.length = pre.length → post.length < m →
    aft 4 4 (loopH (evCode (evCall (envOf ssO) (n + 1)) (n + 1) c5_b3) c5_m3 4 m (c5_f3 (.sl (us.map Tm.enc)) (.sl (S.map Tm.enc)) (.sl (Z.map Tm.enc)) (.int .i64 i) (.int .i64 (cntS x pre)) (.int .i64 (cntS x preS)) (.int .i64 pre.length)) ⟨4, os, 4, 0⟩) =
      some (.exit 8, FM 194 [(0, .sl (us.map Tm.enc)), (11, .sl (S.map Tm.enc)), (13, .sl (Z.map Tm.enc)), (17, .int .i64 i), (18, .int .i64 (cntS x us)), (19, .int .i64 (cntS x S))], ⟨4, os, 4, 0⟩)
  | [], preS, postS, pre, m + 1, e, e2, hp, _ => by
    have h5 : AV.refsL (S.map Tm.enc) = 0 := encs_refs _
    have h5u : AV.refsL (us.map Tm.enc) = 0 := encs_refs _
    have h5z : AV.refsL (Z.map Tm.enc) = 0 := encs_refs _
    have hl := congrArg List.length e2
    simp at e hl
    have : postS = [] := List.eq_nil_of_length_eq_zero (by rw [e] at hlen; omega)
    subst this
    simp at e2
    subst e e2
    simp [loopH_succ, c5_b3, h5, h5u, h5z]
  | y :: post, preS, [], pre, m + 1, e, e2, hp, hm => by
    have h1 := congrArg List.length e
    have h2 := congrArg List.length e2
    simp at h1 h2
    omega
  | y :: post, preS, z :: postS, pre, m + 1, e, e2, hp, hm => by
    have ih := c5_l3 n os us S Z hu hS hlen i x hx hi post (preS ++ [z]) postS (pre ++ [y]) m (by simp [e]) (by simp [e2]) (by simp [hp]) (by simp at hm; omega)
    have h5 : AV.refsL (S.map Tm.enc) = 0 := encs_refs _
    have h5u : AV.refsL (us.map Tm.enc) = 0 := encs_refs _
    have h5z : AV.refsL (Z.map Tm.enc) = 0 := encs_refs _
    have hl := congrArg List.length e
    simp at hl
    have hl2 := hu.2
    have h1 : us[pre.length]? = some y := by rw [e]; simp
    have h2 : S[pre.length]? = some z := by rw [e2, ← hp]; simp
    have h6 : ((pre.length : Int) < (us.length : Int)) = True := eq_true (by omega)
    have h3 : IntKind.i64.wrap ((pre.length : Int) + 1) = (pre.length : Int) + 1 := wrap_i64 (by omega) (by omega)
    have ox := hu.1 x (List.mem_of_getElem? hx)
    have oy := hu.1 y (List.mem_of_getElem? h1)
    have oz := hS.1 z (List.mem_of_getElem? h2)
    have c1 := sameS_at y x ⟨oy.2, ox.2⟩
    have c2 := sameS_at z x ⟨oz.2, ox.2⟩
    rw [oy.1, ox.1] at c1
    rw [oz.1, ox.1] at c2
    have b1 : cntS x pre ≤ pre.length := List.countP_le_length
    have b2 : cntS x preS ≤ preS.length := List.countP_le_length
    have w1 : IntKind.i64.wrap ((cntS x pre : Int) + 1) = (cntS x pre : Int) + 1 := wrap_i64 (by omega) (by omega)
    have w2 : IntKind.i64.wrap ((cntS x preS : Int) + 1) = (cntS x preS : Int) + 1 := wrap_i64 (by omega) (by omega)
    have hxe := enc_kind x
    have hxr := argV_refs x
    have hye := enc_kind y
    have hyr := argV_refs y
    have hze := enc_kind z
    have hzr := argV_refs z
    rw [hye, hxe] at c1
    rw [hze, hxe] at c2
    rw [cntS_snoc, cntS_snoc] at ih
    simp only [c5_m3, List.length_append, List.length_cons, List.length_nil, Nat.zero_add, Int.natCast_add, Int.natCast_one] at ih
    rw [loopH_succ]
    cases s1 : sameT y x with
    | true =>
      rw [s1] at c1 ih
      cases s2 : sameT z x with
      | true =>
        rw [s2] at c2 ih
        simp [c5_b3, c5_m3, hx, h1, h2, h3, h5, h5u, h5z, h6, w1, w2, hxe, hxr, hye, hyr, hze, hzr, c1, c2, frz_argV, sameS_f, lo15, -lookF_cons, -clones]
        exact ih
      | false =>
        rw [s2] at c2 ih
        simp [c5_b3, c5_m3, hx, h1, h2, h3, h5, h5u, h5z, h6, w1, w2, hxe, hxr, hye, hyr, hze, hzr, c1, c2, frz_argV, sameS_f, lo15, -lookF_cons, -clones]
        exact ih
    | false =>
      rw [s1] at c1 ih
      cases s2 : sameT z x with
      | true =>
        rw [s2] at c2 ih
        simp [c5_b3, c5_m3, hx, h1, h2, h3, h5, h5u, h5z, h6, w1, w2, hxe, hxr, hye, hyr, hze, hzr, c1, c2, frz_argV, sameS_f, lo15, -lookF_cons, -clones]
        exact ih
      | false =>
        rw [s2] at c2 ih
        simp [c5_b3, c5_m3, hx, h1, h2, h3, h5, h5u, h5z, h6, w1, w2, hxe, hxr, hye, hyr, hze, hzr, c1, c2, frz_argV, sameS_f, lo15, -lookF_cons, -clones]
        exact ih
set_option maxRecDepth 100000 in
set_option maxHeartbeats 4000000 in
theorem c5_l4 (n : Nat) (os : List AObj) (us S Z : List Tm) (hu : okL us) (hZ : okL Z) (i : Nat) (x : Tm) (hx : us[i]? = some x) (hi : i < us.length) (N M : Int) : ∀ (post pre : List Tm) (fl : Bool) (m : Nat), Z = pre ++ post → post.length < m →
    aft 4 4 (loopH (evCode (evCall (envOf ssO) (n + 1)) (n + 1) c5_b4) c5_m4 4 m (c5_f4 (.sl (us.map Tm.enc)) (.sl (S.map Tm.enc)) (.sl (Z.map Tm.enc)) (.int .i64 i) (.int .i64 N) (.int .i64 M) (.bool fl) (.int .i64 pre.length)) ⟨4, os, 4, 0⟩) =
      some (.exit 10, FM 194 [(0, .sl (us.map Tm.enc)), (11, .sl (S.map Tm.enc)), (13, .sl (Z.map Tm.enc)), (17, .int .i64 i), (18, .int .i64 N), (19, .int .i64 M), (21, .bool (fl || post.any fun z => sameT z x))], ⟨4, os, 4, 0⟩)
  | [], pre, fl, m + 1, e, _ => by
    have h5 : AV.refsL (S.map Tm.enc) = 0 := encs_refs _
    have h5u : AV.refsL (us.map Tm.enc) = 0 := encs_refs _
    have h5z : AV.refsL (Z.map Tm.enc) = 0 := encs_refs _
    simp at e
    subst e
    simp [loopH_succ, c5_b4, h5, h5u, h5z]
  | y :: post, pre, fl, m + 1, e, hm => by
    have h5 : AV.refsL (S.map Tm.enc) = 0 := encs_refs _
    have h5u : AV.refsL (us.map Tm.enc) = 0 := encs_refs _
    have h5z : AV.refsL (Z.map Tm.enc) = 0 := encs_refs _
    have hl := congrArg List.length e
    simp at hl
    have hl2 := hZ.2
    have h1 : Z[pre.length]? = some y := by rw [e]; simp
    have h6 : ((pre.length : Int) < (Z.length : Int)) = True := eq_true (by omega)
    have h3 : IntKind.i64.wrap ((pre.length : Int) + 1) = (pre.length : Int) + 1 := wrap_i64 (by omega) (by omega)
    have ih := fun fl => c5_l4 n os us S Z hu hZ i x hx hi N M post (pre ++ [y]) fl m (by simp [e]) (by simp at hm; omega)
    simp only [c5_m4, List.length_append, List.length_cons, List.length_nil, Nat.zero_add, Int.natCast_add, Int.natCast_one] at ih
    rw [loopH_succ]
    cases fl with
    | true =>
      have ih := ih true
      simp only [Bool.true_or] at ih ⊢
      simp [c5_b4, c5_m4, h3, h5, h5u, h5z, h6]
      exact ih
    | false =>
      have ox := hu.1 x (List.mem_of_getElem? hx)
      have oy := hZ.1 y (List.mem_of_getElem? h1)
      have c1 := sameS_at y x ⟨oy.2, ox.2⟩
      rw [oy.1, ox.1] at c1
      have hxe := enc_kind x
      have hxr := argV_refs x
      have hye := enc_kind y
      have hyr := argV_refs y
      rw [hye, hxe] at c1
      have ih := ih (sameT y x)
      simp only [Bool.false_or, List.any_cons] at ih ⊢
      cases s1 : sameT y x with
      | true =>
        rw [s1] at c1 ih
        simp only [Bool.true_or] at ih ⊢
        simp [c5_b4, c5_m4, hx, h1, h3, h5, h5u, h5z, h6, hxe, hxr, hye, hyr, c1, frz_argV, sameS_f, lo15, -lookF_cons, -clones]
        exact ih
      | false =>
        rw [s1] at c1 ih
        simp only [Bool.false_or] at ih ⊢
        simp [c5_b4, c5_m4, hx, h1, h3, h5, h5u, h5z, h6, hxe, hxr, hye, hyr, c1, frz_argV, sameS_f, lo15, -lookF_cons, -clones]
        exact ih
set_option maxRecDepth 100000 in
set_option maxHeartbeats 4000000 in
theorem c5_l5 (n : Nat) (hn : 2000 < n) (os : List AObj) (us S Z : List Tm) (hu : okL us) (hS : okL S) (hZ : okL Z) (hlen : S.length = us.length) (hc : ∀ x ∈ us, cntS x S = cntS x us) (ht : ∀ x ∈ us, Z.any (fun z => sameT z x) = true) : ∀ (post pre : List Tm) (m : Nat), us = pre ++ post → post.length < m →
    aft 4 0 (loopH (evCode (evCall (envOf ssO) (n + 1)) (n + 1) c5_b5) c5_m5 4 m (c5_f5 (.sl (us.map Tm.enc)) (.sl (S.map Tm.enc)) (.sl (Z.map Tm.enc)) (.int .i64 pre.length)) ⟨4, os, 4, 0⟩) =
      some (.exit 6, FM 194 [], ⟨4, os, 0, 0⟩)
  | [], pre, m + 1, e, _ => by
    have h5 : AV.refsL (S.map Tm.enc) = 0 := encs_refs _
    have h5u : AV.refsL (us.map Tm.enc) = 0 := encs_refs _
    have h5z : AV.refsL (Z.map Tm.enc) = 0 := encs_refs _
    simp at e
    subst e
    simp [loopH_succ, c5_b5, h5, h5u, h5z]
  | x :: post, pre, m + 1, e, hm => by
    have h5 : AV.refsL (S.map Tm.enc) = 0 := encs_refs _
    have h5u : AV.refsL (us.map Tm.enc) = 0 := encs_refs _
    have h5z : AV.refsL (Z.map Tm.enc) = 0 := encs_refs _
    have hl := congrArg List.length e
    simp at hl
    have hl2 := hu.2
    have h1 : us[pre.length]? = some x := by rw [e]; simp
    have h6 : ((pre.length : Int) < (us.length : Int)) = True := eq_true (by omega)
    have h3 : IntKind.i64.wrap ((pre.length : Int) + 1) = (pre.length : Int) + 1 := wrap_i64 (by omega) (by omega)
    have ih := c5_l5 n hn os us S Z hu hS hZ hlen hc ht post (pre ++ [x]) m (by simp [e]) (by simp at hm; omega)
    have l3 := c5_l3 n os us S Z hu hS hlen pre.length x h1 (by omega) us [] S [] (n + 1) rfl rfl rfl (by omega)
    have l4 := c5_l4 n os us S Z hu hZ pre.length x h1 (by omega) (cntS x us) (cntS x S) Z [] false (n + 1) rfl (by have := hZ.2; omega)
    have hx : x ∈ us := List.mem_of_getElem? h1
    rw [ht x hx] at l4
    rw [hc x hx] at l3 l4
    have c0 : cntS x [] = 0 := rfl
    rw [c0] at l3
    simp only [c5_m3, List.length_nil, show ((0 : Nat) : Int) = 0 from rfl] at l3
    simp only [c5_m4, List.length_nil, show ((0 : Nat) : Int) = 0 from rfl, Bool.false_or] at l4
    simp only [c5_m5, List.length_append, List.length_cons, List.length_nil, Nat.zero_add, Int.natCast_add, Int.natCast_one] at ih
    rw [loopH_succ]
    simp [c5_b5, c5_m5, c5_m3, c5_m4, h3, h5, h5u, h5z, h6, l3, l4]
    exact ih
theorem cnt_perm {S us : List Tm} (h : S.Perm us) (x : Tm) : cntS x S = cntS x us := h.countP_eq _
theorem lo5 : lookF (ssO ++ clones) 5 = [] := by rfl
set_option maxRecDepth 100000 in
set_option maxHeartbeats 16000000 in
theorem orders_run (us : List Tm) (hb : Tm.bulkL us < 100000000) (hne : us ≠ []) : ∃ h', evCall (envOf ssO) (4000 + 3) 5 [.sl (us.map Tm.enc)] h0 = some (.bool true, h') := by
  have o := cmpT_ord
  have h5u : AV.refsL (us.map Tm.enc) = 0 := encs_refs _
  generalize hk : 4000 = k
  by_cases h30 : 30 < us.length
  · refine ⟨h0, ?_⟩
    have h30' : ((30 : Int) < (us.length : Int)) = True := eq_true (by omega)
    simp [run5, c5, awake25S_f, awake25S_at, lo5, lo25, -lookF_cons, -clones, h30', h30, h5u]
  · have h30' : ((30 : Int) < (us.length : Int)) = False := eq_false (by omega)
    have l0 := c5_l0 (k + 1) us (by omega) us [] (k + 2) rfl (by omega)
    simp only [c5_m0, List.length_nil, show ((0 : Nat) : Int) = 0 from rfl] at l0
    cases hd : anyD (deepT 20) us with
    | true =>
      refine ⟨h0, ?_⟩
      rw [hd] at l0
      simp only [if_true] at l0
      simp [run5, c5, c5_m0, awake25S_f, awake25S_at, lo5, lo25, -lookF_cons, -clones, h30', h30, h5u, l0]
    | false =>
      rw [hd] at l0
      simp only [Bool.false_eq_true, if_false] at l0
      have hdd : ∀ x ∈ us, x.depth ≤ 20 := fun x hx => deep_depth 20 x (anyD_false hd x hx)
      have hbl : (listT us emptyT).bulk < 1000000000 := by rw [bulk_list]; simp [emptyT, Tm.bulk]; omega
      have hls := listS_at us emptyT (by omega)
      have hgs := goodTS_at (listT us emptyT) hbl
      have ee : emptyT.enc = .agg [.int .i64 2, .int .i64 0, .str [91, 93], .nils] := rfl
      have hte := enc_kind (listT us emptyT)
      have htr := argV_refs (listT us emptyT)
      cases hg : goodT (listT us emptyT) with
      | false =>
        refine ⟨h0, ?_⟩
        rw [hg, hte] at hgs
        rw [ee, hte] at hls
        simp [run5, c5, c5_m0, awake25S_f, awake25S_at, lo5, lo25, lo23, lo24, lo27, -lookF_cons, -clones, h30', h30, h5u, l0, atomS_f, atomS_at, listS_f, hls, goodTS_f, hgs, htr, frz_argV]
      | true =>
        have so := sortedOf 20 hg hdd (by omega)
        have hSl := so.hS.length_eq
        have hZl := so.sub.length_le
        have bS : Tm.bulkL (sortT cmpT us) = Tm.bulkL us := bulk_perm so.hS
        have bZ := bulkL_sub so.sub
        have hb1 : (listT (sortT cmpT us) emptyT).bulk < 1000000000 := by rw [bulk_list]; simp [emptyT, Tm.bulk]; omega
        have hb2 : (listT (cmpct sameT (sortT cmpT us)) emptyT).bulk < 1000000000 := by rw [bulk_list]; simp [emptyT, Tm.bulk]; omega
        have q1 := allS_at (listT us emptyT) hbl o
        have q2 := setS_at (listT us emptyT) hbl o
        have q3 := setS_at (listT (sortT cmpT us) emptyT) hb1 o
        have q4 := sItemsS_at (listT (sortT cmpT us) emptyT) hb1
        have q5 := sItemsS_at (listT (cmpct sameT (sortT cmpT us)) emptyT) hb2
        have q6 := sameS_at (listT (cmpct sameT (sortT cmpT us)) emptyT) (listT (cmpct sameT (sortT cmpT us)) emptyT) ⟨hb2, hb2⟩
        unfold sortAll at q1
        unfold sortSet at q2 q3
        rw [sItems_list hg] at q1 q2
        rw [sItems_list so.gS] at q3 q4
        rw [sItems_list so.gZ] at q5
        rw [so.gZ, sameT_good so.gZ] at q6
        simp only [if_true, so.again, Bool.and_self] at q1 q2 q3 q6
        obtain ⟨p, rS, eS⟩ : ∃ p r, sortT cmpT us = p :: r := by
          cases h : sortT cmpT us with
          | nil => rw [h] at hSl; exact absurd (List.eq_nil_of_length_eq_zero hSl.symm) hne
          | cons p r => exact ⟨p, r, rfl⟩
        obtain ⟨z, rZ, eZ⟩ : ∃ p r, cmpct sameT (sortT cmpT us) = p :: r := by rw [eS]; exact ⟨p, _, rfl⟩
        have okU : okL us := ⟨fun x hx => ⟨good_item hg x hx, by have := bulk_mem' hx; omega⟩, by omega⟩
        have okS : okL (sortT cmpT us) := ⟨fun x hx => okU.1 x (so.hS.mem_iff.1 hx), by omega⟩
        have okZ : okL (cmpct sameT (sortT cmpT us)) := ⟨fun x hx => okS.1 x (so.sub.subset hx), by omega⟩
        have hs1 := so.srt
        have hs2 := so.str
        generalize hSg : sortT cmpT us = S at *
        generalize hZg : cmpct sameT S = Z at *
        have l1 := fun os => c5_l1 (k + 1) os us S Z okS rS [] p (k + 2) eS (by rw [← eS]; exact hs1) (by rw [eS] at hSl; simp at hSl; omega)
        have l2 := fun os => c5_l2 (k + 1) os us S Z okZ rZ [] z (k + 2) eZ (by rw [← eZ]; exact hs2) (by rw [eZ] at hZl; simp at hZl; omega)
        have l5 := fun os => c5_l5 (k + 1) (by omega) os us S Z okU okS okZ hSl (fun x hx => cnt_perm so.hS x) so.all us [] (k + 2) rfl (by omega)
        have r5 : AV.refsL (S.map Tm.enc) = 0 := encs_refs _
        have r5z : AV.refsL (Z.map Tm.enc) = 0 := encs_refs _
        have vS : slT S = .sl (S.map Tm.enc) := by rw [eS]; rfl
        have vZ : slT Z = .sl (Z.map Tm.enc) := by rw [eZ]; rfl
        rw [vS] at q4
        rw [vZ] at q5
        simp only [c5_m1, List.length_nil, show ((0 : Nat) : Int) = 0 from rfl, Int.zero_add] at l1
        simp only [c5_m2, List.length_nil, show ((0 : Nat) : Int) = 0 from rfl, Int.zero_add] at l2
        simp only [c5_m5, List.length_nil, show ((0 : Nat) : Int) = 0 from rfl] at l5
        have hSe := enc_kind (listT S emptyT)
        have hSr := argV_refs (listT S emptyT)
        have hZe := enc_kind (listT Z emptyT)
        have hZr := argV_refs (listT Z emptyT)
        have hlen : ((S.length : Int) = (us.length : Int)) = True := eq_true (by omega)
        generalize listT us emptyT = T at *
        generalize listT S emptyT = TS at *
        generalize listT Z emptyT = TZ at *
        rw [hg, hte] at hgs
        rw [ee, hte] at hls
        rw [hte, hSe] at q1
        rw [hte, hZe] at q2
        rw [hSe, hZe] at q3
        rw [hSe] at q4
        rw [hZe] at q5 q6
        refine ⟨h0, ?_⟩
        simp [run5, c5, c5_m0, c5_m1, c5_m2, c5_m5, awake25S_f, awake25S_at, lo5, lo15, lo25, lo23, lo24, lo27, lo28, lo29, lo30, -lookF_cons, -clones, h30', h30, h5u, l0, atomS_f, atomS_at, listS_f, hls, goodTS_f, hgs, htr, hSr, hZr, frz_argV, allS_f, setS_f, sItemsS_f, sameS_f, q1, q2, q3, q4, q5, q6, r5, r5z, hSl, hlen, l1, l2, l5]
set_option maxRecDepth 100000 in
set_option maxHeartbeats 16000000 in
theorem orders_nil : ∃ h', evCall (envOf ssO) (4000 + 3) 5 [.sl []] h0 = some (.bool true, h') := by
  have o := cmpT_ord
  have hb : emptyT.bulk < 1000000000 := by decide
  have hg : goodT emptyT = true := by decide
  have q1 := allS_at emptyT hb o
  have q2 := setS_at emptyT hb o
  have q4 := sItemsS_at emptyT hb
  have q6 := sameS_at emptyT emptyT ⟨hb, hb⟩
  have q7 := goodTS_at emptyT hb
  have q8 := list0
  rw [all_empty, items_empty] at q1
  rw [set_empty, items_empty] at q2
  rw [items_empty] at q4
  rw [hg, sameT_good hg] at q6
  rw [hg] at q7
  have ee : emptyT.enc = .agg [.int .i64 2, .int .i64 0, .str [91, 93], .nils] := rfl
  have s0 : slT [] = .nils := rfl
  rw [ee] at q1 q2 q4 q6 q7 q8
  rw [s0] at q4
  generalize 4000 = k
  refine ⟨h0, ?_⟩
  simp [run5, c5, c5_m0, c5_b0, c5_m1, c5_b1, c5_m2, c5_b2, c5_m5, c5_b5, loopH_succ, awake25S_f, awake25S_at, lo5, lo15, lo25, lo23, lo24, lo27, lo28, lo29, lo30, -lookF_cons, -clones, atomS_f, atomS_at, listS_f, goodTS_f, allS_f, setS_f, sItemsS_f, sameS_f, q1, q2, q4, q6, q7, q8]
theorem orders_prim (us : List Tm) (hb : Tm.bulkL us < 100000000) : PrimOKX Tryz.prog TabX 5 [.sl (us.map Tm.enc)] (.bool true) := by
  have hr : AV.refsL [.sl (us.map Tm.enc)] = 0 := by simp [AV.refsL, AV.refs, encs_refs]
  by_cases hne : us = []
  · subst hne
    obtain ⟨h', e⟩ := orders_nil
    exact prim_of (envOf_okX ssO_ok) e rfl hr
  · obtain ⟨h', e⟩ := orders_run us hb hne
    exact prim_of (envOf_okX ssO_ok) e rfl hr
theorem sortOrders_lawX {H : Type} (ds : List (DataW H)) (h : HasTys Tryz.prog Tryz.f5.params.toList (ds.map avOf)) (_ : (DataW.weightsEach Tryz.prog Tryz.f5.params.toList ds).all (· ≤ reachBytes) = true) (hk : Rows.uptoSmall H ds = true) : PrimOKX Tryz.prog TabX 5 (ds.map avOf) (.bool true) := by
  have hb := upto_le hk
  generalize ds.map avOf = avs at h hb
  rw [Tryz.params5] at h
  cases h with
  | cons h1 r1 =>
    cases r1
    obtain ⟨us, rfl, _⟩ := tms_of h1
    have := bulkL_vb us
    rw [encL_map] at this
    simp only [vbL, vb] at hb
    exact orders_prim us (by omega)
end Go.Proofs.YtlakiipofcibhaaGreatDoor
