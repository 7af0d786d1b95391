import Derived.Test.YtlakiipofcibhaaGreatDoorSu
set_option linter.unusedVariables false
set_option linter.unusedSimpArgs false
set_option linter.unusedSectionVars false

namespace Go.Proofs.YtlakiipofcibhaaGreatDoor
open Go Sz Srt
set_option linter.unusedSimpArgs false
attribute [local simp] seqF condF stepF callF callvF guardF trF step1F call1F callv1F guard1F seqK_n seqK_e seqK_r condK_t condK_f stK_s gdK_t gdK_f cvK_f trK_s trK1_s stK1_s gdK1_t gdK1_f cvK1_f evCode_skip evCode_reg evCode_dreg evCode_block evCode_exit evCode_ret evSteps_nil evTr_nil ldId chkTr
 evOp_mov evOp_pick evOp_box evOp_bld evOp_bsl evOp_ld evOp_st evOp_nck evOp_bin evOp_beq evOp_ceq evOp_peq evOp_not evOp_neg evOp_xor evOp_cvi evOp_cvss evOp_cvis evOp_cvsb evOp_mki evOp_mkf evOp_mkm evOp_mks evOp_sls evOp_slv evOp_fad evOp_fld1 evOp_fldn evOp_iad evOp_ixs evOp_ext evOp_lens evOp_lenv evOp_mx evOp_mn evOp_app evOp_bs0 evOp_snil evOp_clr
 FM_ev ev_const FM_put put_none FM_unwanted lk_hit lk_miss lk_nil FM_clear FM_clearB trues pick gc_FM gc_FM0 incK snds renM allM evB_fm enumA cells_agg cells_bool cells_int cells_str cells_nilp cells_ptr cells_ip cells_nils cells_sl cells_vec cells_nilm cells_map cells_nilfn cells_fn cells_nili cells_iface ldA row_mk get_mk set_mk mark_mk alloc_mk' trunc_mk binA resAll_nil resAll_cons FM_resT FM_resC oneOf finish_mk frz_undef frz_bool frz_int frz_str frz_nilp frz_ptr frz_ip frz_nils frz_sl frz_nilm frz_map frz_nilfn frz_fn frz_nili frz_iface frz_old frz_agg frz_tuple frzL_nil frzL_cons kill_nil kill_cons chunk_zero chunk_succ AV.refs AV.refsL evCall_spec lookF_nil lookF_cons callS_nil callS_oneF spK_s spK_n frK_s frK_n clones cloneS_f cloneS_nils cloneS_sl0 fillA putAt_nil putAt_cons evCode_loop bgn_mk aft_mk keeps objsAt ren renId AV.top lowObj h0 succ_le_f oldK oldAll oldLow oldRen lowCells_row lowCells_map lowCells_dead objCells topLow renObj List.idxOf_cons List.idxOf_nil nilA nilK elemsA_nils elemsA_vec elemsA_str evOp_die evOp_lkp evOp_cvbs lookA scal_bool scal_int scal_str scal_nils scal_sl scal_tuple scal_agg scal1_bool scal1_int scal1_str scal1_nils scal1_sl scal1_agg
attribute [local simp low] frz_vecR
mutual
def mkT : Tm → Bool
  | .nl _ _ _ => false
  | .mk _ _ _ us => mkL us
def mkL : List Tm → Bool
  | [] => true
  | x :: r => mkT x && mkL r
end
theorem mkL_iff : ∀ l : List Tm, mkL l = true ↔ ∀ x ∈ l, mkT x = true
  | [] => by simp [mkL]
  | x :: r => by
    have := mkL_iff r
    simp only [mkL, Bool.and_eq_true, this, List.mem_cons, forall_eq_or_imp]
theorem mk_same (m : Nat) : ∀ x y : Tm, x.size < m → mkT x = true → mkT y = true → sameT x y = true → x = y := by
  induction m with
  | zero => intro x y h; omega
  | succ m ih =>
    have hL : ∀ us ws : List Tm, Tm.sizeL us < m → mkL us = true → mkL ws = true → sameL us ws = true → us = ws := by
      intro us
      induction us with
      | nil =>
        intro ws _ _ _ h
        rw [sameL_nil] at h
        cases ws with
        | nil => rfl
        | cons _ _ => cases h
      | cons x us ihu =>
        intro ws hs h1 h2 h
        cases ws with
        | nil => simp [sameL] at h
        | cons y ws =>
          simp only [Tm.sizeL] at hs
          simp only [mkL, Bool.and_eq_true] at h1 h2
          rw [sameL_cons, Bool.and_eq_true] at h
          rw [ih x y (by omega) h1.1 h2.1 h.1, ihu ws (by omega) h1.2 h2.2 h.2]
    intro x y hs h1 h2 h
    rw [sameT_eq] at h
    simp only [Bool.and_eq_true, decide_eq_true_eq, beq_iff_eq] at h
    obtain ⟨⟨⟨g1, g2⟩, g3⟩, g4⟩ := h
    have s1 := size_args x
    cases x with
    | nl k n s => simp [mkT] at h1
    | mk k n s us =>
      cases y with
      | nl k n s => simp [mkT] at h2
      | mk k2 n2 s2 ws =>
        simp only [Tm.kind, Tm.num, Tm.name, Tm.args] at g1 g2 g3 g4 s1
        simp only [mkT] at h1 h2
        rw [g1, g2, g3, hL us ws (by omega) h1 h2 g4]
theorem mk_inv : ∀ (n : Nat) (v : AV), SizeOf.sizeOf v ≤ n → HasTy Tryz.prog 27 v → ∃ t : Tm, v = t.enc ∧ mkT t = true
  | 0, v, h, _ => by cases v <;> simp at h
  | n + 1, v, hn, h => by
    obtain ⟨vs, rfl, hv⟩ := ty_agg Tryz.underlying27 h
    cases hv with
    | cons h1 r1 => cases r1 with
      | cons h2 r2 => cases r2 with
        | cons h3 r3 => cases r3 with
          | cons h4 r4 =>
            cases r4
            obtain ⟨k, rfl, _⟩ := ty_i64 Tryz.underlying3 h1
            obtain ⟨q, rfl, hq1, hq2⟩ := ty_i64 Tryz.underlying2 h2
            obtain ⟨s, rfl, _⟩ := ty_str Tryz.underlying9 h3
            obtain ⟨xs, rfl, _, hx⟩ := ty_sl Tryz.underlying25 h4
            have hsz : SizeOf.sizeOf xs ≤ n := by
              simp only [List.flatMap_cons, List.flatMap_nil, AV.cells, List.cons_append, List.nil_append, List.append_nil, AV.agg.sizeOf_spec, List.cons.sizeOf_spec, AV.sl.sizeOf_spec] at hn
              omega
            have key : ∀ l : List AV, (∀ x ∈ l, x ∈ xs) → ∃ us : List Tm, l = us.map Tm.enc ∧ mkL us = true := by
              intro l
              induction l with
              | nil => intro _; exact ⟨[], rfl, rfl⟩
              | cons x r ih =>
                intro hl
                have hm := hl x (by simp)
                obtain ⟨t, e, h1⟩ := mk_inv n x (by have := List.sizeOf_lt_of_mem hm; omega) (hx x hm)
                obtain ⟨us, e2, h2⟩ := ih fun y hy => hl y (by simp [hy])
                exact ⟨t :: us, by rw [e, e2]; rfl, by simp [mkL, h1, h2]⟩
            obtain ⟨us, rfl, hus⟩ := key xs fun x hx => hx
            exact ⟨.mk k q s us, by simp [Tm.enc, AV.cells, encL_map], hus⟩
theorem mks_of {v : AV} (h : HasTy Tryz.prog 25 v) : ∃ us : List Tm, v = .sl (us.map Tm.enc) ∧ ∀ u ∈ us, mkT u = true := by
  obtain ⟨xs, rfl, _, hx⟩ := ty_sl Tryz.underlying25 h
  have key : ∀ l : List AV, (∀ x ∈ l, HasTy Tryz.prog 27 x) → ∃ us : List Tm, l = us.map Tm.enc ∧ ∀ u ∈ us, mkT u = true := by
    intro l
    induction l with
    | nil => intro _; exact ⟨[], rfl, fun u h => by cases h⟩
    | cons x r ih =>
      intro h
      obtain ⟨t, e, h1⟩ := mk_inv _ x (Nat.le_refl _) (h x (by simp))
      obtain ⟨us, e2, h3⟩ := ih fun y hy => h y (by simp [hy])
      refine ⟨t :: us, by rw [e, e2]; rfl, fun u hu => ?_⟩
      rcases List.mem_cons.1 hu with rfl | hu
      · exact h1
      · exact h3 u hu
  obtain ⟨us, rfl, h3⟩ := key xs hx
  exact ⟨us, rfl, h3⟩
theorem sort_perm {us ws : List Tm} (h : us.Perm ws) (hg : ∀ x ∈ us, goodT x = true) (hm : ∀ x ∈ us, mkT x = true) : sortT cmpT us = sortT cmpT ws := by
  have o := cmpT_ord
  rw [sortT_eq o, sortT_eq o]
  have h1 := isort_perm o us
  have h2 := isort_perm o ws
  refine List.Perm.eq_of_pairwise (le := fun a b => cmpT a b ≤ 0) (fun a b ha hb e1 e2 => ?_) (isort_sorted o us) (isort_sorted o ws) (h1.trans (h.trans h2.symm))
  have ia := h1.mem_iff.1 ha
  have ib := h.mem_iff.2 (h2.mem_iff.1 hb)
  have hz : cmpT a b = 0 := by
    have := o.anti a b
    have := o.anti b a
    omega
  exact mk_same (a.size + 1) a b (by omega) (hm a ia) (hm b ib) ((same_cmp (hg a ia) (hg b ib)).2 hz)
noncomputable def ssW : List KSpec := [awake25S, deepKS 15, atomS, listS, goodTS, allS, setS, sameS]
theorem ssW_ok : ∀ s ∈ ssW, KSpecOKX Tryz.prog TabX s := by
  simp [ssW, awake25S_ok, (deepKS_all 15 (by omega)).lift, atomS_ok.lift, listS_ok.lift, goodTS_ok.lift, allS_ok.lift, setS_ok.lift, sameS_ok.lift]
theorem lw6 : lookF (ssW ++ clones) 6 = [] := by rfl
theorem lw25 : lookF (ssW ++ clones) 25 = [awake25S] := by rfl
theorem lw26 : lookF (ssW ++ clones) 26 = [deepKS 15] := by rfl
theorem lw23 : lookF (ssW ++ clones) 23 = [atomS] := by rfl
theorem lw24 : lookF (ssW ++ clones) 24 = [listS] := by rfl
theorem lw27 : lookF (ssW ++ clones) 27 = [goodTS] := by rfl
theorem lw28 : lookF (ssW ++ clones) 28 = [allS] := by rfl
theorem lw29 : lookF (ssW ++ clones) 29 = [setS] := by rfl
theorem lw15 : lookF (ssW ++ clones) 15 = [sameS] := by rfl
set_option maxRecDepth 100000 in
set_option maxHeartbeats 4000000 in
theorem c6_l0 (n nx V W : Nat) (hV : V < nx) (hW : W < nx) (os : List AObj) (md : Nat) (us : List Tm) (hl : us.length ≤ 1000) (hld : ∀ j wl, ldA ⟨nx, os, wl, md⟩ (some 4) (.ptr V (j * 4)) = (us[j]?).map Tm.enc) : ∀ (post pre : List Tm) (m : Nat), us = pre ++ post → post.length < m →
    aft nx 0 (loopH (evCode (evCall (envOf ssW) (n + 1)) (n + 1) c6_b0) c6_m0 nx m (c6_f0 (.vec V 0 us.length 4 us.length) (.vec W 0 us.length 4 us.length) (.int .i64 pre.length)) ⟨nx, os, nx, md⟩) =
      some (if anyD (deepT 15) post then .ret else .exit 0, if anyD (deepT 15) post then FM 102 [(4, .bool true)] else FM 102 [(5, .vec V 0 us.length 4 us.length), (6, .vec W 0 us.length 4 us.length)], ⟨nx, os, 0, md⟩)
  | [], pre, m + 1, e, _ => by
    have hv : (V + 1 ≤ nx) = True := eq_true (by omega)
    have hv' : (nx ≤ V) = False := eq_false (by omega)
    have hw : (W + 1 ≤ nx) = True := eq_true (by omega)
    have hw' : (nx ≤ W) = False := eq_false (by omega)
    simp at e
    subst e
    simp [-ldA, loopH_succ, c6_b0, hv, hv', hw, hw', hV, hW, anyD]
  | x :: post, pre, m + 1, e, hm => by
    have ih := c6_l0 n nx V W hV hW os md us hl hld post (pre ++ [x]) m (by simp [e]) (by simp at hm; omega)
    have hv : (V + 1 ≤ nx) = True := eq_true (by omega)
    have hv' : (nx ≤ V) = False := eq_false (by omega)
    have hw : (W + 1 ≤ nx) = True := eq_true (by omega)
    have hw' : (nx ≤ W) = False := eq_false (by omega)
    have h1 : us[pre.length]? = some x := by rw [e]; simp
    have hpl : pre.length < us.length := by rw [e]; simp
    have h6 : ((pre.length : Int) < (us.length : Int)) = True := eq_true (by omega)
    have h3 : IntKind.i64.wrap ((pre.length : Int) + 1) = (pre.length : Int) + 1 := wrap_i64 (by omega) (by omega)
    have hxe := enc_kind x
    have hxr := argV_refs x
    have hc := deepKS_at 15 x
    rw [hxe, show ((15 : Nat) : Int) = 15 from rfl] at hc
    simp only [c6_m0, List.length_append, List.length_cons, List.length_nil, Nat.zero_add, Int.natCast_add, Int.natCast_one] at ih
    rw [loopH_succ]
    cases hd : deepT 15 x with
    | true =>
      rw [hd] at hc
      simp [-ldA, c6_b0, c6_m0, hv, hv', hw, hw', hV, hW, hld, h1, h3, h6, hxe, hxr, hc, frz_argV, deepKS_f, anyD, hd, lw26, -lookF_cons, -clones]
    | false =>
      rw [hd] at hc
      simp [-ldA, c6_b0, c6_m0, hv, hv', hw, hw', hV, hW, hld, h1, h3, h6, hxe, hxr, hc, frz_argV, deepKS_f, anyD, hd, lw26, -lookF_cons, -clones]
      exact ih
end Go.Proofs.YtlakiipofcibhaaGreatDoor
