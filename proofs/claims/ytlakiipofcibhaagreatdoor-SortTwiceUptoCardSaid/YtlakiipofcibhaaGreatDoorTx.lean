import Derived.Test.YtlakiipofcibhaaGreatDoorTw
set_option linter.unusedVariables false
set_option linter.unusedSimpArgs false
set_option linter.unusedSectionVars false

namespace Go.Proofs.YtlakiipofcibhaaGreatDoor
open Go Sz Srt
set_option linter.unusedSimpArgs false
attribute [local simp] seqF condF stepF callF callvF guardF trF step1F call1F callv1F guard1F seqK_n seqK_e seqK_r condK_t condK_f stK_s gdK_t gdK_f cvK_f trK_s trK1_s stK1_s gdK1_t gdK1_f cvK1_f evCode_skip evCode_reg evCode_dreg evCode_block evCode_exit evCode_ret evSteps_nil evTr_nil ldId chkTr
 evOp_mov evOp_pick evOp_box evOp_bld evOp_bsl evOp_ld evOp_st evOp_nck evOp_bin evOp_beq evOp_ceq evOp_peq evOp_not evOp_neg evOp_xor evOp_cvi evOp_cvss evOp_cvis evOp_cvsb evOp_mki evOp_mkf evOp_mkm evOp_mks evOp_sls evOp_slv evOp_fad evOp_fld1 evOp_fldn evOp_iad evOp_ixs evOp_ext evOp_lens evOp_lenv evOp_mx evOp_mn evOp_app evOp_bs0 evOp_snil evOp_clr
 FM_ev ev_const FM_put put_none FM_unwanted lk_hit lk_miss lk_nil FM_clear FM_clearB trues pick gc_FM gc_FM0 incK snds renM allM evB_fm enumA cells_agg cells_bool cells_int cells_str cells_nilp cells_ptr cells_ip cells_nils cells_sl cells_vec cells_nilm cells_map cells_nilfn cells_fn cells_nili cells_iface ldA row_mk get_mk set_mk mark_mk alloc_mk' trunc_mk binA resAll_nil resAll_cons FM_resT FM_resC oneOf finish_mk frz_undef frz_bool frz_int frz_str frz_nilp frz_ptr frz_ip frz_nils frz_sl frz_nilm frz_map frz_nilfn frz_fn frz_nili frz_iface frz_old frz_agg frz_tuple frzL_nil frzL_cons kill_nil kill_cons chunk_zero chunk_succ AV.refs AV.refsL evCall_spec lookF_nil lookF_cons callS_nil callS_oneF spK_s spK_n frK_s frK_n clones cloneS_f cloneS_nils cloneS_sl0 fillA putAt_nil putAt_cons evCode_loop bgn_mk aft_mk keeps objsAt ren renId AV.top lowObj h0 succ_le_f oldK oldAll oldLow oldRen lowCells_row lowCells_map lowCells_dead objCells topLow renObj List.idxOf_cons List.idxOf_nil nilA nilK elemsA_nils elemsA_vec elemsA_str evOp_die evOp_lkp evOp_cvbs lookA scal_bool scal_int scal_str scal_nils scal_sl scal_tuple scal_agg scal1_bool scal1_int scal1_str scal1_nils scal1_sl scal1_agg
attribute [local simp low] frz_vecR
set_option maxRecDepth 100000 in
set_option maxHeartbeats 16000000 in
theorem twice_one (c : List Tm) (hb : Tm.bulkL c < 100000000) (hc15 : c.length ≤ 15) (nc : ¬ c.length = 0) (l1 l2 : List Tm) (hl : (l1 = [] ∧ l2 = c) ∨ (l1 = c ∧ l2 = [])) : evCall (envOf ssW) (4000 + 3) 6 [.sl (l1.map Tm.enc), .sl (l2.map Tm.enc)] h0 = some (.bool true, h0) := by
  have o := cmpT_ord
  have rc : AV.refsL (c.map Tm.enc) = 0 := encs_refs _
  have ec := fun h => elemsA_T h c
  generalize hk : 4000 = k
  have q : ((15 : Int) < (c.length : Int)) = False := eq_false (by omega)
  have q' : (15 < c.length) = False := eq_false (by omega)
  have hb1 : (listT c emptyT).bulk < 1000000000 := by rw [bulk_list]; simp [emptyT, Tm.bulk]; omega
  have s1 := listS_at c emptyT (by omega)
  have g1 := goodTS_at (listT c emptyT) hb1
  have ee : emptyT.enc = .agg [.int .i64 2, .int .i64 0, .str [91, 93], .nils] := rfl
  have t1e := enc_kind (listT c emptyT)
  have t1r := argV_refs (listT c emptyT)
  have lc := flatT_len c
  have fc := flatT_refs c
  have nc' : (c.length = 0) = False := eq_false nc
  have x1 : (c.length * 56 ≤ 140737488355328) = True := eq_true (by omega)
  have x3 : (c.length < 9223372036854775808) = True := eq_true (by omega)
  have e0 := fun h => elemsA_T h []
  simp only [List.map_nil, List.length_nil, flatT, List.flatMap_nil] at e0
  have l0 := c6_l0 (k + 1) 2 0 1 (by omega) (by omega) [.row (flatT c), .row (flatT c)] 0 c (by omega) (fun j wl => by
    have h := flatT_get c j
    simpa [ldA, Heap.row, Heap.get] using h) c [] (k + 2) rfl (by omega)
  simp only [c6_m0, List.length_nil, show ((0 : Nat) : Int) = 0 from rfl] at l0
  have f1 := fun (h : Heap) (n0 d : Nat) (hid : n0 ≤ 0) (hg : h.get 0 = some (.row (flatT c))) => frz_L (h := h) (n0 := n0) (lb := c.length) (d := d) c rfl hid hg
  have f2 := fun (h : Heap) (n0 d : Nat) (hid : n0 ≤ 1) (hg : h.get 1 = some (.row (flatT c))) => frz_L (h := h) (n0 := n0) (lb := c.length) (d := d) c rfl hid hg
  have hsc1 : scal1 (listT c emptyT).argV = false := by
    cases h : c with
    | nil => exact absurd (by rw [h]; rfl) nc
    | cons z q => rfl
  cases hd : anyD (deepT 15) c with
  | true =>
    rw [hd] at l0
    simp only [if_true] at l0
    rcases hl with ⟨rfl, rfl⟩ | ⟨rfl, rfl⟩
    · simp [run6, c6, c6_m0, awake25S_f, awake25S_at, lw6, lw25, -lookF_cons, -clones, rc, q, q', ec, e0, nc, nc', x1, x3, lc, fc, l0]
    · simp [run6, c6, c6_m0, awake25S_f, awake25S_at, lw6, lw25, -lookF_cons, -clones, rc, q, q', ec, e0, nc, nc', x1, x3, lc, fc, l0]
  | false =>
    rw [hd] at l0
    simp only [Bool.false_eq_true, if_false] at l0
    have hdd : ∀ x ∈ c, x.depth ≤ 15 := fun x hx => deep_depth 15 x (anyD_false hd x hx)
    cases hg : goodT (listT c emptyT) with
    | false =>
      rw [hg, t1e] at g1
      rw [ee, t1e] at s1
      rcases hl with ⟨rfl, rfl⟩ | ⟨rfl, rfl⟩
      · simp [run6, c6, c6_m0, awake25S_f, awake25S_at, lw6, lw25, lw23, lw24, lw27, -lookF_cons, -clones, rc, q, q', ec, e0, nc, nc', x1, x3, lc, fc, l0, atomS_f, atomS_at, listS_f, s1, f1, f2, goodTS_f, g1, t1r, hsc1, frz_argV]
      · simp [run6, c6, c6_m0, awake25S_f, awake25S_at, lw6, lw25, lw23, lw24, lw27, -lookF_cons, -clones, rc, q, q', ec, e0, nc, nc', x1, x3, lc, fc, l0, atomS_f, atomS_at, listS_f, s1, f1, f2, goodTS_f, g1, t1r, hsc1, frz_argV]
    | true =>
      have so := sortedOf 15 hg hdd (by omega)
      have hSl := so.hS.length_eq
      have hZl := so.sub.length_le
      have bS : Tm.bulkL (sortT cmpT c) = Tm.bulkL c := bulk_perm so.hS
      have bZ := bulkL_sub so.sub
      have hb3 : (listT (sortT cmpT c) emptyT).bulk < 1000000000 := by rw [bulk_list]; simp [emptyT, Tm.bulk]; omega
      have hb4 : (listT (cmpct sameT (sortT cmpT c)) emptyT).bulk < 1000000000 := by rw [bulk_list]; simp [emptyT, Tm.bulk]; omega
      have q3 := setS_at (listT c emptyT) hb1 o
      have q5 := allS_at (listT c emptyT) hb1 o
      have q7 := sameS_at _ _ ⟨hb4, hb4⟩
      have q8 := sameS_at _ _ ⟨hb3, hb3⟩
      unfold sortSet at q3
      unfold sortAll at q5
      rw [sItems_list hg] at q3 q5
      rw [so.gZ, sameT_good so.gZ] at q7
      rw [so.gS, sameT_good so.gS] at q8
      simp only [if_true, Bool.and_self] at q3 q5 q7 q8
      generalize listT c emptyT = T1 at *
      have hSe := enc_kind (listT (sortT cmpT c) emptyT)
      have hSr := argV_refs (listT (sortT cmpT c) emptyT)
      have hZe := enc_kind (listT (cmpct sameT (sortT cmpT c)) emptyT)
      have hZr := argV_refs (listT (cmpct sameT (sortT cmpT c)) emptyT)
      generalize listT (sortT cmpT c) emptyT = TS at *
      generalize listT (cmpct sameT (sortT cmpT c)) emptyT = TZ at *
      rw [hg, t1e] at g1
      rw [ee, t1e] at s1
      rw [t1e, hZe] at q3
      rw [t1e, hSe] at q5
      rw [hZe] at q7
      rw [hSe] at q8
      rcases hl with ⟨rfl, rfl⟩ | ⟨rfl, rfl⟩
      · simp [run6, c6, c6_m0, awake25S_f, awake25S_at, lw6, lw15, lw25, lw23, lw24, lw27, lw28, lw29, -lookF_cons, -clones, rc, q, q', ec, e0, nc, nc', x1, x3, lc, fc, l0, atomS_f, atomS_at, listS_f, s1, f1, f2, goodTS_f, g1, t1r, hSr, hZr, hsc1, frz_argV, setS_f, allS_f, sameS_f, q3, q5, q7, q8]
      · simp [run6, c6, c6_m0, awake25S_f, awake25S_at, lw6, lw15, lw25, lw23, lw24, lw27, lw28, lw29, -lookF_cons, -clones, rc, q, q', ec, e0, nc, nc', x1, x3, lc, fc, l0, atomS_f, atomS_at, listS_f, s1, f1, f2, goodTS_f, g1, t1r, hSr, hZr, hsc1, frz_argV, setS_f, allS_f, sameS_f, q3, q5, q7, q8]
set_option maxRecDepth 100000 in
set_option maxHeartbeats 16000000 in
theorem twice_nil : evCall (envOf ssW) (4000 + 3) 6 [.sl [], .sl []] h0 = some (.bool true, h0) := by
  have o := cmpT_ord
  have hb : emptyT.bulk < 1000000000 := by decide
  have hg : goodT emptyT = true := by decide
  have q1 := allS_at emptyT hb o
  have q2 := setS_at emptyT hb o
  have q6 := sameS_at emptyT emptyT ⟨hb, hb⟩
  have q7 := goodTS_at emptyT hb
  have q8 := listS_nils emptyT
  rw [all_empty, items_empty] at q1
  rw [set_empty, items_empty] at q2
  rw [hg, sameT_good hg] at q6
  rw [hg] at q7
  have ee : emptyT.enc = .agg [.int .i64 2, .int .i64 0, .str [91, 93], .nils] := rfl
  rw [ee] at q1 q2 q6 q7 q8
  have e0 := fun h => elemsA_T h []
  simp only [List.map_nil, List.length_nil, flatT, List.flatMap_nil] at e0
  generalize 4000 = k
  simp [run6, c6, c6_m0, c6_b0, loopH_succ, awake25S_f, awake25S_at, lw6, lw15, lw25, lw23, lw24, lw27, lw28, lw29, -lookF_cons, -clones, atomS_f, atomS_at, listS_f, goodTS_f, allS_f, setS_f, sameS_f, q1, q2, q6, q7, q8, e0]
set_option maxRecDepth 100000 in
set_option maxHeartbeats 16000000 in
theorem twice_run (a b : List Tm) (hb : Tm.bulkL a + Tm.bulkL b < 100000000) (hma : ∀ x ∈ a, mkT x = true) (hmb : ∀ x ∈ b, mkT x = true) : ∃ h', evCall (envOf ssW) (4000 + 3) 6 [.sl (a.map Tm.enc), .sl (b.map Tm.enc)] h0 = some (.bool true, h') := by
  have o := cmpT_ord
  have ra : AV.refsL (a.map Tm.enc) = 0 := encs_refs _
  have rb : AV.refsL (b.map Tm.enc) = 0 := encs_refs _
  have ea := fun h => elemsA_T h a
  have eb := fun h => elemsA_T h b
  refine ⟨h0, ?_⟩
  generalize hk : 4000 = k
  by_cases ha15 : 15 < a.length
  · have q : ((15 : Int) < (a.length : Int)) = True := eq_true (by omega)
    simp [run6, c6, awake25S_f, awake25S_at, lw6, lw25, -lookF_cons, -clones, ra, rb, q, ha15]
  · have q : ((15 : Int) < (a.length : Int)) = False := eq_false (by omega)
    by_cases hb15 : 15 < b.length
    · have q2 : ((15 : Int) < (b.length : Int)) = True := eq_true (by omega)
      simp [run6, c6, awake25S_f, awake25S_at, lw6, lw25, -lookF_cons, -clones, ra, rb, q, q2, ha15, hb15]
    · have q2 : ((15 : Int) < (b.length : Int)) = False := eq_false (by omega)
      -- what both lists have
      have hper : (a ++ b).Perm (b ++ a) := List.perm_append_comm
      have hbu : Tm.bulkL (a ++ b) < 100000000 := by
        have : ∀ l : List Tm, Tm.bulkL (l ++ b) = Tm.bulkL l + Tm.bulkL b := by
          intro l
          induction l with
          | nil => simp [Tm.bulkL]
          | cons x r ih => simp only [List.cons_append, Tm.bulkL, ih]; omega
        rw [this]; omega
      have hbw : Tm.bulkL (b ++ a) = Tm.bulkL (a ++ b) := bulk_perm hper.symm
      have hmu : ∀ x ∈ a ++ b, mkT x = true := fun x hx => by
        rcases List.mem_append.1 hx with h | h
        · exact hma x h
        · exact hmb x h
      have hb1 : (listT (a ++ b) emptyT).bulk < 1000000000 := by rw [bulk_list]; simp [emptyT, Tm.bulk]; omega
      have hb2 : (listT (b ++ a) emptyT).bulk < 1000000000 := by rw [bulk_list]; simp [emptyT, Tm.bulk]; omega
      have s1 := listS_at (a ++ b) emptyT (by simp; omega)
      have s2 := listS_at (b ++ a) emptyT (by simp; omega)
      have g1 := goodTS_at (listT (a ++ b) emptyT) hb1
      have ee : emptyT.enc = .agg [.int .i64 2, .int .i64 0, .str [91, 93], .nils] := rfl
      have t1e := enc_kind (listT (a ++ b) emptyT)
      have t1r := argV_refs (listT (a ++ b) emptyT)
      have t2e := enc_kind (listT (b ++ a) emptyT)
      have t2r := argV_refs (listT (b ++ a) emptyT)
      have la := flatT_len a
      have lb := flatT_len b
      have fa := flatT_refs a
      have fb := flatT_refs b
      by_cases na : a.length = 0
      · have ha : a = [] := List.eq_nil_of_length_eq_zero na
        subst ha
        subst hk
        by_cases nb : b.length = 0
        · have hb0 : b = [] := List.eq_nil_of_length_eq_zero nb
          subst hb0
          exact twice_nil
        · exact twice_one b (by omega) (by omega) nb [] b (.inl ⟨rfl, rfl⟩)
      · by_cases nb : b.length = 0
        · have hb0 : b = [] := List.eq_nil_of_length_eq_zero nb
          subst hb0
          subst hk
          exact twice_one a (by omega) (by omega) na a [] (.inr ⟨rfl, rfl⟩)
        · have na' : (a.length = 0) = False := eq_false na
          have nb' : (b.length = 0) = False := eq_false nb
          have x1 : (a.length * 56 ≤ 140737488355328) = True := eq_true (by omega)
          have x2 : (b.length * 56 ≤ 140737488355328) = True := eq_true (by omega)
          have x3 : (a.length < 9223372036854775808) = True := eq_true (by omega)
          have x4 : (b.length < 9223372036854775808) = True := eq_true (by omega)
          have x5 : ((a.length + b.length) * 56 ≤ 140737488355328) = True := eq_true (by omega)
          have x6 : ((b.length + a.length) * 56 ≤ 140737488355328) = True := eq_true (by omega)
          have x7 : (a.length + b.length < 9223372036854775808) = True := eq_true (by omega)
          have x8 : (b.length + a.length < 9223372036854775808) = True := eq_true (by omega)
          have x9 : (a.length + b.length ≤ a.length) = False := eq_false (by omega)
          have x10 : (b.length + a.length ≤ b.length) = False := eq_false (by omega)
          have hcm : b.length + a.length = a.length + b.length := Nat.add_comm _ _
          have x10' : (a.length + b.length ≤ b.length) = False := eq_false (by omega)
          have k1 : (flatT a).take (a.length * 4) = flatT a := List.take_of_length_le (by rw [la]; exact Nat.le_refl _)
          have k2 : (flatT b).take (b.length * 4) = flatT b := List.take_of_length_le (by rw [lb]; exact Nat.le_refl _)
          have l0 := c6_l0 (k + 1) 4 1 3 (by omega) (by omega) [.row (flatT b ++ flatT a), .dead, .row (flatT a ++ flatT b), .dead] 0 (a ++ b) (by simp; omega) (fun j wl => by
            have h := flatT_get (a ++ b) j
            rw [flatT_append] at h
            simpa [ldA, Heap.row, Heap.get] using h) (a ++ b) [] (k + 2) rfl (by simp; omega)
          simp only [c6_m0, List.length_nil, show ((0 : Nat) : Int) = 0 from rfl, List.length_append] at l0
          cases hd : anyD (deepT 15) (a ++ b) with
          | true =>
            rw [hd] at l0
            simp only [if_true] at l0
            simp [run6, c6, c6_m0, awake25S_f, awake25S_at, lw6, lw25, -lookF_cons, -clones, ra, rb, q, q2, ha15, hb15, ea, eb, na, nb, na', nb', x1, x2, x3, x4, x5, x7, x9, x10', hcm, k1, k2, la, lb, fa, fb, l0]
          | false =>
            rw [hd] at l0
            simp only [Bool.false_eq_true, if_false] at l0
            have hdd : ∀ x ∈ a ++ b, x.depth ≤ 15 := fun x hx => deep_depth 15 x (anyD_false hd x hx)
            have f1 := fun (h : Heap) (n0 d : Nat) (hid : n0 ≤ 1) (hg : h.get 1 = some (.row (flatT a ++ flatT b))) => frz_L (h := h) (n0 := n0) (lb := a.length + b.length) (d := d) (a ++ b) (n := a.length + b.length) (by simp) hid (by rw [flatT_append]; exact hg)
            have f2 := fun (h : Heap) (n0 d : Nat) (hid : n0 ≤ 3) (hg : h.get 3 = some (.row (flatT b ++ flatT a))) => frz_L (h := h) (n0 := n0) (lb := a.length + b.length) (d := d) (b ++ a) (n := a.length + b.length) (by simp; omega) hid (by rw [flatT_append]; exact hg)
            have hsc1 : scal1 (listT (a ++ b) emptyT).argV = false := by
              cases h : a ++ b with
              | nil => simp at h; exact absurd (by rw [h.1]; rfl) na
              | cons z q => rfl
            have hsc2 : scal1 (listT (b ++ a) emptyT).argV = false := by
              cases h : b ++ a with
              | nil => simp at h; exact absurd (by rw [h.1]; rfl) nb
              | cons z q => rfl
            simp only [List.map_append] at s1 s2 f1 f2
            cases hg : goodT (listT (a ++ b) emptyT) with
            | false =>
              rw [hg, t1e] at g1
              rw [ee, t1e] at s1
              rw [ee, t2e] at s2
              simp [run6, c6, c6_m0, awake25S_f, awake25S_at, lw6, lw25, lw23, lw24, lw27, -lookF_cons, -clones, ra, rb, q, q2, ha15, hb15, ea, eb, na, nb, na', nb', x1, x2, x3, x4, x5, x7, x9, x10', hcm, k1, k2, la, lb, fa, fb, l0, atomS_f, atomS_at, listS_f, s1, s2, f1, f2, goodTS_f, g1, t1r, t2r, hsc1, hsc2, frz_argV]
            | true =>
              have hlab : (a ++ b).length = a.length + b.length := List.length_append
              have so := sortedOf 15 hg hdd (by omega)
              have gi := good_item hg
              have hsp := sort_perm hper gi hmu
              have hg2 : goodT (listT (b ++ a) emptyT) = true := good_list 15 hg (by rw [sizeL_perm hper.symm]; exact Nat.le_refl _) (by rw [hper.length_eq]; exact Nat.le_refl _) (fun x hx => hper.mem_iff.2 hx) hdd (by omega)
              have hSl := so.hS.length_eq
              rw [hlab] at hSl
              have hZl := so.sub.length_le
              have bS : Tm.bulkL (sortT cmpT (a ++ b)) = Tm.bulkL (a ++ b) := bulk_perm so.hS
              have bZ := bulkL_sub so.sub
              have hb3 : (listT (sortT cmpT (a ++ b)) emptyT).bulk < 1000000000 := by rw [bulk_list]; simp [emptyT, Tm.bulk]; omega
              have hb4 : (listT (cmpct sameT (sortT cmpT (a ++ b))) emptyT).bulk < 1000000000 := by rw [bulk_list]; simp [emptyT, Tm.bulk]; omega
              have q3 := setS_at (listT (a ++ b) emptyT) hb1 o
              have q4 := setS_at (listT (b ++ a) emptyT) hb2 o
              have q5 := allS_at (listT (a ++ b) emptyT) hb1 o
              have q6 := allS_at (listT (b ++ a) emptyT) hb2 o
              have q7 := sameS_at _ _ ⟨hb4, hb4⟩
              have q8 := sameS_at _ _ ⟨hb3, hb3⟩
              unfold sortSet at q3 q4
              unfold sortAll at q5 q6
              rw [sItems_list hg] at q3 q5
              rw [sItems_list hg2] at q4 q6
              rw [so.gZ, sameT_good so.gZ] at q7
              rw [so.gS, sameT_good so.gS] at q8
              simp only [if_true, ← hsp, Bool.and_self] at q3 q4 q5 q6 q7 q8
              generalize listT (a ++ b) emptyT = T1 at *
              generalize listT (b ++ a) emptyT = T2 at *
              have hSe := enc_kind (listT (sortT cmpT (a ++ b)) emptyT)
              have hSr := argV_refs (listT (sortT cmpT (a ++ b)) emptyT)
              have hZe := enc_kind (listT (cmpct sameT (sortT cmpT (a ++ b))) emptyT)
              have hZr := argV_refs (listT (cmpct sameT (sortT cmpT (a ++ b))) emptyT)
              generalize listT (sortT cmpT (a ++ b)) emptyT = TS at *
              generalize listT (cmpct sameT (sortT cmpT (a ++ b))) emptyT = TZ at *
              rw [hg, t1e] at g1
              rw [ee, t1e] at s1
              rw [ee, t2e] at s2
              rw [t1e, hZe] at q3
              rw [t2e, hZe] at q4
              rw [t1e, hSe] at q5
              rw [t2e, hSe] at q6
              rw [hZe] at q7
              rw [hSe] at q8
              simp [run6, c6, c6_m0, awake25S_f, awake25S_at, lw6, lw15, lw25, lw23, lw24, lw27, lw28, lw29, -lookF_cons, -clones, ra, rb, q, q2, ha15, hb15, ea, eb, na, nb, na', nb', x1, x2, x3, x4, x5, x7, x9, x10', hcm, k1, k2, la, lb, fa, fb, l0, atomS_f, atomS_at, listS_f, s1, s2, f1, f2, goodTS_f, g1, t1r, t2r, hSr, hZr, hsc1, hsc2, frz_argV, setS_f, allS_f, sameS_f, q3, q4, q5, q6, q7, q8]
theorem twice_prim (a b : List Tm) (hb : Tm.bulkL a + Tm.bulkL b < 100000000) (hma : ∀ x ∈ a, mkT x = true) (hmb : ∀ x ∈ b, mkT x = true) : PrimOKX Tryz.prog TabX 6 [.sl (a.map Tm.enc), .sl (b.map Tm.enc)] (.bool true) := by
  have hr : AV.refsL [.sl (a.map Tm.enc), .sl (b.map Tm.enc)] = 0 := by simp [AV.refsL, AV.refs, encs_refs]
  obtain ⟨h', e⟩ := twice_run a b hb hma hmb
  exact prim_of (envOf_okX ssW_ok) e rfl hr
theorem sortTwice_lawX {H : Type} (ds : List (DataW H)) (h : HasTys Tryz.prog Tryz.f6.params.toList (ds.map avOf)) (_ : (DataW.weightsEach Tryz.prog Tryz.f6.params.toList ds).all (· ≤ reachBytes) = true) (hk : Rows.uptoSmall H ds = true) : PrimOKX Tryz.prog TabX 6 (ds.map avOf) (.bool true) := by
  have hb := upto_le hk
  generalize ds.map avOf = avs at h hb
  rw [Tryz.params6] at h
  cases h with
  | cons h1 r1 => cases r1 with
    | cons h2 r2 =>
      cases r2
      obtain ⟨a, rfl, hma⟩ := mks_of h1
      obtain ⟨b, rfl, hmb⟩ := mks_of h2
      have e1 := bulkL_vb a
      have e2 := bulkL_vb b
      rw [encL_map] at e1 e2
      simp only [vbL, vb] at hb
      exact twice_prim a b (by omega) hma hmb
end Go.Proofs.YtlakiipofcibhaaGreatDoor
