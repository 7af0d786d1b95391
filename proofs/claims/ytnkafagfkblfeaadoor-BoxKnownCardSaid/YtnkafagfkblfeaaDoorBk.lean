import Derived.Test.YtnkafagfkblfeaaDoorBn
set_option linter.unusedVariables false
set_option linter.unusedSimpArgs false
set_option linter.unusedSectionVars false

namespace Go.Proofs.YtnkafagfkblfeaaDoor
open Go Sz
set_option linter.unusedSimpArgs false
attribute [local simp] seqF condF stepF callF callvF guardF trF step1F call1F callv1F guard1F seqK_n seqK_e seqK_r condK_t condK_f stK_s gdK_t gdK_f cvK_f trK_s trK1_s stK1_s gdK1_t gdK1_f cvK1_f evCode_skip evCode_reg evCode_dreg evCode_block evCode_exit evCode_ret evSteps_nil evTr_nil ldId chkTr
 evOp_mov evOp_pick evOp_box evOp_bld evOp_bsl evOp_ld evOp_st evOp_nck evOp_bin evOp_beq evOp_ceq evOp_peq evOp_not evOp_neg evOp_xor evOp_cvi evOp_cvss evOp_cvis evOp_cvsb evOp_mki evOp_mkf evOp_mkm evOp_mks evOp_sls evOp_slv evOp_fad evOp_fld1 evOp_fldn evOp_iad evOp_ixs evOp_ext evOp_lens evOp_lenv evOp_mx evOp_mn evOp_app evOp_bs0 evOp_snil evOp_clr
 FM_ev ev_const FM_put put_none FM_unwanted lk_hit lk_miss lk_nil FM_clear FM_clearB trues pick gc_FM gc_FM0 incK snds renM allM evB_fm enumA cells_agg cells_bool cells_int cells_str cells_nilp cells_ptr cells_ip cells_nils cells_sl cells_vec cells_nilm cells_map cells_nilfn cells_fn cells_nili cells_iface ldA row_mk get_mk set_mk mark_mk alloc_mk' trunc_mk binA resAll_nil resAll_cons FM_resT FM_resC oneOf finish_mk frz_undef frz_bool frz_int frz_str frz_nilp frz_ptr frz_ip frz_nils frz_sl frz_nilm frz_map frz_nilfn frz_fn frz_nili frz_iface frz_old frz_agg frz_tuple frzL_nil frzL_cons kill_nil kill_cons chunk_zero chunk_succ AV.refs AV.refsL evCall_spec lookF_nil lookF_cons callS_nil callS_oneF spK_s spK_n frK_s frK_n clones cloneS_f cloneS_nils cloneS_sl0 fillA putAt_nil putAt_cons evCode_loop bgn_mk aft_mk keeps objsAt ren renId AV.top lowObj h0 succ_le_f oldK oldAll oldLow oldRen lowCells_row lowCells_map lowCells_dead objCells topLow renObj List.idxOf_cons List.idxOf_nil nilA nilK elemsA_nils elemsA_vec elemsA_str evOp_die evOp_lkp evOp_cvbs lookA scal_bool scal_int scal_str scal_nils scal_sl scal_tuple scal_agg scal1_bool scal1_int scal1_str scal1_nils scal1_sl scal1_agg
attribute [local simp low] frz_vecR

/-! BoxKeeps: Get in any heap; the inner loop in any heap. -/

theorem size_ok (t : Tm) (h : t.bulk < 1000000000) : copyS.S [(t).enc, .nilm] = some (copyT t).enc := by
  have hsz := size_bulk t
  exact copyS_at t (by omega)

set_option maxRecDepth 100000 in
set_option maxHeartbeats 10000000 in
theorem get_at (n : Nat) (nx : Nat) (os : List AObj) (wl md : Nat) (a b : Nat) (ha : a < nx) (hb : b < nx) (hw : wl ≤ nx) (hmd : md ≤ nx) (nv : AV) (bs : List Bx) (hl : bs.length ≤ 1000) (j : Nat) (p : Bx) (gp : bs[j]? = some p) (hbk : p.2.bulk < 1000000000)
    (ga : ∀ wl md, Heap.get ⟨nx, os, wl, md⟩ a = some (.row [nv, .vec b 0 bs.length 5 bs.length]))
    (gb : ∀ wl md, Heap.get ⟨nx, os, wl, md⟩ b = some (.row (flatB bs))) :
    evFn ss4 (n + 1) 23 [.ptr a 0, .agg [.int .i64 2, .int .i64 0, .str [36, 98, 111, 120], .sl [.agg [.int .i64 1, .int .i64 ((j : Int) + 1), .str [], .nils]]]] ⟨nx, os, wl, md⟩ =
      some (.tuple [.agg [.int .u64 (labN p.1), .int .i64 (copyT p.2).kind, .int .i64 (copyT p.2).num, .str (copyT p.2).name, (copyT p.2).argV], .int .i64 0], ⟨nx, os, wl, md⟩) := by
  have hj : j < bs.length := (List.getElem?_eq_some_iff.1 gp).1
  have h2 : ((bs.length : Int) < (j : Int) + 1) = False := eq_false (by omega)
  have h4 : IntKind.i64.wrap (j : Int) = (j : Int) := wrap_i64 (by omega) (by omega)
  have h5 : ((j : Int) + 1 < 1) = False := eq_false (by omega)
  obtain ⟨w1, w2, w3⟩ := flatB_at gp
  have lw := flatB_len bs
  have fr := flatB_refs bs
  have q1 : j * 5 + 5 ≤ bs.length * 5 := by omega
  have q2 : a < nx + 1 := by omega
  have q3 : b < nx + 1 := by omega
  have q4 : a < nx + 1 + 1 := by omega
  have q5 : b < nx + 1 + 1 := by omega
  have q6 : a < nx + 1 + 1 + 1 := by omega
  have q7 : b < nx + 1 + 1 + 1 := by omega
  have cp := size_ok p.2 hbk
  have hce : (copyT p.2).enc = .agg (copyT p.2).cells := Tm.enc_eq _
  have hcc : (copyT p.2).cells = [.int .i64 (copyT p.2).kind, .int .i64 (copyT p.2).num, .str (copyT p.2).name, (copyT p.2).argV] := rfl
  have hcr := argV_refs (copyT p.2)
  have hpe : p.2.enc = .agg p.2.cells := Tm.enc_eq _
  have hpc : p.2.cells = [.int .i64 p.2.kind, .int .i64 p.2.num, .str p.2.name, p.2.argV] := rfl
  have hpr := argV_refs p.2
  rw [hce, hcc, hpe, hpc] at cp
  have ib := is_box ((j : Int) + 1)
  have gb2 := good_box ((j : Int) + 1)
  generalize flatB bs = FW at *
  simp [-get_mk, -set_mk, get_new, get_old, set_new, set_old, run23, c23, h2, h4, h5, w1, lw, fr, q1, q2, q3, q4, q5, q6, q7, cp, ib, gb2, hcr, hpr, ga, gb, ha, hb, hj, ss4, frz_argV, awake14S_f, goodS_f, fitsS_f, goodTS_f, copyS_f, sameS_f, compS_f, intS_f, isS_f]
  exact ⟨by omega, by rw [show nx + 2 + 1 - nx = 3 by omega]; rfl⟩

end Go.Proofs.YtnkafagfkblfeaaDoor

namespace Go.Proofs.YtnkafagfkblfeaaDoor
open Go Sz
set_option linter.unusedSimpArgs false
attribute [local simp] seqF condF stepF callF callvF guardF trF step1F call1F callv1F guard1F seqK_n seqK_e seqK_r condK_t condK_f stK_s gdK_t gdK_f cvK_f trK_s trK1_s stK1_s gdK1_t gdK1_f cvK1_f evCode_skip evCode_reg evCode_dreg evCode_block evCode_exit evCode_ret evSteps_nil evTr_nil ldId chkTr
 evOp_mov evOp_pick evOp_box evOp_bld evOp_bsl evOp_ld evOp_st evOp_nck evOp_bin evOp_beq evOp_ceq evOp_peq evOp_not evOp_neg evOp_xor evOp_cvi evOp_cvss evOp_cvis evOp_cvsb evOp_mki evOp_mkf evOp_mkm evOp_mks evOp_sls evOp_slv evOp_fad evOp_fld1 evOp_fldn evOp_iad evOp_ixs evOp_ext evOp_lens evOp_lenv evOp_mx evOp_mn evOp_app evOp_bs0 evOp_snil evOp_clr
 FM_ev ev_const FM_put put_none FM_unwanted lk_hit lk_miss lk_nil FM_clear FM_clearB trues pick gc_FM gc_FM0 incK snds renM allM evB_fm enumA cells_agg cells_bool cells_int cells_str cells_nilp cells_ptr cells_ip cells_nils cells_sl cells_vec cells_nilm cells_map cells_nilfn cells_fn cells_nili cells_iface ldA row_mk get_mk set_mk mark_mk alloc_mk' trunc_mk binA resAll_nil resAll_cons FM_resT FM_resC oneOf finish_mk frz_undef frz_bool frz_int frz_str frz_nilp frz_ptr frz_ip frz_nils frz_sl frz_nilm frz_map frz_nilfn frz_fn frz_nili frz_iface frz_old frz_agg frz_tuple frzL_nil frzL_cons kill_nil kill_cons chunk_zero chunk_succ AV.refs AV.refsL evCall_spec lookF_nil lookF_cons callS_nil callS_oneF spK_s spK_n frK_s frK_n clones cloneS_f cloneS_nils cloneS_sl0 fillA putAt_nil putAt_cons evCode_loop bgn_mk aft_mk keeps objsAt ren renId AV.top lowObj h0 succ_le_f oldK oldAll oldLow oldRen lowCells_row lowCells_map lowCells_dead objCells topLow renObj List.idxOf_cons List.idxOf_nil nilA nilK elemsA_nils elemsA_vec elemsA_str evOp_die evOp_lkp evOp_cvbs lookA scal_bool scal_int scal_str scal_nils scal_sl scal_tuple scal_agg scal1_bool scal1_int scal1_str scal1_nils scal1_sl scal1_agg
attribute [local simp low] frz_vecR

/-! BoxKeeps: the inner loop, in any heap. -/

set_option maxRecDepth 100000 in
set_option maxHeartbeats 10000000 in
theorem c4_in (n : Nat) (AL XL : List AV) (rA : AV.refsL AL = 0) (rX : AV.refsL XL = 0) (i : Nat) (bs : List Bx) (hb : ∀ p ∈ bs, goodT p.2 = true ∧ p.2.bulk < 1000000000) (hl : bs.length ≤ 1000) (nx : Nat) (os : List AObj) (w md a b c : Nat) (ha : a < nx) (hbn : b < nx) (hc : c < nx) (hmd : md ≤ nx) (nv : AV)
    (ga : ∀ wl md, Heap.get ⟨nx, os, wl, md⟩ a = some (.row [nv, .vec b 0 bs.length 5 bs.length]))
    (gb : ∀ wl md, Heap.get ⟨nx, os, wl, md⟩ b = some (.row (flatB (bs.map cpB))))
    (gc : ∀ wl md, Heap.get ⟨nx, os, wl, md⟩ c = some (.row (flatB bs))) : ∀ (r j m : Nat), j + r = bs.length → r < m →
    aft nx w (loopH (evCode (evCall (envOf ss4) (n + 2)) (n + 2) c4_b0) c4_m0 nx m (c4_f0 (.sl AL) (.sl XL) (.ptr a 0) (.vec c 0 bs.length 5 bs.length) (.int .i64 i) (.int .i64 j)) ⟨nx, os, nx, md⟩) =
      some (.exit 2, FM 140 [(0, .sl AL), (1, .sl XL), (5, .ptr a 0), (7, .vec c 0 bs.length 5 bs.length), (8, .int .i64 i)], ⟨nx, os, min w nx, md⟩)
  | 0, j, m + 1, e, _ => by
    have h1 : ((j : Int) < (bs.length : Int)) = False := eq_false (by omega)
    have q1 : (nx ≤ a) = False := eq_false (by omega)
    have q2 : (nx ≤ c) = False := eq_false (by omega)
    simp [-get_mk, -set_mk, get_new, get_old, set_new, set_old, loopH_succ, c4_b0, h1, rA, rX, ha, hc, q1, q2]
  | r + 1, j, m + 1, e, hm => by
    have ih := c4_in n AL XL rA rX i bs hb hl nx os w md a b c ha hbn hc hmd nv ga gb gc r (j + 1) m (by omega) (by omega)
    have h1 : ((j : Int) < (bs.length : Int)) = True := eq_true (by omega)
    have h3 : IntKind.i64.wrap ((j : Int) + 1) = (j : Int) + 1 := wrap_i64 (by omega) (by omega)
    have h6 : j < bs.length := by omega
    have h7 : j < (bs.map cpB).length := by simpa using h6
    obtain ⟨p, gp⟩ : ∃ p, bs[j]? = some p := ⟨bs[j]'(by omega), by simp⟩
    obtain ⟨hg, hbk⟩ := hb p (List.mem_of_getElem? gp)
    obtain ⟨_, w2, w3⟩ := flatB_at gp
    have w2' : ∀ (h : j * 5 < (flatB bs).length), (flatB bs)[j * 5] = .int .u64 (labN p.1) := fun h => (List.getElem?_eq_some_iff.1 w2).2
    have qa : (nx ≤ nx + 1 + 1) = True := eq_true (by omega)
    have qb : min md (nx + 1) = md := by omega
    have qd : ∀ (x y : AObj), List.drop (nx + 1 + 1 - nx) (x :: y :: os) = os := fun x y => by rw [show nx + 1 + 1 - nx = 2 by omega]; rfl
    have gp2 : (bs.map cpB)[j]? = some (cpB p) := by rw [List.getElem?_map, gp]; rfl
    have lw := flatB_len bs
    have fr := flatB_refs bs
    have q1 : (nx ≤ a) = False := eq_false (by omega)
    have q2 : (nx ≤ c) = False := eq_false (by omega)
    have q3 : a < nx + 1 := by omega
    have q4 : c < nx + 1 := by omega
    have q5 : j * 5 + 1 ≤ bs.length * 5 := by omega
    have q6 : j * 5 + 1 + 4 ≤ bs.length * 5 := by omega
    have hbc : (cpB p).2.bulk < 1000000000 := by show (copyT p.2).bulk < _; rw [copy_bulk]; exact hbk
    have lm : (bs.map cpB).length = bs.length := by simp
    have gt := get_at n (nx + 1) (.dead :: os) nx md a b (by omega) (by omega) (by omega) (by omega) nv (bs.map cpB) (by simpa using hl) j (cpB p) gp2 hbc (fun wl md => by rw [get_old _ _ _ _ ha, lm]; exact ga wl md) (fun wl md => by rw [get_old _ _ _ _ hbn]; exact gb wl md)
    have q7 : min md nx = md := by omega
    have q8 : a < nx + 1 + 1 := by omega
    have q9 : c < nx + 1 + 1 := by omega
    have e1 : (cpB p).1 = p.1 := rfl
    have e2 : (cpB p).2 = copyT p.2 := rfl
    rw [e1, e2] at gt
    have sm := sameS_at (copyT (copyT p.2)) p.2 ⟨by rw [copy_bulk]; exact hbc, hbk⟩
    have hsm : (goodT (copyT (copyT p.2)) && goodT p.2 && sameT (copyT (copyT p.2)) p.2) = true := by rw [copy_good, copy_good, hg, copy_same, copy_same, same_refl]; rfl
    rw [hsm] at sm
    have hde : (copyT (copyT p.2)).enc = .agg (copyT (copyT p.2)).cells := Tm.enc_eq _
    have hdc : (copyT (copyT p.2)).cells = [.int .i64 (copyT (copyT p.2)).kind, .int .i64 (copyT (copyT p.2)).num, .str (copyT (copyT p.2)).name, (copyT (copyT p.2)).argV] := rfl
    have hdr := argV_refs (copyT (copyT p.2))
    have hpe : p.2.enc = .agg p.2.cells := Tm.enc_eq _
    have hpc : p.2.cells = [.int .i64 p.2.kind, .int .i64 p.2.num, .str p.2.name, p.2.argV] := rfl
    have hpr := argV_refs p.2
    rw [hde, hdc, hpe, hpc] at sm
    have cb := comp_box ((j : Int) + 1)
    have i1 := intS_at ((j : Int) + 1)
    rw [show ((j + 1 : Nat) : Int) = (j : Int) + 1 by omega] at ih
    rw [loopH_succ]
    generalize flatB bs = FW at *
    simp only [ss4] at gt
    simp [-get_mk, -set_mk, get_new, get_old, set_new, set_old, c4_b0, c4_m0, h1, h3, h6, w2, w2', w3, qa, qb, qd, lw, fr, q1, q2, q3, q4, q5, q6, q7, q8, q9, ha, hc, ga, gc, gt, sm, cb, i1, hdr, hpr, rA, rX, ss4, frz_argV, awake14S_f, goodS_f, fitsS_f, goodTS_f, copyS_f, sameS_f, compS_f, intS_f, isS_f]
    exact ih

end Go.Proofs.YtnkafagfkblfeaaDoor

namespace Go.Proofs.YtnkafagfkblfeaaDoor
open Go Sz
set_option linter.unusedSimpArgs false
attribute [local simp] seqF condF stepF callF callvF guardF trF step1F call1F callv1F guard1F seqK_n seqK_e seqK_r condK_t condK_f stK_s gdK_t gdK_f cvK_f trK_s trK1_s stK1_s gdK1_t gdK1_f cvK1_f evCode_skip evCode_reg evCode_dreg evCode_block evCode_exit evCode_ret evSteps_nil evTr_nil ldId chkTr
 evOp_mov evOp_pick evOp_box evOp_bld evOp_bsl evOp_ld evOp_st evOp_nck evOp_bin evOp_beq evOp_ceq evOp_peq evOp_not evOp_neg evOp_xor evOp_cvi evOp_cvss evOp_cvis evOp_cvsb evOp_mki evOp_mkf evOp_mkm evOp_mks evOp_sls evOp_slv evOp_fad evOp_fld1 evOp_fldn evOp_iad evOp_ixs evOp_ext evOp_lens evOp_lenv evOp_mx evOp_mn evOp_app evOp_bs0 evOp_snil evOp_clr
 FM_ev ev_const FM_put put_none FM_unwanted lk_hit lk_miss lk_nil FM_clear FM_clearB trues pick gc_FM gc_FM0 incK snds renM allM evB_fm enumA cells_agg cells_bool cells_int cells_str cells_nilp cells_ptr cells_ip cells_nils cells_sl cells_vec cells_nilm cells_map cells_nilfn cells_fn cells_nili cells_iface ldA row_mk get_mk set_mk mark_mk alloc_mk' trunc_mk binA resAll_nil resAll_cons FM_resT FM_resC oneOf finish_mk frz_undef frz_bool frz_int frz_str frz_nilp frz_ptr frz_ip frz_nils frz_sl frz_nilm frz_map frz_nilfn frz_fn frz_nili frz_iface frz_old frz_agg frz_tuple frzL_nil frzL_cons kill_nil kill_cons chunk_zero chunk_succ AV.refs AV.refsL evCall_spec lookF_nil lookF_cons callS_nil callS_oneF spK_s spK_n frK_s frK_n clones cloneS_f cloneS_nils cloneS_sl0 fillA putAt_nil putAt_cons evCode_loop bgn_mk aft_mk keeps objsAt ren renId AV.top lowObj h0 succ_le_f oldK oldAll oldLow oldRen lowCells_row lowCells_map lowCells_dead objCells topLow renObj List.idxOf_cons List.idxOf_nil nilA nilK elemsA_nils elemsA_vec elemsA_str evOp_die evOp_lkp evOp_cvbs lookA scal_bool scal_int scal_str scal_nils scal_sl scal_tuple scal_agg scal1_bool scal1_int scal1_str scal1_nils scal1_sl scal1_agg
attribute [local simp low] frz_vecR

/-! BoxKeeps: the outer loop. -/

theorem fitsF (x : BitVec 64) (h : ¬ x.toNat < 8) : fitsS.S [.sl [.str [97], .str [98], .str [99]], .int .u64 (labN x)] = some (.bool false) := by
  have := fitsS3_at x
  rw [decide_eq_false h] at this
  exact this
theorem mapcp_app (bs : List Bx) (p : Bx) : flatB ((bs ++ [p]).map cpB) = flatB (bs.map cpB) ++ [.int .u64 (labN p.1), .int .i64 (copyT p.2).kind, .int .i64 (copyT p.2).num, .str (copyT p.2).name, (copyT p.2).argV] := by
  rw [List.map_append, List.map_cons, List.map_nil, flatB_app]
  rfl

set_option maxRecDepth 100000 in
set_option maxHeartbeats 10000000 in
theorem c4_next (n : Nat) (A : List (BitVec 64)) (X : List Tm) (hx : ∀ t ∈ X, t.bulk < 1000000000) (ha : A.length ≤ 50) (hX : X.length = A.length) (hn : 100 < n) :
    ∀ (r i m : Nat) (bs : List Bx), i + r = A.length → r < m → bs.length ≤ i → 0 < bs.length → (∀ p ∈ bs, goodT p.2 = true ∧ p.2.bulk < 1000000000) →
    ∃ (k : Nat) (P' Q' : List AV), aft 3 0 (loopH (evCode (evCall (envOf ss4) (n + 2)) (n + 2) c4_b1) c4_m1 3 m (c4_f1 (.sl (A.map labA)) (.sl (X.map Tm.enc)) (.ptr 2 0) (.vec 3 0 bs.length 5 bs.length) (.int .i64 i))
      ⟨5, [.row (flatB (bs.map cpB)), .row (flatB bs), .row [.vec 1 0 3 1 3, .vec 4 0 bs.length 5 bs.length], L3, L3], 2, 0⟩) =
      some (.exit 0, FM 140 [(5, .ptr 2 0), (7, .vec 3 0 k 5 k)], ⟨5, [.row P', .row Q', .row [.vec 1 0 3 1 3, .vec 4 0 k 5 k], L3, L3], 0, 0⟩)
  | 0, i, m + 1, bs, e, _, _, _, _ => by
    refine ⟨bs.length, flatB (bs.map cpB), flatB bs, ?_⟩
    have h1 : ((i : Int) < (A.length : Int)) = False := eq_false (by omega)
    have r1 : AV.refsL (A.map labA) = 0 := labs_refs A
    have r3 : AV.refsL (X.map Tm.enc) = 0 := encs_refs _
    have f1 := flatB_refs bs
    have f2 := flatB_refs (bs.map cpB)
    simp [loopH_succ, c4_b1, h1, r1, r3, f1, f2, L3]
  | r + 1, i, m + 1, bs, e, hm, hbi, hb0, hbs => by
    have h1 : ((i : Int) < (A.length : Int)) = True := eq_true (by omega)
    have r1 : AV.refsL (A.map labA) = 0 := labs_refs A
    have r3 : AV.refsL (X.map Tm.enc) = 0 := encs_refs _
    obtain ⟨a, ga⟩ : ∃ a, A[i]? = some a := ⟨A[i]'(by omega), by simp⟩
    obtain ⟨x, gx⟩ : ∃ x, X[i]? = some x := ⟨X[i]'(by omega), by simp⟩
    have hbx := hx x (List.mem_of_getElem? gx)
    have gtx := goodTS_at x hbx
    have cpx := size_ok x hbx
    have hxe : x.enc = .agg x.cells := Tm.enc_eq x
    have hxc : x.cells = [.int .i64 x.kind, .int .i64 x.num, .str x.name, x.argV] := rfl
    have hxr := argV_refs x
    have hze : (copyT x).enc = .agg (copyT x).cells := Tm.enc_eq _
    have hzc : (copyT x).cells = [.int .i64 (copyT x).kind, .int .i64 (copyT x).num, .str (copyT x).name, (copyT x).argV] := rfl
    have hzr := argV_refs (copyT x)
    have hla : labA a = .int .u64 (labN a) := rfl
    have hlN : labN a = (a.toNat : Int) := rfl
    have f1 := flatB_refs bs
    have f2 := flatB_refs (bs.map cpB)
    have lm : (bs.map cpB).length = bs.length := by simp
    have lw := flatB_len bs
    have lb := flatB_len (bs.map cpB)
    rw [lm] at lb
    have h3 : IntKind.i64.wrap ((i : Int) + 1) = (i : Int) + 1 := wrap_i64 (by omega) (by omega)
    have inA := fun (G5 : AObj) => c4_in n (A.map labA) (X.map Tm.enc) r1 r3 i bs hbs (by omega) 6 [G5, .row (flatB (bs.map cpB)), .row (flatB bs), .row [.vec 1 0 3 1 3, .vec 4 0 bs.length 5 bs.length], L3, L3] 2 0 2 4 3 (by omega) (by omega) (by omega) (by omega) _ (fun _ _ => rfl) (fun _ _ => rfl) (fun _ _ => rfl) bs.length 0 (n + 2) (by omega) (by omega)
    rw [hxe, hxc, hze, hzc] at cpx
    rw [hxe, hxc] at gtx
    by_cases hg : a.toNat < 8 ∧ goodT x = true
    · obtain ⟨hg1, hg2⟩ := hg
      have fa := fitsS3 a hg1
      have h8 : (labN a < 8) = True := eq_true (by omega)
      rw [hg2] at gtx
      have h31 : bs.length + 1 = (bs ++ [(a, x)]).length := by simp
      obtain ⟨k, P', Q', ih⟩ := c4_next n A X hx ha hX hn r (i + 1) m (bs ++ [(a, x)]) (by omega) (by omega) (by simp; omega) (by simp) (fun p hp => by
        rcases List.mem_append.1 hp with h | h
        · exact hbs p h
        · simp at h; subst h; exact ⟨hg2, hbx⟩)
      refine ⟨k, P', Q', ?_⟩
      have fr1 := flatB_refs (bs ++ [(a, x)])
      have fr2 := flatB_refs ((bs ++ [(a, x)]).map cpB)
      rw [flatB_app] at fr1
      rw [mapcp_app] at fr2
      rw [mapcp_app, flatB_app, ← h31] at ih
      rw [show ((i + 1 : Nat) : Int) = (i : Int) + 1 by omega] at ih
      have cb := comp_box ((bs.length : Int) + 1)
      have ib := is_box ((bs.length : Int) + 1)
      have sb := same_box ((bs.length : Int) + 1)
      have i1 := intS_at ((bs.length : Int) + 1)
      have b1 : (bs.length + 1) * 64 ≤ 140737488355328 := by omega
      have b2 : bs.length + 1 < 9223372036854775808 := by omega
      have t1 : (1000 ≤ (bs.length : Int)) = False := eq_false (by omega)
      have tP : List.take (bs.length * 5) (flatB bs) = flatB bs := List.take_of_length_le (by omega)
      have tQ : List.take (bs.length * 5) (flatB (bs.map cpB)) = flatB (bs.map cpB) := List.take_of_length_le (by omega)
      have inB := fun (G13 G11 G10 G9 G7 G6 G5 G4 G3 : AObj) => c4_in n (A.map labA) (X.map Tm.enc) r1 r3 i (bs ++ [(a, x)]) (fun p hp => by
        rcases List.mem_append.1 hp with h | h
        · exact hbs p h
        · simp at h; subst h; exact ⟨hg2, hbx⟩) (by simp; omega) 14 [G13, .row (flatB (bs ++ [(a, x)])), G11, G10, G9, .row (flatB ((bs ++ [(a, x)]).map cpB)), G7, G6, G5, G4, G3, .row [.vec 1 0 3 1 3, .vec 8 0 (bs ++ [(a, x)]).length 5 (bs ++ [(a, x)]).length], L3, L3] 2 0 2 8 12 (by omega) (by omega) (by omega) (by omega) _ (fun _ _ => rfl) (fun _ _ => rfl) (fun _ _ => rfl) (bs ++ [(a, x)]).length 0 (n + 2) (by omega) (by simp; omega)
      rw [mapcp_app, flatB_app, ← h31] at inB
      simp only [c4_m0, L3, ss4, show ((0 : Nat) : Int) = 0 from rfl] at inB
      rw [loopH_succ]
      generalize flatB bs = FW at *
      generalize flatB (bs.map cpB) = FB at *
      simp [c4_b1, c4_m1, run17, c17, inB, h1, h3, r1, r3, f1, f2, fr1, fr2, ga, hla, fa, h8, gx, hxe, hxc, hxr, gtx, cpx, hzr, cb, ib, sb, i1, b1, b2, t1, tP, tQ, lw, lb, L3, c4_m0, ss4, goodTS_f, frz_argV, awake14S_f, goodS_f, fitsS_f, copyS_f, sameS_f, compS_f, intS_f, isS_f]
      exact ih
    · have ih := c4_next n A X hx ha hX hn r (i + 1) m bs (by omega) (by omega) (by omega) hb0 hbs
      obtain ⟨k, P', Q', ih⟩ := ih
      refine ⟨k, P', Q', ?_⟩
      rw [show ((i + 1 : Nat) : Int) = (i : Int) + 1 by omega] at ih
      simp only [c4_m0, L3, ss4, show ((0 : Nat) : Int) = 0 from rfl] at inA
      rw [loopH_succ]
      by_cases hg1 : a.toNat < 8
      · have fa := fitsS3 a hg1
        have h8 : (labN a < 8) = True := eq_true (by omega)
        have hg2 : goodT x = false := by cases h : goodT x with | false => rfl | true => exact absurd ⟨hg1, h⟩ hg
        rw [hg2] at gtx
        generalize flatB bs = FW at *
        generalize flatB (bs.map cpB) = FB at *
        simp [c4_b1, c4_m1, run17, c17, h1, h3, r1, r3, f1, f2, ga, hla, fa, h8, gx, hxe, hxc, hxr, gtx, inA, L3, c4_m0, ss4, goodTS_f, frz_argV, awake14S_f, goodS_f, fitsS_f, copyS_f, sameS_f, compS_f, intS_f, isS_f]
        exact ih
      · have fa := fitsF a hg1
        have h8 : (labN a < 8) = False := eq_false (by omega)
        generalize flatB bs = FW at *
        generalize flatB (bs.map cpB) = FB at *
        simp [c4_b1, c4_m1, run17, c17, h1, h3, r1, r3, f1, f2, ga, hla, fa, h8, gx, hxe, hxc, hxr, inA, L3, c4_m0, ss4, goodTS_f, frz_argV, awake14S_f, goodS_f, fitsS_f, copyS_f, sameS_f, compS_f, intS_f, isS_f]
        exact ih

end Go.Proofs.YtnkafagfkblfeaaDoor

namespace Go.Proofs.YtnkafagfkblfeaaDoor
open Go Sz
set_option linter.unusedSimpArgs false
attribute [local simp] seqF condF stepF callF callvF guardF trF step1F call1F callv1F guard1F seqK_n seqK_e seqK_r condK_t condK_f stK_s gdK_t gdK_f cvK_f trK_s trK1_s stK1_s gdK1_t gdK1_f cvK1_f evCode_skip evCode_reg evCode_dreg evCode_block evCode_exit evCode_ret evSteps_nil evTr_nil ldId chkTr
 evOp_mov evOp_pick evOp_box evOp_bld evOp_bsl evOp_ld evOp_st evOp_nck evOp_bin evOp_beq evOp_ceq evOp_peq evOp_not evOp_neg evOp_xor evOp_cvi evOp_cvss evOp_cvis evOp_cvsb evOp_mki evOp_mkf evOp_mkm evOp_mks evOp_sls evOp_slv evOp_fad evOp_fld1 evOp_fldn evOp_iad evOp_ixs evOp_ext evOp_lens evOp_lenv evOp_mx evOp_mn evOp_app evOp_bs0 evOp_snil evOp_clr
 FM_ev ev_const FM_put put_none FM_unwanted lk_hit lk_miss lk_nil FM_clear FM_clearB trues pick gc_FM gc_FM0 incK snds renM allM evB_fm enumA cells_agg cells_bool cells_int cells_str cells_nilp cells_ptr cells_ip cells_nils cells_sl cells_vec cells_nilm cells_map cells_nilfn cells_fn cells_nili cells_iface ldA row_mk get_mk set_mk mark_mk alloc_mk' trunc_mk binA resAll_nil resAll_cons FM_resT FM_resC oneOf finish_mk frz_undef frz_bool frz_int frz_str frz_nilp frz_ptr frz_ip frz_nils frz_sl frz_nilm frz_map frz_nilfn frz_fn frz_nili frz_iface frz_old frz_agg frz_tuple frzL_nil frzL_cons kill_nil kill_cons chunk_zero chunk_succ AV.refs AV.refsL evCall_spec lookF_nil lookF_cons callS_nil callS_oneF spK_s spK_n frK_s frK_n clones cloneS_f cloneS_nils cloneS_sl0 fillA putAt_nil putAt_cons evCode_loop bgn_mk aft_mk keeps objsAt ren renId AV.top lowObj h0 succ_le_f oldK oldAll oldLow oldRen lowCells_row lowCells_map lowCells_dead objCells topLow renObj List.idxOf_cons List.idxOf_nil nilA nilK elemsA_nils elemsA_vec elemsA_str evOp_die evOp_lkp evOp_cvbs lookA scal_bool scal_int scal_str scal_nils scal_sl scal_tuple scal_agg scal1_bool scal1_int scal1_str scal1_nils scal1_sl scal1_agg
attribute [local simp low] frz_vecR

/-! BoxKeeps: the outer loop from its start. -/

set_option maxRecDepth 100000 in
set_option maxHeartbeats 10000000 in
theorem c4_first (n : Nat) (A : List (BitVec 64)) (X : List Tm) (hx : ∀ t ∈ X, t.bulk < 1000000000) (ha : A.length ≤ 50) (hX : X.length = A.length) (hn : 100 < n) :
    ∀ (r i m : Nat), i + r = A.length → r < m →
    (∃ (k : Nat) (P' Q' : List AV), aft 3 0 (loopH (evCode (evCall (envOf ss4) (n + 2)) (n + 2) c4_b1) c4_m1 3 m (c4_f1 (.sl (A.map labA)) (.sl (X.map Tm.enc)) (.ptr 2 0) .nils (.int .i64 i))
      ⟨3, [.row [.vec 1 0 3 1 3, .nils], L3, L3], 3, 0⟩) =
      some (.exit 0, FM 140 [(5, .ptr 2 0), (7, .vec 3 0 k 5 k)], ⟨5, [.row P', .row Q', .row [.vec 1 0 3 1 3, .vec 4 0 k 5 k], L3, L3], 0, 0⟩)) ∨
    aft 3 0 (loopH (evCode (evCall (envOf ss4) (n + 2)) (n + 2) c4_b1) c4_m1 3 m (c4_f1 (.sl (A.map labA)) (.sl (X.map Tm.enc)) (.ptr 2 0) .nils (.int .i64 i))
      ⟨3, [.row [.vec 1 0 3 1 3, .nils], L3, L3], 3, 0⟩) =
      some (.exit 0, FM 140 [(5, .ptr 2 0), (7, .nils)], ⟨3, [.row [.vec 1 0 3 1 3, .nils], L3, L3], 0, 0⟩)
  | 0, i, m + 1, e, _ => by
    refine .inr ?_
    have h1 : ((i : Int) < (A.length : Int)) = False := eq_false (by omega)
    have r1 : AV.refsL (A.map labA) = 0 := labs_refs A
    have r3 : AV.refsL (X.map Tm.enc) = 0 := encs_refs _
    simp [loopH_succ, c4_b1, h1, r1, r3, L3]
  | r + 1, i, m + 1, e, hm => by
    have h1 : ((i : Int) < (A.length : Int)) = True := eq_true (by omega)
    have r1 : AV.refsL (A.map labA) = 0 := labs_refs A
    have r3 : AV.refsL (X.map Tm.enc) = 0 := encs_refs _
    obtain ⟨a, ga⟩ : ∃ a, A[i]? = some a := ⟨A[i]'(by omega), by simp⟩
    obtain ⟨x, gx⟩ : ∃ x, X[i]? = some x := ⟨X[i]'(by omega), by simp⟩
    have hbx := hx x (List.mem_of_getElem? gx)
    have gtx := goodTS_at x hbx
    have cpx := size_ok x hbx
    have hxe : x.enc = .agg x.cells := Tm.enc_eq x
    have hxc : x.cells = [.int .i64 x.kind, .int .i64 x.num, .str x.name, x.argV] := rfl
    have hxr := argV_refs x
    have hze : (copyT x).enc = .agg (copyT x).cells := Tm.enc_eq _
    have hzc : (copyT x).cells = [.int .i64 (copyT x).kind, .int .i64 (copyT x).num, .str (copyT x).name, (copyT x).argV] := rfl
    have hzr := argV_refs (copyT x)
    have hla : labA a = .int .u64 (labN a) := rfl
    have hlN : labN a = (a.toNat : Int) := rfl
    have h3 : IntKind.i64.wrap ((i : Int) + 1) = (i : Int) + 1 := wrap_i64 (by omega) (by omega)
    rw [hxe, hxc, hze, hzc] at cpx
    rw [hxe, hxc] at gtx
    by_cases hg : a.toNat < 8 ∧ goodT x = true
    · obtain ⟨hg1, hg2⟩ := hg
      have fa := fitsS3 a hg1
      have h8 : (labN a < 8) = True := eq_true (by omega)
      rw [hg2] at gtx
      have hbs : ∀ p ∈ [(a, x)], goodT p.2 = true ∧ p.2.bulk < 1000000000 := fun p hp => by simp at hp; subst hp; exact ⟨hg2, hbx⟩
      obtain ⟨k, P', Q', ih⟩ := c4_next n A X hx ha hX hn r (i + 1) m [(a, x)] (by omega) (by omega) (by simp) (by simp) hbs
      refine .inl ⟨k, P', Q', ?_⟩
      have e1 : flatB [(a, x)] = [.int .u64 (labN a), .int .i64 x.kind, .int .i64 x.num, .str x.name, x.argV] := rfl
      have e2 : flatB ([(a, x)].map cpB) = [.int .u64 (labN a), .int .i64 (copyT x).kind, .int .i64 (copyT x).num, .str (copyT x).name, (copyT x).argV] := rfl
      rw [e1, e2] at ih
      simp only [List.length_cons, List.length_nil, Nat.zero_add, L3] at ih
      rw [show ((i + 1 : Nat) : Int) = (i : Int) + 1 by omega] at ih
      have cb := comp_box 1
      have ib := is_box 1
      have sb := same_box 1
      have i1 := intS_at 1
      have inB := fun (G11 G9 G8 G7 G5 G4 G3 : AObj) => c4_in n (A.map labA) (X.map Tm.enc) r1 r3 i [(a, x)] hbs (by simp) 12 [G11, .row (flatB [(a, x)]), G9, G8, G7, .row (flatB ([(a, x)].map cpB)), G5, G4, G3, .row [.vec 1 0 3 1 3, .vec 6 0 [(a, x)].length 5 [(a, x)].length], L3, L3] 2 0 2 6 10 (by omega) (by omega) (by omega) (by omega) _ (fun _ _ => rfl) (fun _ _ => rfl) (fun _ _ => rfl) 1 0 (n + 2) (by simp) (by omega)
      rw [e1, e2] at inB
      simp only [c4_m0, L3, ss4, List.length_cons, List.length_nil, Nat.zero_add, show ((0 : Nat) : Int) = 0 from rfl, show ((1 : Nat) : Int) = 1 from rfl] at inB
      rw [loopH_succ]
      simp [c4_b1, c4_m1, run17, c17, inB, h1, h3, r1, r3, ga, hla, fa, h8, gx, hxe, hxc, hxr, gtx, cpx, hzr, cb, ib, sb, i1, L3, c4_m0, ss4, goodTS_f, frz_argV, awake14S_f, goodS_f, fitsS_f, copyS_f, sameS_f, compS_f, intS_f, isS_f]
      exact ih
    · have ih := c4_first n A X hx ha hX hn r (i + 1) m (by omega) (by omega)
      rw [show ((i + 1 : Nat) : Int) = (i : Int) + 1 by omega] at ih
      rw [loopH_succ]
      by_cases hg1 : a.toNat < 8
      · have fa := fitsS3 a hg1
        have h8 : (labN a < 8) = True := eq_true (by omega)
        have hg2 : goodT x = false := by cases h : goodT x with | false => rfl | true => exact absurd ⟨hg1, h⟩ hg
        rw [hg2] at gtx
        simp [c4_b1, c4_m1, run17, c17, c4_b0, c4_m0, loopH_succ, h1, h3, r1, r3, ga, hla, fa, h8, gx, hxe, hxc, hxr, gtx, L3, ss4, goodTS_f, frz_argV, awake14S_f, goodS_f, fitsS_f, copyS_f, sameS_f, compS_f, intS_f, isS_f]
        exact ih
      · have fa := fitsF a hg1
        have h8 : (labN a < 8) = False := eq_false (by omega)
        simp [c4_b1, c4_m1, run17, c17, c4_b0, c4_m0, loopH_succ, h1, h3, r1, r3, ga, hla, fa, h8, gx, hxe, hxc, hxr, L3, ss4, goodTS_f, frz_argV, awake14S_f, goodS_f, fitsS_f, copyS_f, sameS_f, compS_f, intS_f, isS_f]
        exact ih
end Go.Proofs.YtnkafagfkblfeaaDoor

namespace Go.Proofs.YtnkafagfkblfeaaDoor
open Go Sz Go.ChangeShapes Go.WideShapes Go.ChangeAt Go.RowKit
set_option linter.unusedSimpArgs false
attribute [local simp] seqF condF stepF callF callvF guardF trF step1F call1F callv1F guard1F seqK_n seqK_e seqK_r condK_t condK_f stK_s gdK_t gdK_f cvK_f trK_s trK1_s stK1_s gdK1_t gdK1_f cvK1_f evCode_skip evCode_reg evCode_dreg evCode_block evCode_exit evCode_ret evSteps_nil evTr_nil ldId chkTr
 evOp_mov evOp_pick evOp_box evOp_bld evOp_bsl evOp_ld evOp_st evOp_nck evOp_bin evOp_beq evOp_ceq evOp_peq evOp_not evOp_neg evOp_xor evOp_cvi evOp_cvss evOp_cvis evOp_cvsb evOp_mki evOp_mkf evOp_mkm evOp_mks evOp_sls evOp_slv evOp_fad evOp_fld1 evOp_fldn evOp_iad evOp_ixs evOp_ext evOp_lens evOp_lenv evOp_mx evOp_mn evOp_app evOp_bs0 evOp_snil evOp_clr
 FM_ev ev_const FM_put put_none FM_unwanted lk_hit lk_miss lk_nil FM_clear FM_clearB trues pick gc_FM gc_FM0 incK snds renM allM evB_fm enumA cells_agg cells_bool cells_int cells_str cells_nilp cells_ptr cells_ip cells_nils cells_sl cells_vec cells_nilm cells_map cells_nilfn cells_fn cells_nili cells_iface ldA row_mk get_mk set_mk mark_mk alloc_mk' trunc_mk binA resAll_nil resAll_cons FM_resT FM_resC oneOf finish_mk frz_undef frz_bool frz_int frz_str frz_nilp frz_ptr frz_ip frz_nils frz_sl frz_nilm frz_map frz_nilfn frz_fn frz_nili frz_iface frz_old frz_agg frz_tuple frzL_nil frzL_cons kill_nil kill_cons chunk_zero chunk_succ AV.refs AV.refsL evCall_spec lookF_nil lookF_cons callS_nil callS_oneF spK_s spK_n frK_s frK_n clones cloneS_f cloneS_nils cloneS_sl0 fillA putAt_nil putAt_cons evCode_loop bgn_mk aft_mk keeps objsAt ren renId AV.top lowObj h0 succ_le_f oldK oldAll oldLow oldRen lowCells_row lowCells_map lowCells_dead objCells topLow renObj List.idxOf_cons List.idxOf_nil nilA nilK elemsA_nils elemsA_vec elemsA_str evOp_die evOp_lkp evOp_cvbs lookA scal_bool scal_int scal_str scal_nils scal_sl scal_tuple scal_agg scal1_bool scal1_int scal1_str scal1_nils scal1_sl scal1_agg
attribute [local simp low] frz_vecR

/-! BoxKeeps. -/

theorem ss4_ok (hT : KSpecOK Tryd.prog trimS) : ∀ s ∈ ss4, KSpecOK Tryd.prog s := by
  simp [ss4, awake14S_ok hT, goodS_ok hT, fitsS_ok hT, goodTS_ok, copyS_ok, sameS_ok, compS_ok, intS_ok, isS_ok]

set_option maxRecDepth 100000 in
set_option maxHeartbeats 10000000 in
theorem boxKeeps_prim (hT : KSpecOK Tryd.prog trimS) (A : List (BitVec 64)) (X : List Tm) (hx : ∀ t ∈ X, t.bulk < 1000000000) : PrimOK Tryd.prog 4 [.sl (A.map labA), .sl (X.map Tm.enc)] (.bool true) := by
  have r1 : AV.refsL (A.map labA) = 0 := labs_refs A
  have r3 : AV.refsL (X.map Tm.enc) = 0 := encs_refs _
  refine prim_of (n := 113) (h' := h0) (envOf_ok (ss4_ok hT)) ?_ rfl (by simp [AV.refsL, AV.refs, r1, r3])
  by_cases q1 : A.length ≤ 50
  · have q1' : ((50 : Int) < (A.length : Int)) = False := eq_false (by omega)
    by_cases q2 : X.length = A.length
    · have q2' : ((X.length : Int) = (A.length : Int)) = True := eq_true (by omega)
      have hl := c4_first 110 A X hx q1 q2 (by omega) A.length 0 112 (by omega) (by omega)
      have l1 : (A.map labA).length = A.length := by simp
      have l3 : (X.map Tm.enc).length = X.length := by simp
      generalize A.map labA = AL at *
      generalize X.map Tm.enc = XL at *
      simp only [c4_m1, L3, ss4, Nat.reduceAdd, show ((0 : Nat) : Int) = 0 from rfl] at hl
      rcases hl with ⟨k, P', Q', hl⟩ | hl
      · simp [run4, c4, c4_m1, run15, c15, run20, c20, ss4, r1, r3, l1, l3, q1', q2', hl, goodS3, awake14S_f, awake14S_at, goodS_f, fitsS_f, goodTS_f, copyS_f, sameS_f, compS_f, intS_f, isS_f]
      · simp [run4, c4, c4_m1, run15, c15, run20, c20, ss4, r1, r3, l1, l3, q1', q2', hl, goodS3, awake14S_f, awake14S_at, goodS_f, fitsS_f, goodTS_f, copyS_f, sameS_f, compS_f, intS_f, isS_f]
    · have q2' : ((X.length : Int) = (A.length : Int)) = False := eq_false (by omega)
      simp [run4, c4, ss4, r1, r3, q1', q2', awake14S_f, awake14S_at, goodS_f, fitsS_f, goodTS_f, copyS_f, sameS_f, compS_f, intS_f, isS_f]
  · have q1' : ((50 : Int) < (A.length : Int)) = True := eq_true (by omega)
    simp [run4, c4, ss4, r1, r3, q1', awake14S_f, awake14S_at, goodS_f, fitsS_f, goodTS_f, copyS_f, sameS_f, compS_f, intS_f, isS_f]

theorem boxKeeps_lawX {H : Type} (ds : List (DataW H)) (h : HasTys Tryd.prog Tryd.f4.params.toList (ds.map avOf)) (hw : (DataW.weightsEach Tryd.prog Tryd.f4.params.toList ds).all (· ≤ reachBytes) = true) (hk : Rows.uptoSmall H ds = true) : PrimOKX Tryd.prog (fun _ => True) 4 (ds.map avOf) (.bool true) := by
  have hb := upto_le hk
  generalize ds.map avOf = avs at h hb
  rw [Tryd.params4] at h
  cases h with
  | cons h1 r1 => cases r1 with
    | cons h2 r2 =>
      cases r2
      obtain ⟨A, rfl, _⟩ := labs_of h1
      obtain ⟨X, rfl, _⟩ := tms_of h2
      simp only [vbL] at hb
      exact boxKeeps_prim trimS_ok A X (fun t ht => by have := bulk_of (B := 1048576) (by omega) t ht; omega)
end Go.Proofs.YtnkafagfkblfeaaDoor
