import Derived.Test.YtleeinkdkllcdaaGreatDoorTx
import Derived.Test.YtleeinkdkllcdaaGreatDoorAw
import Derived.Test.YtleeinkdkllcdaaGreatDoorTy
set_option linter.unusedVariables false
set_option linter.unusedSimpArgs false
set_option linter.unusedSectionVars false

namespace Go.Proofs.YtleeinkdkllcdaaGreatDoor
open Go Sz
set_option linter.unusedSimpArgs false
attribute [local simp] seqF condF stepF callF callvF guardF trF step1F call1F callv1F guard1F seqK_n seqK_e seqK_r condK_t condK_f stK_s gdK_t gdK_f cvK_f trK_s trK1_s stK1_s gdK1_t gdK1_f cvK1_f evCode_skip evCode_reg evCode_dreg evCode_block evCode_exit evCode_ret evSteps_nil evTr_nil ldId chkTr
 evOp_mov evOp_pick evOp_box evOp_bld evOp_bsl evOp_ld evOp_st evOp_nck evOp_bin evOp_beq evOp_ceq evOp_peq evOp_not evOp_neg evOp_xor evOp_cvi evOp_cvss evOp_cvis evOp_cvsb evOp_mki evOp_mkf evOp_mkm evOp_mks evOp_sls evOp_slv evOp_fad evOp_fld1 evOp_fldn evOp_iad evOp_ixs evOp_ext evOp_lens evOp_lenv evOp_mx evOp_mn evOp_app evOp_bs0 evOp_snil evOp_clr
 FM_ev ev_const FM_put put_none FM_unwanted lk_hit lk_miss lk_nil FM_clear FM_clearB trues pick gc_FM gc_FM0 incK snds renM allM evB_fm enumA cells_agg cells_bool cells_int cells_str cells_nilp cells_ptr cells_ip cells_nils cells_sl cells_vec cells_nilm cells_map cells_nilfn cells_fn cells_nili cells_iface ldA row_mk get_mk set_mk mark_mk alloc_mk' trunc_mk binA resAll_nil resAll_cons FM_resT FM_resC oneOf finish_mk frz_undef frz_bool frz_int frz_str frz_nilp frz_ptr frz_ip frz_nils frz_sl frz_nilm frz_map frz_nilfn frz_fn frz_nili frz_iface frz_old frz_agg frz_tuple frzL_nil frzL_cons kill_nil kill_cons chunk_zero chunk_succ AV.refs AV.refsL evCall_spec lookF_nil lookF_cons callS_nil callS_oneF spK_s spK_n frK_s frK_n clones cloneS_f cloneS_nils cloneS_sl0 fillA putAt_nil putAt_cons evCode_loop bgn_mk aft_mk keeps objsAt ren renId AV.top lowObj h0 succ_le_f oldK oldAll oldLow oldRen lowCells_row lowCells_map lowCells_dead objCells topLow renObj List.idxOf_cons List.idxOf_nil nilA nilK elemsA_nils elemsA_vec elemsA_str evOp_die evOp_lkp evOp_cvbs lookA scal_bool scal_int scal_str scal_nils scal_sl scal_tuple scal_agg scal1_bool scal1_int scal1_str scal1_nils scal1_sl scal1_agg
attribute [local simp low] frz_vecR

/-! TextJoins. -/

theorem nameT_chars (s : List UInt8) (h : goodT (charsT s) = true) : nameT (charsT s) = (.nl 2 0 s, 0) := by
  have hg := h
  rw [good_chars, Bool.and_eq_true, decide_eq_true_eq] at hg
  unfold nameT
  rw [joined_chars s h]
  rw [if_neg (by simp), if_neg (by simp; omega)]
theorem lettersT_atom (s : List UInt8) (h : goodNm s = true) : lettersT (.nl 2 0 s) = (s, 0) := by
  unfold lettersT
  rw [good_atom, h]
  simp [Tm.kind, Tm.args, Tm.name]
theorem chars_atom (s : List UInt8) (h : goodNm s = true) (hl : s.length ≤ 63) : charsE (.nl 2 0 s) = (charsT s, 0) := by
  have hg : goodT (charsT s) = true := by
    unfold goodNm at h
    rw [Bool.and_eq_true] at h
    rw [good_chars, h.1]
    simp [hl]
  unfold charsE
  rw [lettersT_atom s h]
  simp [hg]
theorem same_atom (s : List UInt8) : sameT (.nl 2 0 s) (.nl 2 0 s) = true := by simp [sameT, sameL]; exact ⟨⟨⟨rfl, rfl⟩, rfl⟩, rfl⟩
theorem atom_enc (s : List UInt8) : (Tm.nl 2 0 s).enc = .agg [.int .i64 2, .int .i64 0, .str s, .nils] := rfl
theorem atom_bulk (s : List UInt8) : (Tm.nl 2 0 s).bulk = 1 + s.length := by simp [Tm.bulk]

def ssJ : List KSpec := [awake16S, atomS, goodTS, charsS, itemsS, listS, nameS, sameS]
theorem ssJ_ok : ∀ s ∈ ssJ, KSpecOKX Tryz.prog TabX s := by simp [ssJ, awake16S_ok, atomS_ok.lift, goodTS_ok.lift, charsS_ok, itemsS_ok.lift, listS_ok.lift, nameS_ok.lift, sameS_ok.lift]
set_option maxRecDepth 100000 in
set_option maxHeartbeats 16000000 in
theorem textJoins_run (a b : List UInt8) (ha : a.length ≤ 140737488351232) (hb : b.length ≤ 140737488351232) : evCall (envOf ssJ) 5 4 [.str a, .str b] h0 = some (.bool true, h0) := by
  have ca := atomS_at a
  have cb := atomS_at b
  have cab := atomS_at (a ++ b)
  have ce := atomS_at [91, 93]
  by_cases hlen : a.length + b.length ≤ 60
  · have h1 : ((60 : Int) < (a.length : Int) + (b.length : Int)) = False := eq_false (by omega)
    have hw : IntKind.i64.wrap ((a.length : Int) + (b.length : Int)) = (a.length : Int) + (b.length : Int) := wrap_i64 (by omega) (by omega)
    have ga := goodTS_at (.nl 2 0 a) (by rw [atom_bulk]; omega)
    have gb := goodTS_at (.nl 2 0 b) (by rw [atom_bulk]; omega)
    rw [good_atom, atom_enc] at ga gb
    cases hga : goodNm a with
    | false =>
      rw [hga] at ga
      simp [ssJ, run4, c4, awake16S_f, awake16S_at, atomS_f, goodTS_f, charsS_f, itemsS_f, listS_f, nameS_f, sameS_f, h1, hw, ca, ga]
    | true =>
      rw [hga] at ga
      cases hgb : goodNm b with
      | false =>
        rw [hgb] at gb
        simp [ssJ, run4, c4, awake16S_f, awake16S_at, atomS_f, goodTS_f, charsS_f, itemsS_f, listS_f, nameS_f, sameS_f, h1, hw, ca, cb, ga, gb]
      | true =>
        rw [hgb] at gb
        have ka := charsS_at (.nl 2 0 a) (by rw [atom_bulk]; simp [Tm.num]; omega)
        have kb := charsS_at (.nl 2 0 b) (by rw [atom_bulk]; simp [Tm.num]; omega)
        rw [chars_atom a hga (by omega), atom_enc] at ka
        rw [chars_atom b hgb (by omega), atom_enc] at kb
        have hab : goodNm (a ++ b) = true := by
          unfold goodNm at hga hgb ⊢
          rw [Bool.and_eq_true] at hga hgb
          rw [allOk_app, hga.1, hgb.1]
          simp
          omega
        have gA : goodT (charsT a) = true := by
          unfold goodNm at hga; rw [Bool.and_eq_true] at hga; rw [good_chars, hga.1]; simp; omega
        have gB : goodT (charsT b) = true := by
          unfold goodNm at hgb; rw [Bool.and_eq_true] at hgb; rw [good_chars, hgb.1]; simp; omega
        have gAB : goodT (charsT (a ++ b)) = true := by
          unfold goodNm at hab; rw [Bool.and_eq_true] at hab; rw [good_chars, hab.1]; simp; omega
        have ia := itemsS_at (charsT a) (by rw [bulk_chars]; omega)
        have ib := itemsS_at (charsT b) (by rw [bulk_chars]; omega)
        unfold itemsG at ia ib
        rw [gA, if_pos rfl, items_chars] at ia
        rw [gB, if_pos rfl, items_chars] at ib
        have na := nameS_at (charsT (a ++ b)) (by rw [bulk_chars]; simp; omega)
        rw [nameT_chars _ gAB, atom_enc] at na
        have sa := sameS_at (.nl 2 0 (a ++ b)) (.nl 2 0 (a ++ b)) (by rw [atom_bulk]; simp; omega)
        rw [good_atom, hab, same_atom, atom_enc] at sa
        have la := listS_at ((a ++ b).map atom1) nilT (by simp; omega)
        have hcs : listT ((a ++ b).map atom1) nilT = charsT (a ++ b) := rfl
        rw [hcs, nilT_cells] at la
        rw [nilT_cells] at ia ib
        have rA := argV_refs (charsT a)
        have rB := argV_refs (charsT b)
        have rAB := argV_refs (charsT (a ++ b))
        have eA : (charsT a).enc = .agg [.int .i64 (charsT a).kind, .int .i64 (charsT a).num, .str (charsT a).name, (charsT a).argV] := Tm.enc_eq _
        have eB : (charsT b).enc = .agg [.int .i64 (charsT b).kind, .int .i64 (charsT b).num, .str (charsT b).name, (charsT b).argV] := Tm.enc_eq _
        have eAB : (charsT (a ++ b)).enc = .agg [.int .i64 (charsT (a ++ b)).kind, .int .i64 (charsT (a ++ b)).num, .str (charsT (a ++ b)).name, (charsT (a ++ b)).argV] := Tm.enc_eq _
        rw [eA] at ka ia
        rw [eB] at kb ib
        rw [eAB] at la na
        have hsc : scal1 (charsT (a ++ b)).argV = ((a ++ b).map atom1).isEmpty := by cases a ++ b <;> rfl
        generalize charsT a = A at ka ia rA eA
        generalize charsT b = B at kb ib rB eB
        generalize charsT (a ++ b) = AB at la na rAB eAB hsc
        rw [List.map_append] at la hsc
        generalize hu : a.map atom1 = us at ia la hsc
        generalize hv : b.map atom1 = vs at ib la hsc
        have hul : us.length = a.length := by rw [← hu]; simp
        have hvl : vs.length = b.length := by rw [← hv]; simp
        have hst : a.length + b.length < 9223372036854775808 := by omega
        cases us with
        | nil =>
          cases vs with
          | nil =>
            have hsc : scal1 AB.argV = true := hsc
            have la : listS.S [.nils, .agg [.int .i64 2, .int .i64 0, .str [91, 93], .nils]] = some (.agg [.int .i64 AB.kind, .int .i64 AB.num, .str AB.name, AB.argV]) := by
              have e := la
              simp only [List.append_nil, List.map_nil] at e
              have e2 := listS_nils nilT
              rw [nilT_cells] at e2
              have e3 : listS.S [.sl [], .agg [.int .i64 2, .int .i64 0, .str [91, 93], .nils]] = some (.agg [.int .i64 2, .int .i64 0, .str [91, 93], .nils]) := by
                have := listS_at [] nilT (by simp)
                rw [nilT_cells] at this
                exact this
              rw [e3] at e
              rw [e2, e]
            simp [ssJ, run4, c4, awake16S_f, awake16S_at, atomS_f, goodTS_f, charsS_f, itemsS_f, listS_f, nameS_f, sameS_f, h1, hw, ca, cb, cab, ce, ga, gb, ka, kb, ia, ib, la, na, sa, rA, rB, rAB, frz_argV, slT, hsc, hst]
          | cons d s =>
            have hsc : scal1 AB.argV = false := hsc
            have he := fun h => elemsA_T h (d :: s)
            have b1 : (s.length + 1) * 56 ≤ 140737488355328 := by simp at hvl; omega
            have b2 : s.length + 1 < 9223372036854775808 := by simp at hvl; omega
            have hf : ∀ (A B C D : AObj) (wl md k : Nat), frz ⟨5, [.row (flatT (d :: s)), A, B, C, D], wl, md⟩ 0 (k + 2) (.vec 4 0 (s.length + 1) 4 (s.length + 1)) = some (.sl ((d :: s).map Tm.enc), [4]) := fun A B C D wl md k => frz_T d s (by omega) rfl
            have hr := encs_refs (d :: s)
            have hr2 := flatT_refs (d :: s)
            simp only [List.nil_append, List.map_cons, List.length_cons] at la he hf hr
            simp [ssJ, run4, c4, awake16S_f, awake16S_at, atomS_f, goodTS_f, charsS_f, itemsS_f, listS_f, nameS_f, sameS_f, h1, hw, ca, cb, cab, ce, ga, gb, ka, kb, ia, ib, la, na, sa, rA, rB, rAB, frz_argV, slT, hsc, hst, he, b1, b2, hf, hr, hr2]
        | cons c r =>
          cases vs with
          | nil =>
            have hsc : scal1 AB.argV = false := hsc
            have he := fun h => elemsA_T h (c :: r)
            have b1 : (r.length + 1) * 56 ≤ 140737488355328 := by simp at hul; omega
            have b2 : r.length + 1 < 9223372036854775808 := by simp at hul; omega
            have hf : ∀ (A B C D : AObj) (wl md k : Nat), frz ⟨5, [.row (flatT (c :: r)), A, B, C, D], wl, md⟩ 0 (k + 2) (.vec 4 0 (r.length + 1) 4 (r.length + 1)) = some (.sl ((c :: r).map Tm.enc), [4]) := fun A B C D wl md k => frz_T c r (by omega) rfl
            have hr := encs_refs (c :: r)
            have hr2 := flatT_refs (c :: r)
            have hfl := flatT_len (c :: r)
            simp only [List.append_nil, List.map_cons, List.length_cons] at la he hf hr hfl
            simp [ssJ, run4, c4, awake16S_f, awake16S_at, atomS_f, goodTS_f, charsS_f, itemsS_f, listS_f, nameS_f, sameS_f, h1, hw, ca, cb, cab, ce, ga, gb, ka, kb, ia, ib, la, na, sa, rA, rB, rAB, frz_argV, slT, hsc, hst, he, b1, b2, hf, hr, hr2, hfl]
          | cons d s =>
            have hsc : scal1 AB.argV = false := hsc
            have he := fun h => elemsA_T h (c :: r)
            have he2 := fun h => elemsA_T h (d :: s)
            have b1 : (r.length + 1) * 56 ≤ 140737488355328 := by simp at hul; omega
            have b2 : r.length + 1 < 9223372036854775808 := by simp at hul; omega
            have b3 : (r.length + 1 + (s.length + 1)) * 56 ≤ 140737488355328 := by simp at hul hvl; omega
            have b4 : r.length + 1 + (s.length + 1) < 9223372036854775808 := by simp at hul hvl; omega
            have b5 : ((r.length + 1 + (s.length + 1)) * 4 ≤ (r.length + 1) * 4) = False := eq_false (by omega)
            have b6 : (r.length + 1 + (s.length + 1) ≤ r.length + 1) = False := eq_false (by omega)
            have hf : ∀ (A B C D E : AObj) (wl md k : Nat), frz ⟨6, [.row (flatT (c :: r) ++ flatT (d :: s)), A, B, C, D, E], wl, md⟩ 0 (k + 2) (.vec 5 0 (r.length + 1 + (s.length + 1)) 4 (r.length + 1 + (s.length + 1))) = some (.sl ((c :: (r ++ d :: s)).map Tm.enc), [5]) := fun A B C D E wl md k => by
              have := frz_T (h := ⟨6, [.row (flatT (c :: r) ++ flatT (d :: s)), A, B, C, D, E], wl, md⟩) (n0 := 0) (d := k) (id := 5) c (r ++ d :: s) (by omega) (by simp [flatT, Heap.get])
              rw [List.length_append, List.length_cons, show r.length + (s.length + 1) + 1 = r.length + 1 + (s.length + 1) by omega] at this
              exact this
            have hr := encs_refs (c :: r)
            have hr1 := encs_refs (d :: s)
            have hr2 := flatT_refs (c :: r)
            have hr4 : AV.refsL (flatT (c :: r) ++ flatT (d :: s)) = 0 := by
              have := flatT_refs ((c :: r) ++ (d :: s))
              rw [show flatT ((c :: r) ++ (d :: s)) = flatT (c :: r) ++ flatT (d :: s) by simp [flatT]] at this
              exact this
            have hfl := flatT_len (c :: r)
            have hft : (flatT (c :: r)).take ((r.length + 1) * 4) = flatT (c :: r) := by rw [List.take_of_length_le]; rw [hfl]; exact Nat.le_refl _
            simp only [List.cons_append, List.map_cons, List.map_append, List.length_cons] at la he he2 hf hr hr1 hfl
            simp [ssJ, run4, c4, awake16S_f, awake16S_at, atomS_f, goodTS_f, charsS_f, itemsS_f, listS_f, nameS_f, sameS_f, h1, hw, ca, cb, cab, ce, ga, gb, ka, kb, ia, ib, la, na, sa, rA, rB, rAB, frz_argV, slT, hsc, hst, he, he2, b1, b2, b3, b4, b5, b6, hf, hr, hr1, hr2, hr4, hfl, hft]
  · have h1 : ((60 : Int) < (a.length : Int) + (b.length : Int)) = True := eq_true (by omega)
    have hw : IntKind.i64.wrap ((a.length : Int) + (b.length : Int)) = (a.length : Int) + (b.length : Int) := wrap_i64 (by omega) (by omega)
    simp [ssJ, run4, c4, awake16S_f, awake16S_at, atomS_f, goodTS_f, charsS_f, itemsS_f, listS_f, nameS_f, sameS_f, h1, hw]
end Go.Proofs.YtleeinkdkllcdaaGreatDoor

namespace Go.Proofs.YtleeinkdkllcdaaGreatDoor
open Go Sz

theorem textJoins_lawX {H : Type} (ds : List (DataW H)) (h : HasTys Tryz.prog Tryz.f4.params.toList (ds.map avOf)) (hw : (DataW.weightsEach Tryz.prog Tryz.f4.params.toList ds).all (· ≤ reachBytes) = true) : PrimOKX Tryz.prog TabX 4 (ds.map avOf) (.bool true) := by
  rw [Tryz.params4] at h hw
  match ds, h with
  | [d1, d2], .cons h1 (.cons h2 .nil) =>
    obtain ⟨a, e1, _⟩ := ty_str Tryz.underlying9 h1
    obtain ⟨b, e2, _⟩ := ty_str Tryz.underlying9 h2
    have hd := avOf_str e1
    subst hd
    have hd := avOf_str e2
    subst hd
    have ha : a.length ≤ 140737488351232 := str_len hw (by simp [DataW.weightsEach, DataW.weights])
    have hb : b.length ≤ 140737488351232 := str_len hw (by simp [DataW.weightsEach, DataW.weights])
    simp only [List.map_cons, List.map_nil, e1, e2]
    exact prim_of (envOf_okX ssJ_ok) (textJoins_run a b ha hb) rfl (by simp [AV.refsL, AV.refs])
end Go.Proofs.YtleeinkdkllcdaaGreatDoor
