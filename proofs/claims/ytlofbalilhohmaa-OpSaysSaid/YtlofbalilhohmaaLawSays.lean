/- Proved: sizarlaw5.OpSays answers true for every input and leaves its arguments as they were. Conditions: none. -/
import Derived.Test.YtlofbalilhohmaaLawSides
import Derived.Test.YtlofbalilhohmaaTy
set_option linter.unusedVariables false
set_option linter.unusedSimpArgs false
set_option linter.unusedSectionVars false

namespace Go.Proofs.Ytlofbalilhohmaa
open Go Sz
set_option linter.unusedSimpArgs false
attribute [local simp] evCode_skip evCode_reg evCode_dreg evCode_seq evCode_cond evCode_block evCode_exit evCode_ret evSteps_nil evSteps_op evSteps_opg evSteps_call evSteps_callg evSteps_callv evSteps_callvg evTr_nil evTr_cons evStep_op evStep_opg evStep_call evStep_callg evStep_callv evStep_callvg ldId chkTr
  evOp_mov evOp_pick evOp_box evOp_bld evOp_bsl evOp_ld evOp_st evOp_nck evOp_bin evOp_beq evOp_ceq evOp_peq evOp_not evOp_neg evOp_xor evOp_cvi evOp_cvss evOp_cvis evOp_cvsb evOp_mki evOp_mkf evOp_mkm evOp_mks evOp_sls evOp_slv evOp_fad evOp_fld1 evOp_fldn evOp_iad evOp_ixs evOp_ext evOp_lens evOp_lenv evOp_mx evOp_mn evOp_app evOp_bs0 evOp_snil evOp_clr
  FM_ev ev_const FM_put put_none FM_unwanted lk_hit lk_miss lk_nil FM_clear FM_clearB trues pick gc_FM gc_FM0 incK snds renM allM evB_fm enumA cells_agg cells_bool cells_int cells_str cells_nilp cells_ptr cells_ip cells_nils cells_sl cells_vec cells_nilm cells_map cells_nilfn cells_fn cells_nili cells_iface ldA row_mk get_mk set_mk mark_mk alloc_mk' trunc_mk binA resAll_nil resAll_cons FM_resT FM_resC oneOf finish_mk frz_undef frz_bool frz_int frz_str frz_nilp frz_ptr frz_ip frz_nils frz_sl frz_nilm frz_map frz_nilfn frz_fn frz_nili frz_iface frz_old frz_agg frz_tuple frzL_nil frzL_cons kill AV.refs AV.refsL evCall_spec lookS clones cloneS_f cloneS_nils cloneS_sl0 fillA putAt_nil putAt_cons evCode_loop bgn_mk aft_mk keeps objsAt ren renId AV.top lowObj h0 succ_le_f elemsA_nils elemsA_vec elemsA_str


theorem add_snd {l : List Opr} {o : Opr} (h : (addK l o).1 ≠ 0) : (addK l o).2 = [] := by
  revert h
  unfold addK
  cases goodK l with
  | false => intro _; rfl
  | true =>
  cases o.n == [44] with
  | true => intro _; rfl
  | false =>
  cases mayK o.n o.k (if o.l = 0 then 1 else o.l) with
  | false => intro _; rfl
  | true =>
  cases find1 (fun x => alikeK x o) l with
  | none =>
    by_cases h0 : o.l = 0
    · simp [h0]
    · by_cases h1 : 128 ≤ l.length
      · simp [h0, h1]
      · simp [h0, h1]
  | some i => by_cases h0 : o.l = 0 <;> simp [h0]
theorem add_len (l : List Opr) (o : Opr) : (addK l o).2.length ≤ l.length + 1 := by
  unfold addK
  cases goodK l with
  | false => simp
  | true =>
  cases o.n == [44] with
  | true => simp
  | false =>
  cases mayK o.n o.k (if o.l = 0 then 1 else o.l) with
  | false => simp
  | true =>
  cases find1 (fun x => alikeK x o) l with
  | none =>
    by_cases h0 : o.l = 0
    · simp [h0]
    · by_cases h1 : 128 ≤ l.length
      · simp [h0, h1]
      · simp [h0, h1]
  | some i =>
    by_cases h0 : o.l = 0
    · simp [h0, List.length_eraseIdx]
      split <;> omega
    · simp [h0]

theorem finds {l : List Opr} (hg : goodK l = true) (name : List UInt8) (a : Bool) :
    (∃ i x, l[i]? = some x ∧ findK l name a = (x, true) ∧ rfindI l name (!a) = (i : Nat)) ∨ (findK l name a = (zeroO, false) ∧ rfindI l name (!a) = -1) := by
  have e := findI_eq (goodK_iff.1 hg).2 name a
  unfold findK rfindI
  rw [e]
  cases hf : find1 (fun o => o.n == name && aheadK o.k == a) l with
  | none => exact .inr ⟨rfl, rfl⟩
  | some i =>
    obtain ⟨x, h1, _, _⟩ := find1_some hf
    refine .inl ⟨i, x, h1, ?_, rfl⟩
    simp [hg, List.getD_eq_getElem?_getD, h1]
theorem find_bad {l : List Opr} (hg : goodK l = false) (name : List UInt8) (a : Bool) : findK l name a = (zeroO, false) := by
  unfold findK
  cases find1 (fun o => o.n == name && aheadK o.k == a) l with
  | none => rfl
  | some i => simp [hg]

set_option maxRecDepth 100000 in
set_option maxHeartbeats 10000000 in
theorem opSays_prim (l : List Opr) (o : Opr) (name : List UInt8) : PrimOK Try.prog 5 [.sl (l.map Opr.enc), o.enc, .str name] (.bool true) := by
  refine prim_of (n := 20) (h' := h0) (envOf_ok (ss := [awakeS, ownS, addS, raddS, rgoodsS, preS, inS, sidesS 9, sidesS 19, rfindS, goodS, sameS])
    (by simp [awakeS_ok, ownS_ok, addS_ok, raddS_ok, rgoodsS_ok, preS_ok, inS_ok, sides9_ok, sides19_ok, rfindS_ok, goodS_ok, sameS_ok])) ?_ rfl (by simp [AV.refsL, AV.refs, encs_refs, Opr.enc])
  have h5 : AV.refsL (l.map Opr.enc) = 0 := encs_refs l
  by_cases h140 : (140 : Int) < (l.length : Int)
  · simp [run5, c5, h140, Opr.enc]
  · have hl : l.length < 4611686018427387904 := by omega
    have hl2 : l.length < 1099511627776 := by omega
    obtain ⟨a, b, c⟩ := o
    have k1 := ownS_at (v := .sl (l.map Opr.enc)) (.inl rfl) hl2
    have k2 := addS_at l a b c hl
    have k3 := raddS_at l a b c hl2
    have k4 := rgoodsS_at (slN_is l) hl
    have k5 := preS_at l name hl
    have k6 := inS_at l name hl
    have k7 := rfindS_at name false (slN_is l) hl
    have k8 := rfindS_at name true (slN_is l) hl
    have k9 := goodS_at l hl
    rw [rgoods_eq] at k4
    rw [radd_eq] at k3
    have hs := add_snd (l := l) (o := ⟨a, b, c⟩)
    have hlen := add_len l ⟨a, b, c⟩
    generalize addK l ⟨a, b, c⟩ = A at k2 k3 hs hlen
    obtain ⟨e, L⟩ := A
    dsimp only at k2 k3 hs hlen
    have hv : IsSl (if e = 0 then .sl (L.map Opr.enc) else .nils) L := by
      by_cases he : e = 0
      · rw [if_pos he]; exact .inl rfl
      · rw [if_neg he]; exact .inr ⟨hs he, rfl⟩
    have k10 := ownS_at hv (by omega)
    have k11 := sameS_at (slN_is L) (slN_is L) (by omega)
    rw [sameK_refl] at k11
    have hr : ∀ l, (slN l).refs = 0 := slN_refs
    generalize (if e = 0 then AV.sl (L.map Opr.enc) else .nils) = V at *
    cases hg : goodK l with
    | false =>
      rw [find_bad hg] at k5 k6
      rw [hg] at k4 k9
      simp [run5, c5, h140, Opr.enc, k1, k2, k3, k4, k5, k6, k7, k8, k9, k10, k11, zeroO, eqCells, eqCell]
    | true =>
      rw [hg] at k4 k9
      rcases finds hg name true with ⟨i, x, x1, x2, x3⟩ | ⟨x2, x3⟩ <;> rcases finds hg name false with ⟨j, y, y1, y2, y3⟩ | ⟨y2, y3⟩
      all_goals (simp only [Bool.not_true, Bool.not_false] at x3 y3; rw [x2] at k5; rw [y2] at k6; rw [x3] at k7; rw [y3] at k8)
      · have h4 : ∀ o : Opr, (o.enc).cells? = some [.str o.n, .str o.k, .int .i64 o.l] := fun _ => rfl
        simp [run5, c5, h140, Opr.enc, k1, k2, k3, k4, k5, k6, k7, k8, k9, k10, k11, zeroO, eqCells, eqCell, x1, y1]
      · simp [run5, c5, h140, Opr.enc, k1, k2, k3, k4, k5, k6, k7, k8, k9, k10, k11, zeroO, eqCells, eqCell, x1]
      · simp [run5, c5, h140, Opr.enc, k1, k2, k3, k4, k5, k6, k7, k8, k9, k10, k11, zeroO, eqCells, eqCell, y1]
      · simp [run5, c5, h140, Opr.enc, k1, k2, k3, k4, k5, k6, k7, k8, k9, k10, k11, zeroO, eqCells, eqCell]
end Go.Proofs.Ytlofbalilhohmaa

namespace Go.Proofs.Ytlofbalilhohmaa
open Go Sz Go.ChangeShapes Go.WideShapes Go.ChangeAt Go.RowKit

theorem opSays_law (avs : List AV) (h : HasTys Try.prog Try.f5.params.toList avs) : PrimOK Try.prog 5 avs (.bool true) := by
  rw [Try.params5] at h
  cases h with
  | cons h1 r1 => cases r1 with
    | cons h2 r2 => cases r2 with
      | cons h3 r3 =>
        cases r3
        obtain ⟨l, rfl, _⟩ := oprs_of h1
        obtain ⟨o, rfl⟩ := opr_of h2
        obtain ⟨s, rfl, _⟩ := str_of h3
        exact opSays_prim l o s
set_option maxRecDepth 100000 in
theorem opSays_lifted (os : Os) (started : os.Started) (H : Type) (enc : TypeId × Value → H) :
    ReturnsInHanded {} Try.checked os 5 .any (Rows.opSaysSpec.pre6 enc Try.prog Try.f5 Rows.opSaysRow.domain false) (Rows.opSaysSpec.post enc Try.prog Try.f5 false true false false) := by
  refine returnsInHanded_of_change (C := Try.checked) Try.own started (by kernel_rfl) Try.func5
    (ChangeSpec.witness6 (enc := enc) (C := Try.checked) false ⟨#[], #[.slice none 0 0, .agg #[.string "".toUTF8, .string "".toUTF8, .int .i64 0], .string "".toUTF8], []⟩ 8 (by kernel_rfl) (by kernel_rfl) (by kernel_rfl) (by kernel_rfl)) ?_
  intro W base args ds gs before hval0 hW hcnd _
  exact law_calls (P := Try.prog) (S := [3, 9, 22, 30]) Try.func5 rfl rfl (by kernel_rfl) (by kernel_rfl) Try.underlying4 rfl Try.laidOut rfl (fun ds hd => by
    match ds, hd with
    | [d1, d2, d3], _ => rfl) opSays_law hval0 hW
theorem opSays_holds : Rows.OpSaysSaid :=
  OpenClaim.holds_of_wide 5 Try.f5 rfl rfl rfl rfl rfl rfl rfl ⟨rfl, rfl, rfl, rfl, rfl⟩ rfl rfl rfl rfl rfl (by kernel_rfl) Try.func5 (by kernel_rfl)
    (of_decide_eq_true (by kernel_rfl)) (by unfold Func.isWrapper; first | (rw [if_pos (by decide +kernel)]; kernel_rfl) | (rw [if_neg (by decide +kernel)]; exact ⟨rfl, rfl⟩))
    (fun os started H enc _ => opSays_lifted os started H enc)
end Go.Proofs.Ytlofbalilhohmaa
