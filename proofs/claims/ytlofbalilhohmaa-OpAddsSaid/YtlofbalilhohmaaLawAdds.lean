/- Proved: sizarlaw5.OpAdds answers true for every input and leaves its arguments as they were. Conditions: none. -/
import Derived.Test.YtlofbalilhohmaaLawSays
import Derived.Test.YtlofbalilhohmaaTy
set_option linter.unusedVariables false
set_option linter.unusedSimpArgs false
set_option linter.unusedSectionVars false

namespace Go.Proofs.Ytlofbalilhohmaa
open Go Sz
set_option linter.unusedSimpArgs false
attribute [local simp] evCode_skip evCode_reg evCode_dreg evCode_seq evCode_cond evCode_block evCode_exit evCode_ret evSteps_nil evSteps_op evSteps_opg evSteps_call evSteps_callg evSteps_callv evSteps_callvg evTr_nil evTr_cons evStep_op evStep_opg evStep_call evStep_callg evStep_callv evStep_callvg ldId chkTr
  evOp_mov evOp_pick evOp_box evOp_bld evOp_bsl evOp_ld evOp_st evOp_nck evOp_bin evOp_beq evOp_ceq evOp_peq evOp_not evOp_neg evOp_xor evOp_cvi evOp_cvss evOp_cvis evOp_cvsb evOp_mki evOp_mkf evOp_mkm evOp_mks evOp_sls evOp_slv evOp_fad evOp_fld1 evOp_fldn evOp_iad evOp_ixs evOp_ext evOp_lens evOp_lenv evOp_mx evOp_mn evOp_app evOp_bs0 evOp_snil evOp_clr
  FM_ev ev_const FM_put put_none FM_unwanted lk_hit lk_miss lk_nil FM_clear FM_clearB trues pick gc_FM gc_FM0 incK snds renM allM evB_fm enumA cells_agg cells_bool cells_int cells_str cells_nilp cells_ptr cells_ip cells_nils cells_sl cells_vec cells_nilm cells_map cells_nilfn cells_fn cells_nili cells_iface ldA row_mk get_mk set_mk mark_mk alloc_mk' trunc_mk binA resAll_nil resAll_cons FM_resT FM_resC oneOf finish_mk frz_undef frz_bool frz_int frz_str frz_nilp frz_ptr frz_ip frz_nils frz_sl frz_nilm frz_map frz_nilfn frz_fn frz_nili frz_iface frz_old frz_agg frz_tuple frzL_nil frzL_cons kill AV.refs AV.refsL evCall_spec lookS clones cloneS_f cloneS_nils cloneS_sl0 fillA putAt_nil putAt_cons evCode_loop bgn_mk aft_mk keeps objsAt ren renId AV.top lowObj h0 succ_le_f elemsA_nils elemsA_vec elemsA_str


theorem may_level {l : List Opr} {o : Opr} {L : List Opr} (h : addK l o = (0, L)) : o.l = 0 ∨ 1 ≤ o.l := by
  have hm := (add_spec h).2.1
  by_cases h0 : o.l = 0
  · exact .inl h0
  · rw [if_neg h0] at hm
    exact .inr (may_kind hm).2.1
theorem may_side {l : List Opr} {o : Opr} {L : List Opr} (h : addK l o = (0, L)) : betweenK o.k = !aheadK o.k := (may_kind (add_spec h).2.1).1
theorem find_added {l : List Opr} {o : Opr} {L : List Opr} (h : addK l o = (0, L)) : findK L o.n (aheadK o.k) = if o.l = 0 then (zeroO, false) else (o, true) := by
  obtain ⟨h1, h2, h3, h4⟩ := add_spec h
  by_cases h0 : o.l = 0
  · rw [if_pos h0]
    refine findK_none fun x hx => ?_
    rcases (h4 x).1 hx with ⟨hn, _⟩ | ⟨_, ha⟩
    · exact absurd h0 hn
    · exact ha
  · rw [if_neg h0]
    exact findK_mem h3 ((h4 o).2 (.inl ⟨h0, rfl⟩))
theorem find_other {l : List Opr} {o : Opr} {L : List Opr} (h : addK l o = (0, L)) {name : List UInt8} (hn : name ≠ o.n) (a : Bool) : findK L name a = findK l name a := by
  obtain ⟨h1, h2, h3, h4⟩ := add_spec h
  have mem : ∀ x : Opr, x.n = name → (x ∈ L ↔ x ∈ l) := fun x hx => by
    rw [h4]
    constructor
    · rintro (⟨_, rfl⟩ | ⟨hm, _⟩)
      · exact absurd hx.symm hn
      · exact hm
    · intro hm
      refine .inr ⟨hm, ?_⟩
      unfold alikeK
      have : (x.n == o.n) = false := by simpa using fun e => hn (hx.symm.trans e)
      rw [this]; rfl
  rcases findK_cases h1 name a with ⟨x, hx, e1, e2, e3⟩ | ⟨hx, e3⟩
  · rw [e3]
    have := findK_mem h3 ((mem x e1).2 hx)
    rw [e1, e2] at this
    exact this
  · rw [e3]
    refine findK_none fun x hx' => ?_
    by_cases e : x.n = name
    · exact hx x ((mem x e).1 hx')
    · have : (x.n == name) = false := by simpa using e
      rw [this]; rfl

set_option maxRecDepth 100000 in
set_option maxHeartbeats 10000000 in
theorem opAdds_prim (l : List Opr) (o : Opr) (other : List UInt8) : PrimOK Try.prog 6 [.sl (l.map Opr.enc), o.enc, .str other] (.bool true) := by
  refine prim_of (n := 20) (h' := h0) (envOf_ok (ss := [awakeS, addS, preS, inS, goodS]) (by simp [awakeS_ok, addS_ok, preS_ok, inS_ok, goodS_ok])) ?_ rfl (by simp [AV.refsL, AV.refs, encs_refs, Opr.enc])
  have h5 : AV.refsL (l.map Opr.enc) = 0 := encs_refs l
  by_cases h120 : (120 : Int) < (l.length : Int)
  · simp [run6, c6, h120, Opr.enc]
  · have hl : l.length < 4611686018427387904 := by omega
    have k9 := goodS_at l hl
    cases hg : goodK l with
    | false =>
      rw [hg] at k9
      simp [run6, c6, h120, Opr.enc, k9]
    | true =>
      rw [hg] at k9
      obtain ⟨a, b, c⟩ := o
      have k2 := addS_at l a b c hl
      cases hA : addK l ⟨a, b, c⟩ with
      | mk e L =>
      rw [hA] at k2
      by_cases he : e = 0
      · subst he
        have hlen := add_len l ⟨a, b, c⟩
        rw [hA] at hlen
        dsimp only at hlen k2
        have hL : L.length < 4611686018427387904 := by omega
        have p1 := preS_at L a hL
        have i1 := inS_at L a hL
        have p2 := preS_at L other hL
        have i2 := inS_at L other hL
        have p3 := preS_at l other hl
        have i3 := inS_at l other hl
        have g2 := goodS_at L hL
        rw [(add_spec hA).2.2.1] at g2
        have hfa := find_added hA
        have hsd := may_side hA
        have hlv := may_level hA
        dsimp only at hfa hsd hlv
        have h4 : ∀ o : Opr, (o.enc).cells? = some [.str o.n, .str o.k, .int .i64 o.l] := fun _ => rfl
        have hrL : AV.refsL (L.map Opr.enc) = 0 := encs_refs L
        rw [if_pos rfl] at k2
        have hfo := fun hn a => find_other hA (name := other) hn a
        dsimp only at hfo
        have kinds : (aheadK b = true ∧ (b == [120, 102, 120]) = false ∧ (b == [120, 102, 121]) = false ∧ (b == [121, 102, 120]) = false) ∨ (aheadK b = false ∧ ((b == [120, 102, 120]) = true ∨ (b == [120, 102, 120]) = false ∧ ((b == [120, 102, 121]) = true ∨ (b == [120, 102, 121]) = false ∧ (b == [121, 102, 120]) = true))) := by
          unfold betweenK at hsd
          cases h1 : aheadK b <;> rw [h1] at hsd <;> cases e1 : b == [120, 102, 120] <;> cases e2 : b == [120, 102, 121] <;> cases e3 : b == [121, 102, 120] <;> simp_all
        have lvl : (c = 0) ∨ (¬ c = 0 ∧ 0 < c) := by omega
        by_cases ho : other = a
        · subst ho
          rcases lvl with rfl | ⟨c1, c2⟩
          · rw [if_pos rfl] at hfa
            rcases kinds with ⟨ha, e1, e2, e3⟩ | ⟨ha, e1 | ⟨e1, e2 | ⟨e2, e3⟩⟩⟩ <;> rw [ha] at hfa
            · rw [hfa] at p1
              simp [run6, c6, h120, Opr.enc, k9, k2, p1, i1, g2, h4, zeroO, eqCells, eqCell, e1, e2, e3]
            · rw [hfa] at i1
              simp [run6, c6, h120, Opr.enc, k9, k2, p1, i1, g2, h4, zeroO, eqCells, eqCell, e1]
            · rw [hfa] at i1
              simp [run6, c6, h120, Opr.enc, k9, k2, p1, i1, g2, h4, zeroO, eqCells, eqCell, e1, e2]
            · rw [hfa] at i1
              simp [run6, c6, h120, Opr.enc, k9, k2, p1, i1, g2, h4, zeroO, eqCells, eqCell, e1, e2, e3]
          · rw [if_neg c1] at hfa
            rcases kinds with ⟨ha, e1, e2, e3⟩ | ⟨ha, e1 | ⟨e1, e2 | ⟨e2, e3⟩⟩⟩ <;> rw [ha] at hfa
            · rw [hfa] at p1
              simp [run6, c6, h120, Opr.enc, k9, k2, p1, i1, g2, h4, eqCells, eqCell, e1, e2, e3, c2]
            · rw [hfa] at i1
              simp [run6, c6, h120, Opr.enc, k9, k2, p1, i1, g2, h4, eqCells, eqCell, e1, c2]
            · rw [hfa] at i1
              simp [run6, c6, h120, Opr.enc, k9, k2, p1, i1, g2, h4, eqCells, eqCell, e1, e2, c2]
            · rw [hfa] at i1
              simp [run6, c6, h120, Opr.enc, k9, k2, p1, i1, g2, h4, eqCells, eqCell, e1, e2, e3, c2]
        · rw [hfo ho] at p2 i2
          rcases lvl with rfl | ⟨c1, c2⟩
          · rw [if_pos rfl] at hfa
            rcases kinds with ⟨ha, e1, e2, e3⟩ | ⟨ha, e1 | ⟨e1, e2 | ⟨e2, e3⟩⟩⟩ <;> rw [ha] at hfa
            · rw [hfa] at p1
              simp [run6, c6, h120, Opr.enc, k9, k2, p1, i1, p2, i2, p3, i3, g2, h4, zeroO, eqCells, eqCell, e1, e2, e3, ho]
            · rw [hfa] at i1
              simp [run6, c6, h120, Opr.enc, k9, k2, p1, i1, p2, i2, p3, i3, g2, h4, zeroO, eqCells, eqCell, e1, ho]
            · rw [hfa] at i1
              simp [run6, c6, h120, Opr.enc, k9, k2, p1, i1, p2, i2, p3, i3, g2, h4, zeroO, eqCells, eqCell, e1, e2, ho]
            · rw [hfa] at i1
              simp [run6, c6, h120, Opr.enc, k9, k2, p1, i1, p2, i2, p3, i3, g2, h4, zeroO, eqCells, eqCell, e1, e2, e3, ho]
          · rw [if_neg c1] at hfa
            rcases kinds with ⟨ha, e1, e2, e3⟩ | ⟨ha, e1 | ⟨e1, e2 | ⟨e2, e3⟩⟩⟩ <;> rw [ha] at hfa
            · rw [hfa] at p1
              simp [run6, c6, h120, Opr.enc, k9, k2, p1, i1, p2, i2, p3, i3, g2, h4, eqCells, eqCell, e1, e2, e3, c2, ho]
            · rw [hfa] at i1
              simp [run6, c6, h120, Opr.enc, k9, k2, p1, i1, p2, i2, p3, i3, g2, h4, eqCells, eqCell, e1, c2, ho]
            · rw [hfa] at i1
              simp [run6, c6, h120, Opr.enc, k9, k2, p1, i1, p2, i2, p3, i3, g2, h4, eqCells, eqCell, e1, e2, c2, ho]
            · rw [hfa] at i1
              simp [run6, c6, h120, Opr.enc, k9, k2, p1, i1, p2, i2, p3, i3, g2, h4, eqCells, eqCell, e1, e2, e3, c2, ho]
      · simp [run6, c6, h120, Opr.enc, k9, k2, he]
end Go.Proofs.Ytlofbalilhohmaa

namespace Go.Proofs.Ytlofbalilhohmaa
open Go Sz Go.ChangeShapes Go.WideShapes Go.ChangeAt Go.RowKit

theorem opAdds_law (avs : List AV) (h : HasTys Try.prog Try.f6.params.toList avs) : PrimOK Try.prog 6 avs (.bool true) := by
  rw [Try.params6] at h
  cases h with
  | cons h1 r1 => cases r1 with
    | cons h2 r2 => cases r2 with
      | cons h3 r3 =>
        cases r3
        obtain ⟨l, rfl, _⟩ := oprs_of h1
        obtain ⟨o, rfl⟩ := opr_of h2
        obtain ⟨s, rfl, _⟩ := str_of h3
        exact opAdds_prim l o s
set_option maxRecDepth 100000 in
theorem opAdds_lifted (os : Os) (started : os.Started) (H : Type) (enc : TypeId × Value → H) :
    ReturnsInHanded {} Try.checked os 6 .any (Rows.opAddsSpec.pre6 enc Try.prog Try.f6 Rows.opAddsRow.domain false) (Rows.opAddsSpec.post enc Try.prog Try.f6 false true false false) := by
  refine returnsInHanded_of_change (C := Try.checked) Try.own started (by kernel_rfl) Try.func6
    (ChangeSpec.witness6 (enc := enc) (C := Try.checked) false ⟨#[], #[.slice none 0 0, .agg #[.string "".toUTF8, .string "".toUTF8, .int .i64 0], .string "".toUTF8], []⟩ 8 (by kernel_rfl) (by kernel_rfl) (by kernel_rfl) (by kernel_rfl)) ?_
  intro W base args ds gs before hval0 hW hcnd _
  exact law_calls (P := Try.prog) (S := [3, 9, 22, 30]) Try.func6 rfl rfl (by kernel_rfl) (by kernel_rfl) Try.underlying4 rfl Try.laidOut rfl (fun ds hd => by
    match ds, hd with
    | [d1, d2, d3], _ => rfl) opAdds_law hval0 hW
theorem opAdds_holds : Rows.OpAddsSaid :=
  OpenClaim.holds_of_wide 6 Try.f6 rfl rfl rfl rfl rfl rfl rfl ⟨rfl, rfl, rfl, rfl, rfl⟩ rfl rfl rfl rfl rfl (by kernel_rfl) Try.func6 (by kernel_rfl)
    (of_decide_eq_true (by kernel_rfl)) (by unfold Func.isWrapper; first | (rw [if_pos (by decide +kernel)]; kernel_rfl) | (rw [if_neg (by decide +kernel)]; exact ⟨rfl, rfl⟩))
    (fun os started H enc _ => opAdds_lifted os started H enc)
end Go.Proofs.Ytlofbalilhohmaa
