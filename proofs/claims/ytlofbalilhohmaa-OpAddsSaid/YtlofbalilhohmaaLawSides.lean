/- Proved: sizarlaw5.OpSides answers true for every input and leaves its argument as it was. Conditions: none. -/
import Derived.Test.YtlofbalilhohmaaFn
import Derived.Test.YtlofbalilhohmaaSz3
import Derived.Test.YtlofbalilhohmaaTy
set_option linter.unusedVariables false
set_option linter.unusedSimpArgs false
set_option linter.unusedSectionVars false

namespace Go.Proofs.Ytlofbalilhohmaa
open Go Sz
set_option linter.unusedSimpArgs false
theorem evB_fm (ss : List Sz.Spec) (n : Nat) (F : AFun) (args : List AV) (h : Heap) (hle : args.length ≤ F.ntmps) : evB ss n F args h =
  match evCode (evCall (envOf ss) n) n F.code (FM F.ntmps (enumA 0 args)) ⟨h.next, h.objs, h.next, h.next⟩ with
    | some (.exit _, _, _) => none
    | some (_, fr, h') => (match resAll fr h' F.results with | some vs => some (finish F.keep h (oneOf vs) h') | none => none)
    | none => none := by
  rw [← FM_args args hle]
  rfl
attribute [local simp] evCode_skip evCode_reg evCode_dreg evCode_seq evCode_cond evCode_block evCode_exit evCode_ret evSteps_nil evSteps_op evSteps_opg evSteps_call evSteps_callg evSteps_callv evSteps_callvg evTr_nil evTr_cons evStep_op evStep_opg evStep_call evStep_callg evStep_callv evStep_callvg ldId chkTr
  evOp_mov evOp_pick evOp_box evOp_bld evOp_bsl evOp_ld evOp_st evOp_nck evOp_bin evOp_beq evOp_ceq evOp_peq evOp_not evOp_neg evOp_xor evOp_cvi evOp_cvss evOp_cvis evOp_cvsb evOp_mki evOp_mkf evOp_mkm evOp_mks evOp_sls evOp_slv evOp_fad evOp_fld1 evOp_fldn evOp_iad evOp_ixs evOp_ext evOp_lens evOp_lenv evOp_mx evOp_mn evOp_app evOp_bs0 evOp_snil evOp_clr
  FM_ev ev_const FM_put put_none FM_unwanted lk_hit lk_miss lk_nil FM_clear FM_clearB trues pick gc_FM gc_FM0 incK snds renM allM evB_fm enumA cells_agg cells_bool cells_int cells_str cells_nilp cells_ptr cells_ip cells_nils cells_sl cells_vec cells_nilm cells_map cells_nilfn cells_fn cells_nili cells_iface ldA row_mk get_mk set_mk mark_mk alloc_mk' trunc_mk binA resAll_nil resAll_cons FM_resT FM_resC oneOf finish_mk frz_undef frz_bool frz_int frz_str frz_nilp frz_ptr frz_ip frz_nils frz_sl frz_nilm frz_map frz_nilfn frz_fn frz_nili frz_iface frz_old frz_agg frz_tuple frzL_nil frzL_cons kill AV.refs AV.refsL evCall_spec lookS clones cloneS_f cloneS_nils cloneS_sl0 fillA putAt_nil putAt_cons evCode_loop bgn_mk aft_mk keeps objsAt ren renId AV.top lowObj h0 succ_le_f elemsA_nils elemsA_vec elemsA_str

theorem plain_good : goodK plainL = true := by kernel_rfl
theorem plain_plus : findK plainL [43] false = (⟨[43], [121, 102, 120], 500⟩, true) := by kernel_rfl
noncomputable def awakeS : Sz.Spec := .of 7 (fun _ : Unit => []) (fun _ => True) fun _ => .bool true
@[simp] theorem awakeS_f : awakeS.f = 7 := rfl
@[simp] theorem awakeS_at : awakeS.S [] = some (.bool true) :=
  Sz.Spec.of_at (f := 7) (enc := fun _ : Unit => []) (pre := fun _ => True) (val := fun _ => .bool true) (fun _ _ _ _ _ => rfl) () trivial
theorem awakeS_ok : SpecOK Try.prog awakeS := Sz.Spec.of_ok fun _ _ => by
  refine prim_of (n := 20) (h' := h0) (envOf_ok (ss := [plainS, inS, sidesS 9, goodS]) (by simp [plainS_ok, inS_ok, sides9_ok, goodS_ok])) ?_ rfl rfl
  have h1 := inS_at plainL [43] (by decide)
  have h2 := goodS_at plainL (by decide)
  rw [plain_plus] at h1
  rw [plain_good] at h2
  have h4 : (⟨[43], [121, 102, 120], 500⟩ : Opr).enc.cells? = some [.str [43], .str [121, 102, 120], .int .i64 500] := rfl
  have h5 : sidesK [121, 102, 120] 500 = (500, 499) := by decide
  simp [run7, c7, h1, h2, h4, h5, eqCells, eqCell]

set_option maxRecDepth 100000 in
set_option maxHeartbeats 10000000 in
theorem c3_loop (l : List Opr) (n : Nat) (hl : l.length < 4611686018427387904) (hg : goodK l = true) : ∀ post pre m, l = pre ++ post → post.length < m →
    aft 0 0 (loopH (evCode (evCall (envOf [awakeS, goodS, preS, inS, sidesS 9]) (n + 1)) (n + 1) c3_b0) c3_m0 0 m (FM 123 [(0, .sl (l.map Opr.enc)), (3, .int .i64 pre.length)]) ⟨0, [], 0, 0⟩) =
      some (.exit 0, FM 123 [], ⟨0, [], 0, 0⟩)
  | [], pre, m + 1, e, _ => by
    subst e
    simp [loopH_succ, c3_b0]
  | o :: post, pre, m + 1, e, hm => by
    have ih := c3_loop l n hl hg post (pre ++ [o]) m (by simp [e]) (by simpa using hm)
    have h1 : l[pre.length]? = some o := by rw [e]; simp
    have h2 : decide ((pre.length : Int) < (l.length : Int)) = true := by rw [e]; exact lt_mid _ _ _
    have h3 : IntKind.i64.wrap ((pre.length : Int) + 1) = (pre.length : Int) + 1 := by
      rw [wrap_succ (by rw [e] at hl; simp at hl; omega)]; simp
    have h4 : ∀ o : Opr, (o.enc).cells? = some [.str o.n, .str o.k, .int .i64 o.l] := fun _ => rfl
    have h5 : AV.refsL (l.map Opr.enc) = 0 := encs_refs l
    have h6 : (pre.length : Int) < (l.length : Int) := by simpa using h2
    have hp := preS_at l o.n hl
    have hi := inS_at l o.n hl
    have ho : o ∈ l := by rw [e]; simp
    obtain ⟨s1, s2, s3, s4, s5⟩ := sides_of ((goodK_iff.1 hg).2.1 o ho)
    have hf := findK_mem hg ho
    simp only [List.length_append, List.length_cons, List.length_nil, Nat.zero_add, Int.natCast_add, Int.natCast_one] at ih
    rw [loopH_succ]
    cases ha : aheadK o.k with
    | true =>
      rw [ha] at hf
      rw [hf] at hp
      by_cases hA : (sidesK o.k o.l).1 = o.l
      · have hB : ¬ ((sidesK o.k o.l).2 = o.l) := fun hB => s3 ⟨hA, hB⟩
        rw [hA] at s1 s4
        simp [c3_b0, c3_m0, h1, h3, h4, h5, h6, hp, hi, s1, s2, s4, s5, hA, hB, eqCells, eqCell]
        exact ih
      · simp [c3_b0, c3_m0, h1, h3, h4, h5, h6, hp, hi, s1, s2, s4, s5, hA, eqCells, eqCell]
        exact ih
    | false =>
      rw [ha] at hf
      rw [hf] at hi
      cases hq : (findK l o.n true).2 with
      | false =>
        rw [hq] at hp
        by_cases hA : (sidesK o.k o.l).1 = o.l
        · have hB : ¬ ((sidesK o.k o.l).2 = o.l) := fun hB => s3 ⟨hA, hB⟩
          rw [hA] at s1 s4
          simp [c3_b0, c3_m0, h1, h3, h4, h5, h6, hp, hi, s1, s2, s4, s5, hA, hB, eqCells, eqCell]
          exact ih
        · simp [c3_b0, c3_m0, h1, h3, h4, h5, h6, hp, hi, s1, s2, s4, s5, hA, eqCells, eqCell]
          exact ih
      | true =>
        rw [hq] at hp
        cases hc : ((findK l o.n true).1.n == o.n && ((findK l o.n true).1.k == o.k && decide ((findK l o.n true).1.l = o.l))) with
        | false =>
          by_cases hA : (sidesK o.k o.l).1 = o.l
          · have hB : ¬ ((sidesK o.k o.l).2 = o.l) := fun hB => s3 ⟨hA, hB⟩
            rw [hA] at s1 s4
            simp [c3_b0, c3_m0, h1, h3, h4, h5, h6, hp, hi, s1, s2, s4, s5, hA, hB, eqCells, eqCell, hc]
            exact ih
          · simp [c3_b0, c3_m0, h1, h3, h4, h5, h6, hp, hi, s1, s2, s4, s5, hA, eqCells, eqCell, hc]
            exact ih
        | true =>
          by_cases hA : (sidesK o.k o.l).1 = o.l
          · have hB : ¬ ((sidesK o.k o.l).2 = o.l) := fun hB => s3 ⟨hA, hB⟩
            rw [hA] at s1 s4
            simp [c3_b0, c3_m0, h1, h3, h4, h5, h6, hp, hi, s1, s2, s4, s5, hA, hB, eqCells, eqCell, hc]
            exact ih
          · simp [c3_b0, c3_m0, h1, h3, h4, h5, h6, hp, hi, s1, s2, s4, s5, hA, eqCells, eqCell, hc]
            exact ih

set_option maxRecDepth 100000 in
set_option maxHeartbeats 10000000 in
theorem opSides_prim (l : List Opr) : PrimOK Try.prog 3 [.sl (l.map Opr.enc)] (.bool true) := by
  refine prim_of (n := 200) (h' := h0) (envOf_ok (ss := [awakeS, goodS, preS, inS, sidesS 9]) (by simp [awakeS_ok, goodS_ok, preS_ok, inS_ok, sides9_ok])) ?_ rfl (by simp [AV.refsL, AV.refs, encs_refs])
  have h5 : AV.refsL (l.map Opr.enc) = 0 := encs_refs l
  by_cases h100 : (100 : Int) < (l.length : Int)
  · simp [run3, c3, h100]
  · have hl : l.length < 4611686018427387904 := by omega
    have hgs := goodS_at l hl
    cases hg : goodK l with
    | false => simp [run3, c3, h100, hgs, hg]
    | true =>
      have e := c3_loop l 198 hl hg l [] 199 rfl (by omega)
      simp only [List.length_nil, c3_m0, Int.natCast_zero] at e
      simp [run3, c3, c3_m0, h100, hgs, hg, h5, e]
end Go.Proofs.Ytlofbalilhohmaa

namespace Go.Proofs.Ytlofbalilhohmaa
open Go Sz Go.ChangeShapes Go.WideShapes Go.ChangeAt Go.RowKit

theorem opSides_law (avs : List AV) (h : HasTys Try.prog Try.f3.params.toList avs) : PrimOK Try.prog 3 avs (.bool true) := by
  rw [Try.params3] at h
  cases h with
  | cons h1 r1 =>
    cases r1
    obtain ⟨l, rfl, _⟩ := oprs_of h1
    exact opSides_prim l
set_option maxRecDepth 100000 in
theorem opSides_lifted (os : Os) (started : os.Started) (H : Type) (enc : TypeId × Value → H) :
    ReturnsInHanded {} Try.checked os 3 .any (Rows.opSidesSpec.pre6 enc Try.prog Try.f3 Rows.opSidesRow.domain false) (Rows.opSidesSpec.post enc Try.prog Try.f3 false true false false) := by
  refine returnsInHanded_of_change (C := Try.checked) Try.own started (by kernel_rfl) Try.func3
    (ChangeSpec.witness6 (enc := enc) (C := Try.checked) false ⟨#[], #[.slice none 0 0], []⟩ 8 (by kernel_rfl) (by kernel_rfl) (by kernel_rfl) (by kernel_rfl)) ?_
  intro W base args ds gs before hval0 hW hcnd _
  exact law_calls (P := Try.prog) (S := [3, 9, 22, 30]) Try.func3 rfl rfl (by kernel_rfl) (by kernel_rfl) Try.underlying4 rfl Try.laidOut rfl (fun ds hd => by
    match ds, hd with
    | [d], _ => rfl) opSides_law hval0 hW
theorem opSides_holds : Rows.OpSidesSaid :=
  OpenClaim.holds_of_wide 3 Try.f3 rfl rfl rfl rfl rfl rfl rfl ⟨rfl, rfl, rfl, rfl, rfl⟩ rfl rfl rfl rfl rfl (by kernel_rfl) Try.func3 (by kernel_rfl)
    (of_decide_eq_true (by kernel_rfl)) (by unfold Func.isWrapper; first | (rw [if_pos (by decide +kernel)]; kernel_rfl) | (rw [if_neg (by decide +kernel)]; exact ⟨rfl, rfl⟩))
    (fun os started H enc _ => opSides_lifted os started H enc)
end Go.Proofs.Ytlofbalilhohmaa
