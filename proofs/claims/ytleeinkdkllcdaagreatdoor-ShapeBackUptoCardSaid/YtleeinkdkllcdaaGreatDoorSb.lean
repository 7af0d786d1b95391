import Derived.Test.YtleeinkdkllcdaaGreatDoorSh
import Derived.Test.YtleeinkdkllcdaaGreatDoorFn
import Derived.Test.YtleeinkdkllcdaaGreatDoorPl
import Derived.Test.YtleeinkdkllcdaaGreatDoorTm
import Derived.Test.YtleeinkdkllcdaaGreatDoorTy
set_option linter.unusedVariables false
set_option linter.unusedSimpArgs false
set_option linter.unusedSectionVars false

namespace Go.Proofs.YtleeinkdkllcdaaGreatDoor
open Go Sz
set_option linter.unusedSimpArgs false
attribute [local simp] seqF condF stepF callF callvF guardF trF step1F call1F callv1F guard1F seqK_n seqK_e seqK_r condK_t condK_f stK_s gdK_t gdK_f cvK_f trK_s trK1_s stK1_s gdK1_t gdK1_f cvK1_f evCode_skip evCode_reg evCode_dreg evCode_block evCode_exit evCode_ret evSteps_nil evTr_nil ldId chkTr
 evOp_mov evOp_pick evOp_box evOp_bld evOp_bsl evOp_ld evOp_st evOp_nck evOp_bin evOp_beq evOp_ceq evOp_peq evOp_not evOp_neg evOp_xor evOp_cvi evOp_cvss evOp_cvis evOp_cvsb evOp_mki evOp_mkf evOp_mkm evOp_mks evOp_sls evOp_slv evOp_fad evOp_fld1 evOp_fldn evOp_iad evOp_ixs evOp_ext evOp_lens evOp_lenv evOp_mx evOp_mn evOp_app evOp_bs0 evOp_snil evOp_clr
 FM_ev ev_const FM_put put_none FM_unwanted lk_hit lk_miss lk_nil FM_clear FM_clearB trues pick gc_FM gc_FM0 incK snds renM allM evB_fm enumA cells_agg cells_bool cells_int cells_str cells_nilp cells_ptr cells_ip cells_nils cells_sl cells_vec cells_nilm cells_map cells_nilfn cells_fn cells_nili cells_iface ldA row_mk get_mk set_mk mark_mk alloc_mk' trunc_mk binA resAll_nil resAll_cons FM_resT FM_resC oneOf finish_mk frz_undef frz_bool frz_int frz_str frz_nilp frz_ptr frz_ip frz_nils frz_sl frz_nilm frz_map frz_nilfn frz_fn frz_nili frz_iface frz_old frz_agg frz_tuple frzL_nil frzL_cons kill_nil kill_cons chunk_zero chunk_succ AV.refs AV.refsL evCall_spec lookF_nil lookF_cons callS_nil callS_oneF spK_s spK_n frK_s frK_n clones cloneS_f cloneS_nils cloneS_sl0 fillA putAt_nil putAt_cons evCode_loop bgn_mk aft_mk keeps objsAt ren renId AV.top lowObj h0 succ_le_f oldK oldAll oldLow oldRen lowCells_row lowCells_map lowCells_dead objCells topLow renObj List.idxOf_cons List.idxOf_nil nilA nilK elemsA_nils elemsA_vec elemsA_str evOp_die evOp_lkp evOp_cvbs lookA scal_bool scal_int scal_str scal_nils scal_sl scal_tuple scal_agg scal1_bool scal1_int scal1_str scal1_nils scal1_sl scal1_agg
attribute [local simp low] frz_vecR

/-! The law's deep. -/

def anyD (p : Tm → Bool) : List Tm → Bool
  | [] => false
  | x :: r => if p x then true else anyD p r
def deepT : Nat → Tm → Bool
  | 0, _ => true
  | n + 1, t => if 12 < t.args.length then true else anyD (deepT n) t.args

def deepKS (m : Nat) : KSpec := ⟨40, fun | [v, .int .i64 n] => (match decTm v with | some t => if n = m then some (.bool (deepT m t)) else none | none => none) | _ => none⟩
theorem deepKS_f (m : Nat) : (deepKS m).f = 40 := (rfl)
theorem deepKS_at (m : Nat) (t : Tm) : (deepKS m).S [t.enc, .int .i64 (m : Nat)] = some (.bool (deepT m t)) := by
  simp only [deepKS, decTm_enc, if_true]
theorem deepKS_no (m k : Nat) (v : AV) (h : k ≠ m) : (deepKS m).S [v, .int .i64 (k : Nat)] = none := by
  simp only [deepKS]
  split
  · rw [if_neg (by omega)]
  · rfl

set_option maxHeartbeats 4000000 in
theorem c40_loop (n m : Nat) (hm : m ≤ 100) (hm1 : 1 ≤ m) (K N : Int) (s : List UInt8) (us : List Tm) (hs : us.length ≤ 12) : ∀ (post pre : List Tm) (k : Nat), us = pre ++ post → post.length < k →
    ∃ md, aft 1 0 (loopH (evCode (evCall (envOf [deepKS (m - 1)]) (n + 1)) (n + 1) c40_b0) c40_m0 1 k (c40_f0 (.int .i64 m) (.ptr 0 0) (.int .i64 pre.length)) ⟨1, [.row [.int .i64 K, .int .i64 N, .str s, .sl (us.map Tm.enc)]], 1, 0⟩) =
      some (if anyD (deepT (m - 1)) post then .ret else .exit 0, if anyD (deepT (m - 1)) post then FM 29 [(4, .bool true)] else FM 29 [], ⟨1, [.row [.int .i64 K, .int .i64 N, .str s, .sl (us.map Tm.enc)]], 0, md⟩)
  | [], pre, k + 1, e, _ => by
    simp at e
    subst e
    have h5 : AV.refsL (us.map Tm.enc) = 0 := encs_refs _
    exact ⟨0, by simp [loopH_succ, c40_b0, h5, anyD]⟩
  | x :: post, pre, k + 1, e, hk => by
    have h1 : us[pre.length]? = some x := by rw [e]; simp
    have h5 : AV.refsL (us.map Tm.enc) = 0 := encs_refs _
    have hpl : pre.length < us.length := by rw [e]; simp
    have h6 : ((pre.length : Int) < (us.length : Int)) = True := eq_true (by omega)
    have h3 : IntKind.i64.wrap ((pre.length : Int) + 1) = (pre.length : Int) + 1 := wrap_i64 (by omega) (by omega)
    have hxe : x.enc = .agg x.cells := Tm.enc_eq x
    have hcl : x.cells = [.int .i64 x.kind, .int .i64 x.num, .str x.name, x.argV] := rfl
    have hxr := argV_refs x
    have w1 : IntKind.i64.wrap ((m : Int) - 1) = ((m - 1 : Nat) : Int) := by rw [wrap_i64 (by omega) (by omega)]; omega
    have hc := deepKS_at (m - 1) x
    rw [hxe, hcl] at hc
    obtain ⟨md, ih⟩ := c40_loop n m hm hm1 K N s us hs post (pre ++ [x]) k (by simp [e]) (by rw [List.length_cons] at hk; omega)
    simp only [List.length_append, List.length_cons, List.length_nil, Nat.zero_add] at ih
    rw [show ((pre.length + 1 : Nat) : Int) = (pre.length : Int) + 1 by omega] at ih
    rw [loopH_succ]
    cases hd : deepT (m - 1) x with
    | true =>
      rw [hd] at hc
      refine ⟨0, ?_⟩
      simp [c40_b0, c40_m0, h1, h3, h5, h6, hxe, hcl, hxr, w1, hc, frz_argV, deepKS_f, anyD, hd]
    | false =>
      rw [hd] at hc
      refine ⟨md, ?_⟩
      simp [c40_b0, c40_m0, h1, h3, h5, h6, hxe, hcl, hxr, w1, hc, frz_argV, deepKS_f, anyD, hd]
      exact ih

set_option maxHeartbeats 4000000 in
theorem deepKS_step (m : Nat) (hm1 : 1 ≤ m) (hm : m ≤ 100) (hp : KSpecOK Tryz.prog (deepKS (m - 1))) : KSpecOK Tryz.prog (deepKS m) := fun args v hv => by
  have hv0 := hv
  unfold deepKS at hv
  dsimp only at hv
  split at hv
  · rename_i x n
    split at hv
    · rename_i t ht
      split at hv
      · rename_i hc
        subst hc
        cases hv
        rw [decTm_eq ht]
        have hno := deepKS_no (m - 1) m t.enc (by omega)
        refine prim_of (n := 20) (h' := h0) (envOf_ok (ss := [deepKS (m - 1)]) (by simp [hp])) ?_ rfl (by simp [AV.refsL, AV.refs, Tm.enc_refs])
        rw [deepKS_f]
        have hxe : t.enc = .agg t.cells := Tm.enc_eq t
        obtain ⟨q, rfl⟩ : ∃ q, m = q + 1 := ⟨m - 1, by omega⟩
        have t1 : ((((q + 1 : Nat) : Int)) < 1) = False := eq_false (by omega)
        have t1' : ((q : Int) + 1 < 1) = False := eq_false (by omega)
        rw [Nat.add_sub_cancel] at hno
        cases t with
        | nl kk nn ss =>
          have hcl : (Tm.nl kk nn ss).cells = [.int .i64 kk, .int .i64 nn, .str ss, .nils] := rfl
          rw [hxe, hcl] at hno ⊢
          have hd : deepT (q + 1) (Tm.nl kk nn ss) = false := rfl
          rw [hd]
          simp only [Int.natCast_add, Int.natCast_one] at hno
          simp [run40, c40, c40_m0, c40_b0, loopH_succ, hno, deepKS_f, t1']
        | mk kk nn ss us =>
          have hcl : (Tm.mk kk nn ss us).cells = [.int .i64 kk, .int .i64 nn, .str ss, .sl (us.map Tm.enc)] := rfl
          have h5 : AV.refsL (us.map Tm.enc) = 0 := encs_refs _
          rw [hxe, hcl] at hno ⊢
          have hd : deepT (q + 1) (Tm.mk kk nn ss us) = if 12 < us.length then true else anyD (deepT q) us := rfl
          rw [hd]
          by_cases hl : 12 < us.length
          · have t2 : ((12 : Int) < (us.length : Int)) = True := eq_true (by omega)
            simp only [Int.natCast_add, Int.natCast_one] at hno
            simp [run40, c40, hno, deepKS_f, t1', t2, h5, hl]
          · have t2 : ((12 : Int) < (us.length : Int)) = False := eq_false (by omega)
            obtain ⟨md, lp⟩ := c40_loop 18 (q + 1) hm hm1 kk nn ss us (by omega) us [] 19 rfl (by omega)
            simp only [List.length_nil, Int.natCast_zero, Nat.add_sub_cancel, Int.natCast_add, Int.natCast_one, c40_m0] at lp
            simp only [Int.natCast_add, Int.natCast_one] at hno
            rw [if_neg hl]
            cases ha : anyD (deepT q) us with
            | true =>
              rw [ha] at lp
              simp only [if_true] at lp
              simp [run40, c40, c40_m0, hno, deepKS_f, t1', t2, h5, hl, lp]
            | false =>
              rw [ha] at lp
              simp only [Bool.false_eq_true, if_false] at lp
              simp [run40, c40, c40_m0, hno, deepKS_f, t1', t2, h5, hl, lp]
      · cases hv
    · cases hv
  · cases hv
set_option maxHeartbeats 4000000 in
theorem deepKS_zero : KSpecOK Tryz.prog (deepKS 0) := fun args v hv => by
  unfold deepKS at hv
  dsimp only at hv
  split at hv
  · rename_i x n
    split at hv
    · rename_i t ht
      split at hv
      · rename_i hc
        subst hc
        cases hv
        rw [decTm_eq ht]
        refine prim_of (n := 5) (h' := h0) (envOf_ok (ss := []) (by simp)) ?_ rfl (by simp [AV.refsL, AV.refs, Tm.enc_refs])
        rw [deepKS_f]
        have hxe : t.enc = .agg t.cells := Tm.enc_eq t
        have hcl : t.cells = [.int .i64 t.kind, .int .i64 t.num, .str t.name, t.argV] := rfl
        have hxr := argV_refs t
        have hd : deepT 0 t = true := rfl
        rw [hxe, hcl, hd]
        simp [run40, c40, hxr]
      · cases hv
    · cases hv
  · cases hv
theorem deepKS_all : ∀ m, m ≤ 100 → KSpecOK Tryz.prog (deepKS m)
  | 0, _ => deepKS_zero
  | m + 1, h => deepKS_step (m + 1) (by omega) h (deepKS_all m (by omega))
end Go.Proofs.YtleeinkdkllcdaaGreatDoor

namespace Go.Proofs.YtleeinkdkllcdaaGreatDoor
open Go Sz
set_option linter.unusedSimpArgs false
attribute [local simp] seqF condF stepF callF callvF guardF trF step1F call1F callv1F guard1F seqK_n seqK_e seqK_r condK_t condK_f stK_s gdK_t gdK_f cvK_f trK_s trK1_s stK1_s gdK1_t gdK1_f cvK1_f evCode_skip evCode_reg evCode_dreg evCode_block evCode_exit evCode_ret evSteps_nil evTr_nil ldId chkTr
 evOp_mov evOp_pick evOp_box evOp_bld evOp_bsl evOp_ld evOp_st evOp_nck evOp_bin evOp_beq evOp_ceq evOp_peq evOp_not evOp_neg evOp_xor evOp_cvi evOp_cvss evOp_cvis evOp_cvsb evOp_mki evOp_mkf evOp_mkm evOp_mks evOp_sls evOp_slv evOp_fad evOp_fld1 evOp_fldn evOp_iad evOp_ixs evOp_ext evOp_lens evOp_lenv evOp_mx evOp_mn evOp_app evOp_bs0 evOp_snil evOp_clr
 FM_ev ev_const FM_put put_none FM_unwanted lk_hit lk_miss lk_nil FM_clear FM_clearB trues pick gc_FM gc_FM0 incK snds renM allM evB_fm enumA cells_agg cells_bool cells_int cells_str cells_nilp cells_ptr cells_ip cells_nils cells_sl cells_vec cells_nilm cells_map cells_nilfn cells_fn cells_nili cells_iface ldA row_mk get_mk set_mk mark_mk alloc_mk' trunc_mk binA resAll_nil resAll_cons FM_resT FM_resC oneOf finish_mk frz_undef frz_bool frz_int frz_str frz_nilp frz_ptr frz_ip frz_nils frz_sl frz_nilm frz_map frz_nilfn frz_fn frz_nili frz_iface frz_old frz_agg frz_tuple frzL_nil frzL_cons kill_nil kill_cons chunk_zero chunk_succ AV.refs AV.refsL evCall_spec lookF_nil lookF_cons callS_nil callS_oneF spK_s spK_n frK_s frK_n clones cloneS_f cloneS_nils cloneS_sl0 fillA putAt_nil putAt_cons evCode_loop bgn_mk aft_mk keeps objsAt ren renId AV.top lowObj h0 succ_le_f oldK oldAll oldLow oldRen lowCells_row lowCells_map lowCells_dead objCells topLow renObj List.idxOf_cons List.idxOf_nil nilA nilK elemsA_nils elemsA_vec elemsA_str evOp_die evOp_lkp evOp_cvbs lookA scal_bool scal_int scal_str scal_nils scal_sl scal_tuple scal_agg scal1_bool scal1_int scal1_str scal1_nils scal1_sl scal1_agg
attribute [local simp low] frz_vecR

/-! Apart, and together. -/

def functorT (t : Tm) : Tm × Int := if t.kind = 1 then (t, 0) else (.nl 2 0 t.name, (t.args.length : Int))
def functorS : KSpec := ⟨36, fun | [v] => (match decTm v with | some t => if t.bulk < 1000000000 ∧ goodT t = true ∧ t.kind ≠ 0 then some (.tuple [(functorT t).1.enc, .int .i64 (functorT t).2, .int .i64 0]) else none | none => none) | _ => none⟩
theorem functorS_f : functorS.f = 36 := (rfl)
theorem functorS_at (t : Tm) (h : t.bulk < 1000000000 ∧ goodT t = true ∧ t.kind ≠ 0) : functorS.S [t.enc] = some (.tuple [(functorT t).1.enc, .int .i64 (functorT t).2, .int .i64 0]) := by
  simp only [functorS, decTm_enc, if_pos h]
set_option maxHeartbeats 4000000 in
theorem functorS_ok : KSpecOK Tryz.prog functorS := fun args v hv => by
  unfold functorS at hv ⊢
  dsimp only at hv ⊢
  split at hv
  · rename_i x
    split at hv
    · rename_i t ht
      split at hv
      · rename_i hl
        cases hv
        rw [decTm_eq ht]
        obtain ⟨hl, hg, hk⟩ := hl
        refine prim_of (n := 5) (h' := Sz.h0) (envOf_ok (ss := [goodTS, atomS]) (by simp [goodTS_ok, atomS_ok])) ?_ (by simp [AV.refs, AV.refsL, Tm.enc_refs]) (by simp [AV.refsL, Tm.enc_refs])
        have c1 := goodTS_at t hl
        have ca := atomS_at t.name
        have hxe : t.enc = .agg t.cells := Tm.enc_eq t
        rw [hg] at c1
        unfold functorT
        by_cases k1 : t.kind = 1
        · rw [if_pos k1]
          have hcl : t.cells = [.int .i64 1, .int .i64 t.num, .str t.name, t.argV] := by simp [Tm.cells, k1]
          have hxr := argV_refs t
          dsimp only
          rw [hxe, hcl] at c1 ⊢
          simp [run36, c36, c1, hxr, frz_argV, goodTS_f, atomS_f]
        · rw [if_neg k1]
          have e2 : (Tm.nl 2 0 t.name).enc = .agg [.int .i64 2, .int .i64 0, .str t.name, .nils] := rfl
          dsimp only
          rw [e2]
          cases t with
          | nl kk nn ss =>
            have hcl : (Tm.nl kk nn ss).cells = [.int .i64 kk, .int .i64 nn, .str ss, .nils] := rfl
            simp only [Tm.kind, Tm.name, Tm.args] at hk k1 ca ⊢
            rw [hxe, hcl] at c1 ⊢
            simp [run36, c36, c1, ca, hk, k1, goodTS_f, atomS_f]
          | mk kk nn ss us =>
            have hcl : (Tm.mk kk nn ss us).cells = [.int .i64 kk, .int .i64 nn, .str ss, .sl (us.map Tm.enc)] := rfl
            have h5 := encs_refs us
            simp only [Tm.kind, Tm.name, Tm.args] at hk k1 ca ⊢
            rw [hxe, hcl] at c1 ⊢
            simp [run36, c36, c1, ca, hk, k1, h5, goodTS_f, atomS_f]
      · cases hv
    · cases hv
  · cases hv

/-- shape.Make of no Args. -/
def make0S : KSpec := ⟨14, fun | [v, .int .i64 a, .int .i64 _] => (match decTm v with | some t => if a = 0 ∧ t.bulk < 1000000000 ∧ goodT t = true ∧ t.kind ≠ 0 ∧ t.args.length = 0 then some (.tuple [t.enc, .int .i64 0]) else none | none => none) | _ => none⟩
theorem make0S_f : make0S.f = 14 := (rfl)
theorem make0S_at (t : Tm) (f : Int) (h : t.bulk < 1000000000 ∧ goodT t = true ∧ t.kind ≠ 0 ∧ t.args.length = 0) : make0S.S [t.enc, .int .i64 0, .int .i64 f] = some (.tuple [t.enc, .int .i64 0]) := by
  simp only [make0S, decTm_enc, true_and, if_pos h]
set_option maxHeartbeats 4000000 in
theorem make0S_ok : KSpecOK Tryz.prog make0S := fun args v hv => by
  unfold make0S at hv ⊢
  dsimp only at hv ⊢
  split at hv
  · rename_i x a f
    split at hv
    · rename_i t ht
      split at hv
      · rename_i hl
        cases hv
        rw [decTm_eq ht]
        obtain ⟨rfl, hl, hg, hk, ha⟩ := hl
        refine prim_of (n := 5) (h' := Sz.h0) (envOf_ok (ss := [goodTS]) (by simp [goodTS_ok])) ?_ (by simp [AV.refs, AV.refsL, Tm.enc_refs]) (by simp [AV.refsL, AV.refs, Tm.enc_refs])
        have c1 := goodTS_at t hl
        have hxe : t.enc = .agg t.cells := Tm.enc_eq t
        rw [hg] at c1
        cases t with
        | nl kk nn ss =>
          have hcl : (Tm.nl kk nn ss).cells = [.int .i64 kk, .int .i64 nn, .str ss, .nils] := rfl
          simp only [Tm.kind] at hk
          rw [hxe, hcl] at c1 ⊢
          simp [run14, c14, c1, hk, goodTS_f]
        | mk kk nn ss us =>
          obtain rfl : us = [] := List.eq_nil_of_length_eq_zero ha
          have hcl : (Tm.mk kk nn ss []).cells = [.int .i64 kk, .int .i64 nn, .str ss, .sl []] := rfl
          simp only [Tm.kind] at hk
          rw [hxe, hcl] at c1 ⊢
          simp [run14, c14, c1, hk, goodTS_f]
      · cases hv
    · cases hv
  · cases hv

def argS : KSpec := ⟨37, fun | [.int .i64 n, v] => (match decTm v with | some t => if t.bulk < 1000000000 ∧ goodT t = true ∧ t.kind ≠ 0 ∧ 0 < n ∧ n ≤ t.args.length then (match t.args[(n - 1).toNat]? with | some u => some (.tuple [u.enc, .int .i64 0]) | none => none) else none | none => none) | _ => none⟩
theorem argS_f : argS.f = 37 := (rfl)
theorem argS_at (t : Tm) (i : Nat) (u : Tm) (h : t.bulk < 1000000000 ∧ goodT t = true ∧ t.kind ≠ 0) (hu : t.args[i]? = some u) : argS.S [.int .i64 ((i : Int) + 1), t.enc] = some (.tuple [u.enc, .int .i64 0]) := by
  have hlt := (List.getElem?_eq_some_iff.1 hu).1
  have hc : t.bulk < 1000000000 ∧ goodT t = true ∧ t.kind ≠ 0 ∧ 0 < ((i : Int) + 1) ∧ ((i : Int) + 1) ≤ t.args.length := ⟨h.1, h.2.1, h.2.2, by omega, by omega⟩
  simp only [argS, decTm_enc, if_pos hc]
  rw [show ((i : Int) + 1 - 1).toNat = i by omega, hu]
set_option maxHeartbeats 4000000 in
theorem argS_ok : KSpecOK Tryz.prog argS := fun args v hv => by
  unfold argS at hv ⊢
  dsimp only at hv ⊢
  split at hv
  · rename_i n x
    split at hv
    · rename_i t ht
      split at hv
      · rename_i hl
        obtain ⟨hl, hg, hk, h1, h2⟩ := hl
        split at hv
        · rename_i u hu
          cases hv
          rw [decTm_eq ht]
          obtain ⟨i, rfl⟩ : ∃ i : Nat, n = (i : Int) + 1 := ⟨(n - 1).toNat, by omega⟩
          rw [show ((i : Int) + 1 - 1).toNat = i by omega] at hu
          refine prim_of (n := 5) (h' := Sz.h0) (envOf_ok (ss := [goodTS]) (by simp [goodTS_ok])) ?_ (by simp [AV.refs, AV.refsL, Tm.enc_refs]) (by simp [AV.refsL, AV.refs, Tm.enc_refs])
          have c1 := goodTS_at t hl
          have hxe : t.enc = .agg t.cells := Tm.enc_eq t
          have hsb := size_bulk t
          have hsz := size_args t
          have hla := len_sizeL t.args
          rw [hg] at c1
          cases t with
          | nl kk nn ss => simp [Tm.args] at hu
          | mk kk nn ss us =>
            simp only [Tm.kind, Tm.args] at hk hu h2 hla hsz
            have hcl : (Tm.mk kk nn ss us).cells = [.int .i64 kk, .int .i64 nn, .str ss, .sl (us.map Tm.enc)] := rfl
            have h5 := encs_refs us
            have hue : u.enc = .agg u.cells := Tm.enc_eq u
            have huc : u.cells = [.int .i64 u.kind, .int .i64 u.num, .str u.name, u.argV] := rfl
            have hur := argV_refs u
            have t1 : ((i : Int) + 1 < 1) = False := eq_false (by omega)
            have t1' : ((i : Int) < 0) = False := eq_false (by omega)
            have t2 : ((us.length : Int) < (i : Int) + 1) = False := eq_false (by omega)
            have t3 : ((us.length : Int) = 0) = False := eq_false (by omega)
            have t4 : (us = []) = False := eq_false fun e => by subst e; simp at hu
            have t5 : (us.length = 0) = False := eq_false (by have := (List.getElem?_eq_some_iff.1 hu).1; omega)
            have w1 : IntKind.i64.wrap (i : Int) = (i : Int) := wrap_i64 (by omega) (by omega)
            rw [hxe, hcl] at c1 ⊢
            rw [hue, huc]
            simp [run37, c37, c1, hk, h5, t1, t1', t2, t3, t4, t5, w1, hu, hue, huc, hur, frz_argV, goodTS_f]
        · cases hv
      · cases hv
    · cases hv
  · cases hv
end Go.Proofs.YtleeinkdkllcdaaGreatDoor

namespace Go.Proofs.YtleeinkdkllcdaaGreatDoor
open Go Sz
set_option linter.unusedSimpArgs false
attribute [local simp] seqF condF stepF callF callvF guardF trF step1F call1F callv1F guard1F seqK_n seqK_e seqK_r condK_t condK_f stK_s gdK_t gdK_f cvK_f trK_s trK1_s stK1_s gdK1_t gdK1_f cvK1_f evCode_skip evCode_reg evCode_dreg evCode_block evCode_exit evCode_ret evSteps_nil evTr_nil ldId chkTr
 evOp_mov evOp_pick evOp_box evOp_bld evOp_bsl evOp_ld evOp_st evOp_nck evOp_bin evOp_beq evOp_ceq evOp_peq evOp_not evOp_neg evOp_xor evOp_cvi evOp_cvss evOp_cvis evOp_cvsb evOp_mki evOp_mkf evOp_mkm evOp_mks evOp_sls evOp_slv evOp_fad evOp_fld1 evOp_fldn evOp_iad evOp_ixs evOp_ext evOp_lens evOp_lenv evOp_mx evOp_mn evOp_app evOp_bs0 evOp_snil evOp_clr
 FM_ev ev_const FM_put put_none FM_unwanted lk_hit lk_miss lk_nil FM_clear FM_clearB trues pick gc_FM gc_FM0 incK snds renM allM evB_fm enumA cells_agg cells_bool cells_int cells_str cells_nilp cells_ptr cells_ip cells_nils cells_sl cells_vec cells_nilm cells_map cells_nilfn cells_fn cells_nili cells_iface ldA row_mk get_mk set_mk mark_mk alloc_mk' trunc_mk binA resAll_nil resAll_cons FM_resT FM_resC oneOf finish_mk frz_undef frz_bool frz_int frz_str frz_nilp frz_ptr frz_ip frz_nils frz_sl frz_nilm frz_map frz_nilfn frz_fn frz_nili frz_iface frz_old frz_agg frz_tuple frzL_nil frzL_cons kill_nil kill_cons chunk_zero chunk_succ AV.refs AV.refsL evCall_spec lookF_nil lookF_cons callS_nil callS_oneF spK_s spK_n frK_s frK_n clones cloneS_f cloneS_nils cloneS_sl0 fillA putAt_nil putAt_cons evCode_loop bgn_mk aft_mk keeps objsAt ren renId AV.top lowObj h0 succ_le_f oldK oldAll oldLow oldRen lowCells_row lowCells_map lowCells_dead objCells topLow renObj List.idxOf_cons List.idxOf_nil nilA nilK elemsA_nils elemsA_vec elemsA_str evOp_die evOp_lkp evOp_cvbs lookA scal_bool scal_int scal_str scal_nils scal_sl scal_tuple scal_agg scal1_bool scal1_int scal1_str scal1_nils scal1_sl scal1_agg
attribute [local simp low] frz_vecR

/-! shape.Univ, shape.Join. -/

def univT (t : Tm) : Tm := listT ((functorT t).1 :: t.args) nilT
theorem nilT_enc : nilT.enc = .agg [.int .i64 2, .int .i64 0, .str [91, 93], .nils] := rfl
theorem bulk_functor (t : Tm) : (functorT t).1.bulk ≤ t.bulk := by
  have := bulk_args t
  unfold functorT
  split
  · exact Nat.le_refl _
  · simp [Tm.bulk]; omega
theorem bulk_univ (t : Tm) : (univT t).bulk ≤ 5 * t.bulk + 5 := by
  have h1 := bulk_functor t
  have h2 := bulk_args t
  have h3 := len_sizeL t.args
  have h4 := sizeL_bulk t.args
  unfold univT
  rw [bulk_list]
  simp only [List.length_cons, Tm.bulkL]
  have : nilT.bulk = 3 := rfl
  omega

theorem argV_cells (t : Tm) : t.argV.cells? = some [t.argV] := by cases t <;> rfl
def univS : KSpec := ⟨38, fun | [v] => (match decTm v with | some t => if t.bulk < 100000000 ∧ goodT t = true ∧ t.kind ≠ 0 then some (if goodT (univT t) then .tuple [(univT t).enc, .int .i64 0] else .tuple [(Tm.nl 0 0 []).enc, .int .i64 12]) else none | none => none) | _ => none⟩
theorem univS_f : univS.f = 38 := (rfl)
theorem univS_at (t : Tm) (h : t.bulk < 100000000 ∧ goodT t = true ∧ t.kind ≠ 0) : univS.S [t.enc] = some (if goodT (univT t) then .tuple [(univT t).enc, .int .i64 0] else .tuple [(Tm.nl 0 0 []).enc, .int .i64 12]) := by
  simp only [univS, decTm_enc, if_pos h]
set_option maxRecDepth 100000 in
set_option maxHeartbeats 8000000 in
theorem univS_ok : KSpecOK Tryz.prog univS := fun args v hv => by
  unfold univS at hv ⊢
  dsimp only at hv ⊢
  split at hv
  · rename_i x
    split at hv
    · rename_i t ht
      split at hv
      · rename_i hl
        cases hv
        rw [decTm_eq ht]
        obtain ⟨hl, hg, hk⟩ := hl
        refine prim_of (n := 5) (h' := Sz.h0) (envOf_ok (ss := [goodTS, functorS, atomS, listS]) (by simp [goodTS_ok, functorS_ok, atomS_ok, listS_ok])) ?_ (by split <;> simp [AV.refs, AV.refsL, Tm.enc_refs]) (by simp [AV.refsL, Tm.enc_refs])
        have cf := functorS_at t ⟨by omega, hg, hk⟩
        have ca := atomS_at [91, 93]
        have hbu := bulk_univ t
        have cg := goodTS_at (univT t) (by omega)
        have hlen : t.args.length < 1000000 * 1000 := by have := len_sizeL t.args; have := sizeL_bulk t.args; have := bulk_args t; omega
        have cl := listS_at ((functorT t).1 :: t.args) nilT (by simp; omega)
        have hul : listT ((functorT t).1 :: t.args) nilT = univT t := rfl
        rw [hul] at cl
        have hue : (univT t).enc = .agg (univT t).cells := Tm.enc_eq _
        have huc : (univT t).cells = [.int .i64 (univT t).kind, .int .i64 (univT t).num, .str (univT t).name, (univT t).argV] := rfl
        have hur := argV_refs (univT t)
        have hsc : scal1 (univT t).argV = false := rfl
        rw [nilT_enc] at cl
        rw [hue, huc] at cl cg ⊢
        have hze : (Tm.nl 0 0 []).enc = .agg [.int .i64 0, .int .i64 0, .str [], .nils] := rfl
        rw [hze]
        generalize univT t = U at cl cg hur hsc ⊢
        have hfe : (functorT t).1.enc = .agg (functorT t).1.cells := Tm.enc_eq _
        have hfc : (functorT t).1.cells = [.int .i64 (functorT t).1.kind, .int .i64 (functorT t).1.num, .str (functorT t).1.name, (functorT t).1.argV] := rfl
        have hfr := argV_refs (functorT t).1
        have hfv := argV_cells (functorT t).1
        simp only [List.map_cons] at cl
        rw [hfe, hfc] at cf cl
        have hflat : ∀ ws : List Tm, flatT ((functorT t).1 :: ws) = [.int .i64 (functorT t).1.kind, .int .i64 (functorT t).1.num, .str (functorT t).1.name, (functorT t).1.argV] ++ flatT ws := fun ws => by rw [← hfc]; rfl
        have hxe : t.enc = .agg t.cells := Tm.enc_eq t
        have ha : (t.argV = .nils ∧ t.args = []) ∨ t.argV = .sl (t.args.map Tm.enc) := by
          cases t with
          | nl k n s => exact .inl ⟨rfl, rfl⟩
          | mk k n s us => exact .inr rfl
        have hcl : t.cells = [.int .i64 t.kind, .int .i64 t.num, .str t.name, t.argV] := rfl
        rw [hxe, hcl] at cf ⊢
        have hfz : ∀ (y : Tm) (r : List Tm) (A B C D : AObj) (wl md d : Nat), frz ⟨5, [.row (flatT ((functorT t).1 :: y :: r)), A, B, C, D], wl, md⟩ 0 (d + 2) (.vec 4 0 (1 + (r.length + 1)) 4 (1 + (r.length + 1))) = some (.sl (((functorT t).1 :: y :: r).map Tm.enc), [4]) := fun y r A B C D wl md d => by
          have := frz_T (h := ⟨5, [.row (flatT ((functorT t).1 :: y :: r)), A, B, C, D], wl, md⟩) (n0 := 0) (d := d) (id := 4) (functorT t).1 (y :: r) (by omega) rfl
          rw [List.length_cons, show r.length + 1 + 1 = 1 + (r.length + 1) by omega] at this
          exact this
        have hfl := fun ws => flatT_refs ((functorT t).1 :: ws)
        simp only [hflat, List.cons_append, List.nil_append, List.map_cons] at hfz hfl
        rw [hfe, hfc] at hfz
        generalize t.args = us at *
        generalize t.argV = av at *
        generalize (functorT t).1 = F at *
        generalize (functorT t).2 = fn at *
        rcases ha with ⟨rfl, rfl⟩ | rfl
        · simp only [List.map_nil] at cl
          cases hgu : goodT U with
          | true =>
            rw [hgu] at cg
            simp [run38, c38, cf, ca, cl, cg, hfr, hfv, hur, hsc, frz_argV, goodTS_f, functorS_f, atomS_f, listS_f]
          | false =>
            rw [hgu] at cg
            simp [run38, c38, cf, ca, cl, cg, hfr, hfv, hur, hsc, frz_argV, goodTS_f, functorS_f, atomS_f, listS_f]
        · have h5 := encs_refs us
          cases us with
          | nil =>
            simp only [List.map_nil] at cl cf h5 ⊢
            cases hgu : goodT U with
            | true =>
              rw [hgu] at cg
              simp [run38, c38, cf, ca, cl, cg, hfr, hfv, hur, hsc, frz_argV, goodTS_f, functorS_f, atomS_f, listS_f, elemsA]
            | false =>
              rw [hgu] at cg
              simp [run38, c38, cf, ca, cl, cg, hfr, hfv, hur, hsc, frz_argV, goodTS_f, functorS_f, atomS_f, listS_f, elemsA]
          | cons y r =>
            have he := fun h => elemsA_T h (y :: r)
            have b1 : (1 + (r.length + 1)) * 56 ≤ 140737488355328 := by simp at hlen; omega
            have b2 : 1 + (r.length + 1) < 9223372036854775808 := by simp at hlen; omega
            have b3 : ((1 + (r.length + 1)) * 4 ≤ 4) = False := eq_false (by omega)
            have b4 : (1 + (r.length + 1) ≤ 1) = False := eq_false (by omega)
            have hz := hfz y r
            have hl2 := hfl (y :: r)
            simp only [List.map_cons, List.length_cons] at cl cf h5 he hz ⊢
            cases hgu : goodT U with
            | true =>
              rw [hgu] at cg
              simp [run38, c38, cf, ca, cl, cg, hfr, hfv, hur, hsc, h5, he, b1, b2, b3, b4, hz, hl2, frz_argV, goodTS_f, functorS_f, atomS_f, listS_f]
            | false =>
              rw [hgu] at cg
              simp [run38, c38, cf, ca, cl, cg, hfr, hfv, hur, hsc, h5, he, b1, b2, b3, b4, hz, hl2, frz_argV, goodTS_f, functorS_f, atomS_f, listS_f]
      · cases hv
    · cases hv
  · cases hv
end Go.Proofs.YtleeinkdkllcdaaGreatDoor

namespace Go.Proofs.YtleeinkdkllcdaaGreatDoor
open Go Sz
set_option linter.unusedSimpArgs false
attribute [local simp] seqF condF stepF callF callvF guardF trF step1F call1F callv1F guard1F seqK_n seqK_e seqK_r condK_t condK_f stK_s gdK_t gdK_f cvK_f trK_s trK1_s stK1_s gdK1_t gdK1_f cvK1_f evCode_skip evCode_reg evCode_dreg evCode_block evCode_exit evCode_ret evSteps_nil evTr_nil ldId chkTr
 evOp_mov evOp_pick evOp_box evOp_bld evOp_bsl evOp_ld evOp_st evOp_nck evOp_bin evOp_beq evOp_ceq evOp_peq evOp_not evOp_neg evOp_xor evOp_cvi evOp_cvss evOp_cvis evOp_cvsb evOp_mki evOp_mkf evOp_mkm evOp_mks evOp_sls evOp_slv evOp_fad evOp_fld1 evOp_fldn evOp_iad evOp_ixs evOp_ext evOp_lens evOp_lenv evOp_mx evOp_mn evOp_app evOp_bs0 evOp_snil evOp_clr
 FM_ev ev_const FM_put put_none FM_unwanted lk_hit lk_miss lk_nil FM_clear FM_clearB trues pick gc_FM gc_FM0 incK snds renM allM evB_fm enumA cells_agg cells_bool cells_int cells_str cells_nilp cells_ptr cells_ip cells_nils cells_sl cells_vec cells_nilm cells_map cells_nilfn cells_fn cells_nili cells_iface ldA row_mk get_mk set_mk mark_mk alloc_mk' trunc_mk binA resAll_nil resAll_cons FM_resT FM_resC oneOf finish_mk frz_undef frz_bool frz_int frz_str frz_nilp frz_ptr frz_ip frz_nils frz_sl frz_nilm frz_map frz_nilfn frz_fn frz_nili frz_iface frz_old frz_agg frz_tuple frzL_nil frzL_cons kill_nil kill_cons chunk_zero chunk_succ AV.refs AV.refsL evCall_spec lookF_nil lookF_cons callS_nil callS_oneF spK_s spK_n frK_s frK_n clones cloneS_f cloneS_nils cloneS_sl0 fillA putAt_nil putAt_cons evCode_loop bgn_mk aft_mk keeps objsAt ren renId AV.top lowObj h0 succ_le_f oldK oldAll oldLow oldRen lowCells_row lowCells_map lowCells_dead objCells topLow renObj List.idxOf_cons List.idxOf_nil nilA nilK elemsA_nils elemsA_vec elemsA_str evOp_die evOp_lkp evOp_cvbs lookA scal_bool scal_int scal_str scal_nils scal_sl scal_tuple scal_agg scal1_bool scal1_int scal1_str scal1_nils scal1_sl scal1_agg
attribute [local simp low] frz_vecR

/-! shape.Join. -/

/-- What a list that is fit for it makes. -/
def joinV (p : List Tm × Tm) : Option Tm := match p with
  | (nm :: us, tl) => if tl.enc.eqb nilT.enc = true ∧ nm.kind ≠ 0 ∧ nm.args.length = 0 then (if us.length = 0 then some nm else if nm.kind ≠ 1 ∧ us.length ≤ 8 then some (compT nm.name us) else none) else none
  | _ => none
def joinS : KSpec := ⟨34, fun | [v] => (match decTm v with | some t => if t.bulk < 1000000000 ∧ goodT t = true then (match joinV (itemsT t) with | some u => some (.tuple [u.enc, .int .i64 0]) | none => none) else none | none => none) | _ => none⟩
theorem joinS_f : joinS.f = 34 := (rfl)
theorem joinS_at (t u : Tm) (h : t.bulk < 1000000000 ∧ goodT t = true) (hj : joinV (itemsT t) = some u) : joinS.S [t.enc] = some (.tuple [u.enc, .int .i64 0]) := by
  simp only [joinS, decTm_enc, if_pos h, hj]
theorem elems_all (us : List Tm) : ((us.map Tm.enc).all fun x => (x.cells?.map List.length) == some 4) = true := elem_all (encs_elem us)
set_option maxRecDepth 100000 in
set_option maxHeartbeats 8000000 in
theorem joinS_ok : KSpecOK Tryz.prog joinS := fun args v hv => by
  unfold joinS at hv ⊢
  dsimp only at hv ⊢
  split at hv
  · rename_i x
    split at hv
    · rename_i t ht
      split at hv
      · rename_i hl
        split at hv
        · rename_i u hu
          cases hv
          rw [decTm_eq ht]
          obtain ⟨hl, hg⟩ := hl
          refine prim_of (n := 5) (h' := Sz.h0) (envOf_ok (ss := [goodTS, itemsS, compS]) (by simp [goodTS_ok, itemsS_ok, compS_ok])) ?_ (by simp [AV.refs, AV.refsL, Tm.enc_refs]) (by simp [AV.refsL, Tm.enc_refs])
          have c1 := goodTS_at t hl
          have c2 := itemsS_at t hl
          have hil := items_len t.size t (Nat.le_refl _)
          have hsb := size_bulk t
          unfold itemsG at c2
          rw [hg] at c1 c2
          simp only [if_true] at c2
          have hxe : t.enc = .agg t.cells := Tm.enc_eq t
          have hcl : t.cells = [.int .i64 t.kind, .int .i64 t.num, .str t.name, t.argV] := rfl
          have hxr := argV_refs t
          rw [hxe, hcl] at c1 c2 ⊢
          generalize itemsT t = p at c2 hil hu
          obtain ⟨ws, tl⟩ := p
          cases ws with
          | nil => simp [joinV] at hu
          | cons nm us =>
            simp only [joinV] at hu
            split at hu
            · rename_i hc
              obtain ⟨h1, h2, h3⟩ := hc
              have htl := AV.eqb_eq _ _ h1
              simp only [slT] at c2
              rw [htl, nilT_enc] at c2
              have h5 := encs_refs (nm :: us)
              have hne : nm.enc = .agg nm.cells := Tm.enc_eq nm
              have hnc : nm.cells = [.int .i64 nm.kind, .int .i64 nm.num, .str nm.name, nm.argV] := rfl
              have hnr := argV_refs nm
              have hav : nm.argV = .nils ∨ nm.argV = .sl [] := by
                cases nm with
                | nl k n s => exact .inl rfl
                | mk k n s vs =>
                  obtain rfl : vs = [] := List.eq_nil_of_length_eq_zero h3
                  exact .inr rfl
              split at hu
              · rename_i hz
                have hu2 := Option.some.inj hu
                subst hu2
                obtain rfl : us = [] := List.eq_nil_of_length_eq_zero hz
                simp only [List.map_cons, List.map_nil] at c2 h5
                rw [hne, hnc] at c2 h5 ⊢
                generalize nm.argV = av at *
                rcases hav with rfl | rfl
                · simp [run34, c34, c1, c2, hxr, h2, frz_argV, goodTS_f, itemsS_f, compS_f]
                · simp [run34, c34, c1, c2, hxr, h2, frz_argV, goodTS_f, itemsS_f, compS_f]
              · rename_i hz
                split at hu
                · rename_i hk
                  cases hu
                  obtain ⟨hk1, hk2⟩ := hk
                  have cc := compS_at nm.name us (by omega)
                  have hea := elems_all us
                  have h6 := encs_refs us
                  obtain ⟨y, r, rfl⟩ : ∃ y r, us = y :: r := by cases us with | nil => simp at hz | cons y r => exact ⟨y, r, rfl⟩
                  have hce : (compT nm.name (y :: r)).enc = .agg (compT nm.name (y :: r)).cells := Tm.enc_eq _
                  have hcc : (compT nm.name (y :: r)).cells = [.int .i64 (compT nm.name (y :: r)).kind, .int .i64 (compT nm.name (y :: r)).num, .str (compT nm.name (y :: r)).name, (compT nm.name (y :: r)).argV] := rfl
                  have hcr := argV_refs (compT nm.name (y :: r))
                  rw [hce, hcc] at cc ⊢
                  generalize compT nm.name (y :: r) = CT at cc hcr ⊢
                  have w1 : IntKind.i64.wrap ((r.length : Int) + 1) = (r.length : Int) + 1 := wrap_i64 (by simp at hk2; omega) (by simp at hk2; omega)
                  have w2 : ((8 : Int) < (r.length : Int) + 1) = False := eq_false (by simp at hk2; omega)
                  have w3 : ((r.length : Int) + 1 + 1 = 1) = False := eq_false (by omega)
                  have w4 : ((r.length : Int) + 1 + 1 = 0) = False := eq_false (by omega)
                  have w5 : ((1 : Int) ≤ (r.length : Int) + 1 + 1) = True := eq_true (by omega)
                  have w6 : (r.map Tm.enc).take r.length = r.map Tm.enc := List.take_of_length_le (by simp)
                  have hye : ∀ z : Tm, z.enc.cells? = some z.cells := fun z => by rw [Tm.enc_eq z]; rfl
                  simp only [List.map_cons] at c2 h5 h6 hea cc
                  rw [hne, hnc] at c2 h5
                  generalize nm.argV = av at *
                  rcases hav with rfl | rfl
                  · simp [run34, c34, c1, c2, cc, hxr, hcr, h2, hk1, h5, h6, hea, w1, w2, w3, w4, w5, w6, hye, frz_argV, goodTS_f, itemsS_f, compS_f, sliceC, sliceB]
                  · simp [run34, c34, c1, c2, cc, hxr, hcr, h2, hk1, h5, h6, hea, w1, w2, w3, w4, w5, w6, hye, frz_argV, goodTS_f, itemsS_f, compS_f, sliceC, sliceB]
                · cases hu
            · cases hu
        · cases hv
      · cases hv
    · cases hv
  · cases hv
end Go.Proofs.YtleeinkdkllcdaaGreatDoor

namespace Go.Proofs.YtleeinkdkllcdaaGreatDoor
open Go Sz
set_option linter.unusedSimpArgs false
attribute [local simp] seqF condF stepF callF callvF guardF trF step1F call1F callv1F guard1F seqK_n seqK_e seqK_r condK_t condK_f stK_s gdK_t gdK_f cvK_f trK_s trK1_s stK1_s gdK1_t gdK1_f cvK1_f evCode_skip evCode_reg evCode_dreg evCode_block evCode_exit evCode_ret evSteps_nil evTr_nil ldId chkTr
 evOp_mov evOp_pick evOp_box evOp_bld evOp_bsl evOp_ld evOp_st evOp_nck evOp_bin evOp_beq evOp_ceq evOp_peq evOp_not evOp_neg evOp_xor evOp_cvi evOp_cvss evOp_cvis evOp_cvsb evOp_mki evOp_mkf evOp_mkm evOp_mks evOp_sls evOp_slv evOp_fad evOp_fld1 evOp_fldn evOp_iad evOp_ixs evOp_ext evOp_lens evOp_lenv evOp_mx evOp_mn evOp_app evOp_bs0 evOp_snil evOp_clr
 FM_ev ev_const FM_put put_none FM_unwanted lk_hit lk_miss lk_nil FM_clear FM_clearB trues pick gc_FM gc_FM0 incK snds renM allM evB_fm enumA cells_agg cells_bool cells_int cells_str cells_nilp cells_ptr cells_ip cells_nils cells_sl cells_vec cells_nilm cells_map cells_nilfn cells_fn cells_nili cells_iface ldA row_mk get_mk set_mk mark_mk alloc_mk' trunc_mk binA resAll_nil resAll_cons FM_resT FM_resC oneOf finish_mk frz_undef frz_bool frz_int frz_str frz_nilp frz_ptr frz_ip frz_nils frz_sl frz_nilm frz_map frz_nilfn frz_fn frz_nili frz_iface frz_old frz_agg frz_tuple frzL_nil frzL_cons kill_nil kill_cons chunk_zero chunk_succ AV.refs AV.refsL evCall_spec lookF_nil lookF_cons callS_nil callS_oneF spK_s spK_n frK_s frK_n clones cloneS_f cloneS_nils cloneS_sl0 fillA putAt_nil putAt_cons evCode_loop bgn_mk aft_mk keeps objsAt ren renId AV.top lowObj h0 succ_le_f oldK oldAll oldLow oldRen lowCells_row lowCells_map lowCells_dead objCells topLow renObj List.idxOf_cons List.idxOf_nil nilA nilK elemsA_nils elemsA_vec elemsA_str evOp_die evOp_lkp evOp_cvbs lookA scal_bool scal_int scal_str scal_nils scal_sl scal_tuple scal_agg scal1_bool scal1_int scal1_str scal1_nils scal1_sl scal1_agg
attribute [local simp low] frz_vecR

/-! ShapeBack. -/

mutual
theorem sameT_refl : ∀ t : Tm, sameT t t = true
  | .nl k n s => by simp [sameT]; exact ⟨⟨⟨rfl, rfl⟩, rfl⟩, rfl⟩
  | .mk k n s us => by
    have h := sameL_refl us
    simp [sameT, h]
    exact ⟨⟨⟨rfl, rfl⟩, rfl⟩, h⟩
theorem sameL_refl : ∀ l : List Tm, sameL l l = true
  | [] => rfl
  | x :: r => by
    rw [sameL_cons, sameT_refl x, sameL_refl r]
    rfl
end
theorem depth_mem : ∀ {us : List Tm} {y : Tm}, y ∈ us → y.depth ≤ Tm.depthL us
  | t :: r, y, h => by
    simp only [Tm.depthL]
    rcases List.mem_cons.1 h with rfl | h
    · omega
    · have := depth_mem h; omega
theorem all_mem {p : Tm → Bool} : ∀ {us : List Tm} {y : Tm}, Tm.allL p us = true → y ∈ us → y.allT p = true
  | t :: r, y, ha, h => by
    simp only [Tm.allL, Bool.and_eq_true] at ha
    rcases List.mem_cons.1 h with rfl | h
    · exact ha.1
    · exact all_mem ha.2 h
theorem good_arg {t u : Tm} (h : goodT t = true) (hu : u ∈ t.args) : goodT u = true := by
  simp only [goodT, Bool.and_eq_true, decide_eq_true_eq] at h ⊢
  obtain ⟨⟨h1, h2⟩, h3⟩ := h
  rw [allT_args, Bool.and_eq_true] at h3
  have := sizeL_mem hu
  have := size_args t
  have := depth_mem hu
  have := depth_args t
  exact ⟨⟨by omega, by omega⟩, all_mem h3.2 hu⟩
theorem good_one {t : Tm} (h : goodT t = true) : oneK t = true := by
  simp only [goodT, Bool.and_eq_true] at h
  have h3 := h.2
  rw [allT_args, Bool.and_eq_true] at h3
  exact h3.1

def ssH0 : List KSpec := [awake11S, deepKS 60, goodTS, functorS, make0S, argS, univS, joinS, sameS]
def ssH1 : List KSpec := [awake11S, deepKS 60, goodTS, functorS, makeS, argS, univS, joinS, sameS]
theorem ssH0_ok : ∀ s ∈ ssH0, KSpecOKX Tryz.prog TabX s := by simp [ssH0, awake11S_ok, (deepKS_all 60 (by omega)).lift, goodTS_ok.lift, functorS_ok.lift, make0S_ok.lift, argS_ok.lift, univS_ok.lift, joinS_ok.lift, sameS_ok.lift]
theorem ssH1_ok : ∀ s ∈ ssH1, KSpecOKX Tryz.prog TabX s := by simp [ssH1, awake11S_ok, (deepKS_all 60 (by omega)).lift, goodTS_ok.lift, functorS_ok.lift, makeS_ok.lift, argS_ok.lift, univS_ok.lift, joinS_ok.lift, sameS_ok.lift]
theorem oneK_kinds {k n : Int} {s : List UInt8} {us : List Tm} (h : oneK (.mk k n s us) = true) (h0 : k ≠ 0) : (k = 1 ∧ s = [] ∧ us = []) ∨ (k = 2 ∧ n = 0 ∧ goodNm s = true ∧ us.length ≤ 8) := by
  unfold oneK at h
  simp only [Tm.kind, Tm.num, Tm.name, Tm.args] at h
  by_cases h1 : k = 1
  · subst h1
    simp at h
    exact .inl ⟨rfl, of_decide_eq_true h.1, h.2⟩
  · by_cases h2 : k = 2
    · subst h2
      simp at h
      exact .inr ⟨rfl, of_decide_eq_true h.1.1, h.1.2, of_decide_eq_true h.2⟩
    · simp [h0, h1, h2] at h
theorem nilT_self : nilT.enc.eqb nilT.enc = true := rfl
theorem joinV_one (F : Tm) (h0 : F.kind ≠ 0) (ha : F.args.length = 0) : joinV ([F], nilT) = some F := by
  simp [joinV, nilT_self, h0, ha]
theorem joinV_more (F : Tm) (us : List Tm) (h0 : F.kind ≠ 0) (h1 : F.kind ≠ 1) (ha : F.args.length = 0) (hu : us ≠ []) (hl : us.length ≤ 8) : joinV (F :: us, nilT) = some (compT F.name us) := by
  have : us.length ≠ 0 := fun e => hu (List.eq_nil_of_length_eq_zero e)
  simp [joinV, nilT_self, h0, h1, ha, hu, hl]

set_option maxRecDepth 100000 in
set_option maxHeartbeats 16000000 in
theorem shapeBack_none (k n : Int) (s : List UInt8) (F : Tm) (hF : functorT (.mk k n s []) = (F, 0)) (hg : goodT (.mk k n s []) = true) (hb : (Tm.mk k n s []).bulk < 10000000) (h0 : k ≠ 0)
    (hFb : F.bulk < 10000000) (hFg : goodT F = true) (hF0 : F.kind ≠ 0) (hFa : F.args.length = 0) (hFn : F.name = s) (hFk : F.kind = k) (hFs : sameT F (.mk k n s []) = true) (hdp : deepT 60 (.mk k n s []) = false) :
    evCall (envOf ssH0) 9 10 [.agg [.int .i64 k, .int .i64 n, .str s, .sl []]] Sz.h0 = some (.bool true, Sz.h0) := by
  have hd := deepKS_at 60 (.mk k n s [])
  have hcl : (Tm.mk k n s []).enc = .agg [.int .i64 k, .int .i64 n, .str s, .sl []] := rfl
  have c1 := goodTS_at (.mk k n s []) (by omega)
  have cf := functorS_at (.mk k n s []) ⟨by omega, hg, h0⟩
  have cm := make0S_at F 0 ⟨by omega, hFg, hF0, hFa⟩
  have cu := univS_at (.mk k n s []) ⟨by omega, hg, h0⟩
  have cs := sameS_at F (.mk k n s []) ⟨by omega, by omega⟩
  have hu : univT (.mk k n s []) = listT [F] nilT := by unfold univT; rw [hF]; rfl
  have hbu := bulk_univ (.mk k n s [])
  have hav : (F.argV = .nils ∨ F.argV = .sl []) := by
    cases F with
    | nl a b c => exact .inl rfl
    | mk a b c us =>
      obtain rfl : us = [] := List.eq_nil_of_length_eq_zero hFa
      exact .inr rfl
  have hFe : F.enc = .agg F.cells := Tm.enc_eq F
  have hFc : F.cells = [.int .i64 k, .int .i64 F.num, .str s, F.argV] := by simp [Tm.cells, hFk, hFn]
  rw [hF] at cf
  dsimp only at cf
  rw [hg] at c1 cs
  rw [hFg, hFs] at cs
  rw [hdp] at hd
  rw [hFe, hFc] at cf cm cs
  rw [hcl] at hd c1 cf cu cs
  have hz : (Tm.nl 0 0 []).enc = .agg [.int .i64 0, .int .i64 0, .str [], .nils] := rfl
  rw [hz] at cu
  simp only [show ((60 : Nat) : Int) = 60 from rfl] at hd
  cases hgu : goodT (univT (.mk k n s [])) with
  | false =>
    rw [hgu] at cu
    simp only [Bool.false_eq_true, if_false] at cu
    generalize F.argV = av at *
    rcases hav with rfl | rfl
    · simp [ssH0, run10, c10, c10_m0, c10_b0, loopH_succ, awake11S_f, awake11S_at, deepKS_f, goodTS_f, functorS_f, argS_f, univS_f, joinS_f, sameS_f, make0S_f, hd, c1, cf, cm, cu, cs, h0]
    · simp [ssH0, run10, c10, c10_m0, c10_b0, loopH_succ, awake11S_f, awake11S_at, deepKS_f, goodTS_f, functorS_f, argS_f, univS_f, joinS_f, sameS_f, make0S_f, hd, c1, cf, cm, cu, cs, h0]
  | true =>
    rw [hgu] at cu
    simp only [if_true] at cu
    have cj := joinS_at (univT (.mk k n s [])) F ⟨by omega, hgu⟩ (by rw [hu, items_list _ _ rfl]; exact joinV_one F hF0 hFa)
    have hUe : (univT (.mk k n s [])).enc = .agg [.int .i64 (univT (.mk k n s [])).kind, .int .i64 (univT (.mk k n s [])).num, .str (univT (.mk k n s [])).name, (univT (.mk k n s [])).argV] := Tm.enc_eq _
    have hUr := argV_refs (univT (.mk k n s []))
    rw [hFe, hFc] at cj
    rw [hUe] at cu cj
    generalize univT (.mk k n s []) = U at *
    generalize F.argV = av at *
    rcases hav with rfl | rfl
    · simp [ssH0, run10, c10, c10_m0, c10_b0, loopH_succ, awake11S_f, awake11S_at, deepKS_f, goodTS_f, functorS_f, argS_f, univS_f, joinS_f, sameS_f, make0S_f, hd, c1, cf, cm, cu, cj, cs, h0, hUr, frz_argV]
    · simp [ssH0, run10, c10, c10_m0, c10_b0, loopH_succ, awake11S_f, awake11S_at, deepKS_f, goodTS_f, functorS_f, argS_f, univS_f, joinS_f, sameS_f, make0S_f, hd, c1, cf, cm, cu, cj, cs, h0, hUr, frz_argV]

set_option maxRecDepth 100000 in
set_option maxHeartbeats 4000000 in
theorem c10_loop (n : Nat) (s : List UInt8) (us : List Tm) (hg : goodT (.mk 2 0 s us) = true) (hb : (Tm.mk 2 0 s us).bulk < 10000000) (hu8 : us.length ≤ 8) (M Nm : AObj) : ∀ (post pre : List Tm) (k : Nat), us = pre ++ post → post.length < k →
    aft 3 0 (loopH (evCode (evCall (envOf ssH1) (n + 1)) (n + 1) c10_b0) c10_m0 3 k (c10_f0 (.ptr 0 0) (.int .i64 us.length) (.int .i64 ((pre.length : Int) + 1))) ⟨3, [M, Nm, .row [.int .i64 2, .int .i64 0, .str s, .sl (us.map Tm.enc)]], 3, 0⟩) =
      some (.exit 0, FM 122 [(1, .ptr 0 0)], ⟨3, [M, Nm, .row [.int .i64 2, .int .i64 0, .str s, .sl (us.map Tm.enc)]], 0, 0⟩)
  | [], pre, k + 1, e, _ => by
    simp at e
    subst e
    have h5 := encs_refs us
    have t1 : ((us.length : Int) + 1 ≤ (us.length : Int)) = False := eq_false (by omega)
    rw [loopH_succ]
    simp [c10_b0, c10_m0, h5, t1]
  | x :: post, pre, k + 1, e, hk => by
    have hpl : pre.length < us.length := by rw [e]; simp
    have hx : us[pre.length]? = some x := by rw [e]; simp
    have hx' : ∀ h : pre.length < us.length, us[pre.length] = x := fun h => by
      rw [List.getElem?_eq_getElem h] at hx
      exact Option.some.inj hx
    have hmem : x ∈ us := by rw [e]; simp
    have h5 := encs_refs us
    have ih := c10_loop n s us hg hb hu8 M Nm post (pre ++ [x]) k (by simp [e]) (by rw [List.length_cons] at hk; omega)
    simp only [List.length_append, List.length_cons, List.length_nil, Nat.zero_add, Int.natCast_add, Int.natCast_one] at ih
    have ca := argS_at (.mk 2 0 s us) pre.length x ⟨by omega, hg, by simp [Tm.kind]⟩ hx
    have hcl : (Tm.mk 2 0 s us).enc = .agg [.int .i64 2, .int .i64 0, .str s, .sl (us.map Tm.enc)] := Tm.enc_eq _
    rw [hcl] at ca
    have hgx : goodT x = true := good_arg hg hmem
    have hxb : x.bulk ≤ Tm.bulkL us := bulk_arg us x hmem
    have hbm : (Tm.mk 2 0 s us).bulk = 1 + s.length + Tm.bulkL us := bulk_args _
    have cs := sameS_at x x ⟨by omega, by omega⟩
    rw [hgx, sameT_refl] at cs
    have hxe : x.enc = .agg x.cells := Tm.enc_eq x
    have hxc : x.cells = [.int .i64 x.kind, .int .i64 x.num, .str x.name, x.argV] := rfl
    have hxr := argV_refs x
    rw [hxe, hxc] at ca cs
    have t1 : ((pre.length : Int) + 1 ≤ (us.length : Int)) = True := eq_true (by omega)
    have t2 : (pre.length + 1 ≤ us.length) = True := eq_true (by omega)
    have t2' : (pre.length < us.length) = True := eq_true (by omega)
    have w1 : IntKind.i64.wrap ((pre.length : Int) + 1 + 1) = (pre.length : Int) + 1 + 1 := wrap_i64 (by omega) (by omega)
    have w2 : IntKind.i64.wrap (pre.length : Int) = (pre.length : Int) := wrap_i64 (by omega) (by omega)
    have t3 : ((pre.length : Int) < (us.length : Int)) = True := eq_true (by omega)
    rw [loopH_succ]
    simp [ssH1, c10_b0, c10_m0, awake11S_f, awake11S_at, deepKS_f, goodTS_f, functorS_f, argS_f, univS_f, joinS_f, sameS_f, makeS_f, h5, ca, cs, hx', hxe, hxc, hxr, frz_argV, t1, t2, t2', t3, w1, w2]
    simp only [ssH1, c10_b0, c10_m0] at ih
    exact ih

set_option maxRecDepth 100000 in
set_option maxHeartbeats 16000000 in
theorem shapeBack_some (s : List UInt8) (us : List Tm) (hg : goodT (.mk 2 0 s us) = true) (hs : goodNm s = true) (hb : (Tm.mk 2 0 s us).bulk < 10000000) (hu : us ≠ []) (hu8 : us.length ≤ 8) (hdp : deepT 60 (.mk 2 0 s us) = false) :
    evCall (envOf ssH1) 20 10 [.agg [.int .i64 2, .int .i64 0, .str s, .sl (us.map Tm.enc)]] Sz.h0 = some (.bool true, Sz.h0) := by
  have hd := deepKS_at 60 (.mk 2 0 s us)
  have hcl : (Tm.mk 2 0 s us).enc = .agg [.int .i64 2, .int .i64 0, .str s, .sl (us.map Tm.enc)] := Tm.enc_eq _
  have hbm : (Tm.mk 2 0 s us).bulk = 1 + s.length + Tm.bulkL us := bulk_args _
  have hpos : us.length ≠ 0 := fun e => hu (List.eq_nil_of_length_eq_zero e)
  have c1 := goodTS_at (.mk 2 0 s us) (by omega)
  have cf := functorS_at (.mk 2 0 s us) ⟨by omega, hg, by simp [Tm.kind]⟩
  have hF : functorT (.mk 2 0 s us) = (.nl 2 0 s, (us.length : Int)) := by simp [functorT, Tm.kind, Tm.name, Tm.args]
  have cm := makeS_at s us.length 0 ⟨hs, by omega, hu8, by omega, by omega, by have h := hs; unfold goodNm at h; rw [Bool.and_eq_true, decide_eq_true_eq] at h; omega⟩
  have cu := univS_at (.mk 2 0 s us) ⟨by omega, hg, by simp [Tm.kind]⟩
  have cs := sameS_at (.mk 2 0 s us) (.mk 2 0 s us) ⟨by omega, by omega⟩
  have hun : univT (.mk 2 0 s us) = listT (.nl 2 0 s :: us) nilT := by unfold univT; rw [hF]; rfl
  have hbu := bulk_univ (.mk 2 0 s us)
  have e2 : (Tm.nl 2 0 s).enc = .agg [.int .i64 2, .int .i64 0, .str s, .nils] := rfl
  have lp := fun M Nm => c10_loop 18 s us hg hb hu8 M Nm us [] 19 rfl (by omega)
  have h5 := encs_refs us
  have r1 := encs_refs (varsT 0 us.length)
  have l1 := varsT_len 0 us.length
  rw [hF] at cf
  dsimp only at cf
  rw [hg] at c1 cs
  rw [sameT_refl] at cs
  rw [hdp] at hd
  rw [e2] at cf
  rw [hcl] at hd c1 cf cu cs
  have hz : (Tm.nl 0 0 []).enc = .agg [.int .i64 0, .int .i64 0, .str [], .nils] := rfl
  rw [hz] at cu
  simp only [show ((60 : Nat) : Int) = 60 from rfl] at hd
  simp only [ssH1, c10_m0, List.length_nil, Int.natCast_zero, Int.zero_add] at lp
  cases hgu : goodT (univT (.mk 2 0 s us)) with
  | false =>
    rw [hgu] at cu
    simp only [Bool.false_eq_true, if_false] at cu
    simp [ssH1, run10, c10, c10_m0, awake11S_f, awake11S_at, deepKS_f, goodTS_f, functorS_f, argS_f, univS_f, joinS_f, sameS_f, makeS_f, hd, c1, cf, cm, cu, cs, h5, r1, l1, lp]
  | true =>
    rw [hgu] at cu
    simp only [if_true] at cu
    have cj := joinS_at (univT (.mk 2 0 s us)) (compT s us) ⟨by omega, hgu⟩ (by rw [hun, items_list _ _ rfl]; exact joinV_more (.nl 2 0 s) us (by simp [Tm.kind]) (by simp [Tm.kind]) rfl hu hu8)
    have hct : compT s us = .mk 2 0 s us := by cases us with | nil => exact absurd rfl hu | cons y r => rfl
    rw [hct, hcl] at cj
    have hUe : (univT (.mk 2 0 s us)).enc = .agg [.int .i64 (univT (.mk 2 0 s us)).kind, .int .i64 (univT (.mk 2 0 s us)).num, .str (univT (.mk 2 0 s us)).name, (univT (.mk 2 0 s us)).argV] := Tm.enc_eq _
    have hUr := argV_refs (univT (.mk 2 0 s us))
    rw [hUe] at cu cj
    generalize univT (.mk 2 0 s us) = U at *
    simp [ssH1, run10, c10, c10_m0, awake11S_f, awake11S_at, deepKS_f, goodTS_f, functorS_f, argS_f, univS_f, joinS_f, sameS_f, makeS_f, hd, c1, cf, cm, cu, cj, cs, h5, r1, l1, lp, hUr, frz_argV]

set_option maxRecDepth 100000 in
set_option maxHeartbeats 16000000 in
theorem shapeBack_prim (t : Tm) (hb : t.bulk < 10000000) (ht : ∃ k n s us, t = .mk k n s us) : PrimOKX Tryz.prog TabX 10 [t.enc] (.bool true) := by
  obtain ⟨k, n, s, us, rfl⟩ := ht
  have hcl : (Tm.mk k n s us).enc = .agg [.int .i64 k, .int .i64 n, .str s, .sl (us.map Tm.enc)] := Tm.enc_eq _
  have h5 := encs_refs us
  have hd := deepKS_at 60 (.mk k n s us)
  have c1 := goodTS_at (.mk k n s us) (by omega)
  rw [hcl] at hd c1
  simp only [show ((60 : Nat) : Int) = 60 from rfl] at hd
  have fin : ∀ (ss : List KSpec) (m : Nat), (∀ s ∈ ss, KSpecOKX Tryz.prog TabX s) → evCall (envOf ss) m 10 [.agg [.int .i64 k, .int .i64 n, .str s, .sl (us.map Tm.enc)]] Sz.h0 = some (.bool true, Sz.h0) → PrimOKX Tryz.prog TabX 10 [(Tm.mk k n s us).enc] (.bool true) := fun ss m h e => by
    rw [hcl]
    exact prim_of (envOf_okX h) e rfl (by simp [AV.refsL, AV.refs])
  cases hdp : deepT 60 (.mk k n s us) with
  | true =>
    rw [hdp] at hd
    refine fin ssH1 5 ssH1_ok ?_
    simp [ssH1, run10, c10, awake11S_f, awake11S_at, deepKS_f, goodTS_f, functorS_f, argS_f, univS_f, joinS_f, sameS_f, makeS_f, hd, h5]
  | false =>
    rw [hdp] at hd
    cases hg : goodT (.mk k n s us) with
    | false =>
      rw [hg] at c1
      refine fin ssH1 5 ssH1_ok ?_
      simp [ssH1, run10, c10, awake11S_f, awake11S_at, deepKS_f, goodTS_f, functorS_f, argS_f, univS_f, joinS_f, sameS_f, makeS_f, hd, c1, h5]
    | true =>
      rw [hg] at c1
      by_cases h0 : k = 0
      · subst h0
        refine fin ssH1 5 ssH1_ok ?_
        simp [ssH1, run10, c10, awake11S_f, awake11S_at, deepKS_f, goodTS_f, functorS_f, argS_f, univS_f, joinS_f, sameS_f, makeS_f, hd, c1, h5]
      rcases oneK_kinds (good_one hg) h0 with ⟨rfl, rfl, rfl⟩ | ⟨rfl, rfl, hs, hu8⟩
      · exact fin ssH0 9 ssH0_ok (shapeBack_none 1 n [] (.mk 1 n [] []) rfl hg hb h0 hb hg h0 rfl rfl rfl (sameT_refl _) hdp)
      · by_cases hu : us = []
        · subst hu
          have e1 : goodT (.nl 2 0 s) = true := by rw [good_atomA]; exact hs
          exact fin ssH0 9 ssH0_ok (shapeBack_none 2 0 s (.nl 2 0 s) rfl hg hb h0 (by have := bulk_args (.mk 2 0 s []); simp [Tm.bulk, Tm.name] at *; omega) e1 (by simp [Tm.kind]) rfl rfl rfl (by simp [sameT]; exact ⟨⟨⟨rfl, rfl⟩, rfl⟩, rfl⟩) hdp)
        · exact fin ssH1 20 ssH1_ok (shapeBack_some s us hg hs hb hu hu8 hdp)
end Go.Proofs.YtleeinkdkllcdaaGreatDoor

namespace Go.Proofs.YtleeinkdkllcdaaGreatDoor
open Go Sz Go.ChangeShapes Go.WideShapes Go.ChangeAt Go.RowKit
set_option linter.unusedSimpArgs false

/-! Terms as arguments. -/

theorem tm_inv : ∀ (n : Nat) (v : AV), SizeOf.sizeOf v ≤ n → HasTy Tryz.prog 26 v → ∃ t : Tm, v = t.enc ∧ (∃ k n s us, t = .mk k n s us) ∧ -9223372036854775808 ≤ t.num ∧ t.num < 9223372036854775808
  | 0, v, h, _ => by cases v <;> simp at h
  | n + 1, v, hn, h => by
    obtain ⟨vs, rfl, hv⟩ := ty_agg Tryz.underlying26 h
    cases hv with
    | cons h1 r1 => cases r1 with
      | cons h2 r2 => cases r2 with
        | cons h3 r3 => cases r3 with
          | cons h4 r4 =>
            cases r4
            obtain ⟨k, rfl, _⟩ := ty_i64 Tryz.underlying3 h1
            obtain ⟨q, rfl, hq1, hq2⟩ := ty_i64 Tryz.underlying2 h2
            obtain ⟨s, rfl, _⟩ := ty_str Tryz.underlying9 h3
            obtain ⟨xs, rfl, _, hx⟩ := ty_sl Tryz.underlying24 h4
            have hsz : SizeOf.sizeOf xs ≤ n := by
              simp only [List.flatMap_cons, List.flatMap_nil, AV.cells, List.cons_append, List.nil_append, List.append_nil, AV.agg.sizeOf_spec, List.cons.sizeOf_spec, AV.sl.sizeOf_spec] at hn
              omega
            obtain ⟨us, rfl⟩ := ty_map (f := Tm.enc) fun x hm => by
              obtain ⟨t, e, _⟩ := tm_inv n x (by have := List.sizeOf_lt_of_mem hm; omega) (hx x hm)
              exact ⟨t, e⟩
            exact ⟨.mk k q s us, by simp [Tm.enc, AV.cells, encL_map], ⟨k, q, s, us, rfl⟩, hq1, hq2⟩
theorem tm_of {v : AV} (h : HasTy Tryz.prog 26 v) : ∃ t : Tm, v = t.enc ∧ (∃ k n s us, t = .mk k n s us) ∧ -9223372036854775808 ≤ t.num ∧ t.num < 9223372036854775808 := tm_inv _ v (Nat.le_refl _) h
mutual
/-- How much a value holds. -/
def vb : AV → Nat
  | .bool _ => 1
  | .int .. => 1
  | .str s => s.length + 1
  | .sl xs => vbL xs + 1
  | .agg cs => vbL cs
  | _ => 0
def vbL : List AV → Nat
  | [] => 0
  | v :: r => vb v + vbL r
end
theorem vbL_append (a b : List AV) : vbL (a ++ b) = vbL a + vbL b := by
  induction a with
  | nil => simp [vbL]
  | cons v r ih => simp [vbL, ih]; omega
theorem vbL_cells (v : AV) : vbL v.cells = vb v := by
  cases v <;> simp [AV.cells, vbL, vb]
theorem vbL_mem {v : AV} {l : List AV} (h : v ∈ l) : vb v ≤ vbL l := by
  induction l with
  | nil => cases h
  | cons x r ih =>
    simp only [vbL]
    cases h with
    | head => omega
    | tail _ h => have := ih h; omega

mutual
theorem vb_le {H : Type} : ∀ d : DataW H, vb (avOf d) ≤ Rows.uptoBulk d
  | .lit l => by cases l <;> simp [avOf, vb, Rows.uptoBulk, String.length, ByteArray.size]
  | .nil => by simp [avOf, vb, vbL, Rows.uptoBulk]
  | .ptr d => by simp [avOf, vb]
  | .slice es sp => by have := vbL_le es; simp [avOf, vb, Rows.uptoBulk]; omega
  | .agg ps => by have := vbC_le ps; simp [avOf, vb, Rows.uptoBulk]; omega
  | .iface _ d => by simp [avOf, vb]
  | .map _ => by simp [avOf, vb]
  | .held _ => by simp [avOf, vb]
theorem vbL_le {H : Type} : ∀ l : List (DataW H), vbL (avOfL l) ≤ Rows.uptoBulkAll l
  | [] => by simp [avOfL, vbL]
  | d :: r => by have := vb_le d; have := vbL_le r; simp [avOfL, vbL, Rows.uptoBulkAll]; omega
theorem vbC_le {H : Type} : ∀ l : List (DataW H), vbL (cellsOfL l) ≤ Rows.uptoBulkAll l
  | [] => by simp [cellsOfL, vbL]
  | d :: r => by have := vb_le d; have := vbC_le r; simp [cellsOfL, vbL_append, vbL_cells, Rows.uptoBulkAll]; omega
end
theorem upto_le {H : Type} {ds : List (DataW H)} (h : Rows.uptoSmall H ds = true) : vbL (ds.map avOf) ≤ 1048576 := by
  have h1 := vbL_le ds
  rw [avOfL_map] at h1
  have h2 : Rows.uptoBulkAll ds ≤ 1048576 := of_decide_eq_true h
  omega

mutual
theorem bulk_vb : ∀ t : Tm, t.bulk ≤ vb t.enc
  | .nl k n s => by simp [Tm.bulk, Tm.enc, vb, vbL]; omega
  | .mk k n s us => by have := bulkL_vb us; simp [Tm.bulk, Tm.enc, vb, vbL]; omega
theorem bulkL_vb : ∀ l : List Tm, Tm.bulkL l ≤ vbL (Tm.encL l)
  | [] => by simp [Tm.bulkL]
  | t :: r => by have := bulk_vb t; have := bulkL_vb r; simp [Tm.bulkL, Tm.encL, vbL]; omega
end
theorem bulk_of {l : List Tm} {B : Nat} (h : vb (.sl (l.map Tm.enc)) ≤ B) : ∀ t ∈ l, t.bulk ≤ B := fun t ht => by
  have h1 := bulk_vb t
  have h2 := vbL_mem (List.mem_map_of_mem (f := Tm.enc) ht)
  simp only [vb] at h
  omega
end Go.Proofs.YtleeinkdkllcdaaGreatDoor

namespace Go.Proofs.YtleeinkdkllcdaaGreatDoor
open Go Sz

theorem shapeBack_lawX {H : Type} (ds : List (DataW H)) (h : HasTys Tryz.prog Tryz.f10.params.toList (ds.map avOf)) (_ : (DataW.weightsEach Tryz.prog Tryz.f10.params.toList ds).all (· ≤ reachBytes) = true) (hk : Rows.uptoSmall H ds = true) : PrimOKX Tryz.prog TabX 10 (ds.map avOf) (.bool true) := by
  have hb := upto_le hk
  generalize ds.map avOf = avs at h hb
  rw [Tryz.params10] at h
  cases h with
  | cons h1 r1 =>
    cases r1
    obtain ⟨t, rfl, ht, _⟩ := tm_of h1
    have := bulk_vb t
    simp only [vbL] at hb
    exact shapeBack_prim t (by omega) ht
end Go.Proofs.YtleeinkdkllcdaaGreatDoor
