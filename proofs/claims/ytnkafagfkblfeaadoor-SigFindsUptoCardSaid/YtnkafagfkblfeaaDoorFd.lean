import Derived.Test.YtnkafagfkblfeaaDoorTm
import Derived.Test.YtnkafagfkblfeaaDoorSig
import Derived.Test.YtnkafagfkblfeaaDoorBn
import Derived.Test.YtnkafagfkblfeaaDoorFn
set_option linter.unusedVariables false
set_option linter.unusedSimpArgs false
set_option linter.unusedSectionVars false

namespace Go.Proofs.YtnkafagfkblfeaaDoor
open Go Sz
set_option linter.unusedSimpArgs false
attribute [local simp] seqF condF stepF callF callvF guardF trF step1F call1F callv1F guard1F seqK_n seqK_e seqK_r condK_t condK_f stK_s gdK_t gdK_f cvK_f trK_s trK1_s stK1_s gdK1_t gdK1_f cvK1_f evCode_skip evCode_reg evCode_dreg evCode_block evCode_exit evCode_ret evSteps_nil evTr_nil ldId chkTr
 evOp_mov evOp_pick evOp_box evOp_bld evOp_bsl evOp_ld evOp_st evOp_nck evOp_bin evOp_beq evOp_ceq evOp_peq evOp_not evOp_neg evOp_xor evOp_cvi evOp_cvss evOp_cvis evOp_cvsb evOp_mki evOp_mkf evOp_mkm evOp_mks evOp_sls evOp_slv evOp_fad evOp_fld1 evOp_fldn evOp_iad evOp_ixs evOp_ext evOp_lens evOp_lenv evOp_mx evOp_mn evOp_app evOp_bs0 evOp_snil evOp_clr
 FM_ev ev_const FM_put put_none FM_unwanted lk_hit lk_miss lk_nil FM_clear FM_clearB trues pick gc_FM gc_FM0 incK snds renM allM evB_fm enumA cells_agg cells_bool cells_int cells_str cells_nilp cells_ptr cells_ip cells_nils cells_sl cells_vec cells_nilm cells_map cells_nilfn cells_fn cells_nili cells_iface ldA row_mk get_mk set_mk mark_mk alloc_mk' trunc_mk binA resAll_nil resAll_cons FM_resT FM_resC oneOf finish_mk frz_undef frz_bool frz_int frz_str frz_nilp frz_ptr frz_ip frz_nils frz_sl frz_nilm frz_map frz_nilfn frz_fn frz_nili frz_iface frz_old frz_agg frz_tuple frzL_nil frzL_cons kill_nil kill_cons chunk_zero chunk_succ AV.refs AV.refsL evCall_spec lookF_nil lookF_cons callS_nil callS_oneF spK_s spK_n frK_s frK_n clones cloneS_f cloneS_nils cloneS_sl0 fillA putAt_nil putAt_cons evCode_loop bgn_mk aft_mk keeps objsAt ren renId AV.top lowObj h0 succ_le_f oldK oldAll oldLow oldRen lowCells_row lowCells_map lowCells_dead objCells topLow renObj List.idxOf_cons List.idxOf_nil nilA nilK elemsA_nils elemsA_vec elemsA_str evOp_die evOp_lkp evOp_cvbs lookA scal_bool scal_int scal_str scal_nils scal_sl scal_tuple scal_agg scal1_bool scal1_int scal1_str scal1_nils scal1_sl scal1_agg
attribute [local simp low] frz_vecR

/-! Predicates; sig.Find in any heap. -/

structure Pd where
  name : List UInt8
  ar : Int
  ceil : BitVec 64
  dyn : Bool
def Pd.cells (p : Pd) : List AV := [.str p.name, .int .i64 p.ar, .int .u64 (labN p.ceil), .bool p.dyn]
def Pd.enc (p : Pd) : AV := .agg p.cells
def flatP (l : List Pd) : List AV := l.flatMap Pd.cells
theorem flatP_len (l : List Pd) : (flatP l).length = l.length * 4 := by
  induction l with
  | nil => rfl
  | cons p r ih =>
    unfold flatP at ih ⊢
    rw [List.flatMap_cons, List.length_append, ih, List.length_cons]
    have : p.cells.length = 4 := rfl
    omega
theorem flatP_refs (l : List Pd) : AV.refsL (flatP l) = 0 := by
  induction l with
  | nil => rfl
  | cons p r ih =>
    unfold flatP at ih ⊢
    rw [List.flatMap_cons]
    exact refsL_app (by simp [Pd.cells, AV.refsL, AV.refs]) ih
theorem flatP_drop : ∀ (l : List Pd) (j : Nat) (p : Pd), l[j]? = some p → (flatP l).drop (j * 4) = p.cells ++ flatP (l.drop (j + 1))
  | [], j, p, h => by simp at h
  | q :: r, 0, p, h => by
    simp only [List.getElem?_cons_zero, Option.some.injEq] at h
    subst h
    simp [flatP]
  | q :: r, j + 1, p, h => by
    have ih := flatP_drop r j p (by simpa using h)
    have e : flatP (q :: r) = q.cells ++ flatP r := rfl
    have h5 : q.cells.length = 4 := rfl
    rw [e, List.drop_append, List.drop_of_length_le (by omega), h5, show (j + 1) * 4 - 4 = j * 4 by omega, ih, List.drop_succ_cons]
    rfl
theorem flatP_at {l : List Pd} {j : Nat} {p : Pd} (h : l[j]? = some p) : ((flatP l).drop (j * 4)).take 4 = [.str p.name, .int .i64 p.ar, .int .u64 (labN p.ceil), .bool p.dyn] := by
  rw [flatP_drop l j p h]
  rfl

/-- The first of a name and a number. -/
def findP : List Pd → List UInt8 → Int → Option Pd
  | [], _, _ => none
  | p :: r, s, k => if p.name = s ∧ p.ar = k then some p else findP r s k
def pd0 : Pd := ⟨[], 0, 0#64, false⟩
theorem pd0_cells : pd0.cells = [.str [], .int .i64 0, .int .u64 0, .bool false] := rfl

set_option maxRecDepth 100000 in
set_option maxHeartbeats 4000000 in
theorem c44_loop (C : Nat → List AV → Heap → Option (AV × Heap)) (n : Nat) (nx : Nat) (os : List AObj) (w : Nat) (b : Nat) (hb : b < nx) (l : List Pd) (hl : l.length < 1000000) (s : List UInt8) (k : Int)
    (gb : ∀ wl md, Heap.get ⟨nx, os, wl, md⟩ b = some (.row (flatP l))) : ∀ (post pre : List Pd) (m : Nat), l = pre ++ post → post.length < m →
    aft (nx + 1) w (loopH (evCode C n c44_b0) c44_m0 (nx + 1) m (c44_f0 (.str s) (.int .i64 k) (.ptr nx 0) (.vec b 0 l.length 4 l.length) (.int .i64 l.length) (.int .i64 pre.length)) ⟨nx + 1, .row pd0.cells :: os, nx + 1, nx⟩) =
      some (match findP post s k with | some p => (.ret, FM 32 [(6, .ptr nx 0), (7, .bool true)], ⟨nx + 1, .row p.cells :: os, min w (nx + 1), nx⟩) | none => (.exit 0, FM 32 [(6, .ptr nx 0)], ⟨nx + 1, .row pd0.cells :: os, min w (nx + 1), nx⟩))
  | [], pre, m + 1, e, _ => by
    simp at e
    subst e
    have q1 : (nx + 1 ≤ b) = False := eq_false (by omega)
    rw [loopH_succ]
    simp [-get_mk, -set_mk, get_new, get_old, set_new, set_old, c44_b0, findP, q1]
  | p :: post, pre, m + 1, e, hm => by
    have ih := c44_loop C n nx os w b hb l hl s k gb post (pre ++ [p]) m (by simp [e]) (by simp at hm; omega)
    have q1 : (nx + 1 ≤ b) = False := eq_false (by omega)
    have q2 : b < nx + 1 := by omega
    have q4 : min nx (nx + 1) = nx := by omega
    have hp : l[pre.length]? = some p := by rw [e]; simp
    have hlp : pre.length < l.length := by rw [e]; simp
    have h1 : ((pre.length : Int) < (l.length : Int)) = True := eq_true (by omega)
    have h3 : IntKind.i64.wrap ((pre.length : Int) + 1) = (pre.length : Int) + 1 := wrap_i64 (by omega) (by omega)
    have w2 := flatP_at hp
    have lw := flatP_len l
    have r0 := flatP_refs l
    have q3 : pre.length * 4 + 4 ≤ l.length * 4 := by omega
    have pc : p.cells = [.str p.name, .int .i64 p.ar, .int .u64 (labN p.ceil), .bool p.dyn] := rfl
    simp only [List.length_append, List.length_cons, List.length_nil, Nat.zero_add, pd0_cells] at ih
    rw [show ((pre.length + 1 : Nat) : Int) = (pre.length : Int) + 1 by omega] at ih
    rw [loopH_succ]
    generalize flatP l = FW at *
    by_cases c1 : p.name = s
    · by_cases c2 : p.ar = k
      · simp [-get_mk, -set_mk, get_new, get_old, set_new, set_old, pd0_cells, pc, c44_b0, findP, q1, q2, q4, h1, h3, gb, hb, w2, lw, q3, c1, c2, hlp]
      · simp [-get_mk, -set_mk, get_new, get_old, set_new, set_old, pd0_cells, pc, c44_b0, c44_m0, findP, q1, q2, q4, h1, h3, gb, hb, w2, lw, q3, c1, c2, hlp]
        exact ih
    · have c1' : (p.name == s) = false := by simpa using c1
      simp [-get_mk, -set_mk, get_new, get_old, set_new, set_old, pd0_cells, pc, c44_b0, c44_m0, findP, q1, q2, q4, h1, h3, gb, hb, w2, lw, q3, c1, c1', hlp]
      exact ih

/-- What sig.Find answers. -/
def findV (l : List Pd) (s : List UInt8) (k : Int) : AV := match findP l s k with | some p => .tuple [.agg p.cells, .bool true] | none => .tuple [.agg pd0.cells, .bool false]

set_option maxRecDepth 100000 in
set_option maxHeartbeats 4000000 in
theorem find_at (ss : List KSpec) (n : Nat) (nx : Nat) (os : List AObj) (wl md : Nat) (a b : Nat) (ha : a < nx) (hb : b < nx) (hw : wl ≤ nx) (hmd : md ≤ nx) (nv : AV) (l : List Pd) (hl : l.length < 1000000) (hn : l.length < n) (s : List UInt8) (k : Int)
    (ga : ∀ wl md, Heap.get ⟨nx, os, wl, md⟩ a = some (.row [nv, .vec b 0 l.length 4 l.length]))
    (gb : ∀ wl md, Heap.get ⟨nx, os, wl, md⟩ b = some (.row (flatP l))) :
    evFn ss n 44 [.ptr a 0, .str s, .int .i64 k] ⟨nx, os, wl, md⟩ = some (findV l s k, ⟨nx, os, wl, md⟩) := by
  have hlp := c44_loop (evCall (envOf ss) n) n nx os nx b hb l hl s k gb l [] n rfl hn
  have q1 : a < nx + 1 := by omega
  have q2 : min nx (nx + 1) = nx := by omega
  have q3 : (nx + 1 ≤ b) = False := eq_false (by omega)
  have q4 : b < nx + 1 := by omega
  simp only [List.length_nil, show ((0 : Nat) : Int) = 0 from rfl, c44_m0, pd0_cells] at hlp
  unfold findV
  cases hf : findP l s k with
  | none =>
    rw [hf] at hlp
    dsimp only at hlp
    simp [-get_mk, -set_mk, get_new, get_old, set_new, set_old, run44, c44, c44_m0, pd0_cells, ga, ha, q1, q2, q3, q4, hlp]
  | some p =>
    rw [hf] at hlp
    dsimp only at hlp
    have pc : p.cells = [.str p.name, .int .i64 p.ar, .int .u64 (labN p.ceil), .bool p.dyn] := rfl
    simp [-get_mk, -set_mk, get_new, get_old, set_new, set_old, run44, c44, c44_m0, pd0_cells, ga, ha, q1, q2, q3, q4, hlp, pc]
end Go.Proofs.YtnkafagfkblfeaaDoor

namespace Go.Proofs.YtnkafagfkblfeaaDoor
open Go Sz
set_option linter.unusedSimpArgs false
attribute [local simp] seqF condF stepF callF callvF guardF trF step1F call1F callv1F guard1F seqK_n seqK_e seqK_r condK_t condK_f stK_s gdK_t gdK_f cvK_f trK_s trK1_s stK1_s gdK1_t gdK1_f cvK1_f evCode_skip evCode_reg evCode_dreg evCode_block evCode_exit evCode_ret evSteps_nil evTr_nil ldId chkTr
 evOp_mov evOp_pick evOp_box evOp_bld evOp_bsl evOp_ld evOp_st evOp_nck evOp_bin evOp_beq evOp_ceq evOp_peq evOp_not evOp_neg evOp_xor evOp_cvi evOp_cvss evOp_cvis evOp_cvsb evOp_mki evOp_mkf evOp_mkm evOp_mks evOp_sls evOp_slv evOp_fad evOp_fld1 evOp_fldn evOp_iad evOp_ixs evOp_ext evOp_lens evOp_lenv evOp_mx evOp_mn evOp_app evOp_bs0 evOp_snil evOp_clr
 FM_ev ev_const FM_put put_none FM_unwanted lk_hit lk_miss lk_nil FM_clear FM_clearB trues pick gc_FM gc_FM0 incK snds renM allM evB_fm enumA cells_agg cells_bool cells_int cells_str cells_nilp cells_ptr cells_ip cells_nils cells_sl cells_vec cells_nilm cells_map cells_nilfn cells_fn cells_nili cells_iface ldA row_mk get_mk set_mk mark_mk alloc_mk' trunc_mk binA resAll_nil resAll_cons FM_resT FM_resC oneOf finish_mk frz_undef frz_bool frz_int frz_str frz_nilp frz_ptr frz_ip frz_nils frz_sl frz_nilm frz_map frz_nilfn frz_fn frz_nili frz_iface frz_old frz_agg frz_tuple frzL_nil frzL_cons kill_nil kill_cons chunk_zero chunk_succ AV.refs AV.refsL evCall_spec lookF_nil lookF_cons callS_nil callS_oneF spK_s spK_n frK_s frK_n clones cloneS_f cloneS_nils cloneS_sl0 fillA putAt_nil putAt_cons evCode_loop bgn_mk aft_mk keeps objsAt ren renId AV.top lowObj h0 succ_le_f oldK oldAll oldLow oldRen lowCells_row lowCells_map lowCells_dead objCells topLow renObj List.idxOf_cons List.idxOf_nil nilA nilK elemsA_nils elemsA_vec elemsA_str evOp_die evOp_lkp evOp_cvbs lookA scal_bool scal_int scal_str scal_nils scal_sl scal_tuple scal_agg scal1_bool scal1_int scal1_str scal1_nils scal1_sl scal1_agg
attribute [local simp low] frz_vecR

/-! slices.ContainsFunc over predicates, in any heap. -/

def anyP (q : Pd → Bool) : List Pd → Bool
  | [] => false
  | p :: r => if q p then true else anyP q r
theorem anyP_iff (q : Pd → Bool) : ∀ l, anyP q l = true ↔ ∃ p ∈ l, q p = true
  | [] => by simp [anyP]
  | p :: r => by
    unfold anyP
    split
    · rename_i h; simp [h]
    · rename_i h; rw [anyP_iff q r]; simp [h]
theorem encP_refs (p : Pd) : p.enc.refs = 0 := by simp [Pd.enc, Pd.cells, AV.refs, AV.refsL]
theorem encsP_refs : ∀ l : List Pd, AV.refsL (l.map Pd.enc) = 0
  | [] => rfl
  | p :: r => by simp [AV.refsL, encP_refs, encsP_refs r]

set_option maxRecDepth 100000 in
set_option maxHeartbeats 4000000 in
theorem c86_loop (C : Nat → List AV → Heap → Option (AV × Heap)) (n : Nat) (nx : Nat) (os : List AObj) (w : Nat) (f : Nat) (caps : List AV) (hcaps : AV.refsL caps ≤ nx) (q : Pd → Bool) (l : List Pd) (hl : l.length < 1000000)
    (hC : ∀ p ∈ l, C f (p.enc :: caps) ⟨nx, os, nx, nx⟩ = some (.bool (q p), ⟨nx, os, nx, nx⟩)) : ∀ (post pre : List Pd) (m : Nat), l = pre ++ post → post.length < m →
    ∃ i : Nat, aft nx w (loopH (evCode C n c86_b0) c86_m0 nx m (c86_f0 (.sl (l.map Pd.enc)) (.fn f caps) (.int .i64 l.length) (.int .i64 pre.length)) ⟨nx, os, nx, nx⟩) =
      some (if anyP q post then .ret else .exit 0, if anyP q post then FM 19 [(4, .int .i64 i)] else FM 19 [], ⟨nx, os, min w nx, nx⟩)
  | [], pre, m + 1, e, _ => by
    refine ⟨0, ?_⟩
    simp at e
    subst e
    have r5 := encsP_refs l
    rw [loopH_succ]
    simp [-get_mk, -set_mk, get_new, get_old, set_new, set_old, c86_b0, anyP, hcaps, r5]
  | p :: post, pre, m + 1, e, hm => by
    obtain ⟨i, ih⟩ := c86_loop C n nx os w f caps hcaps q l hl hC post (pre ++ [p]) m (by simp [e]) (by simp at hm; omega)
    have hp : l[pre.length]? = some p := by rw [e]; simp
    have hlp : pre.length < l.length := by rw [e]; simp
    have h1 : ((pre.length : Int) < (l.length : Int)) = True := eq_true (by omega)
    have h3 : IntKind.i64.wrap ((pre.length : Int) + 1) = (pre.length : Int) + 1 := wrap_i64 (by omega) (by omega)
    have hc := hC p (by rw [e]; simp)
    have r5 := encsP_refs l
    have pe : p.enc = .agg p.cells := rfl
    have pc : p.cells = [.str p.name, .int .i64 p.ar, .int .u64 (labN p.ceil), .bool p.dyn] := rfl
    rw [pe, pc] at hc
    simp only [List.length_append, List.length_cons, List.length_nil, Nat.zero_add] at ih
    rw [show ((pre.length + 1 : Nat) : Int) = (pre.length : Int) + 1 by omega] at ih
    rw [loopH_succ]
    cases hq : q p with
    | true =>
      rw [hq] at hc
      refine ⟨pre.length, ?_⟩
      simp [-get_mk, -set_mk, get_new, get_old, set_new, set_old, c86_b0, anyP, hcaps, r5, h1, h3, hp, pe, pc, hc, hq]
    | false =>
      rw [hq] at hc
      refine ⟨i, ?_⟩
      simp [-get_mk, -set_mk, get_new, get_old, set_new, set_old, c86_b0, c86_m0, anyP, hcaps, r5, h1, h3, hp, pe, pc, hc, hq]
      exact ih

set_option maxRecDepth 100000 in
set_option maxHeartbeats 4000000 in
theorem contains_at (ss : List KSpec) (n : Nat) (nx : Nat) (os : List AObj) (wl md : Nat) (f : Nat) (caps : List AV) (hcaps : AV.refsL caps ≤ nx) (q : Pd → Bool) (l : List Pd) (hl : l.length < 1000000) (hn : l.length < n) (hss : lookF (ss ++ clones) 86 = [])
    (hC : ∀ p ∈ l, evCall (envOf ss) n f (p.enc :: caps) ⟨nx, os, nx, nx⟩ = some (.bool (q p), ⟨nx, os, nx, nx⟩)) :
    evFn ss (n + 1) 70 [.sl (l.map Pd.enc), .fn f caps] ⟨nx, os, wl, md⟩ = some (.bool (anyP q l), ⟨nx, os, wl, md⟩) := by
  obtain ⟨i, hlp⟩ := c86_loop (evCall (envOf ss) n) n nx os nx f caps hcaps q l hl hC l [] n rfl hn
  have r5 := encsP_refs l
  simp only [List.length_nil, show ((0 : Nat) : Int) = 0 from rfl, c86_m0] at hlp
  cases hf : anyP q l with
  | false =>
    rw [hf] at hlp
    simp only [Bool.false_eq_true, if_false] at hlp
    simp [-get_mk, -set_mk, get_new, get_old, set_new, set_old, run70, c70, run86, c86, c86_m0, hcaps, r5, hlp, hss, -lookF_cons, -clones]
  | true =>
    rw [hf] at hlp
    simp only [if_true] at hlp
    simp [-get_mk, -set_mk, get_new, get_old, set_new, set_old, run70, c70, run86, c86, c86_m0, hcaps, r5, hlp, hss, -lookF_cons, -clones]
end Go.Proofs.YtnkafagfkblfeaaDoor

namespace Go.Proofs.YtnkafagfkblfeaaDoor
open Go Sz
set_option linter.unusedSimpArgs false
attribute [local simp] seqF condF stepF callF callvF guardF trF step1F call1F callv1F guard1F seqK_n seqK_e seqK_r condK_t condK_f stK_s gdK_t gdK_f cvK_f trK_s trK1_s stK1_s gdK1_t gdK1_f cvK1_f evCode_skip evCode_reg evCode_dreg evCode_block evCode_exit evCode_ret evSteps_nil evTr_nil ldId chkTr
 evOp_mov evOp_pick evOp_box evOp_bld evOp_bsl evOp_ld evOp_st evOp_nck evOp_bin evOp_beq evOp_ceq evOp_peq evOp_not evOp_neg evOp_xor evOp_cvi evOp_cvss evOp_cvis evOp_cvsb evOp_mki evOp_mkf evOp_mkm evOp_mks evOp_sls evOp_slv evOp_fad evOp_fld1 evOp_fldn evOp_iad evOp_ixs evOp_ext evOp_lens evOp_lenv evOp_mx evOp_mn evOp_app evOp_bs0 evOp_snil evOp_clr
 FM_ev ev_const FM_put put_none FM_unwanted lk_hit lk_miss lk_nil FM_clear FM_clearB trues pick gc_FM gc_FM0 incK snds renM allM evB_fm enumA cells_agg cells_bool cells_int cells_str cells_nilp cells_ptr cells_ip cells_nils cells_sl cells_vec cells_nilm cells_map cells_nilfn cells_fn cells_nili cells_iface ldA row_mk get_mk set_mk mark_mk alloc_mk' trunc_mk binA resAll_nil resAll_cons FM_resT FM_resC oneOf finish_mk frz_undef frz_bool frz_int frz_str frz_nilp frz_ptr frz_ip frz_nils frz_sl frz_nilm frz_map frz_nilfn frz_fn frz_nili frz_iface frz_old frz_agg frz_tuple frzL_nil frzL_cons kill_nil kill_cons chunk_zero chunk_succ AV.refs AV.refsL evCall_spec lookF_nil lookF_cons callS_nil callS_oneF spK_s spK_n frK_s frK_n clones cloneS_f cloneS_nils cloneS_sl0 fillA putAt_nil putAt_cons evCode_loop bgn_mk aft_mk keeps objsAt ren renId AV.top lowObj h0 succ_le_f oldK oldAll oldLow oldRen lowCells_row lowCells_map lowCells_dead objCells topLow renObj List.idxOf_cons List.idxOf_nil nilA nilK elemsA_nils elemsA_vec elemsA_str evOp_die evOp_lkp evOp_cvbs lookA scal_bool scal_int scal_str scal_nils scal_sl scal_tuple scal_agg scal1_bool scal1_int scal1_str scal1_nils scal1_sl scal1_agg
attribute [local simp low] frz_vecR

/-! What may be a predicate. -/

def n2 : List (List UInt8) := [[97], [98]]
def N2 : AObj := .row [.str [97], .str [98]]
def mayP (p : Pd) : Bool := goodT (.nl 2 0 p.name) && decide (0 ≤ p.ar) && decide (p.ar ≤ 8) && fitsK n2 p.ceil
def decPd : AV → Option Pd
  | .agg [.str s, .int .i64 a, .int .u64 c, .bool d] => if 0 ≤ c ∧ c < 18446744073709551616 then some ⟨s, a, BitVec.ofNat 64 c.toNat, d⟩ else none
  | _ => none
theorem decPd_eq {v : AV} {p : Pd} (h : decPd v = some p) : v = p.enc := by
  unfold decPd at h
  split at h
  · split at h
    · rename_i s a c d hc
      cases h
      have : labN (BitVec.ofNat 64 c.toNat) = c := by
        unfold labN
        rw [BitVec.toNat_ofNat]
        omega
      simp only [Pd.enc, Pd.cells, this]
    · cases h
  · cases h
theorem decPd_enc (p : Pd) : decPd p.enc = some p := by
  have h := p.ceil.isLt
  have e : decPd p.enc = if 0 ≤ labN p.ceil ∧ labN p.ceil < 18446744073709551616 then some ⟨p.name, p.ar, BitVec.ofNat 64 (labN p.ceil).toNat, p.dyn⟩ else none := rfl
  have e2 : labN p.ceil = (p.ceil.toNat : Int) := rfl
  rw [e, e2, if_pos (by omega)]
  simp

def mayS : KSpec := ⟨68, fun | [v, .sl [.str [97], .str [98]]] => (match decPd v with | some p => if p.name.length < 100000000 then some (.bool (mayP p)) else none | none => none) | _ => none⟩
theorem mayS_f : mayS.f = 68 := (rfl)
theorem mayS_at (p : Pd) (h : p.name.length < 100000000) : mayS.S [p.enc, .sl [.str [97], .str [98]]] = some (.bool (mayP p)) := by
  simp only [mayS, decPd_enc, if_pos h]
theorem fitsS2_at (x : BitVec 64) : fitsS.S [.sl [.str [97], .str [98]], .int .u64 (labN x)] = some (.bool (fitsK n2 x)) := fitsS_at (.sl [.str [97], .str [98]]) n2 x rfl
theorem mayS_ok : KSpecOK Tryd.prog mayS := fun args v hv => by
  unfold mayS at hv ⊢
  dsimp only at hv ⊢
  split at hv
  · rename_i x
    split at hv
    · rename_i p hp
      split at hv
      · rename_i hl
        cases hv
        rw [decPd_eq hp]
        refine prim_of (n := 4) (h' := h0) (envOf_ok (ss := [goodTS, fitsS, atomS]) (by simp [goodTS_ok, fitsS_ok trimS_ok, atomS_ok])) ?_ rfl (by simp [AV.refsL, encP_refs, AV.refs])
        have pe : p.enc = .agg p.cells := rfl
        have pc : p.cells = [.str p.name, .int .i64 p.ar, .int .u64 (labN p.ceil), .bool p.dyn] := rfl
        have ha := atomS_at p.name
        have hg := goodTS_at (.nl 2 0 p.name) (by simp [Tm.bulk]; omega)
        have hge : (Tm.nl 2 0 p.name).enc = .agg [.int .i64 2, .int .i64 0, .str p.name, .nils] := rfl
        rw [hge] at hg
        have hf := fitsS2_at p.ceil
        rw [pe, pc]
        unfold mayP
        cases c1 : goodT (.nl 2 0 p.name) with
        | false =>
          rw [c1] at hg
          simp [run68, c68, ha, hg, hf, goodTS_f, fitsS_f, atomS_f]
        | true =>
          rw [c1] at hg
          by_cases c2 : 0 ≤ p.ar
          · by_cases c3 : p.ar ≤ 8
            · simp [run68, c68, ha, hg, hf, goodTS_f, fitsS_f, atomS_f, c2, c3]
            · simp [run68, c68, ha, hg, hf, goodTS_f, fitsS_f, atomS_f, c2, c3]
          · simp [run68, c68, ha, hg, hf, goodTS_f, fitsS_f, atomS_f, c2]
      · cases hv
    · cases hv
  · cases hv
end Go.Proofs.YtnkafagfkblfeaaDoor

namespace Go.Proofs.YtnkafagfkblfeaaDoor
open Go Sz
set_option linter.unusedSimpArgs false
attribute [local simp] seqF condF stepF callF callvF guardF trF step1F call1F callv1F guard1F seqK_n seqK_e seqK_r condK_t condK_f stK_s gdK_t gdK_f cvK_f trK_s trK1_s stK1_s gdK1_t gdK1_f cvK1_f evCode_skip evCode_reg evCode_dreg evCode_block evCode_exit evCode_ret evSteps_nil evTr_nil ldId chkTr
 evOp_mov evOp_pick evOp_box evOp_bld evOp_bsl evOp_ld evOp_st evOp_nck evOp_bin evOp_beq evOp_ceq evOp_peq evOp_not evOp_neg evOp_xor evOp_cvi evOp_cvss evOp_cvis evOp_cvsb evOp_mki evOp_mkf evOp_mkm evOp_mks evOp_sls evOp_slv evOp_fad evOp_fld1 evOp_fldn evOp_iad evOp_ixs evOp_ext evOp_lens evOp_lenv evOp_mx evOp_mn evOp_app evOp_bs0 evOp_snil evOp_clr
 FM_ev ev_const FM_put put_none FM_unwanted lk_hit lk_miss lk_nil FM_clear FM_clearB trues pick gc_FM gc_FM0 incK snds renM allM evB_fm enumA cells_agg cells_bool cells_int cells_str cells_nilp cells_ptr cells_ip cells_nils cells_sl cells_vec cells_nilm cells_map cells_nilfn cells_fn cells_nili cells_iface ldA row_mk get_mk set_mk mark_mk alloc_mk' trunc_mk binA resAll_nil resAll_cons FM_resT FM_resC oneOf finish_mk frz_undef frz_bool frz_int frz_str frz_nilp frz_ptr frz_ip frz_nils frz_sl frz_nilm frz_map frz_nilfn frz_fn frz_nili frz_iface frz_old frz_agg frz_tuple frzL_nil frzL_cons kill_nil kill_cons chunk_zero chunk_succ AV.refs AV.refsL evCall_spec lookF_nil lookF_cons callS_nil callS_oneF spK_s spK_n frK_s frK_n clones cloneS_f cloneS_nils cloneS_sl0 fillA putAt_nil putAt_cons evCode_loop bgn_mk aft_mk keeps objsAt ren renId AV.top lowObj h0 succ_le_f oldK oldAll oldLow oldRen lowCells_row lowCells_map lowCells_dead objCells topLow renObj List.idxOf_cons List.idxOf_nil nilA nilK elemsA_nils elemsA_vec elemsA_str evOp_die evOp_lkp evOp_cvbs lookA scal_bool scal_int scal_str scal_nils scal_sl scal_tuple scal_agg scal1_bool scal1_int scal1_str scal1_nils scal1_sl scal1_agg
attribute [local simp low] frz_vecR

/-! sig.New: the loop that takes them in. -/

def ss12 : List KSpec := [sigAwakeS, goodS, mayS, plainFS, goodTS, compS, intS]
theorem plainFS_f : plainFS.f = 42 := (rfl)

/-- None is there twice. -/
def distF : List Pd → List Pd → Bool
  | _, [] => true
  | pre, p :: r => if (findP pre p.name p.ar).isSome then false else distF (pre ++ [p]) r
theorem flatP_app (l : List Pd) (p : Pd) : flatP (l ++ [p]) = flatP l ++ [.str p.name, .int .i64 p.ar, .int .u64 (labN p.ceil), .bool p.dyn] := by
  simp [flatP, Pd.cells]

set_option maxRecDepth 100000 in
set_option maxHeartbeats 10000000 in
theorem c43_next (n : Nat) (l : List Pd) (hl : l.length ≤ 32) (hn : 32 < n) : ∀ (post pre : List Pd) (m : Nat), l = pre ++ post → post.length < m → 0 < pre.length →
    ∃ o1 o2 o3 o4 : AObj, aft 4 1 (loopH (evCode (evCall (envOf ss12) (n + 1)) (n + 1) c43_b0) c43_m0 4 m (c43_f0 (.ptr 3 0) (.sl (l.map Pd.enc)) (.int .i64 l.length) (.int .i64 pre.length)) ⟨5, [.row (flatP pre), .row [.vec 2 0 2 1 2, .vec 4 0 pre.length 4 pre.length], N2, .row [.vec 0 0 2 1 2], N2], 3, 1⟩) =
      some (if distF pre post then .exit 1 else .ret, if distF pre post then FM 64 [(8, .ptr 3 0)] else FM 64 [(4, .nilp), (5, .int .i64 14)], if distF pre post then ⟨5, [.row (flatP l), .row [.vec 2 0 2 1 2, .vec 4 0 l.length 4 l.length], N2, .row [.vec 0 0 2 1 2], N2], 1, 1⟩ else ⟨5, [o1, o2, o3, o4, N2], 1, 1⟩)
  | [], pre, m + 1, e, _, hp => by
    refine ⟨N2, N2, N2, N2, ?_⟩
    simp at e
    subst e
    have r5 := encsP_refs l
    have r6 := flatP_refs l
    rw [loopH_succ]
    simp [c43_b0, distF, r5, r6, N2]
  | p :: post, pre, m + 1, e, hm, hp => by
    obtain ⟨o1, o2, o3, o4, ih⟩ := c43_next n l hl hn post (pre ++ [p]) m (by simp [e]) (by simp at hm; omega) (by simp)
    have hpl : l[pre.length]? = some p := by rw [e]; simp
    have hlp : pre.length < l.length := by rw [e]; simp
    have h1 : ((pre.length : Int) < (l.length : Int)) = True := eq_true (by omega)
    have h3 : IntKind.i64.wrap ((pre.length : Int) + 1) = (pre.length : Int) + 1 := wrap_i64 (by omega) (by omega)
    have pe : p.enc = .agg p.cells := rfl
    have pc : p.cells = [.str p.name, .int .i64 p.ar, .int .u64 (labN p.ceil), .bool p.dyn] := rfl
    have r5 := encsP_refs l
    have r6 := flatP_refs pre
    have lw := flatP_len pre
    have fi := find_at ss12 n 6 [.row p.cells, .row (flatP pre), .row [.vec 2 0 2 1 2, .vec 4 0 pre.length 4 pre.length], N2, .row [.vec 0 0 2 1 2], N2] 3 1 3 4 (by omega) (by omega) (by omega) (by omega) (.vec 2 0 2 1 2) pre (by omega) (by omega) p.name p.ar (fun _ _ => rfl) (fun _ _ => rfl)
    rw [pc] at fi
    have fa := flatP_app pre p
    have pr2 : AV.refsL (flatP pre ++ [.str p.name, .int .i64 p.ar, .int .u64 (labN p.ceil), .bool p.dyn]) = 0 := by rw [← fa]; exact flatP_refs _
    have b1 : (pre.length + 1) * 40 ≤ 140737488355328 := by omega
    have b2 : pre.length + 1 < 9223372036854775808 := by omega
    simp only [List.length_append, List.length_cons, List.length_nil, Nat.zero_add] at ih
    rw [show ((pre.length + 1 : Nat) : Int) = (pre.length : Int) + 1 by omega, fa] at ih
    have tP : List.take (pre.length * 4) (flatP pre) = flatP pre := List.take_of_length_le (by omega)
    rw [loopH_succ]
    unfold findV at fi
    unfold distF
    cases hf : findP pre p.name p.ar with
    | some q =>
      have qc : q.cells = [.str q.name, .int .i64 q.ar, .int .u64 (labN q.ceil), .bool q.dyn] := rfl
      rw [hf] at fi
      dsimp only at fi
      rw [qc] at fi
      simp only [N2, ss12] at fi
      refine ⟨.row (flatP pre), .row [.vec 2 0 2 1 2, .vec 4 0 pre.length 4 pre.length], N2, .row [.vec 0 0 2 1 2], ?_⟩
      generalize flatP pre = FW at *
      simp [c43_b0, c43_m0, r5, r6, h1, h3, hpl, pe, pc, fi, N2, ss12, sigAwakeS_f, goodS_f, mayS_f, plainFS_f, goodTS_f, compS_f, intS_f]
    | none =>
      rw [hf] at fi
      dsimp only at fi
      simp only [pd0_cells, N2, ss12] at fi
      generalize flatP pre = FW at *
      refine ⟨o1, o2, o3, o4, ?_⟩
      simp [c43_b0, c43_m0, r5, r6, h1, h3, hpl, pe, pc, fi, N2, ss12, pr2, b1, b2, lw, tP, sigAwakeS_f, goodS_f, mayS_f, plainFS_f, goodTS_f, compS_f, intS_f]
      exact ih

set_option maxRecDepth 100000 in
set_option maxHeartbeats 10000000 in
theorem c43_first (n : Nat) (p : Pd) (r : List Pd) (hl : r.length ≤ 31) (hn : 32 < n) (m : Nat) (hm : r.length + 1 < m) :
    ∃ o1 o2 o3 o4 : AObj, aft 4 1 (loopH (evCode (evCall (envOf ss12) (n + 1)) (n + 1) c43_b0) c43_m0 4 m (c43_f0 (.ptr 3 0) (.sl ((p :: r).map Pd.enc)) (.int .i64 (r.length + 1 : Nat)) (.int .i64 0)) ⟨4, [.row [.vec 2 0 2 1 2, .nils], N2, .row [.vec 0 0 2 1 2], N2], 4, 1⟩) =
      some (if distF [] (p :: r) then .exit 1 else .ret, if distF [] (p :: r) then FM 64 [(8, .ptr 3 0)] else FM 64 [(4, .nilp), (5, .int .i64 14)], if distF [] (p :: r) then ⟨5, [.row (flatP (p :: r)), .row [.vec 2 0 2 1 2, .vec 4 0 (r.length + 1) 4 (r.length + 1)], N2, .row [.vec 0 0 2 1 2], N2], 1, 1⟩ else ⟨5, [o1, o2, o3, o4, N2], 1, 1⟩) := by
  obtain ⟨m, rfl⟩ : ∃ m', m = m' + 1 := ⟨m - 1, by omega⟩
  obtain ⟨o1, o2, o3, o4, ih⟩ := c43_next n (p :: r) (by simp; omega) hn r [p] m rfl (by omega) (by simp)
  refine ⟨o1, o2, o3, o4, ?_⟩
  obtain ⟨n, rfl⟩ : ∃ n', n = n' + 1 := ⟨n - 1, by omega⟩
  have h1 : ((0 : Int) < (r.length : Int) + 1) = True := eq_true (by omega)
  have pe : p.enc = .agg p.cells := rfl
  have pc : p.cells = [.str p.name, .int .i64 p.ar, .int .u64 (labN p.ceil), .bool p.dyn] := rfl
  have r5 := encsP_refs r
  have fp : flatP [p] = [.str p.name, .int .i64 p.ar, .int .u64 (labN p.ceil), .bool p.dyn] := rfl
  have hd : distF [] (p :: r) = distF [p] r := rfl
  rw [hd]
  rw [fp] at ih
  simp only [List.length_cons, List.length_nil, Nat.zero_add, show ((1 : Nat) : Int) = 1 from rfl, List.map_cons, pe, pc, N2] at ih
  rw [loopH_succ]
  simp [c43_b0, c43_m0, run44, c44, c44_m0, c44_b0, loopH_succ, r5, h1, pe, pc, N2, ss12, sigAwakeS_f, goodS_f, mayS_f, plainFS_f, goodTS_f, compS_f, intS_f]
  exact ih
end Go.Proofs.YtnkafagfkblfeaaDoor

namespace Go.Proofs.YtnkafagfkblfeaaDoor
open Go Sz
set_option linter.unusedSimpArgs false
attribute [local simp] seqF condF stepF callF callvF guardF trF step1F call1F callv1F guard1F seqK_n seqK_e seqK_r condK_t condK_f stK_s gdK_t gdK_f cvK_f trK_s trK1_s stK1_s gdK1_t gdK1_f cvK1_f evCode_skip evCode_reg evCode_dreg evCode_block evCode_exit evCode_ret evSteps_nil evTr_nil ldId chkTr
 evOp_mov evOp_pick evOp_box evOp_bld evOp_bsl evOp_ld evOp_st evOp_nck evOp_bin evOp_beq evOp_ceq evOp_peq evOp_not evOp_neg evOp_xor evOp_cvi evOp_cvss evOp_cvis evOp_cvsb evOp_mki evOp_mkf evOp_mkm evOp_mks evOp_sls evOp_slv evOp_fad evOp_fld1 evOp_fldn evOp_iad evOp_ixs evOp_ext evOp_lens evOp_lenv evOp_mx evOp_mn evOp_app evOp_bs0 evOp_snil evOp_clr
 FM_ev ev_const FM_put put_none FM_unwanted lk_hit lk_miss lk_nil FM_clear FM_clearB trues pick gc_FM gc_FM0 incK snds renM allM evB_fm enumA cells_agg cells_bool cells_int cells_str cells_nilp cells_ptr cells_ip cells_nils cells_sl cells_vec cells_nilm cells_map cells_nilfn cells_fn cells_nili cells_iface ldA row_mk get_mk set_mk mark_mk alloc_mk' trunc_mk binA resAll_nil resAll_cons FM_resT FM_resC oneOf finish_mk frz_undef frz_bool frz_int frz_str frz_nilp frz_ptr frz_ip frz_nils frz_sl frz_nilm frz_map frz_nilfn frz_fn frz_nili frz_iface frz_old frz_agg frz_tuple frzL_nil frzL_cons kill_nil kill_cons chunk_zero chunk_succ AV.refs AV.refsL evCall_spec lookF_nil lookF_cons callS_nil callS_oneF spK_s spK_n frK_s frK_n clones cloneS_f cloneS_nils cloneS_sl0 fillA putAt_nil putAt_cons evCode_loop bgn_mk aft_mk keeps objsAt ren renId AV.top lowObj h0 succ_le_f oldK oldAll oldLow oldRen lowCells_row lowCells_map lowCells_dead objCells topLow renObj List.idxOf_cons List.idxOf_nil nilA nilK elemsA_nils elemsA_vec elemsA_str evOp_die evOp_lkp evOp_cvbs lookA scal_bool scal_int scal_str scal_nils scal_sl scal_tuple scal_agg scal1_bool scal1_int scal1_str scal1_nils scal1_sl scal1_agg
attribute [local simp low] frz_vecR

/-! sig.New, of two labels. -/

set_option maxRecDepth 100000 in
theorem odd_run (n : Nat) (s : List UInt8) (a c : Int) (d b : Bool) (hm : mayS.S [.agg [.str s, .int .i64 a, .int .u64 c, .bool d], .sl [.str [97], .str [98]]] = some (.bool b)) : evCall (envOf ss12) (n + 2) 67 [.agg [.str s, .int .i64 a, .int .u64 c, .bool d], .ptr 1 0] ⟨2, [.row [.vec 0 0 2 1 2], N2], 2, 2⟩ = some (.bool (!b), ⟨2, [.row [.vec 0 0 2 1 2], N2], 2, 2⟩) := by
  simp [run67, c67, hm, N2, ss12, sigAwakeS_f, goodS_f, mayS_f, plainFS_f, goodTS_f, compS_f, intS_f]
theorem odd_call (n : Nat) (p : Pd) (hp : p.name.length < 100000000) : evCall (envOf ss12) (n + 2) 67 [p.enc, .ptr 1 0] ⟨2, [.row [.vec 0 0 2 1 2], N2], 2, 2⟩ = some (.bool (!mayP p), ⟨2, [.row [.vec 0 0 2 1 2], N2], 2, 2⟩) := by
  have pe : p.enc = .agg [.str p.name, .int .i64 p.ar, .int .u64 (labN p.ceil), .bool p.dyn] := rfl
  have hm := mayS_at p hp
  generalize mayP p = b at hm ⊢
  rw [pe] at hm ⊢
  exact odd_run n p.name p.ar (labN p.ceil) p.dyn b hm
set_option maxRecDepth 100000 in
theorem own_call (n : Nat) (p : Pd) (hp : p.name.length < 100000000) (ha : -9223372036854775808 ≤ p.ar ∧ p.ar < 9223372036854775808) : evCall (envOf ss12) (n + 2) 69 [p.enc] ⟨2, [.row [.vec 0 0 2 1 2], N2], 2, 2⟩ = some (.bool (plainF p.name p.ar), ⟨2, [.row [.vec 0 0 2 1 2], N2], 2, 2⟩) := by
  have pe : p.enc = .agg p.cells := rfl
  have pc : p.cells = [.str p.name, .int .i64 p.ar, .int .u64 (labN p.ceil), .bool p.dyn] := rfl
  have hm : plainFS.S [.str p.name, .int .i64 p.ar] = some (.bool (plainF p.name p.ar)) := if_pos ⟨by omega, ha⟩
  rw [pe, pc]
  simp [run69, c69, N2, ss12, hm, sigAwakeS_f, goodS_f, mayS_f, plainFS_f, goodTS_f, compS_f, intS_f]
theorem goodS2 : goodS.S [.sl [.str [97], .str [98]]] = some (.bool true) := by
  have := goodS_at (.sl [.str [97], .str [98]]) n2 rfl
  rw [show goodN n2 = true by kernel_rfl] at this
  exact this

def newOK (l : List Pd) : Prop := l.length ≤ 32 ∧ anyP (fun p => !mayP p) l = false ∧ anyP (fun p => plainF p.name p.ar) l = false ∧ distF [] l = true

set_option maxRecDepth 100000 in
set_option maxHeartbeats 10000000 in
theorem new_at (n : Nat) (hn : 40 < n) (l : List Pd) (hp : ∀ p ∈ l, p.name.length < 100000000 ∧ -9223372036854775808 ≤ p.ar ∧ p.ar < 9223372036854775808) :
    (∃ e : Int, e ≠ 0 ∧ evFn ss12 (n + 4) 43 [.vec 0 0 2 1 2, .sl (l.map Pd.enc)] ⟨1, [N2], 0, 0⟩ = some (.tuple [.nilp, .int .i64 e], ⟨1, [N2], 0, 0⟩)) ∨
    (newOK l ∧ evFn ss12 (n + 4) 43 [.vec 0 0 2 1 2, .sl (l.map Pd.enc)] ⟨1, [N2], 0, 0⟩ = some (.tuple [.ptr 3 0, .int .i64 0],
      if l.length = 0 then ⟨4, [.row [.vec 2 0 2 1 2, .nils], N2, .row [.vec 0 0 2 1 2], N2], 0, 0⟩ else ⟨5, [.row (flatP l), .row [.vec 2 0 2 1 2, .vec 4 0 l.length 4 l.length], N2, .row [.vec 0 0 2 1 2], N2], 0, 0⟩)) := by
  have r5 := encsP_refs l
  have hcl := cloneS_sl 71 (xs := [.str [97], .str [98]]) (by simp)
  by_cases k1 : l.length ≤ 32
  · have k1' : ((32 : Int) < (l.length : Int)) = False := eq_false (by omega)
    have fo := contains_at ss12 (n + 2) 2 [.row [.vec 0 0 2 1 2], N2] 1 1 67 [.ptr 1 0] (by simp [AV.refsL, AV.refs]) (fun p => !mayP p) l (by omega) (by omega) (by simp [ss12, lookF_cons, lookF_nil, clones, cloneS_f, sigAwakeS_f, goodS_f, mayS_f, plainFS_f, goodTS_f, compS_f, intS_f]) (fun p h => odd_call n p (hp p h).1)
    have fw := contains_at ss12 (n + 2) 2 [.row [.vec 0 0 2 1 2], N2] 1 1 69 [] (by simp [AV.refsL, AV.refs]) (fun p => plainF p.name p.ar) l (by omega) (by omega) (by simp [ss12, lookF_cons, lookF_nil, clones, cloneS_f, sigAwakeS_f, goodS_f, mayS_f, plainFS_f, goodTS_f, compS_f, intS_f]) (fun p h => own_call n p (hp p h).1 (hp p h).2)
    simp only [N2, ss12] at fo fw
    cases k2 : anyP (fun p => !mayP p) l with
    | true =>
      rw [k2] at fo
      refine .inl ⟨1, by omega, ?_⟩
      simp [run43, c43, goodS2, fo, r5, k1', N2, ss12, sigAwakeS_f, goodS_f, mayS_f, plainFS_f, goodTS_f, compS_f, intS_f]
    | false =>
      rw [k2] at fo
      cases k3 : anyP (fun p => plainF p.name p.ar) l with
      | true =>
        rw [k3] at fw
        refine .inl ⟨8, by omega, ?_⟩
        simp [run43, c43, goodS2, fo, fw, r5, k1', N2, ss12, sigAwakeS_f, goodS_f, mayS_f, plainFS_f, goodTS_f, compS_f, intS_f]
      | false =>
        rw [k3] at fw
        cases l with
        | nil =>
          refine .inr ⟨⟨k1, k2, k3, rfl⟩, ?_⟩
          simp only [List.map_nil] at fo fw r5 ⊢
          simp [run43, c43, c43_m0, c43_b0, loopH_succ, run71, c71, hcl, finish_keep, goodS2, fo, fw, r5, k1', N2, ss12, sigAwakeS_f, goodS_f, mayS_f, plainFS_f, goodTS_f, compS_f, intS_f]
        | cons p r =>
          have hr : r.length ≤ 31 := by simp at k1; omega
          obtain ⟨o1, o2, o3, o4, lp⟩ := c43_first (n + 3) p r hr (by omega) (n + 4) (by omega)
          have k1'' : ((32 : Int) < (r.length : Int) + 1) = False := eq_false (by omega)
          have r6 := encsP_refs r
          have r7 := encP_refs p
          simp only [List.map_cons, N2, ss12, c43_m0, Int.natCast_add, show ((1 : Nat) : Int) = 1 from rfl] at lp fo fw r5 ⊢
          cases k4 : distF [] (p :: r) with
          | true =>
            rw [k4] at lp
            simp only [if_true] at lp
            refine .inr ⟨⟨k1, k2, k3, k4⟩, ?_⟩
            simp [run43, c43, c43_m0, run71, c71, hcl, finish_keep, goodS2, fo, fw, r5, r6, r7, k1'', lp, sigAwakeS_f, goodS_f, mayS_f, plainFS_f, goodTS_f, compS_f, intS_f]
          | false =>
            rw [k4] at lp
            simp only [Bool.false_eq_true, if_false] at lp
            refine .inl ⟨14, by omega, ?_⟩
            simp [run43, c43, c43_m0, run71, c71, hcl, finish_keep, goodS2, fo, fw, r5, r6, r7, k1'', lp, sigAwakeS_f, goodS_f, mayS_f, plainFS_f, goodTS_f, compS_f, intS_f]
  · have k1' : ((32 : Int) < (l.length : Int)) = True := eq_true (by omega)
    refine .inl ⟨1, by omega, ?_⟩
    simp [run43, c43, goodS2, r5, k1', N2, ss12, sigAwakeS_f, goodS_f, mayS_f, plainFS_f, goodTS_f, compS_f, intS_f]
end Go.Proofs.YtnkafagfkblfeaaDoor

namespace Go.Proofs.YtnkafagfkblfeaaDoor
open Go Sz
set_option linter.unusedSimpArgs false
attribute [local simp] seqF condF stepF callF callvF guardF trF step1F call1F callv1F guard1F seqK_n seqK_e seqK_r condK_t condK_f stK_s gdK_t gdK_f cvK_f trK_s trK1_s stK1_s gdK1_t gdK1_f cvK1_f evCode_skip evCode_reg evCode_dreg evCode_block evCode_exit evCode_ret evSteps_nil evTr_nil ldId chkTr
 evOp_mov evOp_pick evOp_box evOp_bld evOp_bsl evOp_ld evOp_st evOp_nck evOp_bin evOp_beq evOp_ceq evOp_peq evOp_not evOp_neg evOp_xor evOp_cvi evOp_cvss evOp_cvis evOp_cvsb evOp_mki evOp_mkf evOp_mkm evOp_mks evOp_sls evOp_slv evOp_fad evOp_fld1 evOp_fldn evOp_iad evOp_ixs evOp_ext evOp_lens evOp_lenv evOp_mx evOp_mn evOp_app evOp_bs0 evOp_snil evOp_clr
 FM_ev ev_const FM_put put_none FM_unwanted lk_hit lk_miss lk_nil FM_clear FM_clearB trues pick gc_FM gc_FM0 incK snds renM allM evB_fm enumA cells_agg cells_bool cells_int cells_str cells_nilp cells_ptr cells_ip cells_nils cells_sl cells_vec cells_nilm cells_map cells_nilfn cells_fn cells_nili cells_iface ldA row_mk get_mk set_mk mark_mk alloc_mk' trunc_mk binA resAll_nil resAll_cons FM_resT FM_resC oneOf finish_mk frz_undef frz_bool frz_int frz_str frz_nilp frz_ptr frz_ip frz_nils frz_sl frz_nilm frz_map frz_nilfn frz_fn frz_nili frz_iface frz_old frz_agg frz_tuple frzL_nil frzL_cons kill_nil kill_cons chunk_zero chunk_succ AV.refs AV.refsL evCall_spec lookF_nil lookF_cons callS_nil callS_oneF spK_s spK_n frK_s frK_n clones cloneS_f cloneS_nils cloneS_sl0 fillA putAt_nil putAt_cons evCode_loop bgn_mk aft_mk keeps objsAt ren renId AV.top lowObj h0 succ_le_f oldK oldAll oldLow oldRen lowCells_row lowCells_map lowCells_dead objCells topLow renObj List.idxOf_cons List.idxOf_nil nilA nilK elemsA_nils elemsA_vec elemsA_str evOp_die evOp_lkp evOp_cvbs lookA scal_bool scal_int scal_str scal_nils scal_sl scal_tuple scal_agg scal1_bool scal1_int scal1_str scal1_nils scal1_sl scal1_agg
attribute [local simp low] frz_vecR

/-! sig.Of, in any heap; numbers as Args. -/

set_option maxRecDepth 100000 in
set_option maxHeartbeats 4000000 in
theorem of_at (n : Nat) (nx : Nat) (os : List AObj) (wl md : Nat) (a b : Nat) (ha : a < nx) (hb : b < nx) (hw : wl ≤ nx) (hmd : md ≤ nx) (nv : AV) (l : List Pd) (hl : l.length < 1000000) (hn : l.length < n)
    (ga : ∀ wl md, Heap.get ⟨nx, os, wl, md⟩ a = some (.row [nv, .vec b 0 l.length 4 l.length]))
    (gb : ∀ wl md, Heap.get ⟨nx, os, wl, md⟩ b = some (.row (flatP l))) (p : Pd) (nm : List UInt8) (hnm : nm.length < 100000000) (av : AV) (k : Nat) (hk : k ≤ 8) (hav : av.refs = 0) (hfr : ∀ h n0 d, frz h n0 (d + 1) av = some (av, []))
    (hlen : ∀ (fr : List AV) (h : Heap) (o : Opd), o.ev fr = av → evOp fr h (.lenv o) = some (.int .i64 k, h))
    (hg : goodTS.S [.agg [.int .i64 2, .int .i64 0, .str nm, av]] = some (.bool true)) (hpl : plainF nm k = false) (hf : findP l nm k = some p) :
    evFn ss12 (n + 1) 45 [.ptr a 0, .agg [.int .i64 2, .int .i64 0, .str nm, av]] ⟨nx, os, wl, md⟩ = some (.tuple [.agg p.cells, .int .i64 0], ⟨nx, os, wl, md⟩) := by
  have q1 : a < nx + 1 + 1 := by omega
  have q2 : b < nx + 1 + 1 := by omega
  have hm : plainFS.S [.str nm, .int .i64 k] = some (.bool (plainF nm k)) := if_pos ⟨by omega, by omega, by omega⟩
  rw [hpl] at hm
  have fi := find_at ss12 n (nx + 1 + 1) (.row pd0.cells :: .row [.int .i64 2, .int .i64 0, .str nm, av] :: os) nx nx a b q1 q2 (by omega) (by omega) nv l hl hn nm k
    (fun wl md => by rw [get_old _ _ _ _ (by omega), get_old _ _ _ _ ha]; exact ga wl md) (fun wl md => by rw [get_old _ _ _ _ (by omega), get_old _ _ _ _ hb]; exact gb wl md)
  unfold findV at fi
  rw [hf] at fi
  dsimp only at fi
  have pc : p.cells = [.str p.name, .int .i64 p.ar, .int .u64 (labN p.ceil), .bool p.dyn] := rfl
  simp only [pd0_cells, pc, ss12] at fi
  simp [-get_mk, -set_mk, get_new, get_old, set_new, set_old, run45, c45, ss12, hav, hfr, hlen, hg, hm, fi, ga, gb, ha, hb, q1, q2, pc, sigAwakeS_f, goodS_f, mayS_f, plainFS_f, goodTS_f, compS_f, intS_f]
  exact ⟨by omega, by rw [show nx + 2 + 1 - nx = 3 by omega]; rfl⟩
end Go.Proofs.YtnkafagfkblfeaaDoor

namespace Go.Proofs.YtnkafagfkblfeaaDoor
open Go Sz
set_option linter.unusedSimpArgs false
attribute [local simp] seqF condF stepF callF callvF guardF trF step1F call1F callv1F guard1F seqK_n seqK_e seqK_r condK_t condK_f stK_s gdK_t gdK_f cvK_f trK_s trK1_s stK1_s gdK1_t gdK1_f cvK1_f evCode_skip evCode_reg evCode_dreg evCode_block evCode_exit evCode_ret evSteps_nil evTr_nil ldId chkTr
 evOp_mov evOp_pick evOp_box evOp_bld evOp_bsl evOp_ld evOp_st evOp_nck evOp_bin evOp_beq evOp_ceq evOp_peq evOp_not evOp_neg evOp_xor evOp_cvi evOp_cvss evOp_cvis evOp_cvsb evOp_mki evOp_mkf evOp_mkm evOp_mks evOp_sls evOp_slv evOp_fad evOp_fld1 evOp_fldn evOp_iad evOp_ixs evOp_ext evOp_lens evOp_lenv evOp_mx evOp_mn evOp_app evOp_bs0 evOp_snil evOp_clr
 FM_ev ev_const FM_put put_none FM_unwanted lk_hit lk_miss lk_nil FM_clear FM_clearB trues pick gc_FM gc_FM0 incK snds renM allM evB_fm enumA cells_agg cells_bool cells_int cells_str cells_nilp cells_ptr cells_ip cells_nils cells_sl cells_vec cells_nilm cells_map cells_nilfn cells_fn cells_nili cells_iface ldA row_mk get_mk set_mk mark_mk alloc_mk' trunc_mk binA resAll_nil resAll_cons FM_resT FM_resC oneOf finish_mk frz_undef frz_bool frz_int frz_str frz_nilp frz_ptr frz_ip frz_nils frz_sl frz_nilm frz_map frz_nilfn frz_fn frz_nili frz_iface frz_old frz_agg frz_tuple frzL_nil frzL_cons kill_nil kill_cons chunk_zero chunk_succ AV.refs AV.refsL evCall_spec lookF_nil lookF_cons callS_nil callS_oneF spK_s spK_n frK_s frK_n clones cloneS_f cloneS_nils cloneS_sl0 fillA putAt_nil putAt_cons evCode_loop bgn_mk aft_mk keeps objsAt ren renId AV.top lowObj h0 succ_le_f oldK oldAll oldLow oldRen lowCells_row lowCells_map lowCells_dead objCells topLow renObj List.idxOf_cons List.idxOf_nil nilA nilK elemsA_nils elemsA_vec elemsA_str evOp_die evOp_lkp evOp_cvbs lookA scal_bool scal_int scal_str scal_nils scal_sl scal_tuple scal_agg scal1_bool scal1_int scal1_str scal1_nils scal1_sl scal1_agg
attribute [local simp low] frz_vecR

/-! SigFinds: the loops. -/

/-- Numbers as Args. -/
def ints : Nat → List Tm
  | 0 => []
  | k + 1 => ints k ++ [.nl 1 k []]
theorem ints_len : ∀ k, (ints k).length = k
  | 0 => rfl
  | k + 1 => by simp [ints, ints_len k]
theorem flatT_ints (k : Nat) : flatT (ints (k + 1)) = flatT (ints k) ++ [.int .i64 1, .int .i64 k, .str [], .nils] := by
  simp [ints, flatT, Tm.cells, Tm.kind, Tm.num, Tm.name, Tm.argV]

/-- The objects that the inner loop finds. -/
abbrev O6 (l : List Pd) (p : Pd) : List AObj := [.row [.str p.name, .int .i64 p.ar, .int .u64 (labN p.ceil), .bool p.dyn], .row (flatP l), .row [.vec 2 0 2 1 2, .vec 4 0 l.length 4 l.length], .row [.str [97], .str [98]], .row [.vec 0 0 2 1 2], .row [.str [97], .str [98]]]

set_option maxRecDepth 100000 in
set_option maxHeartbeats 10000000 in
theorem c12_in (n : Nat) (w : Nat) (i : Nat) (l : List Pd) (p : Pd) (hp : l[i]? = some p) (s0 : List UInt8) (a0 : Int)
    (bt : Bool) (ar : Nat) (har : p.ar = ar) (har8 : ar ≤ 8) :
    ∀ (r k m : Nat), k + r = ar → r < m → 0 < k →
    aft 6 w (loopH (evCode (evCall (envOf ss12) (n + 1)) (n + 1) c12_b0) c12_m0 6 m (c12_f0 (.sl (l.map Pd.enc)) (.str s0) (.int .i64 a0) (.ptr 3 0) (.bool bt) (.int .i64 i) (.vec 6 0 k 4 k) (.int .i64 k)) ⟨7, .row (flatT (ints k)) :: O6 l p, 6, 0⟩) =
      some (.exit 2, FM 143 [(0, .sl (l.map Pd.enc)), (1, .str s0), (2, .int .i64 a0), (7, .ptr 3 0), (9, .bool bt), (10, .int .i64 i), (13, .vec 6 0 ar 4 ar)], ⟨7, .row (flatT (ints ar)) :: O6 l p, min w 6, 0⟩)
  | 0, k, m + 1, e, _, h0 => by
    have e1 : k = ar := by omega
    subst e1
    have t1 : ((k : Int) < p.ar) = False := eq_false (by omega)
    have r5 := encsP_refs l
    have r6 := flatP_refs l
    have rt := flatT_refs (ints k)
    have pe : p.enc = .agg p.cells := rfl
    have pc : p.cells = [.str p.name, .int .i64 p.ar, .int .u64 (labN p.ceil), .bool p.dyn] := rfl
    rw [loopH_succ]
    simp [c12_b0, ss12, hp, pe, pc, t1, r5, r6, rt, sigAwakeS_f, goodS_f, mayS_f, plainFS_f, goodTS_f, compS_f, intS_f]
  | r + 1, k, m + 1, e, hm, h0 => by
    have ih := c12_in n w i l p hp s0 a0 bt ar har har8 r (k + 1) m (by omega) (by omega) (by omega)
    have t1 : ((k : Int) < p.ar) = True := eq_true (by omega)
    have r5 := encsP_refs l
    have r6 := flatP_refs l
    have rt := flatT_refs (ints k)
    have rt2 := flatT_refs (ints (k + 1))
    have fl := flatT_ints k
    have lt := flatT_len (ints k)
    rw [ints_len] at lt
    have pe : p.enc = .agg p.cells := rfl
    have pc : p.cells = [.str p.name, .int .i64 p.ar, .int .u64 (labN p.ceil), .bool p.dyn] := rfl
    have i1 := intS_at (k : Int)
    have h3 : IntKind.i64.wrap ((k : Int) + 1) = (k : Int) + 1 := wrap_i64 (by omega) (by omega)
    have b1 : (k + 1) * 56 ≤ 140737488355328 := by omega
    have b2 : k + 1 < 9223372036854775808 := by omega
    have tP : List.take (k * 4) (flatT (ints k)) = flatT (ints k) := List.take_of_length_le (by omega)
    rw [fl] at ih rt2
    rw [show ((k + 1 : Nat) : Int) = (k : Int) + 1 by omega] at ih
    rw [loopH_succ]
    simp [c12_b0, c12_m0, ss12, hp, pe, pc, t1, r5, r6, rt, rt2, lt, i1, h3, b1, b2, tP, sigAwakeS_f, goodS_f, mayS_f, plainFS_f, goodTS_f, compS_f, intS_f]
    exact ih

set_option maxRecDepth 100000 in
set_option maxHeartbeats 10000000 in
theorem c12_in0 (n : Nat) (w : Nat) (i : Nat) (l : List Pd) (p : Pd) (hp : l[i]? = some p) (s0 : List UInt8) (a0 : Int)
    (bt : Bool) (har : p.ar = 0) (m : Nat) :
    aft 6 w (loopH (evCode (evCall (envOf ss12) (n + 1)) (n + 1) c12_b0) c12_m0 6 (m + 1) (c12_f0 (.sl (l.map Pd.enc)) (.str s0) (.int .i64 a0) (.ptr 3 0) (.bool bt) (.int .i64 i) .nils (.int .i64 0)) ⟨6, O6 l p, 6, 0⟩) =
      some (.exit 2, FM 143 [(0, .sl (l.map Pd.enc)), (1, .str s0), (2, .int .i64 a0), (7, .ptr 3 0), (9, .bool bt), (10, .int .i64 i), (13, .nils)], ⟨6, O6 l p, min w 6, 0⟩) := by
  have t1 : ((0 : Int) < p.ar) = False := eq_false (by omega)
  have r5 := encsP_refs l
  have r6 := flatP_refs l
  have pe : p.enc = .agg p.cells := rfl
  have pc : p.cells = [.str p.name, .int .i64 p.ar, .int .u64 (labN p.ceil), .bool p.dyn] := rfl
  rw [loopH_succ]
  simp [c12_b0, ss12, hp, pe, pc, t1, r5, r6, sigAwakeS_f, goodS_f, mayS_f, plainFS_f, goodTS_f, compS_f, intS_f]

set_option maxRecDepth 100000 in
set_option maxHeartbeats 10000000 in
theorem c12_in1 (n : Nat) (w : Nat) (i : Nat) (l : List Pd) (p : Pd) (hp : l[i]? = some p) (s0 : List UInt8) (a0 : Int)
    (bt : Bool) (ar : Nat) (har : p.ar = ar) (har8 : ar ≤ 8) (h0 : 0 < ar) (m : Nat) (hm : ar < m) :
    aft 6 w (loopH (evCode (evCall (envOf ss12) (n + 1)) (n + 1) c12_b0) c12_m0 6 m (c12_f0 (.sl (l.map Pd.enc)) (.str s0) (.int .i64 a0) (.ptr 3 0) (.bool bt) (.int .i64 i) .nils (.int .i64 0)) ⟨6, O6 l p, 6, 0⟩) =
      some (.exit 2, FM 143 [(0, .sl (l.map Pd.enc)), (1, .str s0), (2, .int .i64 a0), (7, .ptr 3 0), (9, .bool bt), (10, .int .i64 i), (13, .vec 6 0 ar 4 ar)], ⟨7, .row (flatT (ints ar)) :: O6 l p, min w 6, 0⟩) := by
  obtain ⟨m, rfl⟩ : ∃ m', m = m' + 1 := ⟨m - 1, by omega⟩
  have ih := c12_in n w i l p hp s0 a0 bt ar har har8 (ar - 1) 1 m (by omega) (by omega) (by omega)
  have f1 : flatT (ints 1) = [.int .i64 1, .int .i64 0, .str [], .nils] := rfl
  rw [f1] at ih
  have t1 : ((0 : Int) < p.ar) = True := eq_true (by omega)
  have r5 := encsP_refs l
  have r6 := flatP_refs l
  have pe : p.enc = .agg p.cells := rfl
  have pc : p.cells = [.str p.name, .int .i64 p.ar, .int .u64 (labN p.ceil), .bool p.dyn] := rfl
  have i1 := intS_at 0
  simp only [show ((1 : Nat) : Int) = 1 from rfl] at ih
  rw [loopH_succ]
  simp [c12_b0, c12_m0, ss12, hp, pe, pc, t1, r5, r6, i1, sigAwakeS_f, goodS_f, mayS_f, plainFS_f, goodTS_f, compS_f, intS_f]
  exact ih
end Go.Proofs.YtnkafagfkblfeaaDoor

namespace Go.Proofs.YtnkafagfkblfeaaDoor
open Go Sz
set_option linter.unusedSimpArgs false
attribute [local simp] seqF condF stepF callF callvF guardF trF step1F call1F callv1F guard1F seqK_n seqK_e seqK_r condK_t condK_f stK_s gdK_t gdK_f cvK_f trK_s trK1_s stK1_s gdK1_t gdK1_f cvK1_f evCode_skip evCode_reg evCode_dreg evCode_block evCode_exit evCode_ret evSteps_nil evTr_nil ldId chkTr
 evOp_mov evOp_pick evOp_box evOp_bld evOp_bsl evOp_ld evOp_st evOp_nck evOp_bin evOp_beq evOp_ceq evOp_peq evOp_not evOp_neg evOp_xor evOp_cvi evOp_cvss evOp_cvis evOp_cvsb evOp_mki evOp_mkf evOp_mkm evOp_mks evOp_sls evOp_slv evOp_fad evOp_fld1 evOp_fldn evOp_iad evOp_ixs evOp_ext evOp_lens evOp_lenv evOp_mx evOp_mn evOp_app evOp_bs0 evOp_snil evOp_clr
 FM_ev ev_const FM_put put_none FM_unwanted lk_hit lk_miss lk_nil FM_clear FM_clearB trues pick gc_FM gc_FM0 incK snds renM allM evB_fm enumA cells_agg cells_bool cells_int cells_str cells_nilp cells_ptr cells_ip cells_nils cells_sl cells_vec cells_nilm cells_map cells_nilfn cells_fn cells_nili cells_iface ldA row_mk get_mk set_mk mark_mk alloc_mk' trunc_mk binA resAll_nil resAll_cons FM_resT FM_resC oneOf finish_mk frz_undef frz_bool frz_int frz_str frz_nilp frz_ptr frz_ip frz_nils frz_sl frz_nilm frz_map frz_nilfn frz_fn frz_nili frz_iface frz_old frz_agg frz_tuple frzL_nil frzL_cons kill_nil kill_cons chunk_zero chunk_succ AV.refs AV.refsL evCall_spec lookF_nil lookF_cons callS_nil callS_oneF spK_s spK_n frK_s frK_n clones cloneS_f cloneS_nils cloneS_sl0 fillA putAt_nil putAt_cons evCode_loop bgn_mk aft_mk keeps objsAt ren renId AV.top lowObj h0 succ_le_f oldK oldAll oldLow oldRen lowCells_row lowCells_map lowCells_dead objCells topLow renObj List.idxOf_cons List.idxOf_nil nilA nilK elemsA_nils elemsA_vec elemsA_str evOp_die evOp_lkp evOp_cvbs lookA scal_bool scal_int scal_str scal_nils scal_sl scal_tuple scal_agg scal1_bool scal1_int scal1_str scal1_nils scal1_sl scal1_agg
attribute [local simp low] frz_vecR

/-! SigFinds: what is found; the inner loop from its start. -/

theorem ints_size : ∀ k, Tm.sizeL (ints k) = k
  | 0 => rfl
  | k + 1 => by simp [ints, sizeL_app, ints_size k, Tm.sizeL, Tm.size]
theorem ints_bulk : ∀ k, Tm.bulkL (ints k) = k
  | 0 => rfl
  | k + 1 => by simp [ints, bulkL_app, ints_bulk k, Tm.bulkL, Tm.bulk]
theorem depthL_app : ∀ a b : List Tm, Tm.depthL (a ++ b) = max (Tm.depthL a) (Tm.depthL b)
  | [], b => by simp [Tm.depthL]
  | t :: r, b => by simp [Tm.depthL, depthL_app r b]; try omega
theorem ints_depth : ∀ k, Tm.depthL (ints k) ≤ 1
  | 0 => by simp [ints, Tm.depthL]
  | k + 1 => by have := ints_depth k; simp [ints, depthL_app, Tm.depthL, Tm.depth]; try omega
theorem ints_all : ∀ k, Tm.allL oneK (ints k) = true
  | 0 => rfl
  | k + 1 => by
    rw [ints, allL_app, ints_all k]
    simp [Tm.allL, Tm.allT, oneK, Tm.kind, Tm.name, Tm.args]
theorem comp_kind (s : List UInt8) (us : List Tm) : (compT s us).kind = 2 := by cases us <;> rfl
theorem comp_num (s : List UInt8) (us : List Tm) : (compT s us).num = 0 := by cases us <;> rfl
theorem comp_name (s : List UInt8) (us : List Tm) : (compT s us).name = s := by cases us <;> rfl
theorem comp_args (s : List UInt8) (us : List Tm) : (compT s us).args = us := by cases us <;> rfl
theorem good_comp {s : List UInt8} {k : Nat} (hk : k ≤ 8) (h : goodT (.nl 2 0 s) = true) : goodT (compT s (ints k)) = true := by
  have h1 : goodNm s = true := by
    simp [goodT, Tm.allT, oneK, Tm.kind, Tm.name, Tm.args] at h
    exact h.2.2
  have h2 := size_args (compT s (ints k))
  have h3 := depth_args (compT s (ints k))
  have h4 := allT_args oneK (compT s (ints k))
  rw [comp_args] at h2 h3 h4
  rw [ints_size] at h2
  have := ints_depth k
  rw [ints_all, Bool.and_true] at h4
  unfold goodT
  rw [h4]
  have h5 : oneK (compT s (ints k)) = true := by simp [oneK, comp_kind, comp_num, comp_name, comp_args, ints_len, h1, hk]
  rw [h5, decide_eq_true (by omega), decide_eq_true (by omega)]
  rfl
theorem bulk_comp (s : List UInt8) (k : Nat) : (compT s (ints k)).bulk = 1 + s.length + k := by
  rw [bulk_args, comp_args, comp_name, ints_bulk]

theorem findP_app (s : List UInt8) (k : Int) : ∀ a b : List Pd, findP a s k = none → findP (a ++ b) s k = findP b s k
  | [], b, _ => rfl
  | p :: r, b, h => by
    unfold findP at h
    split at h
    · cases h
    · rename_i hn
      rw [List.cons_append]
      unfold findP
      rw [if_neg hn]
      have := findP_app s k r b h
      rw [this]
      cases b <;> rfl
theorem dist_at : ∀ (l pre : List Pd), distF pre l = true → ∀ (i : Nat) (p : Pd), l[i]? = some p → findP (pre ++ l.take i) p.name p.ar = none
  | [], _, _, i, p, hp => by simp at hp
  | q :: r, pre, h, i, p, hp => by
    unfold distF at h
    split at h
    · cases h
    · rename_i hq
      cases i with
      | zero =>
        simp at hp
        subst hp
        simpa using hq
      | succ i =>
        have := dist_at r (pre ++ [q]) h i p (by simpa using hp)
        simpa using this
theorem dist_find {l : List Pd} (h : distF [] l = true) {i : Nat} {p : Pd} (hp : l[i]? = some p) : findP l p.name p.ar = some p := by
  have h1 := dist_at l [] h i p hp
  have h2 : l = l.take i ++ p :: l.drop (i + 1) := by
    have hi := (List.getElem?_eq_some_iff.1 hp).1
    have hd := List.drop_eq_getElem_cons hi
    have he : l[i] = p := (List.getElem?_eq_some_iff.1 hp).2
    rw [he] at hd
    rw [← hd, List.take_append_drop]
  have h3 : findP (l.take i ++ p :: l.drop (i + 1)) p.name p.ar = some p := by
    rw [findP_app _ _ _ _ (by simpa using h1)]
    unfold findP
    rw [if_pos ⟨rfl, rfl⟩]
  rwa [← h2] at h3

def hitP (s : List UInt8) (k : Int) (p : Pd) : Bool := decide (p.name = s) && decide (p.ar = k)
def thereF (s : List UInt8) (k : Int) : List Pd → Bool → Bool
  | [], b => b
  | p :: r, b => thereF s k r (b || hitP s k p)
theorem thereF_eq (s : List UInt8) (k : Int) : ∀ (l : List Pd) (b : Bool), thereF s k l b = (b || (findP l s k).isSome)
  | [], b => by simp [thereF, findP]
  | p :: r, b => by
    rw [thereF, thereF_eq s k r]
    unfold findP
    by_cases h : p.name = s ∧ p.ar = k
    · rw [if_pos h]; simp [hitP, h]
    · rw [if_neg h]
      have : hitP s k p = false := by
        unfold hitP
        cases h1 : decide (p.name = s) with
        | false => rfl
        | true =>
          cases h2 : decide (p.ar = k) with
          | false => rfl
          | true => exact absurd ⟨of_decide_eq_true h1, of_decide_eq_true h2⟩ h
      rw [this, Bool.or_false]
      cases r <;> rfl
end Go.Proofs.YtnkafagfkblfeaaDoor

namespace Go.Proofs.YtnkafagfkblfeaaDoor
open Go Sz
set_option linter.unusedSimpArgs false
attribute [local simp] seqF condF stepF callF callvF guardF trF step1F call1F callv1F guard1F seqK_n seqK_e seqK_r condK_t condK_f stK_s gdK_t gdK_f cvK_f trK_s trK1_s stK1_s gdK1_t gdK1_f cvK1_f evCode_skip evCode_reg evCode_dreg evCode_block evCode_exit evCode_ret evSteps_nil evTr_nil ldId chkTr
 evOp_mov evOp_pick evOp_box evOp_bld evOp_bsl evOp_ld evOp_st evOp_nck evOp_bin evOp_beq evOp_ceq evOp_peq evOp_not evOp_neg evOp_xor evOp_cvi evOp_cvss evOp_cvis evOp_cvsb evOp_mki evOp_mkf evOp_mkm evOp_mks evOp_sls evOp_slv evOp_fad evOp_fld1 evOp_fldn evOp_iad evOp_ixs evOp_ext evOp_lens evOp_lenv evOp_mx evOp_mn evOp_app evOp_bs0 evOp_snil evOp_clr
 FM_ev ev_const FM_put put_none FM_unwanted lk_hit lk_miss lk_nil FM_clear FM_clearB trues pick gc_FM gc_FM0 incK snds renM allM evB_fm enumA cells_agg cells_bool cells_int cells_str cells_nilp cells_ptr cells_ip cells_nils cells_sl cells_vec cells_nilm cells_map cells_nilfn cells_fn cells_nili cells_iface ldA row_mk get_mk set_mk mark_mk alloc_mk' trunc_mk binA resAll_nil resAll_cons FM_resT FM_resC oneOf finish_mk frz_undef frz_bool frz_int frz_str frz_nilp frz_ptr frz_ip frz_nils frz_sl frz_nilm frz_map frz_nilfn frz_fn frz_nili frz_iface frz_old frz_agg frz_tuple frzL_nil frzL_cons kill_nil kill_cons chunk_zero chunk_succ AV.refs AV.refsL evCall_spec lookF_nil lookF_cons callS_nil callS_oneF spK_s spK_n frK_s frK_n clones cloneS_f cloneS_nils cloneS_sl0 fillA putAt_nil putAt_cons evCode_loop bgn_mk aft_mk keeps objsAt ren renId AV.top lowObj h0 succ_le_f oldK oldAll oldLow oldRen lowCells_row lowCells_map lowCells_dead objCells topLow renObj List.idxOf_cons List.idxOf_nil nilA nilK elemsA_nils elemsA_vec elemsA_str evOp_die evOp_lkp evOp_cvbs lookA scal_bool scal_int scal_str scal_nils scal_sl scal_tuple scal_agg scal1_bool scal1_int scal1_str scal1_nils scal1_sl scal1_agg
attribute [local simp low] frz_vecR

/-! SigFinds: the outer loop. -/

abbrev O5 (l : List Pd) : List AObj := [.row (flatP l), .row [.vec 2 0 2 1 2, .vec 4 0 l.length 4 l.length], .row [.str [97], .str [98]], .row [.vec 0 0 2 1 2], .row [.str [97], .str [98]]]

structure OkP (l : List Pd) (p : Pd) : Prop where
  nm : p.name.length < 100000000
  gd : goodT (.nl 2 0 p.name) = true
  lo : 0 ≤ p.ar
  hi : p.ar ≤ 8
  pl : plainF p.name p.ar = false
  fd : findP l p.name p.ar = some p

theorem comp_nil (s : List UInt8) : (compT s []).enc = .agg [.int .i64 2, .int .i64 0, .str s, .nils] := rfl
theorem comp_enc (s : List UInt8) (us : List Tm) (h : us ≠ []) : (compT s us).enc = .agg [.int .i64 2, .int .i64 0, .str s, .sl (us.map Tm.enc)] := by
  cases us with
  | nil => exact absurd rfl h
  | cons t r => simp [compT, Tm.enc, encL_map, Tm.encL]
theorem ints_ne {k : Nat} (h : 0 < k) : ints k ≠ [] := by
  intro e
  have := ints_len k
  rw [e] at this
  simp at this
  omega
theorem sl_frz (us : List Tm) : ∀ h n0 d, frz h n0 (d + 1) (.sl (us.map Tm.enc)) = some (.sl (us.map Tm.enc), []) := fun h n0 d => by
  simp

theorem eqc_pd (s : List UInt8) (a c : Int) (d : Bool) : eqCells [2, 1, 1, 0] [.str s, .int .i64 a, .int .u64 c, .bool d] [.str s, .int .i64 a, .int .u64 c, .bool d] = some true := by
  simp [eqCells, eqCell]

set_option maxRecDepth 100000 in
set_option maxHeartbeats 10000000 in
theorem c12_out (n : Nat) (hn : 40 < n) (l : List Pd) (hl : l.length ≤ 32) (hall : ∀ p ∈ l, OkP l p) (s0 : List UInt8) (a0 : Int) : ∀ (post pre : List Pd) (m : Nat) (bt : Bool), l = pre ++ post → post.length < m →
    aft 5 0 (loopH (evCode (evCall (envOf ss12) (n + 1)) (n + 1) c12_b1) c12_m1 5 m (c12_f1 (.sl (l.map Pd.enc)) (.str s0) (.int .i64 a0) (.ptr 3 0) (.bool bt) (.int .i64 pre.length)) ⟨5, O5 l, 5, 0⟩) =
      some (.exit 0, FM 143 [(1, .str s0), (2, .int .i64 a0), (7, .ptr 3 0), (9, .bool (thereF s0 a0 post bt))], ⟨5, O5 l, 0, 0⟩)
  | [], pre, m + 1, bt, e, _ => by
    simp at e
    subst e
    have r5 := encsP_refs l
    have r6 := flatP_refs l
    rw [loopH_succ]
    simp [c12_b1, thereF, r5, r6]
  | p :: post, pre, m + 1, bt, e, hm => by
    have ih := c12_out n hn l hl hall s0 a0 post (pre ++ [p]) m (bt || hitP s0 a0 p) (by simp [e]) (by simp at hm; omega)
    have hp : l[pre.length]? = some p := by rw [e]; simp
    have hlp : pre.length < l.length := by rw [e]; simp
    obtain ⟨k1, k2, k3, k4, k5, k6⟩ := hall p (by rw [e]; simp)
    obtain ⟨ar, har⟩ : ∃ ar : Nat, p.ar = ar := ⟨p.ar.toNat, by omega⟩
    have har8 : ar ≤ 8 := by omega
    have h1 : ((pre.length : Int) < (l.length : Int)) = True := eq_true (by omega)
    have h3 : IntKind.i64.wrap ((pre.length : Int) + 1) = (pre.length : Int) + 1 := wrap_i64 (by omega) (by omega)
    have r5 := encsP_refs l
    have r6 := flatP_refs l
    have pe : p.enc = .agg p.cells := rfl
    have pc : p.cells = [.str p.name, .int .i64 p.ar, .int .u64 (labN p.ceil), .bool p.dyn] := rfl
    have pl : plainFS.S [.str p.name, .int .i64 p.ar] = some (.bool false) := by rw [← k5]; exact if_pos ⟨by omega, by omega, by omega⟩
    have fi := find_at ss12 n 5 (O5 l) 5 5 3 4 (by omega) (by omega) (by omega) (by omega) (.vec 2 0 2 1 2) l (by omega) (by omega) p.name p.ar (fun _ _ => rfl) (fun _ _ => rfl)
    unfold findV at fi
    rw [k6] at fi
    dsimp only at fi
    have gdc := goodTS_at (compT p.name (ints ar)) (by rw [bulk_comp]; omega)
    rw [good_comp har8 k2] at gdc
    have cc := compS_at p.name (ints ar) (by rw [ints_len]; omega)
    simp only [List.length_append, List.length_cons, List.length_nil, Nat.zero_add] at ih
    rw [show ((pre.length + 1 : Nat) : Int) = (pre.length : Int) + 1 by omega] at ih
    have hv : hitP s0 a0 p = ((p.name == s0) && (p.ar == a0)) := Bool.eq_iff_iff.2 (by simp [hitP])
    have g1 : ∀ b, (p.name == s0) = b → (p.name = s0) = (b = true) := fun b h => by rw [← h]; simp
    have g2 : ∀ b, (p.ar == a0) = b → (p.ar = a0) = (b = true) := fun b h => by rw [← h]; simp
    rw [thereF]
    rw [hv] at ih ⊢
    obtain ⟨n, rfl⟩ : ∃ n', n = n' + 1 := ⟨n - 1, by omega⟩
    by_cases h0 : ar = 0
    · subst h0
      have i0 := fun bt => c12_in0 (n + 1) 5 pre.length l p hp s0 a0 bt har (n + 1)
      have hnl : compS.S [.str p.name, .nils] = some (.agg [.int .i64 2, .int .i64 0, .str p.name, .nils]) := compS_nils p.name
      rw [show ints 0 = [] from rfl, comp_nil] at gdc
      have ofk := fun wl (hwl : wl ≤ 6) => of_at n 6 (O6 l p) wl 0 3 4 (by omega) (by omega) hwl (by omega) (.vec 2 0 2 1 2) l (by omega) (by omega) (fun _ _ => rfl) (fun _ _ => rfl) p p.name k1 .nils 0 (by omega) rfl (fun _ _ _ => rfl) (fun fr h o ho => by rw [evOp_lenv, ho]; rfl) gdc (by rw [← har]; exact k5) (by rw [← har]; exact k6)
      have ofk5 := ofk 5 (by omega)
      have ofk6 := ofk 6 (by omega)
      rw [loopH_succ]
      simp only [O5, O6, c12_m0, ss12, pc] at i0 fi ofk5 ofk6 ih ⊢
      generalize flatP l = FW at *
      cases bt <;> cases h1' : (p.name == s0) <;> cases h2' : (p.ar == a0) <;> (
        have c1 := g1 _ h1'
        have c2 := g2 _ h2'
        rw [h1', h2'] at ih
        simp only [Bool.true_and, Bool.and_true, Bool.or_true, Bool.true_or, Bool.false_or, Bool.or_false, Bool.and_false, Bool.false_and, Bool.and_self, Bool.or_self] at ih ⊢
        simp [c12_b1, c12_m1, c12_m0, hp, pe, pc, h1, h3, r5, r6, pl, fi, hnl, ofk5, ofk6, i0, eqc_pd, c1, c2, h1', h2', sigAwakeS_f, goodS_f, mayS_f, plainFS_f, goodTS_f, compS_f, intS_f]
        exact ih)
    · have i0 := fun bt => c12_in1 (n + 1) 5 pre.length l p hp s0 a0 bt ar har har8 (by omega) (n + 2) (by omega)
      have hav := flatT_refs (ints ar)
      have hf : ∀ (wl md d : Nat), frz ⟨7, .row (flatT (ints ar)) :: O6 l p, wl, md⟩ 0 (d + 2) (.vec 6 0 ar 4 ar) = some (.sl ((ints ar).map Tm.enc), [6]) := fun wl md d =>
        frz_vec (by omega) rfl (by omega) (encs_elem (ints ar)) (by simp [ints_len]) (by rw [flatT_len, ints_len]; omega) (by rw [flatT_eq, List.take_of_length_le]; rw [flatT_len, ints_len]; omega)
      rw [comp_enc _ _ (ints_ne (by omega))] at gdc cc
      have r7 := encs_refs (ints ar)
      have ofk := fun (O : AObj) wl (hwl : wl ≤ 7) => of_at n 7 (O :: O6 l p) wl 0 3 4 (by omega) (by omega) hwl (by omega) (.vec 2 0 2 1 2) l (by omega) (by omega) (fun _ _ => rfl) (fun _ _ => rfl) p p.name k1 (.sl ((ints ar).map Tm.enc)) ar (by omega) (by simp [AV.refs, r7]) (sl_frz (ints ar)) (fun fr h o ho => by rw [evOp_lenv, ho]; simp [ints_len]) gdc (by rw [← har]; exact k5) (by rw [← har]; exact k6)
      have ofk5 := fun O => ofk O 5 (by omega)
      have ofk6 := fun O => ofk O 6 (by omega)
      rw [loopH_succ]
      simp only [O5, O6, c12_m0, ss12, pc] at i0 fi ofk5 ofk6 ih hf ⊢
      have ne0 : (ar = 0) = False := eq_false h0
      generalize flatP l = FW at *
      generalize flatT (ints ar) = FI at *
      generalize (ints ar).map Tm.enc = FE at *
      cases bt <;> cases h1' : (p.name == s0) <;> cases h2' : (p.ar == a0) <;> (
        have c1 := g1 _ h1'
        have c2 := g2 _ h2'
        rw [h1', h2'] at ih
        simp only [Bool.true_and, Bool.and_true, Bool.or_true, Bool.true_or, Bool.false_or, Bool.or_false, Bool.and_false, Bool.false_and, Bool.and_self, Bool.or_self] at ih ⊢
        simp [c12_b1, c12_m1, c12_m0, hp, pe, pc, h1, h3, r5, r6, r7, hav, hf, pl, fi, cc, ofk5, ofk6, i0, eqc_pd, c1, c2, h1', h2', sigAwakeS_f, goodS_f, mayS_f, plainFS_f, goodTS_f, compS_f, intS_f]
        exact ih)
end Go.Proofs.YtnkafagfkblfeaaDoor

namespace Go.Proofs.YtnkafagfkblfeaaDoor
open Go Sz Go.ChangeShapes Go.WideShapes Go.ChangeAt Go.RowKit
set_option linter.unusedSimpArgs false
attribute [local simp] seqF condF stepF callF callvF guardF trF step1F call1F callv1F guard1F seqK_n seqK_e seqK_r condK_t condK_f stK_s gdK_t gdK_f cvK_f trK_s trK1_s stK1_s gdK1_t gdK1_f cvK1_f evCode_skip evCode_reg evCode_dreg evCode_block evCode_exit evCode_ret evSteps_nil evTr_nil ldId chkTr
 evOp_mov evOp_pick evOp_box evOp_bld evOp_bsl evOp_ld evOp_st evOp_nck evOp_bin evOp_beq evOp_ceq evOp_peq evOp_not evOp_neg evOp_xor evOp_cvi evOp_cvss evOp_cvis evOp_cvsb evOp_mki evOp_mkf evOp_mkm evOp_mks evOp_sls evOp_slv evOp_fad evOp_fld1 evOp_fldn evOp_iad evOp_ixs evOp_ext evOp_lens evOp_lenv evOp_mx evOp_mn evOp_app evOp_bs0 evOp_snil evOp_clr
 FM_ev ev_const FM_put put_none FM_unwanted lk_hit lk_miss lk_nil FM_clear FM_clearB trues pick gc_FM gc_FM0 incK snds renM allM evB_fm enumA cells_agg cells_bool cells_int cells_str cells_nilp cells_ptr cells_ip cells_nils cells_sl cells_vec cells_nilm cells_map cells_nilfn cells_fn cells_nili cells_iface ldA row_mk get_mk set_mk mark_mk alloc_mk' trunc_mk binA resAll_nil resAll_cons FM_resT FM_resC oneOf finish_mk frz_undef frz_bool frz_int frz_str frz_nilp frz_ptr frz_ip frz_nils frz_sl frz_nilm frz_map frz_nilfn frz_fn frz_nili frz_iface frz_old frz_agg frz_tuple frzL_nil frzL_cons kill_nil kill_cons chunk_zero chunk_succ AV.refs AV.refsL evCall_spec lookF_nil lookF_cons callS_nil callS_oneF spK_s spK_n frK_s frK_n clones cloneS_f cloneS_nils cloneS_sl0 fillA putAt_nil putAt_cons evCode_loop bgn_mk aft_mk keeps objsAt ren renId AV.top lowObj h0 succ_le_f oldK oldAll oldLow oldRen lowCells_row lowCells_map lowCells_dead objCells topLow renObj List.idxOf_cons List.idxOf_nil nilA nilK elemsA_nils elemsA_vec elemsA_str evOp_die evOp_lkp evOp_cvbs lookA scal_bool scal_int scal_str scal_nils scal_sl scal_tuple scal_agg scal1_bool scal1_int scal1_str scal1_nils scal1_sl scal1_agg
attribute [local simp low] frz_vecR

/-! SigFinds. -/

theorem ss12_ok : ∀ s ∈ ss12, KSpecOKX Tryd.prog TabX s := by
  simp [ss12, sigAwakeS_ok, (goodS_ok trimS_ok).lift, mayS_ok.lift, plainFS_ok, goodTS_ok.lift, compS_ok.lift, intS_ok.lift]

theorem okP_of {l : List Pd} (h : newOK l) (hp : ∀ p ∈ l, p.name.length < 100000000 ∧ -9223372036854775808 ≤ p.ar ∧ p.ar < 9223372036854775808) : ∀ p ∈ l, OkP l p := fun p hm => by
  obtain ⟨_, h2, h3, h4⟩ := h
  have k2 : mayP p = true := by
    cases hq : mayP p with
    | true => rfl
    | false => rw [(anyP_iff _ l).2 ⟨p, hm, by simp [hq]⟩] at h2; cases h2
  have k3 : plainF p.name p.ar = false := by
    cases hq : plainF p.name p.ar with
    | false => rfl
    | true => rw [(anyP_iff _ l).2 ⟨p, hm, hq⟩] at h3; cases h3
  unfold mayP at k2
  simp only [Bool.and_eq_true, decide_eq_true_eq] at k2
  obtain ⟨i, hi⟩ := List.getElem?_of_mem hm
  exact ⟨(hp p hm).1, k2.1.1.1, k2.1.1.2, k2.1.2, k3, dist_find h4 hi⟩

set_option maxRecDepth 100000 in
set_option maxHeartbeats 10000000 in
theorem sigFinds_prim (l : List Pd) (hp : ∀ p ∈ l, p.name.length < 100000000 ∧ -9223372036854775808 ≤ p.ar ∧ p.ar < 9223372036854775808) (s0 : List UInt8) (a0 : Int) : PrimOKX Tryd.prog TabX 12 [.sl (l.map Pd.enc), .str s0, .int .i64 a0] (.bool true) := by
  have r5 := encsP_refs l
  refine prim_of (n := 61) (h' := h0) (envOf_okX ss12_ok) ?_ rfl (by simp [AV.refsL, AV.refs, r5])
  rcases new_at 55 (by omega) l hp with ⟨e, he, hn⟩ | ⟨hok, hn⟩
  · have he' : (e = 0) = False := eq_false he
    simp only [N2, ss12, Nat.reduceAdd] at hn
    generalize l.map Pd.enc = LE at *
    simp [run12, c12, ss12, r5, hn, he', sigAwakeS_f, sigAwakeS_at, goodS_f, mayS_f, plainFS_f, goodTS_f, compS_f, intS_f]
  · have hl : l.length ≤ 32 := hok.1
    have hl' : ((32 : Int) < (l.length : Int)) = False := eq_false (by omega)
    by_cases h0 : l.length = 0
    · have e0 : l = [] := List.eq_nil_of_length_eq_zero h0
      subst e0
      simp only [N2, ss12, Nat.reduceAdd, List.map_nil, List.length_nil, if_true] at hn
      simp only [List.map_nil]
      simp [run12, c12, c12_m1, c12_b1, loopH_succ, run44, c44, c44_m0, c44_b0, ss12, hn, sigAwakeS_f, sigAwakeS_at, goodS_f, mayS_f, plainFS_f, goodTS_f, compS_f, intS_f]
    · rw [if_neg h0] at hn
      have hlp := c12_out 59 (by omega) l hl (okP_of hok hp) s0 a0 l [] 60 false rfl (by omega)
      rw [thereF_eq, Bool.false_or] at hlp
      have fi := find_at ss12 59 5 (O5 l) 0 0 3 4 (by omega) (by omega) (by omega) (by omega) (.vec 2 0 2 1 2) l (by omega) (by omega) s0 a0 (fun _ _ => rfl) (fun _ _ => rfl)
      have r6 := flatP_refs l
      have l1 : (l.map Pd.enc).length = l.length := by simp
      simp only [N2, ss12, Nat.reduceAdd] at hn
      simp only [O5, c12_m1, ss12, Nat.reduceAdd, List.length_nil, show ((0 : Nat) : Int) = 0 from rfl] at hlp fi
      unfold findV at fi
      generalize l.map Pd.enc = LE at *
      generalize flatP l = FW at *
      cases hf : findP l s0 a0 with
      | none =>
        rw [hf] at hlp fi
        dsimp only [Option.isSome] at hlp fi
        simp only [pd0_cells] at fi
        simp [run12, c12, c12_m1, ss12, r5, r6, l1, hl', hn, hlp, fi, sigAwakeS_f, sigAwakeS_at, goodS_f, mayS_f, plainFS_f, goodTS_f, compS_f, intS_f]
      | some p =>
        have pc : p.cells = [.str p.name, .int .i64 p.ar, .int .u64 (labN p.ceil), .bool p.dyn] := rfl
        rw [hf] at hlp fi
        dsimp only [Option.isSome] at hlp fi
        simp only [pc] at fi
        simp [run12, c12, c12_m1, ss12, r5, r6, l1, hl', hn, hlp, fi, sigAwakeS_f, sigAwakeS_at, goodS_f, mayS_f, plainFS_f, goodTS_f, compS_f, intS_f]

theorem pd_of {v : AV} (h : HasTy Tryd.prog 78 v) : ∃ p : Pd, v = p.enc ∧ -9223372036854775808 ≤ p.ar ∧ p.ar < 9223372036854775808 := by
  obtain ⟨vs, rfl, hv⟩ := ty_agg Tryd.underlying78 h
  cases hv with
  | cons h1 r1 => cases r1 with
    | cons h2 r2 => cases r2 with
      | cons h3 r3 => cases r3 with
        | cons h4 r4 =>
          cases r4
          obtain ⟨s, rfl, _⟩ := ty_str Tryd.underlying9 h1
          obtain ⟨a, rfl, h5, h6⟩ := ty_i64 Tryd.underlying3 h2
          obtain ⟨c, rfl⟩ := ty_u64 Tryd.underlying37 h3
          obtain ⟨d, rfl⟩ := ty_bool Tryd.underlying4 h4
          exact ⟨⟨s, a, c, d⟩, rfl, h5, h6⟩
theorem pds_of {v : AV} (h : HasTy Tryd.prog 73 v) : ∃ l : List Pd, v = .sl (l.map Pd.enc) ∧ ∀ p ∈ l, -9223372036854775808 ≤ p.ar ∧ p.ar < 9223372036854775808 := by
  obtain ⟨xs, rfl, _, hx⟩ := ty_sl Tryd.underlying73 h
  have key : ∀ xs : List AV, (∀ x ∈ xs, HasTy Tryd.prog 78 x) → ∃ l : List Pd, xs = l.map Pd.enc ∧ ∀ p ∈ l, -9223372036854775808 ≤ p.ar ∧ p.ar < 9223372036854775808 := by
    intro xs
    induction xs with
    | nil => exact fun _ => ⟨[], rfl, fun p hp => by cases hp⟩
    | cons x r ih =>
      intro hx
      obtain ⟨p, rfl, hp⟩ := pd_of (hx x (by simp))
      obtain ⟨l, rfl, hl⟩ := ih fun y hy => hx y (by simp [hy])
      exact ⟨p :: l, rfl, fun q hq => by
        rcases List.mem_cons.1 hq with rfl | h
        · exact hp
        · exact hl q h⟩
  obtain ⟨l, rfl, hl⟩ := key xs hx
  exact ⟨l, rfl, hl⟩

theorem sigFinds_lawX {H : Type} (ds : List (DataW H)) (h : HasTys Tryd.prog Tryd.f12.params.toList (ds.map avOf)) (hw : (DataW.weightsEach Tryd.prog Tryd.f12.params.toList ds).all (· ≤ reachBytes) = true) (hk : Rows.uptoSmall H ds = true) : PrimOKX Tryd.prog TabX 12 (ds.map avOf) (.bool true) := by
  have hb := upto_le hk
  generalize ds.map avOf = avs at h hb
  rw [Tryd.params12] at h
  cases h with
  | cons h1 r1 => cases r1 with
    | cons h2 r2 => cases r2 with
      | cons h3 r3 =>
        cases r3
        obtain ⟨l, rfl, hl⟩ := pds_of h1
        obtain ⟨s, rfl, _⟩ := ty_str Tryd.underlying9 h2
        obtain ⟨a, rfl, _, _⟩ := ty_i64 Tryd.underlying3 h3
        simp only [vbL] at hb
        refine sigFinds_prim l (fun p hp => ⟨?_, hl p hp⟩) s a
        have h4 := vbL_mem (List.mem_map_of_mem (f := Pd.enc) hp)
        have h5 : vb (.sl (l.map Pd.enc)) = vbL (l.map Pd.enc) + 1 := rfl
        have h6 : vb p.enc = p.name.length + 1 + (1 + (1 + (1 + 0))) := rfl
        omega
end Go.Proofs.YtnkafagfkblfeaaDoor
