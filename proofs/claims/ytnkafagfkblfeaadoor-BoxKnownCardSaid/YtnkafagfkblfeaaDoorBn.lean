import Derived.Test.YtnkafagfkblfeaaDoorTm
import Derived.Test.YtnkafagfkblfeaaDoorTy
import Derived.Test.YtnkafagfkblfeaaDoorFn
set_option linter.unusedVariables false
set_option linter.unusedSimpArgs false
set_option linter.unusedSectionVars false

namespace Go.Proofs.YtnkafagfkblfeaaDoor
open Go Sz
set_option linter.unusedSimpArgs false
attribute [local simp] seqF condF stepF callF callvF guardF trF step1F call1F callv1F guard1F seqK_n seqK_e seqK_r condK_t condK_f stK_s gdK_t gdK_f cvK_f trK_s trK1_s stK1_s gdK1_t gdK1_f cvK1_f evCode_skip evCode_reg evCode_dreg evCode_block evCode_exit evCode_ret evSteps_nil evTr_nil ldId chkTr
 evOp_mov evOp_pick evOp_box evOp_bld evOp_bsl evOp_ld evOp_st evOp_nck evOp_bin evOp_beq evOp_ceq evOp_peq evOp_not evOp_neg evOp_xor evOp_cvi evOp_cvss evOp_cvis evOp_cvsb evOp_mki evOp_mkf evOp_mkm evOp_mks evOp_sls evOp_slv evOp_fad evOp_fld1 evOp_fldn evOp_iad evOp_ixs evOp_ext evOp_lens evOp_lenv evOp_mx evOp_mn evOp_app evOp_bs0 evOp_snil evOp_clr
 FM_ev ev_const FM_put put_none FM_unwanted lk_hit lk_miss lk_nil FM_clear FM_clearB trues pick gc_FM gc_FM0 incK snds renM allM evB_fm enumA cells_agg cells_bool cells_int cells_str cells_nilp cells_ptr cells_ip cells_nils cells_sl cells_vec cells_nilm cells_map cells_nilfn cells_fn cells_nili cells_iface ldA row_mk get_mk set_mk mark_mk alloc_mk' trunc_mk binA resAll_nil resAll_cons FM_resT FM_resC oneOf finish_mk frz_undef frz_bool frz_int frz_str frz_nilp frz_ptr frz_ip frz_nils frz_sl frz_nilm frz_map frz_nilfn frz_fn frz_nili frz_iface frz_old frz_agg frz_tuple frzL_nil frzL_cons kill_nil kill_cons chunk_zero chunk_succ AV.refs AV.refsL evCall_spec lookF_nil lookF_cons callS_nil callS_oneF spK_s spK_n frK_s frK_n clones cloneS_f cloneS_nils cloneS_sl0 fillA putAt_nil putAt_cons evCode_loop bgn_mk aft_mk keeps objsAt ren renId AV.top lowObj h0 succ_le_f oldK oldAll oldLow oldRen lowCells_row lowCells_map lowCells_dead objCells topLow renObj List.idxOf_cons List.idxOf_nil nilA nilK elemsA_nils elemsA_vec elemsA_str evOp_die evOp_lkp evOp_cvbs lookA scal_bool scal_int scal_str scal_nils scal_sl scal_tuple scal_agg scal1_bool scal1_int scal1_str scal1_nils scal1_sl scal1_agg
attribute [local simp low] frz_vecR

/-! The loop of BoxNumbers. -/

theorem good3 : goodN n3 = true := by kernel_rfl
theorem fits3 {x : BitVec 64} (h : x.toNat < 8) : fitsK n3 x = true := fits_of good3 fun i hi => by
  show i < 3
  apply Classical.byContradiction
  intro hn
  have h1 : 2 ^ 3 ≤ 2 ^ i := Nat.pow_le_pow_right (by decide) (by omega)
  have h2 : x.toNat < 2 ^ i := by omega
  have h3 := Nat.testBit_lt_two_pow h2
  rw [BitVec.getLsbD, h3] at hi
  cases hi
theorem low3' (x : BitVec 64) : (x &&& 7#64).toNat < 8 := by
  rw [BitVec.toNat_and]
  exact Nat.lt_of_le_of_lt Nat.and_le_right (by decide)
theorem and3 (x : BitVec 64) : bitsI .and .u64 (labN x) 7 = labN (x &&& 7#64) := bits_and x 7#64
theorem fitsS3 (x : BitVec 64) (h : x.toNat < 8) : fitsS.S [.sl [.str [97], .str [98], .str [99]], .int .u64 (labN x)] = some (.bool true) := by
  have := fitsS_at (.sl [.str [97], .str [98], .str [99]]) n3 x rfl
  rw [fits3 h] at this
  exact this

/-- A box's number. -/
def boxT (n : Int) : Tm := .mk 2 0 boxN [.nl 1 n []]
theorem boxT_enc (n : Int) : (boxT n).enc = .agg [.int .i64 2, .int .i64 0, .str [36, 98, 111, 120], .sl [.agg [.int .i64 1, .int .i64 n, .str [], .nils]]] := rfl
theorem boxT_is (n : Int) : isT (boxT n) = true := rfl
theorem boxT_same (n : Int) : sameT (boxT n) (boxT n) = true := by simp [boxT, sameT, sameL, Tm.kind, Tm.num, Tm.name, Tm.args]
theorem boxT_good (n : Int) : goodT (boxT n) = true := rfl
theorem boxT_bulk (n : Int) : (boxT n).bulk = 6 := rfl
theorem comp_box (n : Int) : compS.S [.str [36, 98, 111, 120], .sl [.agg [.int .i64 1, .int .i64 n, .str [], .nils]]] = some (.agg [.int .i64 2, .int .i64 0, .str [36, 98, 111, 120], .sl [.agg [.int .i64 1, .int .i64 n, .str [], .nils]]]) :=
  compS_at [36, 98, 111, 120] [.nl 1 n []] (by simp)
theorem is_box (n : Int) : isS.S [.agg [.int .i64 2, .int .i64 0, .str [36, 98, 111, 120], .sl [.agg [.int .i64 1, .int .i64 n, .str [], .nils]]]] = some (.bool true) := by
  have := isS_at (boxT n) (by rw [boxT_bulk]; decide)
  rw [boxT_is] at this
  exact this
theorem same_box (n : Int) : sameS.S [.agg [.int .i64 2, .int .i64 0, .str [36, 98, 111, 120], .sl [.agg [.int .i64 1, .int .i64 n, .str [], .nils]]], .agg [.int .i64 2, .int .i64 0, .str [36, 98, 111, 120], .sl [.agg [.int .i64 1, .int .i64 n, .str [], .nils]]]] = some (.bool true) := by
  have := sameS_at (boxT n) (boxT n) ⟨by rw [boxT_bulk]; decide, by rw [boxT_bulk]; decide⟩
  rw [boxT_same, boxT_good] at this
  exact this

def ss3 : List KSpec := [awake14S, goodS, fitsS, goodTS, copyS, sameS, compS, intS, isS]

def L3 : AObj := .row [.str [97], .str [98], .str [99]]

set_option maxRecDepth 100000 in
set_option maxHeartbeats 10000000 in
theorem c3_next (n : Nat) (A B : List (BitVec 64)) (X Y : List Tm) (hx : ∀ t ∈ X, t.bulk < 1000000000) (hy : ∀ t ∈ Y, t.bulk < 1000000000) (ha : A.length ≤ 40) (hX : X.length = A.length) (hB : B.length = A.length) (hY : Y.length = A.length) :
    ∀ (r i m : Nat) (P Q : List AV), i + r = A.length → r < m → 0 < i → P.length = i * 5 → Q.length = i * 5 → AV.refsL P = 0 → AV.refsL Q = 0 →
    ∃ (k : Nat) (P' Q' : List AV), aft 6 0 (loopH (evCode (evCall (envOf ss3) (n + 3)) (n + 3) c3_b0) c3_m0 6 m (c3_f0 (.sl (A.map labA)) (.sl (X.map Tm.enc)) (.sl (B.map labA)) (.sl (Y.map Tm.enc)) (.ptr 2 0) (.ptr 5 0) (.int .i64 i))
      ⟨8, [.row P, .row Q, .row [.vec 4 0 3 1 3, .vec 6 0 i 5 i], L3, L3, .row [.vec 1 0 3 1 3, .vec 7 0 i 5 i], L3, L3], 2, 0⟩) =
      some (if k = A.length then .exit 0 else .ret, if k = A.length then FM 124 [(9, .ptr 2 0), (11, .ptr 5 0)] else FM 124 [(8, .bool true)], ⟨8, [.row P', .row Q', .row [.vec 4 0 3 1 3, .vec 6 0 k 5 k], L3, L3, .row [.vec 1 0 3 1 3, .vec 7 0 k 5 k], L3, L3], 0, 0⟩)
  | 0, i, m + 1, P, Q, e, _, hi, hP, hQ, hPr, hQr => by
    refine ⟨i, P, Q, ?_⟩
    have h1 : ((i : Int) < (A.length : Int)) = False := eq_false (by omega)
    have e1 : i = A.length := by omega
    have r1 : AV.refsL (A.map labA) = 0 := labs_refs A
    have r2 : AV.refsL (B.map labA) = 0 := labs_refs B
    have r3 : AV.refsL (X.map Tm.enc) = 0 := encs_refs _
    have r4 : AV.refsL (Y.map Tm.enc) = 0 := encs_refs _
    simp [loopH_succ, c3_b0, h1, r1, r2, r3, r4, hPr, hQr, L3]
    simp [e1]
  | r + 1, i, m + 1, P, Q, e, hm, hi, hP, hQ, hPr, hQr => by
    have h1 : ((i : Int) < (A.length : Int)) = True := eq_true (by omega)
    have r1 : AV.refsL (A.map labA) = 0 := labs_refs A
    have r2 : AV.refsL (B.map labA) = 0 := labs_refs B
    have r3 : AV.refsL (X.map Tm.enc) = 0 := encs_refs _
    have r4 : AV.refsL (Y.map Tm.enc) = 0 := encs_refs _
    obtain ⟨a, ga⟩ : ∃ a, A[i]? = some a := ⟨A[i]'(by omega), by simp⟩
    obtain ⟨b, gb⟩ : ∃ b, B[i]? = some b := ⟨B[i]'(by omega), by simp⟩
    obtain ⟨x, gx⟩ : ∃ x, X[i]? = some x := ⟨X[i]'(by omega), by simp⟩
    obtain ⟨y, gy⟩ : ∃ y, Y[i]? = some y := ⟨Y[i]'(by omega), by simp⟩
    have hbx := hx x (List.mem_of_getElem? gx)
    have hby := hy y (List.mem_of_getElem? gy)
    have hsx := size_bulk x
    have hsy := size_bulk y
    have gtx := goodTS_at x hbx
    have gty := goodTS_at y hby
    have cpx := copyS_at x (by omega)
    have cpy := copyS_at y (by omega)
    have hxe : x.enc = .agg x.cells := Tm.enc_eq x
    have hxc : x.cells = [.int .i64 x.kind, .int .i64 x.num, .str x.name, x.argV] := rfl
    have hxr := argV_refs x
    have hye : y.enc = .agg y.cells := Tm.enc_eq y
    have hyc : y.cells = [.int .i64 y.kind, .int .i64 y.num, .str y.name, y.argV] := rfl
    have hyr := argV_refs y
    have hze : (copyT x).enc = .agg (copyT x).cells := Tm.enc_eq _
    have hzc : (copyT x).cells = [.int .i64 (copyT x).kind, .int .i64 (copyT x).num, .str (copyT x).name, (copyT x).argV] := rfl
    have hzr := argV_refs (copyT x)
    have hwe : (copyT y).enc = .agg (copyT y).cells := Tm.enc_eq _
    have hwc : (copyT y).cells = [.int .i64 (copyT y).kind, .int .i64 (copyT y).num, .str (copyT y).name, (copyT y).argV] := rfl
    have hwr := argV_refs (copyT y)
    have hla : labA a = .int .u64 (labN a) := rfl
    have hlb : labA b = .int .u64 (labN b) := rfl
    have fa := fitsS3 (a &&& 7#64) (low3' a)
    have fb := fitsS3 (b &&& 7#64) (low3' b)
    have aa := and3 a
    have ab := and3 b
    rw [loopH_succ]
    rw [hxe, hxc] at gtx cpx
    rw [hye, hyc] at gty cpy
    rw [hze, hzc] at cpx
    rw [hwe, hwc] at cpy
    have hin : (i = A.length) = False := eq_false (by omega)
    cases hgx : goodT x with
    | false =>
      rw [hgx] at gtx
      refine ⟨i, P, Q, ?_⟩
      simp [c3_b0, h1, r1, r2, r3, r4, hPr, hQr, L3, gx, hxe, hxc, hxr, gtx, ss3, goodTS_f, frz_argV, awake14S_f, goodS_f, fitsS_f, copyS_f, sameS_f, compS_f, intS_f, isS_f, hin]
    | true =>
      rw [hgx] at gtx
      cases hgy : goodT y with
      | false =>
        rw [hgy] at gty
        refine ⟨i, P, Q, ?_⟩
        simp [c3_b0, h1, r1, r2, r3, r4, hPr, hQr, L3, gx, hxe, hxc, hxr, gtx, gy, hye, hyc, hyr, gty, ss3, goodTS_f, frz_argV, awake14S_f, goodS_f, fitsS_f, copyS_f, sameS_f, compS_f, intS_f, isS_f, hin]
      | true =>
        rw [hgy] at gty
        obtain ⟨k, P', Q', ih⟩ := c3_next n A B X Y hx hy ha hX hB hY r (i + 1) m (P ++ [.int .u64 (labN (a &&& 7#64)), .int .i64 (copyT x).kind, .int .i64 (copyT x).num, .str (copyT x).name, (copyT x).argV]) (Q ++ [.int .u64 (labN (b &&& 7#64)), .int .i64 (copyT y).kind, .int .i64 (copyT y).num, .str (copyT y).name, (copyT y).argV])
          (by omega) (by omega) (by omega) (by simp [hP]; omega) (by simp [hQ]; omega) (refsL_app hPr (by simp [AV.refsL, AV.refs, hzr])) (refsL_app hQr (by simp [AV.refsL, AV.refs, hwr]))
        refine ⟨k, P', Q', ?_⟩
        have pr2 : AV.refsL (P ++ [.int .u64 (labN (a &&& 7#64)), .int .i64 (copyT x).kind, .int .i64 (copyT x).num, .str (copyT x).name, (copyT x).argV]) = 0 := refsL_app hPr (by simp [AV.refsL, AV.refs, hzr])
        have qr2 : AV.refsL (Q ++ [.int .u64 (labN (b &&& 7#64)), .int .i64 (copyT y).kind, .int .i64 (copyT y).num, .str (copyT y).name, (copyT y).argV]) = 0 := refsL_app hQr (by simp [AV.refsL, AV.refs, hwr])
        have h3 : IntKind.i64.wrap ((i : Int) + 1) = (i : Int) + 1 := wrap_i64 (by omega) (by omega)
        have b1 : (i + 1) * 64 ≤ 140737488355328 := by omega
        have b2 : i + 1 < 9223372036854775808 := by omega
        have t1 : (1000 ≤ (i : Int)) = False := eq_false (by omega)
        have tP : List.take (i * 5) P = P := List.take_of_length_le (by omega)
        have tQ : List.take (i * 5) Q = Q := List.take_of_length_le (by omega)
        have cb := comp_box ((i : Int) + 1)
        have ib := is_box ((i : Int) + 1)
        have sb := same_box ((i : Int) + 1)
        have i1 := intS_at ((i : Int) + 1)
        rw [show ((i + 1 : Nat) : Int) = (i : Int) + 1 by omega] at ih
        simp [c3_b0, c3_m0, run17, c17, h1, pr2, qr2, h3, b1, b2, t1, tP, tQ, hP, hQ, cb, ib, sb, i1, r1, r2, r3, r4, hPr, hQr, L3, ga, gb, hla, hlb, fa, fb, aa, ab, cpx, cpy, hzr, hwr, gx, hxe, hxc, hxr, gtx, gy, hye, hyc, hyr, gty, ss3, goodTS_f, frz_argV, awake14S_f, goodS_f, fitsS_f, copyS_f, sameS_f, compS_f, intS_f, isS_f, hin]
        exact ih

end Go.Proofs.YtnkafagfkblfeaaDoor

namespace Go.Proofs.YtnkafagfkblfeaaDoor
open Go Sz Go.ChangeShapes Go.WideShapes Go.ChangeAt Go.RowKit
set_option linter.unusedSimpArgs false

/-! Terms as arguments. -/

theorem tm_inv : ∀ (n : Nat) (v : AV), SizeOf.sizeOf v ≤ n → HasTy Tryd.prog 33 v → ∃ t : Tm, v = t.enc
  | 0, v, h, _ => by cases v <;> simp at h
  | n + 1, v, hn, h => by
    obtain ⟨vs, rfl, hv⟩ := ty_agg Tryd.underlying33 h
    cases hv with
    | cons h1 r1 => cases r1 with
      | cons h2 r2 => cases r2 with
        | cons h3 r3 => cases r3 with
          | cons h4 r4 =>
            cases r4
            obtain ⟨k, rfl, _⟩ := ty_i64 Tryd.underlying3 h1
            obtain ⟨q, rfl, _⟩ := ty_i64 Tryd.underlying2 h2
            obtain ⟨s, rfl, _⟩ := ty_str Tryd.underlying9 h3
            obtain ⟨xs, rfl, _, hx⟩ := ty_sl Tryd.underlying23 h4
            have hsz : SizeOf.sizeOf xs ≤ n := by
              simp only [List.flatMap_cons, List.flatMap_nil, AV.cells, List.cons_append, List.nil_append, List.append_nil, AV.agg.sizeOf_spec, List.cons.sizeOf_spec, AV.sl.sizeOf_spec] at hn
              omega
            obtain ⟨us, rfl⟩ := ty_map (f := Tm.enc) fun x hm => tm_inv n x (by have := List.sizeOf_lt_of_mem hm; omega) (hx x hm)
            exact ⟨.mk k q s us, by simp [Tm.enc, AV.cells, encL_map]⟩
theorem tm_of {v : AV} (h : HasTy Tryd.prog 33 v) : ∃ t : Tm, v = t.enc := tm_inv _ v (Nat.le_refl _) h
theorem tms_of {v : AV} (h : HasTy Tryd.prog 23 v) : ∃ l : List Tm, v = .sl (l.map Tm.enc) ∧ l.length ≤ maxLen := by
  obtain ⟨xs, rfl, hl, hx⟩ := ty_sl Tryd.underlying23 h
  obtain ⟨l, rfl⟩ := ty_map (f := Tm.enc) fun x h => tm_of (hx x h)
  exact ⟨l, rfl, by simpa using hl⟩

mutual
/-- How much a value holds. -/
def vb : AV → Nat
  | .bool _ => 1
  | .int .. => 1
  | .str s => s.length + 1
  | .sl xs => vbL xs + 1
  | .agg cs => vbL cs
  | _ => 0
def vbL : List AV → Nat
  | [] => 0
  | v :: r => vb v + vbL r
end
theorem vbL_append (a b : List AV) : vbL (a ++ b) = vbL a + vbL b := by
  induction a with
  | nil => simp [vbL]
  | cons v r ih => simp [vbL, ih]; omega
theorem vbL_cells (v : AV) : vbL v.cells = vb v := by
  cases v <;> simp [AV.cells, vbL, vb]
theorem vbL_mem {v : AV} {l : List AV} (h : v ∈ l) : vb v ≤ vbL l := by
  induction l with
  | nil => cases h
  | cons x r ih =>
    simp only [vbL]
    cases h with
    | head => omega
    | tail _ h => have := ih h; omega

mutual
theorem vb_le {H : Type} : ∀ d : DataW H, vb (avOf d) ≤ Rows.uptoBulk d
  | .lit l => by cases l <;> simp [avOf, vb, Rows.uptoBulk, String.length, ByteArray.size]
  | .nil => by simp [avOf, vb, vbL, Rows.uptoBulk]
  | .ptr d => by simp [avOf, vb]
  | .slice es sp => by have := vbL_le es; simp [avOf, vb, Rows.uptoBulk]; omega
  | .agg ps => by have := vbC_le ps; simp [avOf, vb, Rows.uptoBulk]; omega
  | .iface _ d => by simp [avOf, vb]
  | .map _ => by simp [avOf, vb]
  | .held _ => by simp [avOf, vb]
theorem vbL_le {H : Type} : ∀ l : List (DataW H), vbL (avOfL l) ≤ Rows.uptoBulkAll l
  | [] => by simp [avOfL, vbL]
  | d :: r => by have := vb_le d; have := vbL_le r; simp [avOfL, vbL, Rows.uptoBulkAll]; omega
theorem vbC_le {H : Type} : ∀ l : List (DataW H), vbL (cellsOfL l) ≤ Rows.uptoBulkAll l
  | [] => by simp [cellsOfL, vbL]
  | d :: r => by have := vb_le d; have := vbC_le r; simp [cellsOfL, vbL_append, vbL_cells, Rows.uptoBulkAll]; omega
end
theorem upto_le {H : Type} {ds : List (DataW H)} (h : Rows.uptoSmall H ds = true) : vbL (ds.map avOf) ≤ 1048576 := by
  have h1 := vbL_le ds
  rw [avOfL_map] at h1
  have h2 : Rows.uptoBulkAll ds ≤ 1048576 := of_decide_eq_true h
  omega

mutual
theorem bulk_vb : ∀ t : Tm, t.bulk ≤ vb t.enc
  | .nl k n s => by simp [Tm.bulk, Tm.enc, vb, vbL]; omega
  | .mk k n s us => by have := bulkL_vb us; simp [Tm.bulk, Tm.enc, vb, vbL]; omega
theorem bulkL_vb : ∀ l : List Tm, Tm.bulkL l ≤ vbL (Tm.encL l)
  | [] => by simp [Tm.bulkL]
  | t :: r => by have := bulk_vb t; have := bulkL_vb r; simp [Tm.bulkL, Tm.encL, vbL]; omega
end
theorem bulk_of {l : List Tm} {B : Nat} (h : vb (.sl (l.map Tm.enc)) ≤ B) : ∀ t ∈ l, t.bulk ≤ B := fun t ht => by
  have h1 := bulk_vb t
  have h2 := vbL_mem (List.mem_map_of_mem (f := Tm.enc) ht)
  simp only [vb] at h
  omega
end Go.Proofs.YtnkafagfkblfeaaDoor

namespace Go.Proofs.YtnkafagfkblfeaaDoor
open Go Sz
set_option linter.unusedSimpArgs false
attribute [local simp] seqF condF stepF callF callvF guardF trF step1F call1F callv1F guard1F seqK_n seqK_e seqK_r condK_t condK_f stK_s gdK_t gdK_f cvK_f trK_s trK1_s stK1_s gdK1_t gdK1_f cvK1_f evCode_skip evCode_reg evCode_dreg evCode_block evCode_exit evCode_ret evSteps_nil evTr_nil ldId chkTr
 evOp_mov evOp_pick evOp_box evOp_bld evOp_bsl evOp_ld evOp_st evOp_nck evOp_bin evOp_beq evOp_ceq evOp_peq evOp_not evOp_neg evOp_xor evOp_cvi evOp_cvss evOp_cvis evOp_cvsb evOp_mki evOp_mkf evOp_mkm evOp_mks evOp_sls evOp_slv evOp_fad evOp_fld1 evOp_fldn evOp_iad evOp_ixs evOp_ext evOp_lens evOp_lenv evOp_mx evOp_mn evOp_app evOp_bs0 evOp_snil evOp_clr
 FM_ev ev_const FM_put put_none FM_unwanted lk_hit lk_miss lk_nil FM_clear FM_clearB trues pick gc_FM gc_FM0 incK snds renM allM evB_fm enumA cells_agg cells_bool cells_int cells_str cells_nilp cells_ptr cells_ip cells_nils cells_sl cells_vec cells_nilm cells_map cells_nilfn cells_fn cells_nili cells_iface ldA row_mk get_mk set_mk mark_mk alloc_mk' trunc_mk binA resAll_nil resAll_cons FM_resT FM_resC oneOf finish_mk frz_undef frz_bool frz_int frz_str frz_nilp frz_ptr frz_ip frz_nils frz_sl frz_nilm frz_map frz_nilfn frz_fn frz_nili frz_iface frz_old frz_agg frz_tuple frzL_nil frzL_cons kill_nil kill_cons chunk_zero chunk_succ AV.refs AV.refsL evCall_spec lookF_nil lookF_cons callS_nil callS_oneF spK_s spK_n frK_s frK_n clones cloneS_f cloneS_nils cloneS_sl0 fillA putAt_nil putAt_cons evCode_loop bgn_mk aft_mk keeps objsAt ren renId AV.top lowObj h0 succ_le_f oldK oldAll oldLow oldRen lowCells_row lowCells_map lowCells_dead objCells topLow renObj List.idxOf_cons List.idxOf_nil nilA nilK elemsA_nils elemsA_vec elemsA_str evOp_die evOp_lkp evOp_cvbs lookA scal_bool scal_int scal_str scal_nils scal_sl scal_tuple scal_agg scal1_bool scal1_int scal1_str scal1_nils scal1_sl scal1_agg
attribute [local simp low] frz_vecR

/-! BoxNumbers. -/

set_option maxRecDepth 100000 in
set_option maxHeartbeats 10000000 in
theorem c3_first (n : Nat) (A B : List (BitVec 64)) (X Y : List Tm) (hx : ∀ t ∈ X, t.bulk < 1000000000) (hy : ∀ t ∈ Y, t.bulk < 1000000000) (ha : A.length ≤ 40) (hX : X.length = A.length) (hB : B.length = A.length) (hY : Y.length = A.length) (h00 : 0 < A.length) (m : Nat) (hm : A.length < m) :
    (∃ (k : Nat) (P' Q' : List AV), aft 6 0 (loopH (evCode (evCall (envOf ss3) (n + 3)) (n + 3) c3_b0) c3_m0 6 m (c3_f0 (.sl (A.map labA)) (.sl (X.map Tm.enc)) (.sl (B.map labA)) (.sl (Y.map Tm.enc)) (.ptr 2 0) (.ptr 5 0) (.int .i64 0))
      ⟨6, [.row [.vec 4 0 3 1 3, .nils], L3, L3, .row [.vec 1 0 3 1 3, .nils], L3, L3], 6, 0⟩) =
      some (if k = A.length then .exit 0 else .ret, if k = A.length then FM 124 [(9, .ptr 2 0), (11, .ptr 5 0)] else FM 124 [(8, .bool true)], ⟨8, [.row P', .row Q', .row [.vec 4 0 3 1 3, .vec 6 0 k 5 k], L3, L3, .row [.vec 1 0 3 1 3, .vec 7 0 k 5 k], L3, L3], 0, 0⟩)) ∨
    aft 6 0 (loopH (evCode (evCall (envOf ss3) (n + 3)) (n + 3) c3_b0) c3_m0 6 m (c3_f0 (.sl (A.map labA)) (.sl (X.map Tm.enc)) (.sl (B.map labA)) (.sl (Y.map Tm.enc)) (.ptr 2 0) (.ptr 5 0) (.int .i64 0))
      ⟨6, [.row [.vec 4 0 3 1 3, .nils], L3, L3, .row [.vec 1 0 3 1 3, .nils], L3, L3], 6, 0⟩) =
      some (.ret, FM 124 [(8, .bool true)], ⟨6, [.row [.vec 4 0 3 1 3, .nils], L3, L3, .row [.vec 1 0 3 1 3, .nils], L3, L3], 0, 0⟩) := by
  obtain ⟨m, rfl⟩ : ∃ m', m = m' + 1 := ⟨m - 1, by omega⟩
  cases A with
  | nil => simp at h00
  | cons a A =>
  cases B with
  | nil => simp at hB
  | cons b B =>
  cases X with
  | nil => simp at hX
  | cons x X =>
  cases Y with
  | nil => simp at hY
  | cons y Y =>
  have h1 : ((0 : Int) < (A.length : Int) + 1) = True := eq_true (by omega)
  have r1 : AV.refsL (A.map labA) = 0 := labs_refs A
  have r2 : AV.refsL (B.map labA) = 0 := labs_refs B
  have r3 : AV.refsL (X.map Tm.enc) = 0 := encs_refs _
  have r4 : AV.refsL (Y.map Tm.enc) = 0 := encs_refs _
  have hbx := hx x (by simp)
  have hby := hy y (by simp)
  have hsx := size_bulk x
  have hsy := size_bulk y
  have gtx := goodTS_at x hbx
  have gty := goodTS_at y hby
  have cpx := copyS_at x (by omega)
  have cpy := copyS_at y (by omega)
  have hxe : x.enc = .agg x.cells := Tm.enc_eq x
  have hxc : x.cells = [.int .i64 x.kind, .int .i64 x.num, .str x.name, x.argV] := rfl
  have hxr := argV_refs x
  have hye : y.enc = .agg y.cells := Tm.enc_eq y
  have hyc : y.cells = [.int .i64 y.kind, .int .i64 y.num, .str y.name, y.argV] := rfl
  have hyr := argV_refs y
  have hze : (copyT x).enc = .agg (copyT x).cells := Tm.enc_eq _
  have hzc : (copyT x).cells = [.int .i64 (copyT x).kind, .int .i64 (copyT x).num, .str (copyT x).name, (copyT x).argV] := rfl
  have hzr := argV_refs (copyT x)
  have hwe : (copyT y).enc = .agg (copyT y).cells := Tm.enc_eq _
  have hwc : (copyT y).cells = [.int .i64 (copyT y).kind, .int .i64 (copyT y).num, .str (copyT y).name, (copyT y).argV] := rfl
  have hwr := argV_refs (copyT y)
  have hla : labA a = .int .u64 (labN a) := rfl
  have hlb : labA b = .int .u64 (labN b) := rfl
  have fa := fitsS3 (a &&& 7#64) (low3' a)
  have fb := fitsS3 (b &&& 7#64) (low3' b)
  have aa := and3 a
  have ab := and3 b
  rw [loopH_succ]
  rw [hxe, hxc] at gtx cpx
  rw [hye, hyc] at gty cpy
  rw [hze, hzc] at cpx
  rw [hwe, hwc] at cpy
  cases hgx : goodT x with
  | false =>
    rw [hgx] at gtx
    refine .inr ?_
    simp [c3_b0, h1, r1, r2, r3, r4, L3, List.map_cons, hxe, hxc, hxr, gtx, ss3, goodTS_f, frz_argV, awake14S_f, goodS_f, fitsS_f, copyS_f, sameS_f, compS_f, intS_f, isS_f]
  | true =>
    rw [hgx] at gtx
    cases hgy : goodT y with
    | false =>
      rw [hgy] at gty
      refine .inr ?_
      simp [c3_b0, h1, r1, r2, r3, r4, L3, List.map_cons, hxe, hxc, hxr, gtx, hye, hyc, hyr, gty, ss3, goodTS_f, frz_argV, awake14S_f, goodS_f, fitsS_f, copyS_f, sameS_f, compS_f, intS_f, isS_f]
    | true =>
      rw [hgy] at gty
      obtain ⟨k, P', Q', ih⟩ := c3_next n (a :: A) (b :: B) (x :: X) (y :: Y) hx hy ha hX hB hY A.length 1 m [.int .u64 (labN (a &&& 7#64)), .int .i64 (copyT x).kind, .int .i64 (copyT x).num, .str (copyT x).name, (copyT x).argV] [.int .u64 (labN (b &&& 7#64)), .int .i64 (copyT y).kind, .int .i64 (copyT y).num, .str (copyT y).name, (copyT y).argV]
        (by simp; omega) (by simp at hm; omega) (by omega) (by simp) (by simp) (by simp [AV.refsL, AV.refs, hzr]) (by simp [AV.refsL, AV.refs, hwr])
      refine .inl ⟨k, P', Q', ?_⟩
      simp only [List.map_cons, hxe, hxc, hye, hyc] at ih
      have h3 : IntKind.i64.wrap 1 = 1 := rfl
      have cb := comp_box 1
      have ib := is_box 1
      have sb := same_box 1
      have i1 := intS_at 1
      rw [show ((1 : Nat) : Int) = 1 from rfl] at ih
      simp [c3_b0, c3_m0, run17, c17, h1, h3, cb, ib, sb, i1, r1, r2, r3, r4, L3, List.map_cons, hla, hlb, fa, fb, aa, ab, cpx, cpy, hzr, hwr, hxe, hxc, hxr, gtx, hye, hyc, hyr, gty, ss3, goodTS_f, frz_argV, awake14S_f, goodS_f, fitsS_f, copyS_f, sameS_f, compS_f, intS_f, isS_f]
      exact ih

end Go.Proofs.YtnkafagfkblfeaaDoor

namespace Go.Proofs.YtnkafagfkblfeaaDoor
open Go Sz
set_option linter.unusedSimpArgs false
attribute [local simp] seqF condF stepF callF callvF guardF trF step1F call1F callv1F guard1F seqK_n seqK_e seqK_r condK_t condK_f stK_s gdK_t gdK_f cvK_f trK_s trK1_s stK1_s gdK1_t gdK1_f cvK1_f evCode_skip evCode_reg evCode_dreg evCode_block evCode_exit evCode_ret evSteps_nil evTr_nil ldId chkTr
 evOp_mov evOp_pick evOp_box evOp_bld evOp_bsl evOp_ld evOp_st evOp_nck evOp_bin evOp_beq evOp_ceq evOp_peq evOp_not evOp_neg evOp_xor evOp_cvi evOp_cvss evOp_cvis evOp_cvsb evOp_mki evOp_mkf evOp_mkm evOp_mks evOp_sls evOp_slv evOp_fad evOp_fld1 evOp_fldn evOp_iad evOp_ixs evOp_ext evOp_lens evOp_lenv evOp_mx evOp_mn evOp_app evOp_bs0 evOp_snil evOp_clr
 FM_ev ev_const FM_put put_none FM_unwanted lk_hit lk_miss lk_nil FM_clear FM_clearB trues pick gc_FM gc_FM0 incK snds renM allM evB_fm enumA cells_agg cells_bool cells_int cells_str cells_nilp cells_ptr cells_ip cells_nils cells_sl cells_vec cells_nilm cells_map cells_nilfn cells_fn cells_nili cells_iface ldA row_mk get_mk set_mk mark_mk alloc_mk' trunc_mk binA resAll_nil resAll_cons FM_resT FM_resC oneOf finish_mk frz_undef frz_bool frz_int frz_str frz_nilp frz_ptr frz_ip frz_nils frz_sl frz_nilm frz_map frz_nilfn frz_fn frz_nili frz_iface frz_old frz_agg frz_tuple frzL_nil frzL_cons kill_nil kill_cons chunk_zero chunk_succ AV.refs AV.refsL evCall_spec lookF_nil lookF_cons callS_nil callS_oneF spK_s spK_n frK_s frK_n clones cloneS_f cloneS_nils cloneS_sl0 fillA putAt_nil putAt_cons evCode_loop bgn_mk aft_mk keeps objsAt ren renId AV.top lowObj h0 succ_le_f oldK oldAll oldLow oldRen lowCells_row lowCells_map lowCells_dead objCells topLow renObj List.idxOf_cons List.idxOf_nil nilA nilK elemsA_nils elemsA_vec elemsA_str evOp_die evOp_lkp evOp_cvbs lookA scal_bool scal_int scal_str scal_nils scal_sl scal_tuple scal_agg scal1_bool scal1_int scal1_str scal1_nils scal1_sl scal1_agg
attribute [local simp low] frz_vecR

theorem ss3_ok (hT : KSpecOK Tryd.prog trimS) : ∀ s ∈ ss3, KSpecOK Tryd.prog s := by
  simp [ss3, awake14S_ok hT, goodS_ok hT, fitsS_ok hT, goodTS_ok, copyS_ok, sameS_ok, compS_ok, intS_ok, isS_ok]
theorem goodS3 : goodS.S [.sl [.str [97], .str [98], .str [99]]] = some (.bool true) := by
  have := goodS_at (.sl [.str [97], .str [98], .str [99]]) n3 rfl
  rw [good3] at this
  exact this

set_option maxRecDepth 100000 in
set_option maxHeartbeats 10000000 in
theorem boxNumbers_prim (hT : KSpecOK Tryd.prog trimS) (A B : List (BitVec 64)) (X Y : List Tm) (hx : ∀ t ∈ X, t.bulk < 1000000000) (hy : ∀ t ∈ Y, t.bulk < 1000000000) : PrimOK Tryd.prog 3 [.sl (A.map labA), .sl (X.map Tm.enc), .sl (B.map labA), .sl (Y.map Tm.enc)] (.bool true) := by
  have r1 : AV.refsL (A.map labA) = 0 := labs_refs A
  have r2 : AV.refsL (B.map labA) = 0 := labs_refs B
  have r3 : AV.refsL (X.map Tm.enc) = 0 := encs_refs _
  have r4 : AV.refsL (Y.map Tm.enc) = 0 := encs_refs _
  refine prim_of (n := 51) (h' := h0) (envOf_ok (ss3_ok hT)) ?_ rfl (by simp [AV.refsL, AV.refs, r1, r2, r3, r4])
  by_cases q1 : A.length ≤ 40
  · have q1' : ((40 : Int) < (A.length : Int)) = False := eq_false (by omega)
    by_cases q2 : X.length = A.length
    · have q2' : ((X.length : Int) = (A.length : Int)) = True := eq_true (by omega)
      by_cases q3 : B.length = A.length
      · have q3' : ((B.length : Int) = (A.length : Int)) = True := eq_true (by omega)
        by_cases q4 : Y.length = A.length
        · have q4' : ((Y.length : Int) = (A.length : Int)) = True := eq_true (by omega)
          by_cases q5 : A.length = 0
          · have e1 : A = [] := List.eq_nil_of_length_eq_zero q5
            have e2 : B = [] := List.eq_nil_of_length_eq_zero (by omega)
            have e3 : X = [] := List.eq_nil_of_length_eq_zero (by omega)
            have e4 : Y = [] := List.eq_nil_of_length_eq_zero (by omega)
            subst e1 e2 e3 e4
            simp [run3, c3, c3_m0, c3_b0, loopH_succ, run15, c15, run20, c20, ss3, awake14S_f, awake14S_at, goodS_f, goodS3, fitsS_f, goodTS_f, copyS_f, sameS_f, compS_f, intS_f, isS_f]
          · have hl := c3_first 47 A B X Y hx hy q1 q2 q3 q4 (by omega) 50 (by omega)
            have l1 : (A.map labA).length = A.length := by simp
            have l2 : (B.map labA).length = B.length := by simp
            have l3 : (X.map Tm.enc).length = X.length := by simp
            have l4 : (Y.map Tm.enc).length = Y.length := by simp
            generalize A.map labA = AL at *
            generalize B.map labA = BL at *
            generalize X.map Tm.enc = XL at *
            generalize Y.map Tm.enc = YL at *
            simp only [c3_m0, L3, ss3, Nat.reduceAdd] at hl
            rcases hl with ⟨k, P', Q', hl⟩ | hl
            · by_cases hk : k = A.length
              · rw [if_pos hk, if_pos hk] at hl
                simp [run3, c3, c3_m0, run15, c15, run20, c20, ss3, r1, r2, r3, r4, l1, l2, l3, l4, q1', q2', q3', q4', hl, awake14S_f, awake14S_at, goodS_f, goodS3, fitsS_f, goodTS_f, copyS_f, sameS_f, compS_f, intS_f, isS_f]
              · rw [if_neg hk, if_neg hk] at hl
                simp [run3, c3, c3_m0, run15, c15, run20, c20, ss3, r1, r2, r3, r4, l1, l2, l3, l4, q1', q2', q3', q4', hl, awake14S_f, awake14S_at, goodS_f, goodS3, fitsS_f, goodTS_f, copyS_f, sameS_f, compS_f, intS_f, isS_f]
            · simp [run3, c3, c3_m0, run15, c15, run20, c20, ss3, r1, r2, r3, r4, l1, l2, l3, l4, q1', q2', q3', q4', hl, awake14S_f, awake14S_at, goodS_f, goodS3, fitsS_f, goodTS_f, copyS_f, sameS_f, compS_f, intS_f, isS_f]
        · have q4' : ((Y.length : Int) = (A.length : Int)) = False := eq_false (by omega)
          simp [run3, c3, ss3, r1, r2, r3, r4, q1', q2', q3', q4', awake14S_f, awake14S_at, goodS_f, fitsS_f, goodTS_f, copyS_f, sameS_f, compS_f, intS_f, isS_f]
      · have q3' : ((B.length : Int) = (A.length : Int)) = False := eq_false (by omega)
        simp [run3, c3, ss3, r1, r2, r3, r4, q1', q2', q3', awake14S_f, awake14S_at, goodS_f, fitsS_f, goodTS_f, copyS_f, sameS_f, compS_f, intS_f, isS_f]
    · have q2' : ((X.length : Int) = (A.length : Int)) = False := eq_false (by omega)
      simp [run3, c3, ss3, r1, r2, r3, r4, q1', q2', awake14S_f, awake14S_at, goodS_f, fitsS_f, goodTS_f, copyS_f, sameS_f, compS_f, intS_f, isS_f]
  · have q1' : ((40 : Int) < (A.length : Int)) = True := eq_true (by omega)
    simp [run3, c3, ss3, r1, r2, r3, r4, q1', awake14S_f, awake14S_at, goodS_f, fitsS_f, goodTS_f, copyS_f, sameS_f, compS_f, intS_f, isS_f]

end Go.Proofs.YtnkafagfkblfeaaDoor

namespace Go.Proofs.YtnkafagfkblfeaaDoor
open Go Sz Go.ChangeShapes Go.WideShapes Go.ChangeAt Go.RowKit

theorem boxNumbers_lawX {H : Type} (ds : List (DataW H)) (h : HasTys Tryd.prog Tryd.f3.params.toList (ds.map avOf)) (hw : (DataW.weightsEach Tryd.prog Tryd.f3.params.toList ds).all (· ≤ reachBytes) = true) (hk : Rows.uptoSmall H ds = true) : PrimOKX Tryd.prog (fun _ => True) 3 (ds.map avOf) (.bool true) := by
  have hb := upto_le hk
  generalize ds.map avOf = avs at h hb
  rw [Tryd.params3] at h
  cases h with
  | cons h1 r1 => cases r1 with
    | cons h2 r2 => cases r2 with
      | cons h3 r3 => cases r3 with
        | cons h4 r4 =>
          cases r4
          obtain ⟨A, rfl, _⟩ := labs_of h1
          obtain ⟨X, rfl, _⟩ := tms_of h2
          obtain ⟨B, rfl, _⟩ := labs_of h3
          obtain ⟨Y, rfl, _⟩ := tms_of h4
          simp only [vbL] at hb
          exact boxNumbers_prim trimS_ok A B X Y (fun t ht => by have := bulk_of (B := 1048576) (by omega) t ht; omega) (fun t ht => by have := bulk_of (B := 1048576) (by omega) t ht; omega)
end Go.Proofs.YtnkafagfkblfeaaDoor

namespace Go.Proofs.YtnkafagfkblfeaaDoor
open Go Sz
set_option linter.unusedSimpArgs false

/-! A copy is like what it is a copy of. -/

theorem mkT_kind (k n : Int) (s : List UInt8) (us : List Tm) : (mkT k n s us).kind = k := by cases us <;> rfl
theorem mkT_num (k n : Int) (s : List UInt8) (us : List Tm) : (mkT k n s us).num = n := by cases us <;> rfl
theorem mkT_name (k n : Int) (s : List UInt8) (us : List Tm) : (mkT k n s us).name = s := by cases us <;> rfl
theorem mkT_args (k n : Int) (s : List UInt8) (us : List Tm) : (mkT k n s us).args = us := by cases us <;> rfl
theorem copy_kind (t : Tm) : (copyT t).kind = t.kind := by
  rw [copyT_eq]; split
  · rfl
  · exact mkT_kind ..
theorem copy_num (t : Tm) : (copyT t).num = t.num := by
  rw [copyT_eq]; split
  · rfl
  · exact mkT_num ..
theorem copy_name (t : Tm) : (copyT t).name = t.name := by
  rw [copyT_eq]; split
  · rfl
  · exact mkT_name ..
theorem copy_args (t : Tm) : (copyT t).args = if t.kind = 0 then t.args else t.args.map copyT := by
  rw [copyT_eq]; split
  · rfl
  · exact mkT_args ..

theorem size_lt_of_mem {t y : Tm} (h : y ∈ t.args) : y.size < t.size := by
  have h1 := size_args t
  have h2 := sizeL_mem h
  omega

/-- Terms, by their Args. -/
theorem Tm.byArgs {p : Tm → Prop} (h : ∀ t, (∀ y ∈ t.args, p y) → p t) (t : Tm) : p t := by
  have key : ∀ (n : Nat) (t : Tm), t.size ≤ n → p t := by
    intro n
    induction n with
    | zero => intro t ht; have := size_args t; omega
    | succ n ih => intro t ht; exact h t fun y hy => ih y (by have := size_lt_of_mem hy; omega)
  exact key _ t (Nat.le_refl _)

theorem sizeL_map {f : Tm → Tm} : ∀ {us : List Tm}, (∀ y ∈ us, (f y).size = y.size) → Tm.sizeL (us.map f) = Tm.sizeL us
  | [], _ => rfl
  | t :: r, h => by
    have := sizeL_map (us := r) fun y hy => h y (by simp [hy])
    simp [Tm.sizeL, this, h t (by simp)]
theorem depthL_map {f : Tm → Tm} : ∀ {us : List Tm}, (∀ y ∈ us, (f y).depth = y.depth) → Tm.depthL (us.map f) = Tm.depthL us
  | [], _ => rfl
  | t :: r, h => by
    have := depthL_map (us := r) fun y hy => h y (by simp [hy])
    simp [Tm.depthL, this, h t (by simp)]
theorem bulkL_map {f : Tm → Tm} : ∀ {us : List Tm}, (∀ y ∈ us, (f y).bulk = y.bulk) → Tm.bulkL (us.map f) = Tm.bulkL us
  | [], _ => rfl
  | t :: r, h => by
    have := bulkL_map (us := r) fun y hy => h y (by simp [hy])
    simp [Tm.bulkL, this, h t (by simp)]
theorem allL_map {f : Tm → Tm} {p : Tm → Bool} : ∀ {us : List Tm}, (∀ y ∈ us, (f y).allT p = y.allT p) → Tm.allL p (us.map f) = Tm.allL p us
  | [], _ => rfl
  | t :: r, h => by
    have := allL_map (us := r) fun y hy => h y (by simp [hy])
    simp [Tm.allL, this, h t (by simp)]

theorem copy_size : ∀ t, (copyT t).size = t.size := Tm.byArgs fun t ih => by
  rw [size_args, size_args t, copy_args]
  split
  · rfl
  · rw [sizeL_map ih]
theorem copy_depth : ∀ t, (copyT t).depth = t.depth := Tm.byArgs fun t ih => by
  rw [depth_args, depth_args t, copy_args]
  split
  · rfl
  · rw [depthL_map ih]
theorem copy_bulk : ∀ t, (copyT t).bulk = t.bulk := Tm.byArgs fun t ih => by
  rw [bulk_args, bulk_args t, copy_args, copy_name]
  split
  · rfl
  · rw [bulkL_map ih]
theorem copy_len (t : Tm) : (copyT t).args.length = t.args.length := by
  rw [copy_args]
  split
  · rfl
  · simp
theorem oneK_copy (t : Tm) : oneK (copyT t) = oneK t := by
  unfold oneK
  rw [copy_kind, copy_num, copy_name]
  have hl := copy_len t
  have he : (copyT t).args.isEmpty = t.args.isEmpty := by
    cases h1 : (copyT t).args <;> cases h2 : t.args <;> simp [h1, h2] at hl ⊢
  simp [hl, he]
theorem copy_all : ∀ t, (copyT t).allT oneK = t.allT oneK := Tm.byArgs fun t ih => by
  rw [allT_args, allT_args oneK t, oneK_copy, copy_args]
  split
  · rfl
  · rw [allL_map ih]
theorem copy_good (t : Tm) : goodT (copyT t) = goodT t := by
  unfold goodT
  rw [copy_size, copy_depth, copy_all]

theorem sameL_map {f : Tm → Tm} : ∀ {us ws : List Tm}, (∀ y ∈ us, ∀ w, sameT (f y) w = sameT y w) → sameL (us.map f) ws = sameL us ws
  | [], ws, _ => by simp [sameL_nil]
  | t :: r, [], _ => by simp [sameL]
  | t :: r, w :: ws, h => by
    have := sameL_map (us := r) (ws := ws) fun y hy => h y (by simp [hy])
    simp [sameL_cons, this, h t (by simp)]
theorem copy_same : ∀ t, ∀ u, sameT (copyT t) u = sameT t u := Tm.byArgs fun t ih u => by
  rw [sameT_eq, sameT_eq t u, copy_kind, copy_num, copy_name, copy_args]
  split
  · rfl
  · rw [sameL_map ih]
theorem sameL_refl : ∀ {us : List Tm}, (∀ y ∈ us, sameT y y = true) → sameL us us = true
  | [], _ => by simp [sameL_nil]
  | t :: r, h => by
    have := sameL_refl (us := r) fun y hy => h y (by simp [hy])
    simp [sameL_cons, this, h t (by simp)]
theorem same_refl : ∀ t, sameT t t = true := Tm.byArgs fun t ih => by
  rw [sameT_eq, sameL_refl ih]
  simp
end Go.Proofs.YtnkafagfkblfeaaDoor

namespace Go.Proofs.YtnkafagfkblfeaaDoor
open Go Sz
set_option linter.unusedSimpArgs false
attribute [local simp] seqF condF stepF callF callvF guardF trF step1F call1F callv1F guard1F seqK_n seqK_e seqK_r condK_t condK_f stK_s gdK_t gdK_f cvK_f trK_s trK1_s stK1_s gdK1_t gdK1_f cvK1_f evCode_skip evCode_reg evCode_dreg evCode_block evCode_exit evCode_ret evSteps_nil evTr_nil ldId chkTr
 evOp_mov evOp_pick evOp_box evOp_bld evOp_bsl evOp_ld evOp_st evOp_nck evOp_bin evOp_beq evOp_ceq evOp_peq evOp_not evOp_neg evOp_xor evOp_cvi evOp_cvss evOp_cvis evOp_cvsb evOp_mki evOp_mkf evOp_mkm evOp_mks evOp_sls evOp_slv evOp_fad evOp_fld1 evOp_fldn evOp_iad evOp_ixs evOp_ext evOp_lens evOp_lenv evOp_mx evOp_mn evOp_app evOp_bs0 evOp_snil evOp_clr
 FM_ev ev_const FM_put put_none FM_unwanted lk_hit lk_miss lk_nil FM_clear FM_clearB trues pick gc_FM gc_FM0 incK snds renM allM evB_fm enumA cells_agg cells_bool cells_int cells_str cells_nilp cells_ptr cells_ip cells_nils cells_sl cells_vec cells_nilm cells_map cells_nilfn cells_fn cells_nili cells_iface ldA row_mk get_mk set_mk mark_mk alloc_mk' trunc_mk binA resAll_nil resAll_cons FM_resT FM_resC oneOf finish_mk frz_undef frz_bool frz_int frz_str frz_nilp frz_ptr frz_ip frz_nils frz_sl frz_nilm frz_map frz_nilfn frz_fn frz_nili frz_iface frz_old frz_agg frz_tuple frzL_nil frzL_cons kill_nil kill_cons chunk_zero chunk_succ AV.refs AV.refsL evCall_spec lookF_nil lookF_cons callS_nil callS_oneF spK_s spK_n frK_s frK_n clones cloneS_f cloneS_nils cloneS_sl0 fillA putAt_nil putAt_cons evCode_loop bgn_mk aft_mk keeps objsAt ren renId AV.top lowObj h0 succ_le_f oldK oldAll oldLow oldRen lowCells_row lowCells_map lowCells_dead objCells topLow renObj List.idxOf_cons List.idxOf_nil nilA nilK elemsA_nils elemsA_vec elemsA_str evOp_die evOp_lkp evOp_cvbs lookA scal_bool scal_int scal_str scal_nils scal_sl scal_tuple scal_agg scal1_bool scal1_int scal1_str scal1_nils scal1_sl scal1_agg
attribute [local simp low] frz_vecR

/-! What BoxKeeps' loops hold. -/

theorem top3 : topK n3 = 7#64 := by
  unfold topK
  rw [good3]
  rfl
theorem fits3_iff (x : BitVec 64) : fitsK n3 x = decide (x.toNat < 8) := by
  by_cases h : x.toNat < 8
  · rw [fits3 h]; simp [h]
  · have h2 : fitsK n3 x = false := by
      apply Classical.byContradiction
      intro hn
      have hf : fitsK n3 x = true := by simpa using hn
      unfold fitsK at hf
      rw [good3, Bool.true_and, top3, leqK_iff] at hf
      have e : x &&& 7#64 = x := by
        apply BitVec.eq_of_getLsbD_eq
        intro i hi
        rw [BitVec.getLsbD_and]
        cases hx : x.getLsbD i with
        | false => rfl
        | true => rw [hf i hx]; rfl
      have := low3' x
      rw [e] at this
      exact h this
    rw [h2]; simp [h]
theorem fitsS3_at (x : BitVec 64) : fitsS.S [.sl [.str [97], .str [98], .str [99]], .int .u64 (labN x)] = some (.bool (decide (x.toNat < 8))) := by
  have := fitsS_at (.sl [.str [97], .str [98], .str [99]]) n3 x rfl
  rw [fits3_iff] at this
  exact this

abbrev Bx := BitVec 64 × Tm
def bxCells (p : Bx) : List AV := .int .u64 (labN p.1) :: p.2.cells
def flatB (bs : List Bx) : List AV := bs.flatMap bxCells
def cpB (p : Bx) : Bx := (p.1, copyT p.2)
theorem flatB_len (bs : List Bx) : (flatB bs).length = bs.length * 5 := by
  induction bs with
  | nil => rfl
  | cons p r ih =>
    unfold flatB at ih ⊢
    rw [List.flatMap_cons, List.length_append, ih, List.length_cons]
    have : (bxCells p).length = 5 := rfl
    omega
theorem flatB_refs (bs : List Bx) : AV.refsL (flatB bs) = 0 := by
  induction bs with
  | nil => rfl
  | cons p r ih =>
    unfold flatB at ih ⊢
    rw [List.flatMap_cons]
    exact refsL_app (by simp [bxCells, Tm.cells, AV.refsL, AV.refs, argV_refs]) ih
theorem flatB_app (bs : List Bx) (p : Bx) : flatB (bs ++ [p]) = flatB bs ++ [.int .u64 (labN p.1), .int .i64 p.2.kind, .int .i64 p.2.num, .str p.2.name, p.2.argV] := by
  simp [flatB, bxCells, Tm.cells]
theorem flatB_drop : ∀ (bs : List Bx) (j : Nat) (p : Bx), bs[j]? = some p → (flatB bs).drop (j * 5) = bxCells p ++ flatB (bs.drop (j + 1))
  | [], j, p, h => by simp at h
  | q :: r, 0, p, h => by
    simp only [List.getElem?_cons_zero, Option.some.injEq] at h
    subst h
    simp [flatB]
  | q :: r, j + 1, p, h => by
    have ih := flatB_drop r j p (by simpa using h)
    have e : flatB (q :: r) = bxCells q ++ flatB r := rfl
    have h5 : (bxCells q).length = 5 := rfl
    rw [e, List.drop_append, List.drop_of_length_le (by omega), h5, show (j + 1) * 5 - 5 = j * 5 by omega, ih, List.drop_succ_cons]
    rfl
theorem flatB_at {bs : List Bx} {j : Nat} {p : Bx} (h : bs[j]? = some p) :
    ((flatB bs).drop (j * 5)).take 5 = [.int .u64 (labN p.1), .int .i64 p.2.kind, .int .i64 p.2.num, .str p.2.name, p.2.argV] ∧
    (flatB bs)[j * 5]? = some (.int .u64 (labN p.1)) ∧ ((flatB bs).drop (j * 5 + 1)).take 4 = [.int .i64 p.2.kind, .int .i64 p.2.num, .str p.2.name, p.2.argV] := by
  have hd := flatB_drop bs j p h
  refine ⟨by rw [hd]; rfl, ?_, ?_⟩
  · have : ((flatB bs).drop (j * 5))[0]? = (flatB bs)[j * 5]? := by rw [List.getElem?_drop, Nat.add_zero]
    rw [← this, hd]
    rfl
  · rw [← List.drop_drop, hd]
    rfl

def ss4 : List KSpec := [awake14S, goodS, fitsS, goodTS, copyS, sameS, compS, intS, isS]
theorem good_box (n : Int) : goodTS.S [.agg [.int .i64 2, .int .i64 0, .str [36, 98, 111, 120], .sl [.agg [.int .i64 1, .int .i64 n, .str [], .nils]]]] = some (.bool true) := by
  have := goodTS_at (boxT n) (by rw [boxT_bulk]; decide)
  rw [boxT_good] at this
  exact this

end Go.Proofs.YtnkafagfkblfeaaDoor
