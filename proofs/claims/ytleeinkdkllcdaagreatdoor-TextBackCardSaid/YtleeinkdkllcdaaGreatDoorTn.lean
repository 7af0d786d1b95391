import Derived.Test.YtleeinkdkllcdaaGreatDoorTj
set_option linter.unusedVariables false
set_option linter.unusedSimpArgs false
set_option linter.unusedSectionVars false

namespace Go.Proofs.YtleeinkdkllcdaaGreatDoor
open Go Sz
set_option linter.unusedSimpArgs false
attribute [local simp] seqF condF stepF callF callvF guardF trF step1F call1F callv1F guard1F seqK_n seqK_e seqK_r condK_t condK_f stK_s gdK_t gdK_f cvK_f trK_s trK1_s stK1_s gdK1_t gdK1_f cvK1_f evCode_skip evCode_reg evCode_dreg evCode_block evCode_exit evCode_ret evSteps_nil evTr_nil ldId chkTr
 evOp_mov evOp_pick evOp_box evOp_bld evOp_bsl evOp_ld evOp_st evOp_nck evOp_bin evOp_beq evOp_ceq evOp_peq evOp_not evOp_neg evOp_xor evOp_cvi evOp_cvss evOp_cvis evOp_cvsb evOp_mki evOp_mkf evOp_mkm evOp_mks evOp_sls evOp_slv evOp_fad evOp_fld1 evOp_fldn evOp_iad evOp_ixs evOp_ext evOp_lens evOp_lenv evOp_mx evOp_mn evOp_app evOp_bs0 evOp_snil evOp_clr
 FM_ev ev_const FM_put put_none FM_unwanted lk_hit lk_miss lk_nil FM_clear FM_clearB trues pick gc_FM gc_FM0 incK snds renM allM evB_fm enumA cells_agg cells_bool cells_int cells_str cells_nilp cells_ptr cells_ip cells_nils cells_sl cells_vec cells_nilm cells_map cells_nilfn cells_fn cells_nili cells_iface ldA row_mk get_mk set_mk mark_mk alloc_mk' trunc_mk binA resAll_nil resAll_cons FM_resT FM_resC oneOf finish_mk frz_undef frz_bool frz_int frz_str frz_nilp frz_ptr frz_ip frz_nils frz_sl frz_nilm frz_map frz_nilfn frz_fn frz_nili frz_iface frz_old frz_agg frz_tuple frzL_nil frzL_cons kill_nil kill_cons chunk_zero chunk_succ AV.refs AV.refsL evCall_spec lookF_nil lookF_cons callS_nil callS_oneF spK_s spK_n frK_s frK_n clones cloneS_f cloneS_nils cloneS_sl0 fillA putAt_nil putAt_cons evCode_loop bgn_mk aft_mk keeps objsAt ren renId AV.top lowObj h0 succ_le_f oldK oldAll oldLow oldRen lowCells_row lowCells_map lowCells_dead objCells topLow renObj List.idxOf_cons List.idxOf_nil nilA nilK elemsA_nils elemsA_vec elemsA_str evOp_die evOp_lkp evOp_cvbs lookA scal_bool scal_int scal_str scal_nils scal_sl scal_tuple scal_agg scal1_bool scal1_int scal1_str scal1_nils scal1_sl scal1_agg
attribute [local simp low] frz_vecR

/-! TextBack. -/

theorem good_int (n : Int) : goodT (.nl 1 n []) = true := by
  simp [goodT, Tm.size, Tm.depth, Tm.allT, oneK, Tm.kind, Tm.num, Tm.name, Tm.args]
theorem int_enc (n : Int) : (Tm.nl 1 n []).enc = .agg [.int .i64 1, .int .i64 n, .str [], .nils] := rfl
theorem int_bulk (n : Int) : (Tm.nl 1 n []).bulk = 1 := by simp [Tm.bulk]
theorem lettersT_int (n : Int) : lettersT (.nl 1 n []) = (itoaK n, 0) := by
  unfold lettersT
  rw [good_int]
  simp [Tm.kind, Tm.args, Tm.num]
theorem same_int (n : Int) : sameT (.nl 1 n []) (.nl 1 n []) = true := by simp [sameT, sameL]; exact ⟨⟨⟨rfl, rfl⟩, rfl⟩, rfl⟩
theorem good_itoa (n : Int) (h1 : -9223372036854775808 ≤ n) (h2 : n < 9223372036854775808) : goodT (charsT (itoaK n)) = true := by
  obtain ⟨a, b⟩ := itoa_ok n h1 h2
  rw [itoaK_eq n h1 h2, good_chars, a]
  simp
  omega
theorem chars_int (n : Int) (h1 : -9223372036854775808 ≤ n) (h2 : n < 9223372036854775808) : charsE (.nl 1 n []) = (charsT (itoaK n), 0) := by
  unfold charsE
  rw [lettersT_int]
  simp [good_itoa n h1 h2]
theorem number_itoa (n : Int) (h1 : -9223372036854775808 ≤ n) (h2 : n < 9223372036854775808) : numberT (charsT (itoaK n)) = (.nl 1 n [], 0) := by
  unfold numberT
  rw [joined_chars _ (good_itoa n h1 h2)]
  rw [itoaK_eq n h1 h2, parse_itoa n h1 h2]
  simp

def ssK : List KSpec := [awake16S, atomS, goodTS, charsS, itemsS, intS, nameS, numberS, lengthS, sameS]
theorem ssK_ok : ∀ s ∈ ssK, KSpecOKX Tryz.prog TabX s := by simp [ssK, awake16S_ok, atomS_ok.lift, goodTS_ok.lift, charsS_ok, itemsS_ok.lift, intS_ok.lift, nameS_ok.lift, numberS_ok, lengthS_ok, sameS_ok.lift]

set_option maxRecDepth 100000 in
set_option maxHeartbeats 16000000 in
theorem textBack_run (a : List UInt8) (n : Int) (ha : a.length ≤ 140737488351232) (h1 : -9223372036854775808 ≤ n) (h2 : n < 9223372036854775808) : evCall (envOf ssK) 5 8 [.str a, .int .i64 n] h0 = some (.bool true, h0) := by
  have ca := atomS_at a
  have ci := intS_at n
  by_cases hlen : a.length ≤ 60
  · have hl : ((60 : Int) < (a.length : Int)) = False := eq_false (by omega)
    have ga := goodTS_at (.nl 2 0 a) (by rw [atom_bulk]; omega)
    rw [good_atom, atom_enc] at ga
    cases hga : goodNm a with
    | false =>
      rw [hga] at ga
      simp [ssK, run8, c8, awake16S_f, awake16S_at, atomS_f, goodTS_f, charsS_f, itemsS_f, intS_f, nameS_f, numberS_f, lengthS_f, sameS_f, hl, ca, ga]
    | true =>
      rw [hga] at ga
      have ka := charsS_at (.nl 2 0 a) (by rw [atom_bulk]; simp [Tm.num]; omega)
      rw [chars_atom a hga (by omega), atom_enc] at ka
      have ki := charsS_at (.nl 1 n []) (by rw [int_bulk]; simp [Tm.num]; omega)
      rw [chars_int n h1 h2, int_enc] at ki
      have gA : goodT (charsT a) = true := by
        have := hga
        unfold goodNm at this; rw [Bool.and_eq_true] at this; rw [good_chars, this.1]; simp; omega
      have hll : (itoaK n).length ≤ 20 := by rw [itoaK_eq n h1 h2]; exact (itoa_ok n h1 h2).2
      have ia := itemsS_at (charsT a) (by rw [bulk_chars]; omega)
      unfold itemsG at ia
      rw [gA, if_pos rfl, items_chars] at ia
      have na := nameS_at (charsT a) (by rw [bulk_chars]; omega)
      rw [nameT_chars _ gA, atom_enc] at na
      have nn := numberS_at (charsT (itoaK n)) (by rw [bulk_chars]; omega)
      rw [number_itoa n h1 h2, int_enc] at nn
      have le := lengthS_at (.nl 2 0 a) (by rw [atom_bulk]; simp [Tm.num]; omega)
      rw [lettersT_atom a hga, atom_enc] at le
      have sa := sameS_at (.nl 2 0 a) (.nl 2 0 a) (by rw [atom_bulk]; omega)
      rw [good_atom, hga, same_atom, atom_enc] at sa
      have si := sameS_at (.nl 1 n []) (.nl 1 n []) (by rw [int_bulk]; omega)
      rw [good_int, same_int, int_enc] at si
      rw [nilT_cells] at ia
      have rA := argV_refs (charsT a)
      have rN := argV_refs (charsT (itoaK n))
      have eA : (charsT a).enc = .agg [.int .i64 (charsT a).kind, .int .i64 (charsT a).num, .str (charsT a).name, (charsT a).argV] := Tm.enc_eq _
      have eN : (charsT (itoaK n)).enc = .agg [.int .i64 (charsT (itoaK n)).kind, .int .i64 (charsT (itoaK n)).num, .str (charsT (itoaK n)).name, (charsT (itoaK n)).argV] := Tm.enc_eq _
      rw [eA] at ka ia na
      rw [eN] at ki nn
      generalize charsT a = A at ka ia na rA eA
      generalize charsT (itoaK n) = N at ki nn rN eN
      generalize hu : a.map atom1 = us at ia
      have hul : us.length = a.length := by rw [← hu]; simp
      cases us with
      | nil =>
        have h0l : a = [] := by cases a with | nil => rfl | cons _ _ => simp at hul
        subst h0l
        simp [ssK, run8, c8, awake16S_f, awake16S_at, atomS_f, goodTS_f, charsS_f, itemsS_f, intS_f, nameS_f, numberS_f, lengthS_f, sameS_f, hl, ca, ci, ga, ka, ki, ia, na, nn, le, sa, si, rA, rN, frz_argV, slT]
      | cons c r =>
        have hr := encs_refs (c :: r)
        have hl2 : (a.length : Int) = (r.length : Int) + 1 := by simp at hul; omega
        simp only [List.map_cons] at hr
        simp [ssK, run8, c8, awake16S_f, awake16S_at, atomS_f, goodTS_f, charsS_f, itemsS_f, intS_f, nameS_f, numberS_f, lengthS_f, sameS_f, hl, ca, ci, ga, ka, ki, ia, na, nn, le, sa, si, rA, rN, frz_argV, slT, hr]
        first | done | omega | simp [hl2]
  · have hl : ((60 : Int) < (a.length : Int)) = True := eq_true (by omega)
    simp [ssK, run8, c8, awake16S_f, awake16S_at, atomS_f, goodTS_f, charsS_f, itemsS_f, intS_f, nameS_f, numberS_f, lengthS_f, sameS_f, hl]
end Go.Proofs.YtleeinkdkllcdaaGreatDoor

namespace Go.Proofs.YtleeinkdkllcdaaGreatDoor
open Go Sz
set_option linter.unusedSimpArgs false
attribute [local simp] seqF condF stepF callF callvF guardF trF step1F call1F callv1F guard1F seqK_n seqK_e seqK_r condK_t condK_f stK_s gdK_t gdK_f cvK_f trK_s trK1_s stK1_s gdK1_t gdK1_f cvK1_f evCode_skip evCode_reg evCode_dreg evCode_block evCode_exit evCode_ret evSteps_nil evTr_nil ldId chkTr
 evOp_mov evOp_pick evOp_box evOp_bld evOp_bsl evOp_ld evOp_st evOp_nck evOp_bin evOp_beq evOp_ceq evOp_peq evOp_not evOp_neg evOp_xor evOp_cvi evOp_cvss evOp_cvis evOp_cvsb evOp_mki evOp_mkf evOp_mkm evOp_mks evOp_sls evOp_slv evOp_fad evOp_fld1 evOp_fldn evOp_iad evOp_ixs evOp_ext evOp_lens evOp_lenv evOp_mx evOp_mn evOp_app evOp_bs0 evOp_snil evOp_clr
 FM_ev ev_const FM_put put_none FM_unwanted lk_hit lk_miss lk_nil FM_clear FM_clearB trues pick gc_FM gc_FM0 incK snds renM allM evB_fm enumA cells_agg cells_bool cells_int cells_str cells_nilp cells_ptr cells_ip cells_nils cells_sl cells_vec cells_nilm cells_map cells_nilfn cells_fn cells_nili cells_iface ldA row_mk get_mk set_mk mark_mk alloc_mk' trunc_mk binA resAll_nil resAll_cons FM_resT FM_resC oneOf finish_mk frz_undef frz_bool frz_int frz_str frz_nilp frz_ptr frz_ip frz_nils frz_sl frz_nilm frz_map frz_nilfn frz_fn frz_nili frz_iface frz_old frz_agg frz_tuple frzL_nil frzL_cons kill_nil kill_cons chunk_zero chunk_succ AV.refs AV.refsL evCall_spec lookF_nil lookF_cons callS_nil callS_oneF spK_s spK_n frK_s frK_n clones cloneS_f cloneS_nils cloneS_sl0 fillA putAt_nil putAt_cons evCode_loop bgn_mk aft_mk keeps objsAt ren renId AV.top lowObj h0 succ_le_f oldK oldAll oldLow oldRen lowCells_row lowCells_map lowCells_dead objCells topLow renObj List.idxOf_cons List.idxOf_nil nilA nilK elemsA_nils elemsA_vec elemsA_str evOp_die evOp_lkp evOp_cvbs lookA scal_bool scal_int scal_str scal_nils scal_sl scal_tuple scal_agg scal1_bool scal1_int scal1_str scal1_nils scal1_sl scal1_agg
attribute [local simp low] frz_vecR

/-! TextNumbers. -/

set_option maxRecDepth 100000 in
set_option maxHeartbeats 4000000 in
theorem c5_loop (C : Nat → List AV → Heap → Option (AV × Heap)) (n : Nat) (s : List UInt8) (hl : s.length < 1000000100) (hC : ∀ (c : UInt8) (h : Heap), C 13 [.str [c]] h = some ((atom1 c).enc, h)) : ∀ (post pre : List UInt8) (m : Nat), s = pre ++ post → pre ≠ [] → post.length < m →
    aft 0 0 (loopH (evCode C n c5_b0) c5_m0 0 m (c5_f0 (.str s) (.vec 0 0 pre.length 4 pre.length) (.int .i64 pre.length)) ⟨1, [.row (flatT (pre.map atom1))], 0, 0⟩) =
      some (.exit 0, FM 104 [(0, .str s), (3, .vec 0 0 s.length 4 s.length)], ⟨1, [.row (flatT (s.map atom1))], 0, 0⟩)
  | [], pre, m + 1, e, _, _ => by
    simp at e
    subst e
    have hf := flatT_refs (s.map atom1)
    rw [loopH_succ]
    simp [c5_b0, c5_m0, hf]
  | c :: post, pre, m + 1, e, hne, hm => by
    have ih := c5_loop C n s hl hC post (pre ++ [c]) m (by simp [e]) (by simp) (by rw [List.length_cons] at hm; omega)
    have hpl : pre.length < s.length := by rw [e]; simp
    have h1 : (s.take (pre.length + 1)).drop pre.length = [c] := by rw [List.drop_take, show pre.length + 1 - pre.length = 1 by omega, e, List.drop_left]; rfl
    have hsl := sliceB_one hpl
    have h3 : IntKind.i64.wrap ((pre.length : Int) + 1) = (pre.length : Int) + 1 := by
      rw [wrap_succ (by omega)]; simp
    have h6 : ((pre.length : Int) < (s.length : Int)) = True := eq_true (by omega)
    have hca : (atom1 c).enc = .agg [.int .i64 2, .int .i64 0, .str [c], .nils] := rfl
    have hf := flatT_refs (pre.map atom1)
    have hf2 : AV.refsL (flatT (pre.map atom1) ++ [.int .i64 2, .int .i64 0, .str [c], .nils]) = 0 := by
      have := flatT_refs ((pre ++ [c]).map atom1)
      simpa [flatT, Tm.cells, atom1, Tm.kind, Tm.num, Tm.name, Tm.argV] using this
    have h8 : (pre.length + 1) * 56 ≤ 140737488355328 := by omega
    have h9 : pre.length + 1 < 9223372036854775808 := by omega
    have h11 : (flatT (pre.map atom1)).length = pre.length * 4 := by rw [flatT_len]; simp
    have h10 : (flatT (pre.map atom1)).take (pre.length * 4) = flatT (pre.map atom1) := by rw [List.take_of_length_le]; omega
    simp only [List.map_append, List.map_cons, List.map_nil, List.length_append, List.length_cons, List.length_nil, Nat.zero_add, flatT_snoc, Int.natCast_add, Int.natCast_one] at ih
    have hcc : (atom1 c).cells = [.int .i64 2, .int .i64 0, .str [c], .nils] := rfl
    rw [hcc] at ih
    rw [loopH_succ]
    simp [c5_b0, c5_m0, h1, h3, h6, hC, hca, hf, hf2, h8, h9, h10, h11, hsl, elemsA]
    exact ih

set_option maxRecDepth 100000 in
set_option maxHeartbeats 4000000 in
theorem c5_loop0 (C : Nat → List AV → Heap → Option (AV × Heap)) (n : Nat) (c : UInt8) (r : List UInt8) (hl : r.length < 1000000099) (hC : ∀ (c : UInt8) (h : Heap), C 13 [.str [c]] h = some ((atom1 c).enc, h)) (m : Nat) (hm : r.length < m) :
    aft 0 0 (loopH (evCode C n c5_b0) c5_m0 0 (m + 1) (c5_f0 (.str (c :: r)) .nils (.int .i64 0)) ⟨0, [], 0, 0⟩) =
      some (.exit 0, FM 104 [(0, .str (c :: r)), (3, .vec 0 0 (r.length + 1) 4 (r.length + 1))], ⟨1, [.row (flatT ((c :: r).map atom1))], 0, 0⟩) := by
  have ih := c5_loop C n (c :: r) (by simp; omega) hC r [c] m rfl (by simp) hm
  have hs1 : sliceB (r.length + 1) (some (.int .i64 0)) (some (.int .i64 1)) = some (0, 1) := by
    have := sliceB_one (n := r.length + 1) (i := 0) (by omega)
    simpa using this
  have hw1 : IntKind.i64.wrap 1 = 1 := by decide
  have hla : (0 < r.length + 1) = True := eq_true (by omega)
  have hlb : ((0 : Int) < (r.length : Int) + 1) = True := eq_true (by omega)
  have hfl : flatT ([c].map atom1) = [.int .i64 2, .int .i64 0, .str [c], .nils] := rfl
  have hca : (atom1 c).enc = .agg [.int .i64 2, .int .i64 0, .str [c], .nils] := rfl
  rw [hfl] at ih
  simp only [List.length_cons, List.length_nil, Nat.zero_add, Int.natCast_add, Int.natCast_one] at ih
  rw [loopH_succ]
  simp [c5_b0, c5_m0, hC, hca, hs1, hw1, hla, hlb, elemsA]
  exact ih

/-- What a scan of digits finds. -/
def scanD : Nat → List UInt8 → Bool × Nat
  | acc, [] => (true, acc)
  | acc, c :: r => if isDig c then scanD (digS acc c) r else (false, acc)
theorem scan_all : ∀ (l : List UInt8) (acc : Nat), (scanD acc l).1 = allDig l
  | [], acc => rfl
  | c :: r, acc => by
    unfold scanD allDig
    cases isDig c with
    | true => simp [scan_all r]
    | false => simp
theorem scan_val : ∀ (l : List UInt8) (acc : Nat), allDig l = true → (scanD acc l).2 = valD acc l
  | [], acc, _ => by rw [valD_nil]; rfl
  | c :: r, acc, h => by
    simp only [allDig, Bool.and_eq_true] at h
    unfold scanD
    rw [if_pos h.1, scan_val r _ h.2, valD_cons, digS_eq]

set_option maxRecDepth 100000 in
set_option maxHeartbeats 4000000 in
theorem c5_scan (C : Nat → List AV → Heap → Option (AV × Heap)) (n : Nat) (s : List UInt8) (id nx : Nat) (os : List AObj) (md : Nat) (hid : id + 1 ≤ nx) (e1 g1 : Int) (hl : s.length ≤ 18) : ∀ (post pre : List UInt8) (acc k m : Nat), s = pre ++ post → acc < 10 ^ k → k + post.length ≤ 18 → post.length < m → ∀ b : Bool,
    aft nx 0 (loopH (evCode C n c5_b1) c5_m1 nx m (c5_f1 (.str s) (.ptr id 0) (.int .i64 e1) (.int .i64 g1) (.int .i64 acc) (.bool b) (.int .i64 pre.length)) ⟨nx, os, nx, md⟩) =
      some (.exit 2, FM 104 [(5, .ptr id 0), (6, .int .i64 e1), (7, .int .i64 g1), (8, .int .i64 ((scanD acc post).2 : Nat)), (9, .bool ((scanD acc post).1 && b))], ⟨nx, os, 0, md⟩)
  | [], pre, acc, k, m + 1, e, _, _, _, b => by
    simp at e
    subst e
    rw [loopH_succ]
    have hn1 : (nx ≤ id) = False := eq_false (by omega)
    have hn2 : (id < nx) = True := eq_true (by omega)
    simp [c5_b1, c5_m1, scanD, hid, hn1, hn2]
  | c :: post, pre, acc, k, m + 1, e, ha, hk, hm, b => by
    have h1 : s[pre.length]? = some c := by rw [e]; simp
    have h3 : IntKind.i64.wrap ((pre.length : Int) + 1) = (pre.length : Int) + 1 := by
      rw [wrap_succ (by rw [e] at hl; simp at hl; omega)]; simp
    have h6 : ((pre.length : Int) < (s.length : Int)) = True := eq_true (by rw [e, List.length_append, List.length_cons]; omega)
    have hn1 : (nx ≤ id) = False := eq_false (by omega)
    have hn2 : (id < nx) = True := eq_true (by omega)
    rw [loopH_succ]
    by_cases k1 : c.toNat < 48
    · have hd : isDig c = false := by simp [isDig]; omega
      have f1 : ((c.toNat : Int) < 48) = True := eq_true (by omega)
      simp [c5_b1, c5_m1, scanD, hid, hn1, hn2, h1, h6, hd, f1]
    by_cases k2 : 57 < c.toNat
    · have hd : isDig c = false := by simp [isDig]; omega
      have f1 : ((c.toNat : Int) < 48) = False := eq_false (by omega)
      have f2 : ((57 : Int) < (c.toNat : Int)) = True := eq_true (by omega)
      simp [c5_b1, c5_m1, scanD, hid, hn1, hn2, h1, h6, hd, f1, f2]
    · have hd : isDig c = true := by simp [isDig]; omega
      have f1 : ((c.toNat : Int) < 48) = False := eq_false (by omega)
      have f2 : ((57 : Int) < (c.toNat : Int)) = False := eq_false (by omega)
      have hp : 10 ^ (k + 1) ≤ 10 ^ 18 := Nat.pow_le_pow_right (by decide) (by simp at hk; omega)
      have hp2 : 10 ^ (k + 1) = 10 ^ k * 10 := Nat.pow_succ _ _
      have w1 : IntKind.i64.wrap (10 * (acc : Int)) = 10 * (acc : Int) := wrap_i64 (by omega) (by omega)
      have w2 : IntKind.u8.wrap ((c.toNat : Int) - 48) = (c.toNat : Int) - 48 := by
        unfold IntKind.wrap
        simp [IntKind.signed, IntKind.bits]
        omega
      have w3 : IntKind.i64.wrap ((c.toNat : Int) - 48) = (c.toNat : Int) - 48 := wrap_i64 (by omega) (by omega)
      have w4 : IntKind.i64.wrap (10 * (acc : Int) + ((c.toNat : Int) - 48)) = ((digS acc c : Nat) : Int) := by
        rw [wrap_i64 (by omega) (by omega), digS_eq]
        omega
      have ih := c5_scan C n s id nx os md hid e1 g1 hl post (pre ++ [c]) (digS acc c) (k + 1) m (by simp [e]) (by rw [digS_eq]; omega) (by simp at hk; omega) (by rw [List.length_cons] at hm; omega) b
      simp only [List.length_append, List.length_cons, List.length_nil, Nat.zero_add, Int.natCast_add, Int.natCast_one] at ih
      simp [c5_b1, c5_m1, scanD, hid, hn1, hn2, h1, h3, h6, hd, f1, f2, w1, w2, w3, w4]
      exact ih

def ssN : List KSpec := [awake16S, atomS, goodTS, listS, intS, numberS, sameS]
theorem ssN_ok : ∀ s ∈ ssN, KSpecOKX Tryz.prog TabX s := by simp [ssN, awake16S_ok, atomS_ok.lift, goodTS_ok.lift, listS_ok.lift, intS_ok.lift, numberS_ok, sameS_ok.lift]
theorem atom_callN (n : Nat) (c : UInt8) (h : Heap) : evCall (envOf ssN) (n + 1) 13 [.str [c]] h = some ((atom1 c).enc, h) := by
  have := atomS_at [c]
  simp [ssN, awake16S_f, atomS_f, goodTS_f, listS_f, intS_f, numberS_f, sameS_f, this, atom1, Tm.enc]

theorem number_chars (s : List UInt8) (h : s.length ≤ 18) (hg : goodT (charsT s) = true) : numberT (charsT s) = match numT s with | some v => (.nl 1 v [], 0) | none => (.nl 0 0 [], 2) := by
  unfold numberT
  rw [joined_chars _ hg]
  dsimp only
  rw [if_neg (by simp), parse_small s h]
  cases numT s with
  | none => simp
  | some v => simp

theorem goodNm_chars {s : List UInt8} (h : goodNm s = true) (hl : s.length ≤ 63) : goodT (charsT s) = true := by
  unfold goodNm at h; rw [Bool.and_eq_true] at h; rw [good_chars, h.1]; simp; omega

set_option maxRecDepth 100000 in
set_option maxHeartbeats 16000000 in
theorem textNumbers_nil : evCall (envOf ssN) 6 5 [.str []] h0 = some (.bool true, h0) := by
  have ca := atomS_at []
  have ce := atomS_at [91, 93]
  have ga : goodTS.S [.agg [.int .i64 2, .int .i64 0, .str [], .nils]] = some (.bool true) := by
    have := goodTS_at (.nl 2 0 []) (by decide)
    rw [atom_enc] at this
    rw [this]; rfl
  have la := listS_nils nilT
  rw [nilT_cells] at la
  have gc : goodT (charsT []) = true := by rw [good_chars]; rfl
  have nn := numberS_at (charsT []) (by rw [bulk_chars]; simp)
  rw [number_chars [] (by simp) gc] at nn
  have e0 : numT [] = none := by simp [numT, trim_nil]
  rw [e0] at nn
  have e1 : (charsT []).enc = .agg [.int .i64 2, .int .i64 0, .str [91, 93], .nils] := rfl
  have e2 : (Tm.nl 0 0 []).enc = .agg [.int .i64 0, .int .i64 0, .str [], .nils] := rfl
  dsimp only at nn
  rw [e1, e2] at nn
  simp [ssN, run5, c5, c5_m0, c5_b0, c5_m1, c5_b1, loopH_succ, awake16S_f, awake16S_at, atomS_f, goodTS_f, listS_f, intS_f, numberS_f, sameS_f, ca, ce, ga, la, nn]

set_option maxRecDepth 100000 in
set_option maxHeartbeats 16000000 in
theorem textNumbers_minus : evCall (envOf ssN) 6 5 [.str [45]] h0 = some (.bool true, h0) := by
  have ca := atomS_at [45]
  have ce := atomS_at [91, 93]
  have ga : goodTS.S [.agg [.int .i64 2, .int .i64 0, .str [45], .nils]] = some (.bool true) := by
    have := goodTS_at (.nl 2 0 [45]) (by decide)
    rw [atom_enc] at this
    rw [this]; rfl
  have la := listS_at ([45].map atom1) nilT (by simp)
  have hcs : listT ([45].map atom1) nilT = charsT [45] := rfl
  rw [hcs, nilT_cells] at la
  have gc : goodT (charsT [45]) = true := by rw [good_chars]; rfl
  have nn := numberS_at (charsT [45]) (by rw [bulk_chars]; simp)
  rw [number_chars [45] (by simp) gc] at nn
  have e0 : numT [45] = none := by simp [numT, trim_minus]
  rw [e0] at nn
  have e1 : (charsT [45]).enc = .agg [.int .i64 2, .int .i64 0, .str [46], .sl [.agg [.int .i64 2, .int .i64 0, .str [45], .nils], .agg [.int .i64 2, .int .i64 0, .str [91, 93], .nils]]] := rfl
  have e2 : (Tm.nl 0 0 []).enc = .agg [.int .i64 0, .int .i64 0, .str [], .nils] := rfl
  have e3 : ([45].map atom1).map Tm.enc = [.agg [.int .i64 2, .int .i64 0, .str [45], .nils]] := rfl
  dsimp only at nn
  rw [e1, e2] at nn
  rw [e1, e3] at la
  simp [ssN, run5, c5, c5_m0, c5_b0, c5_m1, c5_b1, loopH_succ, awake16S_f, awake16S_at, atomS_f, goodTS_f, listS_f, intS_f, numberS_f, sameS_f, ca, ce, ga, la, nn, sliceB, IntKind.wrap, IntKind.signed, IntKind.bits, elemsA, elemsA_nils]

set_option maxRecDepth 100000 in
set_option maxHeartbeats 16000000 in
theorem textNumbers_cons (c : UInt8) (r : List UInt8) (hlen : r.length ≤ 17) (hg : goodNm (c :: r) = true) : evCall (envOf ssN) (r.length + 6) 5 [.str (c :: r)] h0 = some (.bool true, h0) := by
  have ca := atomS_at (c :: r)
  have ce := atomS_at [91, 93]
  have ga := goodTS_at (.nl 2 0 (c :: r)) (by rw [atom_bulk]; simp; omega)
  rw [good_atom, atom_enc, hg] at ga
  have hl : ((18 : Int) < (r.length : Int) + 1) = False := eq_false (by omega)
  have gC : goodT (charsT (c :: r)) = true := goodNm_chars hg (by simp; omega)
  have lp := c5_loop0 (evCall (envOf ssN) (r.length + 5)) (r.length + 5) c r (by omega) (atom_callN (r.length + 4)) (r.length + 4) (by omega)
  have hf : ∀ (wl md d : Nat), frz ⟨1, [.row (flatT ((c :: r).map atom1))], wl, md⟩ 0 (d + 2) (.vec 0 0 (r.length + 1) 4 (r.length + 1)) = some (.sl (((c :: r).map atom1).map Tm.enc), [0]) := fun wl md d => by
    have := frz_T (h := ⟨1, [.row (flatT ((c :: r).map atom1))], wl, md⟩) (n0 := 0) (d := d) (id := 0) (atom1 c) (r.map atom1) (by omega) rfl
    simpa using this
  have hf2 := flatT_refs ((c :: r).map atom1)
  have la := listS_at ((c :: r).map atom1) nilT (by simp; omega)
  have hcs : listT ((c :: r).map atom1) nilT = charsT (c :: r) := rfl
  rw [hcs, nilT_cells] at la
  have nn := numberS_at (charsT (c :: r)) (by rw [bulk_chars]; simp; omega)
  rw [number_chars (c :: r) (by simp; omega) gC] at nn
  have hcr := argV_refs (charsT (c :: r))
  have hsc : scal1 (charsT (c :: r)).argV = false := rfl
  have eC : (charsT (c :: r)).enc = .agg [.int .i64 (charsT (c :: r)).kind, .int .i64 (charsT (c :: r)).num, .str (charsT (c :: r)).name, (charsT (c :: r)).argV] := Tm.enc_eq _
  rw [eC] at la nn
  generalize charsT (c :: r) = CH at la nn hcr hsc eC
  simp only [ssN, c5_m0, List.map_cons] at lp
  simp only [List.map_cons, List.map_map] at la hf hf2
  have hz : (Tm.nl 0 0 []).enc = .agg [.int .i64 0, .int .i64 0, .str [], .nils] := rfl
  by_cases hc : c = 45
  · subst hc
    have hcm : (((45 : UInt8).toNat : Int) = 45) = True := eq_true (by decide)
    have hne : (45 : UInt8) ≠ 43 := by decide
    by_cases hr : r = []
    · subst hr
      exact textNumbers_minus
    · have hrl : ((1 : Int) < (r.length : Int) + 1) = True := eq_true (by have : r.length ≠ 0 := fun e => hr (List.eq_nil_of_length_eq_zero e); omega)
      have hrl2 : (0 < r.length) = True := eq_true (by have : r.length ≠ 0 := fun e => hr (List.eq_nil_of_length_eq_zero e); omega)
      cases hd : allDig r with
      | false =>
        have e0 : numT (45 :: r) = none := by simp [numT, trim_minus, hd]
        rw [e0] at nn
        dsimp only at nn
        rw [hz] at nn
        have sc := fun os md => c5_scan (evCall (envOf ssN) (r.length + 5)) (r.length + 5) (45 :: r) 1 2 os md (by omega) 2 1 (by simp; omega) r [45] 0 0 (r.length + 5) rfl (by decide) (by omega) (by omega) true
        simp only [scan_all, hd, ssN, c5_m1, List.length_cons, List.length_nil, Nat.zero_add, Int.natCast_zero, Int.natCast_one, Bool.false_and] at sc
        simp [ssN, run5, c5, c5_m0, c5_m1, awake16S_f, awake16S_at, atomS_f, goodTS_f, listS_f, intS_f, numberS_f, sameS_f, ca, ce, ga, hl, lp, hf, hf2, la, nn, hcr, hsc, hcm, frz_argV, sc, hrl, hrl2]
      | true =>
        have e0 : numT (45 :: r) = some (-(valD 0 r : Int)) := by simp [numT, trim_minus, hd, hr]
        rw [e0] at nn
        dsimp only at nn
        rw [int_enc] at nn
        have hv := valD_le r 0 0 (by decide) hd
        have hp : 10 ^ (0 + r.length) ≤ 10 ^ 18 := Nat.pow_le_pow_right (by decide) (by omega)
        have hw : IntKind.i64.wrap (-(valD 0 r : Int)) = -(valD 0 r : Int) := wrap_i64 (by omega) (by omega)
        have ci := intS_at (-(valD 0 r : Int))
        have si := sameS_at (.nl 1 (-(valD 0 r : Int)) []) (.nl 1 (-(valD 0 r : Int)) []) (by rw [int_bulk]; omega)
        rw [good_int, same_int, int_enc] at si
        have sc := fun os md => c5_scan (evCall (envOf ssN) (r.length + 5)) (r.length + 5) (45 :: r) 1 2 os md (by omega) 0 1 (by simp; omega) r [45] 0 0 (r.length + 5) rfl (by decide) (by omega) (by omega) true
        simp only [scan_all, scan_val r 0 hd, hd, ssN, c5_m1, List.length_cons, List.length_nil, Nat.zero_add, Int.natCast_zero, Int.natCast_one, Bool.true_and] at sc
        simp [ssN, run5, c5, c5_m0, c5_m1, awake16S_f, awake16S_at, atomS_f, goodTS_f, listS_f, intS_f, numberS_f, sameS_f, ca, ce, ga, hl, lp, hf, hf2, la, nn, hcr, hsc, hcm, frz_argV, sc, hrl, hrl2, hw, ci, si]
  · have hcm : ((c.toNat : Int) = 45) = False := eq_false (by have := nat45 hc; omega)
    have hrl : ((0 : Int) < (r.length : Int) + 1) = True := eq_true (by omega)
    have hrl2 : (0 < r.length + 1) = True := eq_true (by omega)
    cases hd : allDig (c :: r) with
    | false =>
      have e0 : numT (c :: r) = none := by simp [numT, trim_other c r hc, hd]
      rw [e0] at nn
      dsimp only at nn
      rw [hz] at nn
      have sc := fun os md => c5_scan (evCall (envOf ssN) (r.length + 5)) (r.length + 5) (c :: r) 1 2 os md (by omega) 2 0 (by simp; omega) (c :: r) [] 0 0 (r.length + 5) rfl (by decide) (by simp; omega) (by simp) true
      simp only [scan_all, hd, ssN, c5_m1, List.length_nil, Nat.zero_add, Int.natCast_zero, Int.natCast_one, Bool.false_and] at sc
      simp [ssN, run5, c5, c5_m0, c5_m1, awake16S_f, awake16S_at, atomS_f, goodTS_f, listS_f, intS_f, numberS_f, sameS_f, ca, ce, ga, hl, lp, hf, hf2, la, nn, hcr, hsc, hcm, frz_argV, sc, hrl, hrl2]
    | true =>
      have e0 : numT (c :: r) = some ((valD 0 (c :: r) : Nat) : Int) := by simp [numT, trim_other c r hc, hd, hc]
      rw [e0] at nn
      dsimp only at nn
      rw [int_enc] at nn
      have ci := intS_at ((valD 0 (c :: r) : Nat) : Int)
      have si := sameS_at (.nl 1 ((valD 0 (c :: r) : Nat) : Int) []) (.nl 1 ((valD 0 (c :: r) : Nat) : Int) []) (by rw [int_bulk]; omega)
      rw [good_int, same_int, int_enc] at si
      have sc := fun os md => c5_scan (evCall (envOf ssN) (r.length + 5)) (r.length + 5) (c :: r) 1 2 os md (by omega) 0 0 (by simp; omega) (c :: r) [] 0 0 (r.length + 5) rfl (by decide) (by simp; omega) (by simp) true
      simp only [scan_all, scan_val (c :: r) 0 hd, hd, ssN, c5_m1, List.length_nil, Nat.zero_add, Int.natCast_zero, Int.natCast_one, Bool.true_and] at sc
      simp [ssN, run5, c5, c5_m0, c5_m1, awake16S_f, awake16S_at, atomS_f, goodTS_f, listS_f, intS_f, numberS_f, sameS_f, ca, ce, ga, hl, lp, hf, hf2, la, nn, hcr, hsc, hcm, frz_argV, sc, hrl, hrl2, ci, si]

theorem textNumbers_run (s : List UInt8) (ha : s.length ≤ 140737488351232) : ∃ n, evCall (envOf ssN) n 5 [.str s] h0 = some (.bool true, h0) := by
  cases s with
  | nil => exact ⟨6, textNumbers_nil⟩
  | cons c r =>
    refine ⟨r.length + 6, ?_⟩
    have ca := atomS_at (c :: r)
    by_cases hlen : r.length ≤ 17
    · cases hg : goodNm (c :: r) with
      | true => exact textNumbers_cons c r hlen hg
      | false =>
        have hl : ((18 : Int) < (r.length : Int) + 1) = False := eq_false (by omega)
        have ga := goodTS_at (.nl 2 0 (c :: r)) (by rw [atom_bulk]; simp; omega)
        rw [good_atom, atom_enc, hg] at ga
        simp [ssN, run5, c5, awake16S_f, awake16S_at, atomS_f, goodTS_f, listS_f, intS_f, numberS_f, sameS_f, hl, ca, ga]
    · have hl : ((18 : Int) < (r.length : Int) + 1) = True := eq_true (by omega)
      simp [ssN, run5, c5, awake16S_f, awake16S_at, atomS_f, goodTS_f, listS_f, intS_f, numberS_f, sameS_f, hl]
end Go.Proofs.YtleeinkdkllcdaaGreatDoor

namespace Go.Proofs.YtleeinkdkllcdaaGreatDoor
open Go Sz

theorem textBack_lawX {H : Type} (ds : List (DataW H)) (h : HasTys Tryz.prog Tryz.f8.params.toList (ds.map avOf)) (hw : (DataW.weightsEach Tryz.prog Tryz.f8.params.toList ds).all (· ≤ reachBytes) = true) : PrimOKX Tryz.prog TabX 8 (ds.map avOf) (.bool true) := by
  rw [Tryz.params8] at h hw
  match ds, h with
  | [d1, d2], .cons h1 (.cons h2 .nil) =>
    obtain ⟨a, e1, _⟩ := ty_str Tryz.underlying9 h1
    obtain ⟨n, e2, h3, h4⟩ := ty_i64 Tryz.underlying2 h2
    have hd := avOf_str e1
    subst hd
    have ha : a.length ≤ 140737488351232 := str_len hw (by simp [DataW.weightsEach, DataW.weights])
    simp only [List.map_cons, List.map_nil, e1, e2]
    exact prim_of (envOf_okX ssK_ok) (textBack_run a n ha h3 h4) rfl (by simp [AV.refsL, AV.refs])
theorem textNumbers_lawX {H : Type} (ds : List (DataW H)) (h : HasTys Tryz.prog Tryz.f5.params.toList (ds.map avOf)) (hw : (DataW.weightsEach Tryz.prog Tryz.f5.params.toList ds).all (· ≤ reachBytes) = true) : PrimOKX Tryz.prog TabX 5 (ds.map avOf) (.bool true) := by
  rw [Tryz.params5] at h hw
  match ds, h with
  | [d1], .cons h1 .nil =>
    obtain ⟨a, e1, _⟩ := ty_str Tryz.underlying9 h1
    have hd := avOf_str e1
    subst hd
    have ha : a.length ≤ 140737488351232 := str_len hw (by simp [DataW.weightsEach, DataW.weights])
    simp only [List.map_cons, List.map_nil, e1]
    obtain ⟨n, e⟩ := textNumbers_run a ha
    exact prim_of (envOf_okX ssN_ok) e rfl (by simp [AV.refsL, AV.refs])
end Go.Proofs.YtleeinkdkllcdaaGreatDoor
