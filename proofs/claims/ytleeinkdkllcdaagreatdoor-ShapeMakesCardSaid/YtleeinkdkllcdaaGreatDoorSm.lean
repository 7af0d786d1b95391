import Derived.Test.YtleeinkdkllcdaaGreatDoorSh
import Derived.Test.YtleeinkdkllcdaaGreatDoorVa
import Derived.Test.YtleeinkdkllcdaaGreatDoorVb
import Derived.Test.YtleeinkdkllcdaaGreatDoorTy
set_option linter.unusedVariables false
set_option linter.unusedSimpArgs false
set_option linter.unusedSectionVars false

namespace Go.Proofs.YtleeinkdkllcdaaGreatDoor
open Go Sz
set_option linter.unusedSimpArgs false
attribute [local simp] seqF condF stepF callF callvF guardF trF step1F call1F callv1F guard1F seqK_n seqK_e seqK_r condK_t condK_f stK_s gdK_t gdK_f cvK_f trK_s trK1_s stK1_s gdK1_t gdK1_f cvK1_f evCode_skip evCode_reg evCode_dreg evCode_block evCode_exit evCode_ret evSteps_nil evTr_nil ldId chkTr
 evOp_mov evOp_pick evOp_box evOp_bld evOp_bsl evOp_ld evOp_st evOp_nck evOp_bin evOp_beq evOp_ceq evOp_peq evOp_not evOp_neg evOp_xor evOp_cvi evOp_cvss evOp_cvis evOp_cvsb evOp_mki evOp_mkf evOp_mkm evOp_mks evOp_sls evOp_slv evOp_fad evOp_fld1 evOp_fldn evOp_iad evOp_ixs evOp_ext evOp_lens evOp_lenv evOp_mx evOp_mn evOp_app evOp_bs0 evOp_snil evOp_clr
 FM_ev ev_const FM_put put_none FM_unwanted lk_hit lk_miss lk_nil FM_clear FM_clearB trues pick gc_FM gc_FM0 incK snds renM allM evB_fm enumA cells_agg cells_bool cells_int cells_str cells_nilp cells_ptr cells_ip cells_nils cells_sl cells_vec cells_nilm cells_map cells_nilfn cells_fn cells_nili cells_iface ldA row_mk get_mk set_mk mark_mk alloc_mk' trunc_mk binA resAll_nil resAll_cons FM_resT FM_resC oneOf finish_mk frz_undef frz_bool frz_int frz_str frz_nilp frz_ptr frz_ip frz_nils frz_sl frz_nilm frz_map frz_nilfn frz_fn frz_nili frz_iface frz_old frz_agg frz_tuple frzL_nil frzL_cons kill_nil kill_cons chunk_zero chunk_succ AV.refs AV.refsL evCall_spec lookF_nil lookF_cons callS_nil callS_oneF spK_s spK_n frK_s frK_n clones cloneS_f cloneS_nils cloneS_sl0 fillA putAt_nil putAt_cons evCode_loop bgn_mk aft_mk keeps objsAt ren renId AV.top lowObj h0 succ_le_f oldK oldAll oldLow oldRen lowCells_row lowCells_map lowCells_dead objCells topLow renObj List.idxOf_cons List.idxOf_nil nilA nilK elemsA_nils elemsA_vec elemsA_str evOp_die evOp_lkp evOp_cvbs lookA scal_bool scal_int scal_str scal_nils scal_sl scal_tuple scal_agg scal1_bool scal1_int scal1_str scal1_nils scal1_sl scal1_agg
attribute [local simp low] frz_vecR

/-! term.Vars of a name with variables in order. -/

def intsV (k : Int) : Nat → List AV
  | 0 => []
  | n + 1 => intsV k n ++ [.int .i64 (k + n)]
theorem intsV_len (k : Int) : ∀ n, (intsV k n).length = n
  | 0 => rfl
  | n + 1 => by simp [intsV, intsV_len k n]
theorem intsV_at (k : Int) : ∀ (n i : Nat), i < n → (intsV k n)[i]? = some (.int .i64 (k + i))
  | n + 1, i, h => by
    unfold intsV
    by_cases hi : i < n
    · rw [List.getElem?_append_left (by rw [intsV_len]; exact hi), intsV_at k n i hi]
    · have : i = n := by omega
      subst this
      rw [List.getElem?_append_right (by rw [intsV_len]; exact Nat.le_refl _), intsV_len]
      simp
theorem intsV_refs (k : Int) : ∀ n, AV.refsL (intsV k n) = 0
  | 0 => rfl
  | n + 1 => refsL_app (intsV_refs k n) rfl
theorem vars_size (k : Int) : ∀ n, Tm.sizeL (varsT k n) = n
  | 0 => rfl
  | n + 1 => by simp [varsT, sizeL_app, vars_size k n, Tm.sizeL, varT, Tm.size]
theorem vars_bulk (k : Int) : ∀ n, Tm.bulkL (varsT k n) = n
  | 0 => rfl
  | n + 1 => by simp [varsT, bulkL_app, vars_bulk k n, Tm.bulkL, varT, Tm.bulk]
theorem vars_depth (k : Int) : ∀ n, Tm.depthL (varsT k n) ≤ 1 := by
  have ap : ∀ a b : List Tm, Tm.depthL (a ++ b) = max (Tm.depthL a) (Tm.depthL b) := by
    intro a
    induction a with
    | nil => intro b; simp only [List.nil_append, Tm.depthL]; omega
    | cons x r ih => intro b; simp only [List.cons_append, Tm.depthL, ih]; omega
  intro n
  induction n with
  | zero => simp [varsT, Tm.depthL]
  | succ n ih =>
    simp only [varsT, ap, Tm.depthL, varT, Tm.depth]
    omega
theorem vars_all (k : Int) (h0 : 0 ≤ k) : ∀ n : Nat, k + n ≤ 2147483648 → Tm.allL oneK (varsT k n) = true
  | 0, _ => rfl
  | n + 1, h => by
    have h1 : (0 : Int) ≤ k + n := by omega
    have h2 : k + (n : Int) ≤ 2147483647 := by omega
    rw [varsT, allL_app, vars_all k h0 n (by omega)]
    simp [Tm.allL, Tm.allT, varT, oneK, Tm.kind, Tm.num, Tm.name, Tm.args, h1, h2]
theorem good_vars (s : List UInt8) (hs : goodNm s = true) (k : Int) (h0 : 0 ≤ k) (n : Nat) (hn : n ≤ 8) (h : k + n ≤ 2147483648) : goodT (.mk 2 0 s (varsT k n)) = true := by
  have h1 := vars_depth k n
  have h2 : 1 + n ≤ 2000 := by omega
  have h3 : 1 + Tm.depthL (varsT k n) ≤ 64 := by omega
  simp [goodT, Tm.size, Tm.depth, Tm.allT, vars_size, vars_all k h0 n h, oneK, Tm.kind, Tm.num, Tm.name, Tm.args, hs, varsT_len, hn, h2, h3]

def varsV (xs : List AV) : Option (List AV) := match xs with
  | .agg (_ :: .int _ k :: _) :: _ => if AV.eqbL xs ((varsT k xs.length).map Tm.enc) = true ∧ 0 < xs.length ∧ xs.length ≤ 8 ∧ 0 ≤ k ∧ k ≤ 2147483639 then some (intsV k xs.length) else none
  | _ => none
def varsFS : KSpec := ⟨15, fun | [.agg [.int .i64 2, .int .i64 0, .str s, .sl xs]] => (if goodNm s = true ∧ s.length < 1000000 then (match varsV xs with | some ys => some (.sl ys) | none => none) else none) | _ => none⟩
theorem varsFS_f : varsFS.f = 15 := (rfl)
mutual
theorem AV.eqb_refl : ∀ a : AV, a.eqb a = true := fun a => by
  cases a <;> simp [AV.eqb, AV.eqbL_refl, Nat.beq_refl]
  case iface t v => exact AV.eqb_refl v
theorem AV.eqbL_refl : ∀ a : List AV, AV.eqbL a a = true := fun a => by
  cases a with
  | nil => rfl
  | cons x r => simp [AV.eqbL, AV.eqb_refl x, AV.eqbL_refl r]
end
theorem varsT_cons (k : Int) (n : Nat) : ∃ r, varsT k (n + 1) = varT k :: r := by
  induction n with
  | zero => exact ⟨[], by simp [varsT]⟩
  | succ n ih =>
    obtain ⟨r, e⟩ := ih
    refine ⟨r ++ [varT (k + (n + 1 : Nat))], ?_⟩
    rw [varsT, e]
    rfl
theorem varsV_at (k : Int) (n : Nat) (h0 : 0 < n) (h1 : n ≤ 8) (h2 : 0 ≤ k) (h3 : k ≤ 2147483639) : varsV ((varsT k n).map Tm.enc) = some (intsV k n) := by
  obtain ⟨m, rfl⟩ : ∃ m, n = m + 1 := ⟨n - 1, by omega⟩
  obtain ⟨r, e⟩ := varsT_cons k m
  have hl : ((varsT k (m + 1)).map Tm.enc).length = m + 1 := by rw [List.length_map, varsT_len]
  have hx : (varsT k (m + 1)).map Tm.enc = .agg [.int .i64 0, .int .i64 k, .str [], .nils] :: r.map Tm.enc := by rw [e]; rfl
  have hc : AV.eqbL ((varsT k (m + 1)).map Tm.enc) ((varsT k ((varsT k (m + 1)).map Tm.enc).length).map Tm.enc) = true ∧ 0 < ((varsT k (m + 1)).map Tm.enc).length ∧ ((varsT k (m + 1)).map Tm.enc).length ≤ 8 ∧ 0 ≤ k ∧ k ≤ 2147483639 := by
    rw [hl]
    exact ⟨AV.eqbL_refl _, by omega, h1, h2, h3⟩
  generalize hg : (varsT k (m + 1)).map Tm.enc = xs at hx hl hc
  subst hx
  unfold varsV
  dsimp only
  rw [if_pos hc, hl]
theorem varsFS_at (s : List UInt8) (k : Int) (n : Nat) (hs : goodNm s = true ∧ s.length < 1000000) (h0 : 0 < n) (h1 : n ≤ 8) (h2 : 0 ≤ k) (h3 : k ≤ 2147483639) : varsFS.S [.agg [.int .i64 2, .int .i64 0, .str s, .sl ((varsT k n).map Tm.enc)]] = some (.sl (intsV k n)) := by
  simp only [varsFS, if_pos hs, varsV_at k n h0 h1 h2 h3]
theorem varsV_inv {xs ys : List AV} (h : varsV xs = some ys) : ∃ (k : Int) (n : Nat), xs = (varsT k n).map Tm.enc ∧ ys = intsV k n ∧ 0 < n ∧ n ≤ 8 ∧ 0 ≤ k ∧ k ≤ 2147483639 := by
  unfold varsV at h
  split at h
  · rename_i k _ _
    split at h
    · rename_i hc
      cases h
      exact ⟨k, _, AV.eqbL_eq _ _ hc.1, rfl, hc.2⟩
    · cases h
  · cases h
set_option maxHeartbeats 8000000 in
theorem varsFS_ok : KSpecOK Tryz.prog varsFS := fun args v hv => by
  unfold varsFS at hv ⊢
  dsimp only at hv ⊢
  split at hv
  · rename_i s xs
    split at hv
    · rename_i hs
      split at hv
      · rename_i ys hy
        cases hv
        obtain ⟨k, n, rfl, rfl, h0, h1, h2, h3⟩ := varsV_inv hy
        refine prim_of (n := 16) (h' := Sz.h0) (envOf_ok (ss := [goodTS]) (by simp [goodTS_ok])) ?_ (by simp [AV.refs]) (by simp [AV.refsL, AV.refs])
        have hg := goodTS_at (.mk 2 0 s (varsT k n)) (by simp [Tm.bulk, vars_bulk]; omega)
        rw [good_vars s hs.1 k h2 n h1 (by omega)] at hg
        have e : (Tm.mk 2 0 s (varsT k n)).enc = .agg [.int .i64 2, .int .i64 0, .str s, .sl ((varsT k n).map Tm.enc)] := by simp [Tm.enc, encL_map]
        rw [e] at hg
        have c0 : k + ((0 : Nat) : Int) = k := by simp
        match n, h0, h1 with
        | 1, _, _ => exact vars1 s (k + ((0 : Nat) : Int))  hg
        | 2, _, _ => exact vars2 s (k + ((0 : Nat) : Int)) (k + ((1 : Nat) : Int)) (eq_false (by omega)) hg
        | 3, _, _ => exact vars3 s (k + ((0 : Nat) : Int)) (k + ((1 : Nat) : Int)) (k + ((2 : Nat) : Int)) (eq_false (by omega)) (eq_false (by omega)) (eq_false (by omega)) hg
        | 4, _, _ => exact vars4 s (k + ((0 : Nat) : Int)) (k + ((1 : Nat) : Int)) (k + ((2 : Nat) : Int)) (k + ((3 : Nat) : Int)) (eq_false (by omega)) (eq_false (by omega)) (eq_false (by omega)) (eq_false (by omega)) (eq_false (by omega)) (eq_false (by omega)) hg
        | 5, _, _ => exact vars5 s (k + ((0 : Nat) : Int)) (k + ((1 : Nat) : Int)) (k + ((2 : Nat) : Int)) (k + ((3 : Nat) : Int)) (k + ((4 : Nat) : Int)) (eq_false (by omega)) (eq_false (by omega)) (eq_false (by omega)) (eq_false (by omega)) (eq_false (by omega)) (eq_false (by omega)) (eq_false (by omega)) (eq_false (by omega)) (eq_false (by omega)) (eq_false (by omega)) hg
        | 6, _, _ => exact vars6 s (k + ((0 : Nat) : Int)) (k + ((1 : Nat) : Int)) (k + ((2 : Nat) : Int)) (k + ((3 : Nat) : Int)) (k + ((4 : Nat) : Int)) (k + ((5 : Nat) : Int)) (eq_false (by omega)) (eq_false (by omega)) (eq_false (by omega)) (eq_false (by omega)) (eq_false (by omega)) (eq_false (by omega)) (eq_false (by omega)) (eq_false (by omega)) (eq_false (by omega)) (eq_false (by omega)) (eq_false (by omega)) (eq_false (by omega)) (eq_false (by omega)) (eq_false (by omega)) (eq_false (by omega)) hg
        | 7, _, _ => exact vars7 s (k + ((0 : Nat) : Int)) (k + ((1 : Nat) : Int)) (k + ((2 : Nat) : Int)) (k + ((3 : Nat) : Int)) (k + ((4 : Nat) : Int)) (k + ((5 : Nat) : Int)) (k + ((6 : Nat) : Int)) (eq_false (by omega)) (eq_false (by omega)) (eq_false (by omega)) (eq_false (by omega)) (eq_false (by omega)) (eq_false (by omega)) (eq_false (by omega)) (eq_false (by omega)) (eq_false (by omega)) (eq_false (by omega)) (eq_false (by omega)) (eq_false (by omega)) (eq_false (by omega)) (eq_false (by omega)) (eq_false (by omega)) (eq_false (by omega)) (eq_false (by omega)) (eq_false (by omega)) (eq_false (by omega)) (eq_false (by omega)) (eq_false (by omega)) hg
        | 8, _, _ => exact vars8 s (k + ((0 : Nat) : Int)) (k + ((1 : Nat) : Int)) (k + ((2 : Nat) : Int)) (k + ((3 : Nat) : Int)) (k + ((4 : Nat) : Int)) (k + ((5 : Nat) : Int)) (k + ((6 : Nat) : Int)) (k + ((7 : Nat) : Int)) (eq_false (by omega)) (eq_false (by omega)) (eq_false (by omega)) (eq_false (by omega)) (eq_false (by omega)) (eq_false (by omega)) (eq_false (by omega)) (eq_false (by omega)) (eq_false (by omega)) (eq_false (by omega)) (eq_false (by omega)) (eq_false (by omega)) (eq_false (by omega)) (eq_false (by omega)) (eq_false (by omega)) (eq_false (by omega)) (eq_false (by omega)) (eq_false (by omega)) (eq_false (by omega)) (eq_false (by omega)) (eq_false (by omega)) (eq_false (by omega)) (eq_false (by omega)) (eq_false (by omega)) (eq_false (by omega)) (eq_false (by omega)) (eq_false (by omega)) (eq_false (by omega)) hg
        | n + 9, _, h => omega
      · cases hv
    · cases hv
  · cases hv

/-- term.Good of a name, however long. -/
def goodAS : KSpec := ⟨12, fun | [.agg [.int .i64 2, .int .i64 0, .str s, .nils]] => if s.length < 4611686018427387904 then some (.bool (goodNm s)) else none | _ => none⟩
theorem goodAS_f : goodAS.f = 12 := (rfl)
theorem goodAS_at (s : List UInt8) (h : s.length < 4611686018427387904) : goodAS.S [.agg [.int .i64 2, .int .i64 0, .str s, .nils]] = some (.bool (goodNm s)) := if_pos h
theorem oneK_atom (s : List UInt8) : oneK (.nl 2 0 s) = goodNm s := by simp [oneK, Tm.kind, Tm.num, Tm.name, Tm.args]
set_option maxRecDepth 100000 in
set_option maxHeartbeats 8000000 in
theorem goodAS_ok : KSpecOK Tryz.prog goodAS := fun args v hv => by
  unfold goodAS at hv ⊢
  dsimp only at hv ⊢
  split at hv
  · rename_i s
    split at hv
    · rename_i h
      cases hv
      refine prim_of (n := 12) (h' := Sz.h0) (envOf_ok (ss := [sizeS, depthS, oneS]) (by simp [sizeS_ok, depthS_ok, oneS_ok])) ?_ rfl (by simp [AV.refsL, AV.refs])
      have e1 : (Tm.nl 2 0 s).enc = .agg [.int .i64 2, .int .i64 0, .str s, .nils] := rfl
      have c1 := sizeS_at (.nl 2 0 s) (by simp [Tm.size])
      have c2 := depthS_at (.nl 2 0 s) (by simp [Tm.size])
      have c3 := oneS_at (.nl 2 0 s) h
      have n1 : sizeN (.nl 2 0 s) = 1 := by rw [sizeN_eq]; simp [Tm.size]
      have n2 : min (Tm.nl 2 0 s).depth 65 = 1 := by simp [Tm.depth]
      rw [e1, n1] at c1
      rw [e1, n2] at c2
      rw [e1, oneK_atom] at c3
      simp only [Int.natCast_one] at c1 c2
      cases hg : goodNm s with
      | true =>
        rw [hg] at c3
        simp [run12, c12, run43, c43, c43_m0, c43_m1, c43_b0, c43_b1, loopH_succ, c1, c2, c3, sizeS_f, depthS_f, oneS_f, elemsA, IntKind.wrap, IntKind.signed, IntKind.bits, sliceC, sliceB]
      | false =>
        rw [hg] at c3
        simp [run12, c12, run43, c43, c43_m0, c43_m1, c43_b0, c43_b1, loopH_succ, c1, c2, c3, sizeS_f, depthS_f, oneS_f, elemsA, IntKind.wrap, IntKind.signed, IntKind.bits, sliceC, sliceB]
    · cases hv
  · cases hv

def ssM : List KSpec := [awake11S, atomS, goodAS, makeS, varsFS]
theorem ssM_ok : ∀ s ∈ ssM, KSpecOKX Tryz.prog TabX s := by simp [ssM, awake11S_ok, atomS_ok.lift, goodAS_ok.lift, makeS_ok.lift, varsFS_ok.lift]

set_option maxRecDepth 100000 in
set_option maxHeartbeats 4000000 in
theorem c3_loop (C : Nat → List AV → Heap → Option (AV × Heap)) (n : Nat) (k : Int) (N : Nat) (hN : N ≤ 8) (h0 : 0 ≤ k) (h1 : k ≤ 2147483639) (nx : Nat) (os : List AObj) (md : Nat) : ∀ (j i m : Nat), i + j = N → j < m →
    aft nx 0 (loopH (evCode C n c3_b0) c3_m0 nx m (c3_f0 (.int .i64 k) (.sl (intsV k N)) (.int .i64 i)) ⟨nx, os, nx, md⟩) = some (.exit 0, FM 78 [], ⟨nx, os, 0, md⟩)
  | 0, i, m + 1, e, _ => by
    have : i = N := by omega
    subst this
    have hr := intsV_refs k i
    have hl := intsV_len k i
    rw [loopH_succ]
    simp [c3_b0, c3_m0, hr, hl]
  | j + 1, i, m + 1, e, hm => by
    have ih := c3_loop C n k N hN h0 h1 nx os md j (i + 1) m (by omega) (by omega)
    have h3 : IntKind.i64.wrap ((i : Int) + 1) = (i : Int) + 1 := wrap_i64 (by omega) (by omega)
    have h4 : IntKind.i64.wrap (k + (i : Int)) = k + (i : Int) := wrap_i64 (by omega) (by omega)
    have h6 : ((i : Int) < (N : Int)) = True := eq_true (by omega)
    have h7 : (i < N) = True := eq_true (by omega)
    have ha : ∀ h : i < (intsV k N).length, (intsV k N)[i] = .int .i64 (k + (i : Int)) := fun h => by
      have := intsV_at k N i (by omega)
      rw [List.getElem?_eq_getElem h] at this
      exact Option.some.inj this
    have hr := intsV_refs k N
    have hl := intsV_len k N
    simp only [Int.natCast_add, Int.natCast_one] at ih
    rw [loopH_succ]
    simp [c3_b0, c3_m0, hr, hl, h3, h4, h6, h7, ha]
    exact ih

set_option maxRecDepth 100000 in
set_option maxHeartbeats 16000000 in
theorem shapeMakes_run (s : List UInt8) (ar first : Int) (hs : s.length ≤ 140737488351232) : evCall (envOf ssM) 20 3 [.str s, .int .i64 ar, .int .i64 first] h0 = some (.bool true, h0) := by
  have ca := atomS_at s
  have ga := goodAS_at s (by omega)
  cases hg : goodNm s with
  | false =>
    rw [hg] at ga
    simp [ssM, run3, c3, awake11S_f, awake11S_at, atomS_f, goodAS_f, makeS_f, varsFS_f, ca, ga]
  | true =>
    rw [hg] at ga
    by_cases h1 : ar < 1
    · simp [ssM, run3, c3, awake11S_f, awake11S_at, atomS_f, goodAS_f, makeS_f, varsFS_f, ca, ga, h1]
    by_cases h2 : 8 < ar
    · simp [ssM, run3, c3, awake11S_f, awake11S_at, atomS_f, goodAS_f, makeS_f, varsFS_f, ca, ga, h1, h2]
    by_cases h3 : first < 0
    · simp [ssM, run3, c3, awake11S_f, awake11S_at, atomS_f, goodAS_f, makeS_f, varsFS_f, ca, ga, h1, h2, h3]
    by_cases h4 : 1073741824 < first
    · simp [ssM, run3, c3, awake11S_f, awake11S_at, atomS_f, goodAS_f, makeS_f, varsFS_f, ca, ga, h1, h2, h3, h4]
    obtain ⟨k, rfl⟩ : ∃ k : Nat, ar = k := ⟨ar.toNat, by omega⟩
    have hsl : s.length < 1000000 := by
      unfold goodNm at hg
      rw [Bool.and_eq_true, decide_eq_true_eq] at hg
      omega
    have mk := makeS_at s k first ⟨hg, by omega, by omega, by omega, by omega, hsl⟩
    have vr := varsFS_at s first k ⟨hg, hsl⟩ (by omega) (by omega) (by omega) (by omega)
    have r1 := encs_refs (varsT first k)
    have r2 := intsV_refs first k
    have l1 := varsT_len first k
    have l2 := intsV_len first k
    have lp := fun os md => c3_loop (evCall (envOf ssM) 19) 19 first k (by omega) (by omega) (by omega) 1 os md k 0 19 (by omega) (by omega)
    simp only [ssM, c3_m0, Int.natCast_zero] at lp
    have h1' : ((k : Int) < 1) = False := eq_false h1
    have h2' : ((8 : Int) < (k : Int)) = False := eq_false h2
    have h1n : (k = 0) = False := eq_false (by omega)
    have h2n : (8 < k) = False := eq_false (by omega)
    simp [ssM, run3, c3, c3_m0, awake11S_f, awake11S_at, atomS_f, goodAS_f, makeS_f, varsFS_f, ca, ga, h1', h2', h1n, h2n, h3, h4, mk, vr, r1, r2, l1, l2, lp]
end Go.Proofs.YtleeinkdkllcdaaGreatDoor

namespace Go.Proofs.YtleeinkdkllcdaaGreatDoor
open Go Sz

theorem shapeMakes_lawX {H : Type} (ds : List (DataW H)) (h : HasTys Tryz.prog Tryz.f3.params.toList (ds.map avOf)) (hw : (DataW.weightsEach Tryz.prog Tryz.f3.params.toList ds).all (· ≤ reachBytes) = true) : PrimOKX Tryz.prog TabX 3 (ds.map avOf) (.bool true) := by
  rw [Tryz.params3] at h hw
  match ds, h with
  | [d1, d2, d3], .cons h1 (.cons h2 (.cons h3 .nil)) =>
    obtain ⟨a, e1, _⟩ := ty_str Tryz.underlying9 h1
    obtain ⟨n, e2, _⟩ := ty_i64 Tryz.underlying2 h2
    obtain ⟨k, e3, _⟩ := ty_i64 Tryz.underlying2 h3
    have hd := avOf_str e1
    subst hd
    have ha : a.length ≤ 140737488351232 := str_len hw (by simp [DataW.weightsEach, DataW.weights])
    simp only [List.map_cons, List.map_nil, e1, e2, e3]
    exact prim_of (envOf_okX ssM_ok) (shapeMakes_run a n k ha) rfl (by simp [AV.refsL, AV.refs])
end Go.Proofs.YtleeinkdkllcdaaGreatDoor
