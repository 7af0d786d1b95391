import Derived.Test.YtlakiipofcibhaaGreatDoorTm
import Derived.Test.YtlakiipofcibhaaGreatDoorSd
import Derived.Test.YtlakiipofcibhaaGreatDoorLs
import Derived.Test.YtlakiipofcibhaaGreatDoorSc
import Derived.Test.YtlakiipofcibhaaGreatDoorKa
set_option linter.unusedVariables false
set_option linter.unusedSimpArgs false
set_option linter.unusedSectionVars false

namespace Go.Proofs.YtlakiipofcibhaaGreatDoor
open Go Sz
set_option linter.unusedSimpArgs false
attribute [local simp] seqF condF stepF callF callvF guardF trF step1F call1F callv1F guard1F seqK_n seqK_e seqK_r condK_t condK_f stK_s gdK_t gdK_f cvK_f trK_s trK1_s stK1_s gdK1_t gdK1_f cvK1_f evCode_skip evCode_reg evCode_dreg evCode_block evCode_exit evCode_ret evSteps_nil evTr_nil ldId chkTr
 evOp_mov evOp_pick evOp_box evOp_bld evOp_bsl evOp_ld evOp_st evOp_nck evOp_bin evOp_beq evOp_ceq evOp_peq evOp_not evOp_neg evOp_xor evOp_cvi evOp_cvss evOp_cvis evOp_cvsb evOp_mki evOp_mkf evOp_mkm evOp_mks evOp_sls evOp_slv evOp_fad evOp_fld1 evOp_fldn evOp_iad evOp_ixs evOp_ext evOp_lens evOp_lenv evOp_mx evOp_mn evOp_app evOp_bs0 evOp_snil evOp_clr
 FM_ev ev_const FM_put put_none FM_unwanted lk_hit lk_miss lk_nil FM_clear FM_clearB trues pick gc_FM gc_FM0 incK snds renM allM evB_fm enumA cells_agg cells_bool cells_int cells_str cells_nilp cells_ptr cells_ip cells_nils cells_sl cells_vec cells_nilm cells_map cells_nilfn cells_fn cells_nili cells_iface ldA row_mk get_mk set_mk mark_mk alloc_mk' trunc_mk binA resAll_nil resAll_cons FM_resT FM_resC oneOf finish_mk frz_undef frz_bool frz_int frz_str frz_nilp frz_ptr frz_ip frz_nils frz_sl frz_nilm frz_map frz_nilfn frz_fn frz_nili frz_iface frz_old frz_agg frz_tuple frzL_nil frzL_cons kill_nil kill_cons chunk_zero chunk_succ AV.refs AV.refsL evCall_spec lookF_nil lookF_cons callS_nil callS_oneF spK_s spK_n frK_s frK_n clones cloneS_f cloneS_nils cloneS_sl0 fillA putAt_nil putAt_cons evCode_loop bgn_mk aft_mk keeps objsAt ren renId AV.top lowObj h0 succ_le_f oldK oldAll oldLow oldRen lowCells_row lowCells_map lowCells_dead objCells topLow renObj List.idxOf_cons List.idxOf_nil nilA nilK elemsA_nils elemsA_vec elemsA_str evOp_die evOp_lkp evOp_cvbs lookA scal_bool scal_int scal_str scal_nils scal_sl scal_tuple scal_agg scal1_bool scal1_int scal1_str scal1_nils scal1_sl scal1_agg
attribute [local simp low] frz_vecR
def anyD (p : Tm → Bool) : List Tm → Bool
  | [] => false
  | x :: r => if p x then true else anyD p r
def deepT : Nat → Tm → Bool
  | 0, _ => true
  | n + 1, t => if 12 < t.args.length then true else anyD (deepT n) t.args
def deepKS (m : Nat) : KSpec := ⟨26, fun | [v, .int .i64 n] => (match decTm v with | some t => if n = m then some (.bool (deepT m t)) else none | none => none) | _ => none⟩
theorem deepKS_f (m : Nat) : (deepKS m).f = 26 := (rfl)
theorem deepKS_at (m : Nat) (t : Tm) : (deepKS m).S [t.enc, .int .i64 (m : Nat)] = some (.bool (deepT m t)) := by
  simp only [deepKS, decTm_enc, if_true]
theorem deepKS_no (m k : Nat) (v : AV) (h : k ≠ m) : (deepKS m).S [v, .int .i64 (k : Nat)] = none := by
  simp only [deepKS]
  split
  · rw [if_neg (by omega)]
  · rfl
set_option maxHeartbeats 4000000 in
theorem c26_loop (n m : Nat) (hm : m ≤ 100) (hm1 : 1 ≤ m) (K N : Int) (s : List UInt8) (us : List Tm) (hs : us.length ≤ 12) : ∀ (post pre : List Tm) (k : Nat), us = pre ++ post → post.length < k →
    ∃ md, aft 1 0 (loopH (evCode (evCall (envOf [deepKS (m - 1)]) (n + 1)) (n + 1) c26_b0) c26_m0 1 k (c26_f0 (.int .i64 m) (.ptr 0 0) (.int .i64 pre.length)) ⟨1, [.row [.int .i64 K, .int .i64 N, .str s, .sl (us.map Tm.enc)]], 1, 0⟩) =
      some (if anyD (deepT (m - 1)) post then .ret else .exit 0, if anyD (deepT (m - 1)) post then FM 29 [(4, .bool true)] else FM 29 [], ⟨1, [.row [.int .i64 K, .int .i64 N, .str s, .sl (us.map Tm.enc)]], 0, md⟩)
  | [], pre, k + 1, e, _ => by
    simp at e
    subst e
    have h5 : AV.refsL (us.map Tm.enc) = 0 := encs_refs _
    exact ⟨0, by simp [loopH_succ, c26_b0, h5, anyD]⟩
  | x :: post, pre, k + 1, e, hk => by
    have h1 : us[pre.length]? = some x := by rw [e]; simp
    have h5 : AV.refsL (us.map Tm.enc) = 0 := encs_refs _
    have hpl : pre.length < us.length := by rw [e]; simp
    have h6 : ((pre.length : Int) < (us.length : Int)) = True := eq_true (by omega)
    have h3 : IntKind.i64.wrap ((pre.length : Int) + 1) = (pre.length : Int) + 1 := wrap_i64 (by omega) (by omega)
    have hxe : x.enc = .agg x.cells := Tm.enc_eq x
    have hcl : x.cells = [.int .i64 x.kind, .int .i64 x.num, .str x.name, x.argV] := rfl
    have hxr := argV_refs x
    have w1 : IntKind.i64.wrap ((m : Int) - 1) = ((m - 1 : Nat) : Int) := by rw [wrap_i64 (by omega) (by omega)]; omega
    have hc := deepKS_at (m - 1) x
    rw [hxe, hcl] at hc
    obtain ⟨md, ih⟩ := c26_loop n m hm hm1 K N s us hs post (pre ++ [x]) k (by simp [e]) (by rw [List.length_cons] at hk; omega)
    simp only [List.length_append, List.length_cons, List.length_nil, Nat.zero_add] at ih
    rw [show ((pre.length + 1 : Nat) : Int) = (pre.length : Int) + 1 by omega] at ih
    rw [loopH_succ]
    cases hd : deepT (m - 1) x with
    | true =>
      rw [hd] at hc
      refine ⟨0, ?_⟩
      simp [c26_b0, c26_m0, h1, h3, h5, h6, hxe, hcl, hxr, w1, hc, frz_argV, deepKS_f, anyD, hd]
    | false =>
      rw [hd] at hc
      refine ⟨md, ?_⟩
      simp [c26_b0, c26_m0, h1, h3, h5, h6, hxe, hcl, hxr, w1, hc, frz_argV, deepKS_f, anyD, hd]
      exact ih
set_option maxHeartbeats 4000000 in
theorem deepKS_step (m : Nat) (hm1 : 1 ≤ m) (hm : m ≤ 100) (hp : KSpecOK Tryz.prog (deepKS (m - 1))) : KSpecOK Tryz.prog (deepKS m) := fun args v hv => by
  have hv0 := hv
  unfold deepKS at hv
  dsimp only at hv
  split at hv
  · rename_i x n
    split at hv
    · rename_i t ht
      split at hv
      · rename_i hc
        subst hc
        cases hv
        rw [decTm_eq ht]
        have hno := deepKS_no (m - 1) m t.enc (by omega)
        refine prim_of (n := 20) (h' := h0) (envOf_ok (ss := [deepKS (m - 1)]) (by simp [hp])) ?_ rfl (by simp [AV.refsL, AV.refs, Tm.enc_refs])
        rw [deepKS_f]
        have hxe : t.enc = .agg t.cells := Tm.enc_eq t
        obtain ⟨q, rfl⟩ : ∃ q, m = q + 1 := ⟨m - 1, by omega⟩
        have t1 : ((((q + 1 : Nat) : Int)) < 1) = False := eq_false (by omega)
        have t1' : ((q : Int) + 1 < 1) = False := eq_false (by omega)
        rw [Nat.add_sub_cancel] at hno
        cases t with
        | nl kk nn ss =>
          have hcl : (Tm.nl kk nn ss).cells = [.int .i64 kk, .int .i64 nn, .str ss, .nils] := rfl
          rw [hxe, hcl] at hno ⊢
          have hd : deepT (q + 1) (Tm.nl kk nn ss) = false := rfl
          rw [hd]
          simp only [Int.natCast_add, Int.natCast_one] at hno
          simp [run26, c26, c26_m0, c26_b0, loopH_succ, hno, deepKS_f, t1']
        | mk kk nn ss us =>
          have hcl : (Tm.mk kk nn ss us).cells = [.int .i64 kk, .int .i64 nn, .str ss, .sl (us.map Tm.enc)] := rfl
          have h5 : AV.refsL (us.map Tm.enc) = 0 := encs_refs _
          rw [hxe, hcl] at hno ⊢
          have hd : deepT (q + 1) (Tm.mk kk nn ss us) = if 12 < us.length then true else anyD (deepT q) us := rfl
          rw [hd]
          by_cases hl : 12 < us.length
          · have t2 : ((12 : Int) < (us.length : Int)) = True := eq_true (by omega)
            simp only [Int.natCast_add, Int.natCast_one] at hno
            simp [run26, c26, hno, deepKS_f, t1', t2, h5, hl]
          · have t2 : ((12 : Int) < (us.length : Int)) = False := eq_false (by omega)
            obtain ⟨md, lp⟩ := c26_loop 18 (q + 1) hm hm1 kk nn ss us (by omega) us [] 19 rfl (by omega)
            simp only [List.length_nil, Int.natCast_zero, Nat.add_sub_cancel, Int.natCast_add, Int.natCast_one, c26_m0] at lp
            simp only [Int.natCast_add, Int.natCast_one] at hno
            rw [if_neg hl]
            cases ha : anyD (deepT q) us with
            | true =>
              rw [ha] at lp
              simp only [if_true] at lp
              simp [run26, c26, c26_m0, hno, deepKS_f, t1', t2, h5, hl, lp]
            | false =>
              rw [ha] at lp
              simp only [Bool.false_eq_true, if_false] at lp
              simp [run26, c26, c26_m0, hno, deepKS_f, t1', t2, h5, hl, lp]
      · cases hv
    · cases hv
  · cases hv
set_option maxHeartbeats 4000000 in
theorem deepKS_zero : KSpecOK Tryz.prog (deepKS 0) := fun args v hv => by
  unfold deepKS at hv
  dsimp only at hv
  split at hv
  · rename_i x n
    split at hv
    · rename_i t ht
      split at hv
      · rename_i hc
        subst hc
        cases hv
        rw [decTm_eq ht]
        refine prim_of (n := 5) (h' := h0) (envOf_ok (ss := []) (by simp)) ?_ rfl (by simp [AV.refsL, AV.refs, Tm.enc_refs])
        rw [deepKS_f]
        have hxe : t.enc = .agg t.cells := Tm.enc_eq t
        have hcl : t.cells = [.int .i64 t.kind, .int .i64 t.num, .str t.name, t.argV] := rfl
        have hxr := argV_refs t
        have hd : deepT 0 t = true := rfl
        rw [hxe, hcl, hd]
        simp [run26, c26, hxr]
      · cases hv
    · cases hv
  · cases hv
theorem deepKS_all : ∀ m, m ≤ 100 → KSpecOK Tryz.prog (deepKS m)
  | 0, _ => deepKS_zero
  | m + 1, h => deepKS_step (m + 1) (by omega) h (deepKS_all m (by omega))
end Go.Proofs.YtlakiipofcibhaaGreatDoor

namespace Go.Proofs.YtlakiipofcibhaaGreatDoor
open Go Sz Srt
set_option linter.unusedSimpArgs false
theorem sortT_eq {c : Tm → Tm → Int} (o : Ord c) (us : List Tm) : sortT c us = isort c us := by
  have h := isort_srt o us.zipIdx (zip_up us 0).1
  unfold sortT
  rw [srt_eq o h.2 h.1]
  show fs _ = _
  unfold fs
  rw [isort_map]
  show isort c (fs us.zipIdx) = _
  rw [fs_zip]
theorem isort_perm {c : Tm → Tm → Int} (o : Ord c) (us : List Tm) : (isort c us).Perm us := by
  have h := isort_srt o us.zipIdx (zip_up us 0).1
  have h2 := h.2.map (·.1)
  rw [isort_map] at h2
  have e : us.zipIdx.map (·.1) = us := fs_zip us 0
  rw [e] at h2
  exact h2
theorem isort_sorted {c : Tm → Tm → Int} (o : Ord c) (us : List Tm) : (isort c us).Pairwise fun x y => c x y ≤ 0 := by
  have h := isort_srt o us.zipIdx (zip_up us 0).1
  have e : us.zipIdx.map (·.1) = us := fs_zip us 0
  rw [← e, ← isort_map, List.pairwise_map]
  exact h.1.imp fun h => h.le
theorem isort_id {c : Tm → Tm → Int} (o : Ord c) {us : List Tm} (hs : us.Pairwise fun x y => c x y ≤ 0) : isort c us = us := by
  have h := isort_srt o us.zipIdx (zip_up us 0).1
  have e : us.zipIdx.map (·.1) = us := fs_zip us 0
  have hs2 : us.zipIdx.Pairwise fun x y => c x.1 y.1 ≤ 0 := by
    rw [← e, List.pairwise_map] at hs
    exact hs
  have hsd : Sd c us.zipIdx := by
    refine (hs2.and (zip_up us 0).1).imp fun {a b} h => ?_
    unfold Lt
    omega
  have := Sd.perm_eq o h.1 hsd h.2
  rw [← e, ← isort_map, e, this]
  exact e
theorem sItems_list {us : List Tm} (hg : goodT (listT us emptyT) = true) : sItems (listT us emptyT) = (us, 0) := by
  unfold sItems
  rw [if_pos hg, items_list us emptyT rfl]
  rfl
theorem deep_depth : ∀ (n : Nat) (t : Tm), deepT n t = false → t.depth ≤ n
  | 0, t, h => by simp [deepT] at h
  | n + 1, t, h => by
    unfold deepT at h
    split at h
    · cases h
    · have ih := deep_depth n
      have key : ∀ l : List Tm, anyD (deepT n) l = false → Tm.depthL l ≤ n := by
        intro l
        induction l with
        | nil => intro _; simp [Tm.depthL]
        | cons x r ihr =>
          intro h
          unfold anyD at h
          split at h
          · cases h
          · rename_i hx
            have h1 := ih x (by simpa using hx)
            have h2 := ihr h
            simp only [Tm.depthL]
            omega
      cases t with
      | nl k m s => simp [Tm.depth]
      | mk k m s us =>
        have := key us h
        simp only [Tm.depth]
        omega
theorem depth_list_le (N : Nat) : ∀ us : List Tm, (∀ x ∈ us, x.depth ≤ N) → (listT us emptyT).depth ≤ us.length + N + 1
  | [], _ => by simp [listT, emptyT, Tm.depth]
  | x :: r, h => by
    have ih := depth_list_le N r fun y hy => h y (by simp [hy])
    have hx := h x (by simp)
    have e : (listT (x :: r) emptyT).depth = 1 + max x.depth (max (listT r emptyT).depth 0) := by simp [listT, Tm.depth, Tm.depthL]
    rw [e, List.length_cons]
    omega
theorem sizeL_sub {us ws : List Tm} (h : ws.Sublist us) : Tm.sizeL ws ≤ Tm.sizeL us := by
  induction h with
  | slnil => exact Nat.le_refl _
  | cons a _ ih => simp only [Tm.sizeL]; omega
  | cons_cons a _ ih => simp only [Tm.sizeL]; omega
theorem sizeL_perm {us ws : List Tm} (h : ws.Perm us) : Tm.sizeL ws = Tm.sizeL us := by
  induction h with
  | nil => rfl
  | cons a _ ih => simp only [Tm.sizeL]; omega
  | swap a b l => simp only [Tm.sizeL]; omega
  | trans _ _ h1 h2 => omega
theorem allL_iff (p : Tm → Bool) : ∀ us : List Tm, Tm.allL p us = true ↔ ∀ x ∈ us, x.allT p = true
  | [] => by simp [Tm.allL]
  | x :: r => by
    have := allL_iff p r
    simp only [Tm.allL, Bool.and_eq_true, this, List.mem_cons, forall_eq_or_imp]
theorem good_list {us ws : List Tm} (N : Nat) (hg : goodT (listT us emptyT) = true) (hsz : Tm.sizeL ws ≤ Tm.sizeL us) (hlen : ws.length ≤ us.length) (hin : ∀ x ∈ ws, x ∈ us) (hd : ∀ x ∈ us, x.depth ≤ N) (hN : us.length + N + 1 ≤ 64) : goodT (listT ws emptyT) = true := by
  unfold goodT at hg ⊢
  simp only [Bool.and_eq_true, decide_eq_true_eq, size_list, allT_list, allL_iff] at hg ⊢
  refine ⟨⟨by omega, ?_⟩, fun x hx => hg.2.1 x (hin x hx), hg.2.2⟩
  have := depth_list_le N ws fun x hx => hd x (hin x hx)
  omega
theorem good_item {us : List Tm} (hg : goodT (listT us emptyT) = true) : ∀ x ∈ us, goodT x = true := by
  intro x hx
  have h := items_in (listT us emptyT).size (listT us emptyT)
  have e : itemsF (listT us emptyT).size (listT us emptyT) = (us, emptyT) := items_list us emptyT rfl
  rw [e] at h
  obtain ⟨a, b, c, _⟩ := h.1 x hx
  unfold goodT at hg ⊢
  simp only [Bool.and_eq_true, decide_eq_true_eq] at hg ⊢
  exact ⟨⟨by omega, by omega⟩, c hg.2⟩
theorem cgo_sub (e : Tm → Tm → Bool) : ∀ (r : List Tm) (p : Tm), (cgo e p r).Sublist r
  | [], _ => List.Sublist.slnil
  | y :: r, p => by
    rw [cgo_cons]
    split
    · exact (cgo_sub e r y).cons y
    · exact (cgo_sub e r y).cons_cons y
theorem cmpct_sub (e : Tm → Tm → Bool) (l : List Tm) : (cmpct e l).Sublist l := by
  cases l with
  | nil => exact List.Sublist.slnil
  | cons x r => exact (cgo_sub e r x).cons_cons x
theorem cgo_strict : ∀ (r : List Tm) (p : Tm), (∀ x ∈ p :: r, goodT x = true) → (p :: r).Pairwise (fun x y => cmpT x y ≤ 0) → (∀ x ∈ cgo sameT p r, cmpT p x < 0) ∧ (cgo sameT p r).Pairwise (fun x y => cmpT x y < 0) ∧ ∀ x ∈ r, cmpT p x = 0 ∨ ∃ y ∈ cgo sameT p r, cmpT y x = 0
  | [], p, _, _ => ⟨fun x h => by simp [cgo] at h, by simp [cgo], fun x h => by cases h⟩
  | y :: r, p, hg, hs => by
    have o := cmpT_ord
    have hs' := List.pairwise_cons.1 hs
    obtain ⟨i1, i2, i3⟩ := cgo_strict r y (fun x hx => hg x (by simp at hx; simp [hx])) hs'.2
    have hpy := hs'.1 y (by simp)
    have hsame := same_cmp (x := y) (y := p) (hg y (by simp)) (hg p (by simp))
    rw [cgo_cons]
    by_cases h : sameT y p = true
    · rw [if_pos h]
      have hz := o.zero (hsame.1 h)
      refine ⟨fun x hx => o.tle (by omega) (i1 x hx), i2, fun x hx => ?_⟩
      have tr : cmpT y x = 0 → cmpT p x = 0 := fun g => by
        have h1 := o.trans p y x (by omega) (by omega)
        have h2 := o.trans x y p (by have := o.zero g; omega) (by have := hsame.1 h; omega)
        have h3 := o.anti p x
        have h4 := o.anti x p
        omega
      rcases List.mem_cons.1 hx with rfl | hx
      · exact .inl hz
      · rcases i3 x hx with g | g
        · exact .inl (tr g)
        · exact .inr g
    · rw [if_neg h]
      have hlt : cmpT p y < 0 := by
        have : ¬ cmpT p y = 0 := fun g => h (hsame.2 (o.zero g))
        omega
      refine ⟨fun x hx => ?_, List.pairwise_cons.2 ⟨i1, i2⟩, fun x hx => ?_⟩
      · rcases List.mem_cons.1 hx with rfl | hx
        · exact hlt
        · have := i1 x hx
          exact o.tlt hlt (by omega)
      · rcases List.mem_cons.1 hx with rfl | hx
        · exact .inr ⟨x, by simp, o.refl0 x⟩
        · rcases i3 x hx with g | ⟨z, hz, g⟩
          · exact .inr ⟨y, by simp, g⟩
          · exact .inr ⟨z, by simp [hz], g⟩
theorem cmpct_strict {l : List Tm} (hg : ∀ x ∈ l, goodT x = true) (hs : l.Pairwise fun x y => cmpT x y ≤ 0) : (cmpct sameT l).Pairwise (fun x y => cmpT x y < 0) ∧ ∀ x ∈ l, ∃ y ∈ cmpct sameT l, cmpT y x = 0 := by
  cases l with
  | nil => exact ⟨List.Pairwise.nil, fun x h => by cases h⟩
  | cons p r =>
    obtain ⟨h1, h2, h3⟩ := cgo_strict r p hg hs
    refine ⟨List.pairwise_cons.2 ⟨h1, h2⟩, fun x hx => ?_⟩
    rcases List.mem_cons.1 hx with rfl | hx
    · exact ⟨x, by simp [cmpct], cmpT_ord.refl0 x⟩
    · rcases h3 x hx with g | ⟨y, hy, g⟩
      · exact ⟨p, by simp [cmpct], g⟩
      · exact ⟨y, by simp [cmpct, hy], g⟩
theorem sameT_good {x : Tm} (h : goodT x = true) : sameT x x = true := (same_cmp h h).2 (cmpT_ord.refl0 x)
end Go.Proofs.YtlakiipofcibhaaGreatDoor

namespace Go.Proofs.YtlakiipofcibhaaGreatDoor
open Go Sz
set_option maxRecDepth 100000
def awV0 : AV := .agg [.sl [.agg [.str [58, 45], .str [120, 102, 120], .int .i64 1200], .agg [.str [59], .str [120, 102, 121], .int .i64 1100], .agg [.str [45, 62], .str [120, 102, 121], .int .i64 1050], .agg [.str [44], .str [120, 102, 121], .int .i64 1000], .agg [.str [92, 43], .str [102, 121], .int .i64 900], .agg [.str [61], .str [120, 102, 120], .int .i64 700], .agg [.str [92, 61], .str [120, 102, 120], .int .i64 700], .agg [.str [61, 61], .str [120, 102, 120], .int .i64 700], .agg [.str [92, 61, 61], .str [120, 102, 120], .int .i64 700], .agg [.str [64, 60], .str [120, 102, 120], .int .i64 700], .agg [.str [64, 62], .str [120, 102, 120], .int .i64 700], .agg [.str [64, 61, 60], .str [120, 102, 120], .int .i64 700], .agg [.str [64, 62, 61], .str [120, 102, 120], .int .i64 700], .agg [.str [61, 46, 46], .str [120, 102, 120], .int .i64 700], .agg [.str [105, 115], .str [120, 102, 120], .int .i64 700], .agg [.str [61, 58, 61], .str [120, 102, 120], .int .i64 700], .agg [.str [61, 92, 61], .str [120, 102, 120], .int .i64 700], .agg [.str [60], .str [120, 102, 120], .int .i64 700], .agg [.str [62], .str [120, 102, 120], .int .i64 700], .agg [.str [61, 60], .str [120, 102, 120], .int .i64 700], .agg [.str [62, 61], .str [120, 102, 120], .int .i64 700], .agg [.str [43], .str [121, 102, 120], .int .i64 500], .agg [.str [45], .str [121, 102, 120], .int .i64 500], .agg [.str [47, 92], .str [121, 102, 120], .int .i64 500], .agg [.str [92, 47], .str [121, 102, 120], .int .i64 500], .agg [.str [120, 111, 114], .str [121, 102, 120], .int .i64 500], .agg [.str [42], .str [121, 102, 120], .int .i64 400], .agg [.str [47, 47], .str [121, 102, 120], .int .i64 400], .agg [.str [109, 111, 100], .str [121, 102, 120], .int .i64 400], .agg [.str [114, 101, 109], .str [121, 102, 120], .int .i64 400], .agg [.str [62, 62], .str [121, 102, 120], .int .i64 400], .agg [.str [60, 60], .str [121, 102, 120], .int .i64 400], .agg [.str [94], .str [120, 102, 121], .int .i64 200], .agg [.str [45], .str [102, 121], .int .i64 200], .agg [.str [92], .str [102, 121], .int .i64 200]]]
def awV1 : AV := .tuple [.sl [.agg [.int .i64 5, .str [91], .int .i64 0, .bool false, .int .i64 0], .agg [.int .i64 1, .str [98], .int .i64 0, .bool false, .int .i64 1], .agg [.int .i64 5, .str [44], .int .i64 0, .bool false, .int .i64 2], .agg [.int .i64 1, .str [97], .int .i64 0, .bool false, .int .i64 3], .agg [.int .i64 5, .str [44], .int .i64 0, .bool false, .int .i64 4], .agg [.int .i64 1, .str [98], .int .i64 0, .bool false, .int .i64 5], .agg [.int .i64 5, .str [93], .int .i64 0, .bool false, .int .i64 6], .agg [.int .i64 6, .str [], .int .i64 0, .bool false, .int .i64 8]], .int .i64 9, .int .i64 0]
def awV2 : AV := .tuple [.sl [.agg [.int .i64 5, .str [91], .int .i64 0, .bool false, .int .i64 0], .agg [.int .i64 1, .str [97], .int .i64 0, .bool false, .int .i64 1], .agg [.int .i64 5, .str [44], .int .i64 0, .bool false, .int .i64 2], .agg [.int .i64 1, .str [98], .int .i64 0, .bool false, .int .i64 3], .agg [.int .i64 5, .str [93], .int .i64 0, .bool false, .int .i64 4], .agg [.int .i64 6, .str [], .int .i64 0, .bool false, .int .i64 6]], .int .i64 7, .int .i64 0]
def awV3 : AV := .tuple [.agg [.int .i64 2, .int .i64 0, .str [46], .sl [.agg [.int .i64 2, .int .i64 0, .str [98], .nils], .agg [.int .i64 2, .int .i64 0, .str [46], .sl [.agg [.int .i64 2, .int .i64 0, .str [97], .nils], .agg [.int .i64 2, .int .i64 0, .str [46], .sl [.agg [.int .i64 2, .int .i64 0, .str [98], .nils], .agg [.int .i64 2, .int .i64 0, .str [91, 93], .nils]]]]]]], .nils, .int .i64 0]
def awV4 : AV := .tuple [.agg [.int .i64 2, .int .i64 0, .str [46], .sl [.agg [.int .i64 2, .int .i64 0, .str [97], .nils], .agg [.int .i64 2, .int .i64 0, .str [46], .sl [.agg [.int .i64 2, .int .i64 0, .str [98], .nils], .agg [.int .i64 2, .int .i64 0, .str [91, 93], .nils]]]]], .nils, .int .i64 0]
theorem awe1 : evCall (envOf ssA) 90 14 [] h0 = some (awV0, h0) := by kernel_rfl
theorem awe2 : evCall (envOf ssA) 90 73 [.str [91, 98, 44, 97, 44, 98, 93, 32, 46]] h0 = some (awV1, h0) := by kernel_rfl
theorem awe3 : evCall (envOf ssA) 90 73 [.str [91, 97, 44, 98, 93, 32, 46]] h0 = some (awV2, h0) := by kernel_rfl
def awT14 : KSpec := .tab 14 [([], awV0)]
theorem awT14_ok : KSpecOKX Tryz.prog TabX awT14 := KSpec.tab_ok (by
  have E := envOf_okX ssA_ok
  exact List.forall_mem_cons.2 ⟨prim_of E awe1 (by kernel_rfl) (by kernel_rfl), fun _ h => nomatch h⟩)
def awT73 : KSpec := .tab 73 [([.str [91, 98, 44, 97, 44, 98, 93, 32, 46]], awV1), ([.str [91, 97, 44, 98, 93, 32, 46]], awV2)]
theorem awT73_ok : KSpecOKX Tryz.prog TabX awT73 := KSpec.tab_ok (by
  have E := envOf_okX ssA_ok
  exact List.forall_mem_cons.2 ⟨prim_of E awe2 (by kernel_rfl) (by kernel_rfl), List.forall_mem_cons.2 ⟨prim_of E awe3 (by kernel_rfl) (by kernel_rfl), fun _ h => nomatch h⟩⟩)
def awS1 : List KSpec := awT14 :: awT73 :: ssA
theorem awS1_ok : ∀ s ∈ awS1, KSpecOKX Tryz.prog TabX s := List.forall_mem_cons.2 ⟨awT14_ok, List.forall_mem_cons.2 ⟨awT73_ok, ssA_ok⟩⟩
theorem awe4 : evCall (envOf awS1) 90 12 [awV0, .str [91, 98, 44, 97, 44, 98, 93, 32, 46]] h0 = some (awV3, h0) := by kernel_rfl
theorem awe5 : evCall (envOf awS1) 90 12 [awV0, .str [91, 97, 44, 98, 93, 32, 46]] h0 = some (awV4, h0) := by kernel_rfl
def awT12 : KSpec := .tab 12 [([awV0, .str [91, 98, 44, 97, 44, 98, 93, 32, 46]], awV3), ([awV0, .str [91, 97, 44, 98, 93, 32, 46]], awV4)]
theorem awT12_ok : KSpecOKX Tryz.prog TabX awT12 := KSpec.tab_ok (by
  have E := envOf_okX awS1_ok
  exact List.forall_mem_cons.2 ⟨prim_of E awe4 (by kernel_rfl) (by kernel_rfl), List.forall_mem_cons.2 ⟨prim_of E awe5 (by kernel_rfl) (by kernel_rfl), fun _ h => nomatch h⟩⟩)
def awS2 : List KSpec := awT12 :: awT14 :: ssI
theorem awS2_ok : ∀ s ∈ awS2, KSpecOKX Tryz.prog TabX s := List.forall_mem_cons.2 ⟨awT12_ok, List.forall_mem_cons.2 ⟨awT14_ok, ssI_ok⟩⟩
theorem awake25_run : evCall (envK awS2) 90 25 [] h0 = some (.bool true, h0) := by kernel_rfl
def awake25S : KSpec := ⟨25, fun | [] => some (.bool true) | _ => none⟩
theorem awake25S_f : awake25S.f = 25 := (rfl)
theorem awake25S_at : awake25S.S [] = some (.bool true) := (rfl)
theorem awake25S_ok : KSpecOKX Tryz.prog TabX awake25S := fun args v hv => by
  unfold awake25S at hv ⊢
  dsimp only at hv ⊢
  split at hv
  · cases hv
    exact prim_of (envK_okX awS2_ok) awake25_run rfl rfl
  · cases hv
end Go.Proofs.YtlakiipofcibhaaGreatDoor
