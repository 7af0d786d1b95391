import Derived.Test.YtnkafagfkblfeaaDoorLev
import Derived.Test.YtnkafagfkblfeaaDoorFn
import Derived.Test.YtnkafagfkblfeaaDoorFast
set_option linter.unusedVariables false
set_option linter.unusedSimpArgs false
set_option linter.unusedSectionVars false

namespace Go.Proofs.YtnkafagfkblfeaaDoor
open Go Sz
set_option linter.unusedSimpArgs false
attribute [local simp] evCode_skip evCode_reg evCode_dreg evCode_seq evCode_cond evCode_block evCode_exit evCode_ret evSteps_nil evSteps_op evSteps_opg evSteps_call evSteps_callg evSteps_callv evSteps_callvg evTr_nil evTr_cons evStep_op evStep_opg evStep_call evStep_callg evStep_callv evStep_callvg ldId chkTr
  evOp_mov evOp_pick evOp_box evOp_bld evOp_bsl evOp_ld evOp_st evOp_nck evOp_bin evOp_beq evOp_ceq evOp_peq evOp_not evOp_neg evOp_xor evOp_cvi evOp_cvss evOp_cvis evOp_cvsb evOp_mki evOp_mkf evOp_mkm evOp_mks evOp_sls evOp_slv evOp_fad evOp_fld1 evOp_fldn evOp_iad evOp_ixs evOp_ext evOp_lens evOp_lenv evOp_mx evOp_mn evOp_app evOp_bs0 evOp_snil evOp_clr
  FM_ev ev_const FM_put put_none FM_unwanted lk_hit lk_miss lk_nil FM_clear FM_clearB trues pick gc_FM gc_FM0 incK snds renM allM evB_fm enumA cells_agg cells_bool cells_int cells_str cells_nilp cells_ptr cells_ip cells_nils cells_sl cells_vec cells_nilm cells_map cells_nilfn cells_fn cells_nili cells_iface ldA row_mk get_mk set_mk mark_mk alloc_mk' trunc_mk binA resAll_nil resAll_cons FM_resT FM_resC oneOf finish_mk frz_undef frz_bool frz_int frz_str frz_nilp frz_ptr frz_ip frz_nils frz_sl frz_nilm frz_map frz_nilfn frz_fn frz_nili frz_iface frz_old frz_agg frz_tuple frzL_nil frzL_cons kill_nil kill_cons chunk_zero chunk_succ AV.refs AV.refsL evCall_spec lookF_nil lookF_cons callS_nil callS_one clones cloneS_f cloneS_nils cloneS_sl0 fillA putAt_nil putAt_cons evCode_loop bgn_mk aft_mk keeps objsAt ren renId AV.top lowObj h0 succ_le_f elemsA_nils elemsA_vec elemsA_str evOp_die evOp_lkp evOp_cvbs lookA scal_bool scal_int scal_str scal_nils scal_sl scal_tuple scal_agg scal1_bool scal1_int scal1_str scal1_nils scal1_sl scal1_agg

/-! LabelLattice. -/

def filtK (x : BitVec 64) (i : Nat) : List (BitVec 64) := ((List.range i).map (BitVec.ofNat 64)).filter (leqK · x)
theorem levK_filt (x : BitVec 64) : levK x = filtK x 64 := rfl
theorem filtK_succ (x : BitVec 64) (i : Nat) : filtK x (i + 1) = filtK x i ++ (if leqK (BitVec.ofNat 64 i) x then [BitVec.ofNat 64 i] else []) := by
  unfold filtK
  rw [List.range_succ, List.map_append, List.filter_append]
  congr 1
  cases h : leqK (BitVec.ofNat 64 i) x <;> simp [h]
theorem filtK_pre (x : BitVec 64) : ∀ (d i : Nat), i + d = 64 → ∃ r, levK x = filtK x i ++ r
  | 0, i, h => ⟨[], by rw [levK_filt, show i = 64 by omega]; simp⟩
  | d + 1, i, h => by
    obtain ⟨r, e⟩ := filtK_pre x d (i + 1) (by omega)
    rw [filtK_succ, List.append_assoc] at e
    exact ⟨_, e⟩
theorem filtK_len (x : BitVec 64) (i : Nat) : (filtK x i).length ≤ i := by
  unfold filtK
  exact Nat.le_trans (List.length_filter_le _ _) (by simp)

theorem labN_small {i : Nat} (h : i ≤ 64) : labN (BitVec.ofNat 64 i) = (i : Int) := by
  unfold labN
  rw [BitVec.toNat_ofNat]
  omega

set_option maxRecDepth 100000 in
set_option maxHeartbeats 4000000 in
theorem c10_loop (n : Nat) (x y z j : BitVec 64) (os : List AObj) : ∀ (d i m : Nat), i + d = 64 → d < m →
    aft 2 0 (loopH (evCode (evCall (envOf [awakeS, labJoinS, meetS, textS, parseS, leqS, levelsS]) (n + 1)) (n + 1) c10_b0) c10_m0 2 m (c10_f0 (labA x) (labA y) (labA z) (labA j) (.sl ((levK x).map labA)) (.int .i64 (filtK x i).length) (.int .u64 (labN (BitVec.ofNat 64 i)))) ⟨2, os, 2, 0⟩) =
      some (.exit 0, FM 145 [(8, labA x), (9, labA y), (10, labA z), (11, labA j), (15, .sl ((levK x).map labA)), (16, .int .i64 (levK x).length)], ⟨2, os, 0, 0⟩)
  | 0, i, m + 1, h, _ => by
    obtain rfl : i = 64 := by omega
    have h5 : AV.refsL ((levK x).map labA) = 0 := labs_refs _
    have h1 : labN (BitVec.ofNat 64 64) = 64 := rfl
    rw [← levK_filt]
    simp [loopH_succ, c10_b0, h1, h5]
  | d + 1, i, m + 1, h, hm => by
    have ih := c10_loop n x y z j os d (i + 1) m (by omega) (by omega)
    have h5 : AV.refsL ((levK x).map labA) = 0 := labs_refs _
    have h1 : labN (BitVec.ofNat 64 i) < 64 := by rw [labN_small (by omega)]; omega
    have h2 : IntKind.u64.wrap (labN (BitVec.ofNat 64 i) + 1) = labN (BitVec.ofNat 64 (i + 1)) := by
      rw [labN_small (by omega), labN_small (by omega), IntKind.wrap_u64]
      omega
    have h3 := leqS_at (BitVec.ofNat 64 i) x
    rw [loopH_succ]
    cases hl : leqK (BitVec.ofNat 64 i) x with
    | false =>
      rw [filtK_succ, hl] at ih
      rw [hl] at h3
      simp at ih
      simp [c10_b0, c10_m0, h1, h2, h3, h5, awakeS_f, labJoinS_f, meetS_f, textS_f, parseS_f, leqS_f, levelsS_f]
      exact ih
    | true =>
      obtain ⟨r, e⟩ := filtK_pre x d (i + 1) (by omega)
      rw [filtK_succ, hl] at e ih
      rw [hl] at h3
      simp only [if_true] at e
      have hk := filtK_len x i
      have g1 : (levK x)[(filtK x i).length]? = some (BitVec.ofNat 64 i) := by rw [e]; simp
      have g2 : ((filtK x i).length : Int) < ((levK x).length : Int) := by rw [e]; simp; omega
      have g3 : ¬ (((levK x).length : Int) ≤ ((filtK x i).length : Int)) := by omega
      have g4 : IntKind.i64.wrap (((filtK x i).length : Int) + 1) = ((filtK x i).length : Int) + 1 := by
        rw [wrap_succ (by omega)]; simp
      simp at ih
      simp [c10_b0, c10_m0, h1, h2, h3, h5, g1, g2, g3, g4, awakeS_f, labJoinS_f, meetS_f, textS_f, parseS_f, leqS_f, levelsS_f]
      exact ih

end Go.Proofs.YtnkafagfkblfeaaDoor

namespace Go.Proofs.YtnkafagfkblfeaaDoor
open Go Sz
set_option linter.unusedSimpArgs false

/-! What is split and joined. No program here. -/

/-- Cut at each of a byte. -/
def cutB (c : UInt8) : List UInt8 → List (List UInt8)
  | [] => [[]]
  | b :: l => if b = c then [] :: cutB c l else match cutB c l with
    | p :: r => (b :: p) :: r
    | [] => []

theorem index_one_eq (c : UInt8) (l : List UInt8) : Lib.index (c :: l) [c] = 0 := by
  rw [Lib.index]; simp [List.isPrefixOf]
theorem index_one_ne {b c : UInt8} (l : List UInt8) (h : b ≠ c) : Lib.index (b :: l) [c] = if Lib.index l [c] == -1 then -1 else Lib.index l [c] + 1 := by
  have hp : ([c] : List UInt8).isPrefixOf (b :: l) = false := by simp [List.isPrefixOf, Ne.symm h]
  rw [Lib.index, hp]
  simp
theorem split_cut (c : UInt8) : ∀ s : List UInt8, Lib.split s [c] = cutB c s
  | [] => by
    unfold Lib.split
    rw [Lib.count_one]
    rfl
  | b :: l => by
    have ih := split_cut c l
    unfold Lib.split at ih ⊢
    rw [Lib.count_one] at ih ⊢
    unfold cutB
    by_cases h : b = c
    · subst h
      rw [if_pos rfl, ← ih, List.count_cons_self]
      show (if Lib.index (b :: l) [b] == -1 then _ else _) = _
      rw [index_one_eq]
      simp
    · rw [if_neg h, List.count_cons_of_ne (by simpa using h), ← ih]
      cases hk : List.count c l with
      | zero => rfl
      | succ k =>
        have hi : Lib.index l [c] ≠ -1 := fun e => by
          have := Lib.count_miss (s := l) (sub := [c]) e
          rw [Lib.count_one] at this
          omega
        have hge := Lib.index_ge l [c]
        have h2 := index_one_ne l h
        rw [if_neg (by simpa using hi)] at h2
        obtain ⟨j, hj⟩ : ∃ j : Nat, Lib.index l [c] = j := ⟨(Lib.index l [c]).toNat, by omega⟩
        have h3 : Lib.index (b :: l) [c] = ((j + 1 : Nat) : Int) := by rw [h2, hj]; omega
        have e1 : ((Lib.index (b :: l) [c] == -1) = false) := by rw [h3]; simp; omega
        have e2 : ((Lib.index l [c] == -1) = false) := by simpa using hi
        have q1 : Lib.splitK [c] 0 (k + 1) (b :: l) = (b :: l).take (j + 1) :: Lib.splitK [c] 0 k ((b :: l).drop (j + 1 + 1)) := by
          rw [Lib.splitK, e1, h3]
          rfl
        have q2 : Lib.splitK [c] 0 (k + 1) l = l.take j :: Lib.splitK [c] 0 k (l.drop (j + 1)) := by
          rw [Lib.splitK, e2, hj]
          rfl
        rw [q1, q2]
        rfl

theorem cutB_none {c : UInt8} : ∀ {p : List UInt8}, c ∉ p → cutB c p = [p]
  | [], _ => rfl
  | b :: l, h => by
    simp only [List.mem_cons, not_or] at h
    unfold cutB
    rw [if_neg (Ne.symm h.1), cutB_none h.2]
theorem cutB_ne (c : UInt8) : ∀ s, cutB c s ≠ []
  | [] => by simp [cutB]
  | b :: l => by
    have := cutB_ne c l
    unfold cutB
    split
    · simp
    · split
      · simp
      · contradiction
theorem cutB_app {c : UInt8} : ∀ {p : List UInt8} (r : List UInt8), c ∉ p → cutB c (p ++ c :: r) = p :: cutB c r
  | [], r, _ => by simp [cutB]
  | b :: l, r, h => by
    simp only [List.mem_cons, not_or] at h
    rw [List.cons_append]
    conv => lhs; unfold cutB
    rw [if_neg (Ne.symm h.1), cutB_app r h.2]
theorem join_two (c : UInt8) (p q : List UInt8) (r : List (List UInt8)) : Lib.join (p :: q :: r) [c] = p ++ c :: Lib.join (q :: r) [c] := by
  simp [Lib.join, List.intercalate]
theorem cutB_join {c : UInt8} : ∀ {P : List (List UInt8)}, P ≠ [] → (∀ p ∈ P, c ∉ p) → cutB c (Lib.join P [c]) = P
  | [], h, _ => absurd rfl h
  | [p], _, h => by rw [Lib.join_one, cutB_none (h p (by simp))]
  | p :: q :: r, _, h => by
    rw [join_two, cutB_app _ (h p (by simp)), cutB_join (by simp) fun x hx => h x (List.mem_cons_of_mem _ hx)]

theorem trimP (t : List UInt8) (c : UInt8) : Lib.trimPrefix (c :: t) [c] = t := by
  simp [Lib.trimPrefix, Lib.hasPrefix, List.isPrefixOf]
theorem trimS' (t : List UInt8) (c : UInt8) : Lib.trimSuffix (t ++ [c]) [c] = t := by
  have : ([c] : List UInt8).isSuffixOf (t ++ [c]) = true := by
    rw [List.isSuffixOf_iff_suffix]
    exact ⟨t, rfl⟩
  simp [Lib.trimSuffix, Lib.hasSuffix, this]
theorem pieces_of (J : List UInt8) : pieces (123 :: (J ++ [125])) = cutB 44 J := by
  unfold pieces
  rw [trimP, trimS', split_cut]

/-! Segments between marks. -/

def isMark (c : UInt8) : Bool := c == 123 || c == 44 || c == 125
def noMark (p : List UInt8) : Prop := ∀ c ∈ p, isMark c = false

theorem seg_eq : ∀ {x p : List UInt8} {d d' : UInt8} {b b' : List UInt8}, noMark x → noMark p → isMark d = true → isMark d' = true → x ++ d :: b = p ++ d' :: b' → x = p
  | [], [], _, _, _, _, _, _, _, _, _ => rfl
  | [], c :: p, d, d', b, b', _, hp, hd, _, e => by
    simp only [List.nil_append, List.cons_append, List.cons.injEq] at e
    have := hp c (by simp)
    rw [← e.1, hd] at this
    cases this
  | c :: x, [], d, d', b, b', hx, _, _, hd, e => by
    simp only [List.nil_append, List.cons_append, List.cons.injEq] at e
    have := hx c (by simp)
    rw [e.1, hd] at this
    cases this
  | c :: x, c' :: p, d, d', b, b', hx, hp, hd, hd', e => by
    simp only [List.cons_append, List.cons.injEq] at e
    obtain ⟨rfl, e⟩ := e
    rw [seg_eq (fun y hy => hx y (by simp [hy])) (fun y hy => hp y (by simp [hy])) hd hd' e]
theorem seg_in : ∀ {p a : List UInt8} {d : UInt8} {y z : List UInt8}, noMark p → isMark d = true → a ++ d :: y = p ++ z → ∃ a', a = p ++ a' ∧ a' ++ d :: y = z
  | [], a, d, y, z, _, _, e => ⟨a, rfl, e⟩
  | c :: p, [], d, y, z, hp, hd, e => by
    simp only [List.nil_append, List.cons_append, List.cons.injEq] at e
    have := hp c (by simp)
    rw [← e.1, hd] at this
    cases this
  | c :: p, c' :: a, d, y, z, hp, hd, e => by
    simp only [List.cons_append, List.cons.injEq] at e
    obtain ⟨rfl, e⟩ := e
    obtain ⟨a', rfl, h⟩ := seg_in (fun y hy => hp y (by simp [hy])) hd e
    exact ⟨a', rfl, h⟩

theorem seg_mem : ∀ {P : List (List UInt8)} {d0 : UInt8} {a x b : List UInt8} {d1 d2 : UInt8}, (∀ p ∈ P, noMark p) → noMark x → x ≠ [] → isMark d1 = true → isMark d2 = true →
    d0 :: (Lib.join P [44] ++ [125]) = a ++ d1 :: (x ++ d2 :: b) → x ∈ P
  | [], d0, a, x, b, d1, d2, _, _, hne, _, _, e => by
    have := congrArg List.length e
    simp [Lib.join_nil] at this
    cases x with
    | nil => exact absurd rfl hne
    | cons _ _ => simp at this; omega
  | [p], d0, a, x, b, d1, d2, hP, hx, hne, h1, h2, e => by
    rw [Lib.join_one] at e
    cases a with
    | nil =>
      simp only [List.nil_append, List.cons.injEq] at e
      rw [seg_eq hx (hP p (by simp)) h2 (d' := 125) (b' := []) rfl e.2.symm]
      simp
    | cons a0 a' =>
      simp only [List.cons_append, List.cons.injEq] at e
      obtain ⟨a'', rfl, h⟩ := seg_in (hP p (by simp)) h1 e.2.symm
      have := congrArg List.length h
      simp only [List.length_append, List.length_cons, List.length_nil] at this
      omega
  | p :: q :: r, d0, a, x, b, d1, d2, hP, hx, hne, h1, h2, e => by
    rw [join_two] at e
    cases a with
    | nil =>
      simp only [List.nil_append, List.cons.injEq, List.append_assoc, List.cons_append] at e
      rw [seg_eq hx (hP p (by simp)) h2 (d' := 44) rfl e.2.symm]
      simp
    | cons a0 a' =>
      simp only [List.cons_append, List.cons.injEq, List.append_assoc] at e
      obtain ⟨a'', rfl, h⟩ := seg_in (hP p (by simp)) h1 e.2.symm
      exact List.mem_cons_of_mem _ (seg_mem (fun y hy => hP y (List.mem_cons_of_mem _ hy)) hx hne h1 h2 h.symm)

theorem mem_seg : ∀ {P : List (List UInt8)} {d0 : UInt8} {x : List UInt8}, d0 = 123 ∨ d0 = 44 → x ∈ P → ∃ a b d1 d2, (d1 = 123 ∨ d1 = 44) ∧ (d2 = 44 ∨ d2 = 125) ∧ d0 :: (Lib.join P [44] ++ [125]) = a ++ d1 :: (x ++ d2 :: b)
  | [], d0, x, _, h => by simp at h
  | [p], d0, x, hd, h => by
    simp at h
    subst h
    exact ⟨[], [], d0, 125, hd, .inr rfl, by rw [Lib.join_one]; rfl⟩
  | p :: q :: r, d0, x, hd, h => by
    rw [join_two]
    rcases List.mem_cons.1 h with rfl | h
    · exact ⟨[], Lib.join (q :: r) [44] ++ [125], d0, 44, hd, .inl rfl, by simp⟩
    · obtain ⟨a, b, d1, d2, h1, h2, e⟩ := mem_seg (d0 := 44) (.inr rfl) h
      exact ⟨d0 :: (p ++ a), b, d1, d2, h1, h2, by simp [List.append_assoc, ← e]⟩

end Go.Proofs.YtnkafagfkblfeaaDoor

namespace Go.Proofs.YtnkafagfkblfeaaDoor
open Go Sz
set_option linter.unusedSimpArgs false

/-! A label's text, read. No program here. -/

theorem idx_get : ∀ {n : List (List UInt8)} {s : List UInt8} {i : Nat}, n.Nodup → n[i]? = some s → idx s n = some i
  | [], s, i, _, h => by simp at h
  | x :: r, s, 0, _, h => by
    simp at h
    subst h
    simp [idx]
  | x :: r, s, i + 1, hn, h => by
    simp at h
    have hs : s ∈ r := List.mem_of_getElem? h
    have hne : s ≠ x := fun e => (List.nodup_cons.1 hn).1 (e ▸ hs)
    have := idx_get (List.nodup_cons.1 hn).2 h
    simp [idx, hne, this]
theorem idx_at : ∀ {n : List (List UInt8)} {s : List UInt8} {i : Nat}, idx s n = some i → n[i]? = some s
  | [], s, i, h => by simp [idx] at h
  | x :: r, s, i, h => by
    unfold idx at h
    split at h
    · rename_i e
      cases h
      simp only [beq_iff_eq] at e
      simp [e]
    · obtain ⟨j, hj, rfl⟩ := Option.map_eq_some_iff.1 h
      simpa using idx_at hj
theorem idx_none_iff {s : List UInt8} : ∀ {l : List (List UInt8)}, (idx s l).isSome = true ↔ s ∈ l
  | [] => by simp [idx]
  | x :: r => by
    have ih := idx_none_iff (s := s) (l := r)
    unfold idx
    by_cases e : s = x
    · simp [e]
    · have : (s == x) = false := by simpa using e
      rw [this]
      simp [e, ih]

theorem goodP_nodup : ∀ {post pre : List (List UInt8)}, goodP pre post = true → post.Nodup ∧ ∀ s ∈ post, s ∉ pre
  | [], _, _ => by simp
  | t :: r, pre, hg => by
    simp only [goodP, Bool.and_eq_true] at hg
    obtain ⟨⟨_, h1⟩, h2⟩ := hg
    obtain ⟨i1, i2⟩ := goodP_nodup h2
    have h3 : t ∉ pre := fun h => by
      rw [idx_none_iff.2 h] at h1
      cases h1
    refine ⟨List.nodup_cons.2 ⟨fun h => ?_, i1⟩, fun s hs => ?_⟩
    · exact i2 t h (by simp)
    · rcases List.mem_cons.1 hs with rfl | hs
      · exact h3
      · exact fun h => i2 s hs (by simp [h])
theorem goodP_of : ∀ {post pre : List (List UInt8)}, (∀ s ∈ post, nameK s = true) → post.Nodup → (∀ s ∈ post, s ∉ pre) → goodP pre post = true
  | [], _, _, _, _ => rfl
  | t :: r, pre, h1, h2, h3 => by
    obtain ⟨d1, d2⟩ := List.nodup_cons.1 h2
    simp only [goodP, Bool.and_eq_true]
    refine ⟨⟨h1 t (by simp), ?_⟩, goodP_of (fun s hs => h1 s (by simp [hs])) d2 fun s hs => ?_⟩
    · cases hi : (idx t pre).isSome with
      | false => rfl
      | true => exact absurd (idx_none_iff.1 hi) (h3 t (by simp))
    · have := h3 s (by simp [hs])
      simp only [List.mem_append, List.mem_singleton, not_or]
      exact ⟨this, fun e => d1 (e ▸ hs)⟩
theorem goodN_nodup {n : List (List UInt8)} (h : goodN n = true) : n.Nodup := by
  unfold goodN at h
  simp only [Bool.and_eq_true] at h
  exact (goodP_nodup h.2).1
theorem goodN_names {n : List (List UInt8)} (h : goodN n = true) : ∀ s ∈ n, nameK s = true := by
  unfold goodN at h
  simp only [Bool.and_eq_true] at h
  exact goodP_name n [] h.2

theorem pickL_iff (x : BitVec 64) (s : List UInt8) : ∀ (l : List (List UInt8)) (i : Nat), s ∈ pickL x i l ↔ ∃ j, l[j]? = some s ∧ x.getLsbD (i + j) = true
  | [], i => by simp [pickL]
  | t :: r, i => by
    have ih := pickL_iff x s r (i + 1)
    unfold pickL
    have key : (∃ j, (t :: r)[j]? = some s ∧ x.getLsbD (i + j) = true) ↔ (t = s ∧ x.getLsbD i = true) ∨ ∃ j, r[j]? = some s ∧ x.getLsbD (i + 1 + j) = true := by
      constructor
      · rintro ⟨j, h1, h2⟩
        cases j with
        | zero => simp at h1; exact .inl ⟨h1, h2⟩
        | succ j => simp at h1; exact .inr ⟨j, h1, by rw [show i + 1 + j = i + (j + 1) by omega]; exact h2⟩
      · rintro (⟨h1, h2⟩ | ⟨j, h1, h2⟩)
        · exact ⟨0, by simp [h1], h2⟩
        · exact ⟨j + 1, by simpa using h1, by rw [show i + (j + 1) = i + 1 + j by omega]; exact h2⟩
    rw [key]
    split
    · rename_i hx
      rw [List.mem_cons, ih]
      constructor
      · rintro (h | h)
        · exact .inl ⟨h.symm, hx⟩
        · exact .inr h
      · rintro (⟨h, _⟩ | h)
        · exact .inl h.symm
        · exact .inr h
    · rename_i hx
      rw [ih]
      constructor
      · exact .inr
      · rintro (⟨_, h⟩ | h)
        · exact absurd h hx
        · exact h

theorem one_bit (k i : Nat) (hi : i < 64) : (1#64 <<< k).getLsbD i = decide (i = k) := by
  rw [BitVec.getLsbD_shiftLeft, BitVec.getLsbD_one]
  by_cases h : i = k
  · subst h; simp [hi]
  · by_cases h2 : i < k
    · simp [h, h2]
    · have : ¬ (i - k = 0) := by omega
      simp [h, this]

theorem parseL_bit (n : List (List UInt8)) : ∀ (ps : List (List UInt8)) (x : BitVec 64) (i : Nat), i < 64 → (parseL n x ps).getLsbD i = (x.getLsbD i || ps.any fun p => idx p n == some i)
  | [], x, i, _ => by simp [parseL]
  | p :: r, x, i, hi => by
    unfold parseL
    rw [parseL_bit n r _ i hi, List.any_cons]
    cases hp : idx p n with
    | none => simp
    | some k =>
      dsimp only
      rw [BitVec.getLsbD_or, one_bit k i hi]
      have : (some k == some i) = decide (i = k) := by
        rw [Bool.eq_iff_iff, beq_iff_eq, decide_eq_true_eq, Option.some.injEq]
        exact eq_comm
      rw [this, Bool.or_assoc]

theorem top_bit (n : List (List UInt8)) (hg : goodN n = true) (i : Nat) : (topK n).getLsbD i = decide (i < n.length) := by
  obtain ⟨g1, g2⟩ := goodN_len hg
  unfold topK
  rw [if_pos hg, BitVec.getLsbD_ushiftRight, BitVec.getLsbD_allOnes]
  rw [decide_eq_decide]
  omega
theorem fits_bit {n : List (List UInt8)} {x : BitVec 64} (h : fitsK n x = true) (i : Nat) (hx : x.getLsbD i = true) : i < n.length := by
  unfold fitsK at h
  simp only [Bool.and_eq_true] at h
  have := (leqK_iff _ _).1 h.2 i hx
  rw [top_bit n h.1] at this
  simpa using this
theorem fits_of {n : List (List UInt8)} {x : BitVec 64} (hg : goodN n = true) (h : ∀ i, x.getLsbD i = true → i < n.length) : fitsK n x = true := by
  unfold fitsK
  rw [hg, Bool.true_and, leqK_iff]
  intro i hi
  rw [top_bit n hg]
  simpa using h i hi

theorem dw_all {p : UInt8 → Bool} : ∀ {l : List UInt8}, (∀ c ∈ l.dropWhile p, p c = true) → ∀ c ∈ l, p c = true
  | [], _, c, h => by simp at h
  | a :: r, h, c, hc => by
    by_cases ha : p a = true
    · rw [List.dropWhile_cons_of_pos ha] at h
      rcases List.mem_cons.1 hc with rfl | hc
      · exact ha
      · exact dw_all h c hc
    · rw [List.dropWhile_cons_of_neg ha] at h
      exact absurd (h a (by simp)) ha
theorem dw_nil {p : UInt8 → Bool} : ∀ {l : List UInt8}, l.dropWhile p = [] ↔ ∀ c ∈ l, p c = true
  | [] => by simp
  | a :: r => by
    by_cases ha : p a = true
    · rw [List.dropWhile_cons_of_pos ha, dw_nil]
      simp [ha]
    · rw [List.dropWhile_cons_of_neg ha]
      simp [ha]
theorem trimC_nil (s : List UInt8) : trimC s = [] ↔ ∀ c ∈ s, cutset.contains c = true := by
  unfold trimC
  rw [dw_nil]
  constructor
  · intro h c hc
    exact dw_all (p := cutset.contains) (l := s.reverse) (fun c hc => h c (List.mem_reverse.2 hc)) c (List.mem_reverse.2 hc)
  · intro h c hc
    have : s.reverse.dropWhile (cutset.contains ·) = [] := dw_nil.2 fun c hc => h c (by simpa using hc)
    rw [this] at hc
    simp at hc

def smallC (c : UInt8) : Bool := decide (97 ≤ c.toNat) && decide (c.toNat ≤ 122)
def digitC (c : UInt8) : Bool := decide (48 ≤ c.toNat) && decide (c.toNat ≤ 57)
def restC (c : UInt8) : Bool := smallC c || digitC c || decide (c.toNat = 95)
theorem cut_all : ((List.range 256).all fun i => cutset.contains (UInt8.ofNat i) == restC (UInt8.ofNat i)) = true := by kernel_rfl
theorem cut_eq (c : UInt8) : cutset.contains c = restC c := by
  have := List.all_eq_true.1 cut_all c.toNat (List.mem_range.2 c.toNat_lt)
  simpa using this

def refName : List UInt8 → Bool
  | [] => false
  | c :: r => decide (r.length < 16) && smallC c && r.all restC
theorem nameK_eq (s : List UInt8) : nameK s = refName s := by
  cases s with
  | nil => rfl
  | cons c r =>
    unfold nameK refName
    rw [Bool.eq_iff_iff]
    simp only [Bool.and_eq_true, decide_eq_true_eq, beq_iff_eq, trimC_nil, List.all_eq_true]
    constructor
    · rintro ⟨⟨⟨h1, h2⟩, h3⟩, h4⟩
      refine ⟨⟨h1, by simp [smallC, h2, h3]⟩, fun x hx => ?_⟩
      rw [← cut_eq]
      exact h4 x (by simp [hx])
    · rintro ⟨⟨h1, h2⟩, h3⟩
      have h2' := h2
      simp only [smallC, Bool.and_eq_true, decide_eq_true_eq] at h2
      refine ⟨⟨⟨h1, h2.1⟩, h2.2⟩, fun x hx => ?_⟩
      rw [cut_eq]
      rcases List.mem_cons.1 hx with rfl | hx
      · simp [restC, h2']
      · exact h3 x hx
theorem cut_mark : (cutset.all fun c => !isMark c) = true := by kernel_rfl
theorem name_noMark {s : List UInt8} (h : nameK s = true) : noMark s := by
  cases s with
  | nil => intro c hc; simp at hc
  | cons a r =>
    intro c hc
    unfold nameK at h
    simp only [Bool.and_eq_true, beq_iff_eq, trimC_nil] at h
    have h2 := h.2 c hc
    have := List.all_eq_true.1 cut_mark c (by simpa using h2)
    simpa using this
theorem name_ne {s : List UInt8} (h : nameK s = true) : s ≠ [] := fun e => by subst e; cases h

/-- A label's text, with its brackets. -/
def braces (n : List (List UInt8)) (x : BitVec 64) : List UInt8 := 123 :: (Lib.join (pickL x 0 n) [44] ++ [125])

theorem parseX_braces {n : List (List UInt8)} {x : BitVec 64} (hf : fitsK n x = true) : parseX n (braces n x) = x := by
  have hg : goodN n = true := by
    unfold fitsK at hf
    simp only [Bool.and_eq_true] at hf
    exact hf.1
  have hlen := (goodN_len hg).2
  unfold parseX braces
  rw [pieces_of]
  apply BitVec.eq_of_getLsbD_eq
  intro i hi
  rw [parseL_bit n _ _ i hi]
  simp only [BitVec.getLsbD_zero, Bool.false_or]
  have hP : ∀ p ∈ pickL x 0 n, (44 : UInt8) ∉ p := fun p hp h44 => by
    have := name_noMark (goodN_names hg p (pickL_mem x n 0 p hp)) 44 h44
    cases this
  rw [Bool.eq_iff_iff, List.any_eq_true]
  by_cases hne : pickL x 0 n = []
  · rw [hne, Lib.join_nil]
    constructor
    · rintro ⟨p, hp, h⟩
      simp [cutB] at hp
      subst hp
      simp only [beq_iff_eq] at h
      have := idx_at h
      exact absurd rfl (name_ne (goodN_names hg _ (List.mem_of_getElem? this)))
    · intro h
      have hin := fits_bit hf i h
      have : n[i] ∈ pickL x 0 n := (pickL_iff x _ n 0).2 ⟨i, by simp [hin], by simpa using h⟩
      rw [hne] at this
      simp at this
  · rw [cutB_join hne hP]
    constructor
    · rintro ⟨p, hp, h⟩
      simp only [beq_iff_eq] at h
      obtain ⟨j, h1, h2⟩ := (pickL_iff x p n 0).1 hp
      have := idx_get (goodN_nodup hg) h1
      rw [h] at this
      cases this
      simpa using h2
    · intro h
      have hin := fits_bit hf i h
      refine ⟨n[i], (pickL_iff x _ n 0).2 ⟨i, by simp [hin], by simpa using h⟩, ?_⟩
      rw [idx_get (goodN_nodup hg) (i := i) (by simp [hin])]
      simp

/-! As the reference reads it. -/

/-- Is x between two marks somewhere? -/
def segAt (x s : List UInt8) (k : Nat) : Bool :=
  decide (1 ≤ k) && decide (k + x.length < s.length) && ((s.drop k).take x.length == x) && (s.getD (k - 1) 0 == 123 || s.getD (k - 1) 0 == 44) && (s.getD (k + x.length) 0 == 44 || s.getD (k + x.length) 0 == 125)
def segIn (x s : List UInt8) : Bool := (List.range s.length).any (segAt x s)
theorem segIn_iff (x s : List UInt8) : segIn x s = true ↔ ∃ a b d1 d2, (d1 = 123 ∨ d1 = 44) ∧ (d2 = 44 ∨ d2 = 125) ∧ s = a ++ d1 :: (x ++ d2 :: b) := by
  unfold segIn
  rw [List.any_eq_true]
  constructor
  · rintro ⟨k, hk, h⟩
    unfold segAt at h
    simp only [Bool.and_eq_true, decide_eq_true_eq, beq_iff_eq, Bool.or_eq_true] at h
    obtain ⟨⟨⟨⟨h1, h2⟩, h3⟩, h4⟩, h5⟩ := h
    have g1 : k - 1 < s.length := by omega
    have e1 : s = s.take (k - 1) ++ s.drop (k - 1) := (List.take_append_drop _ _).symm
    have e2 : s.drop (k - 1) = s.getD (k - 1) 0 :: s.drop k := by
      rw [List.drop_eq_getElem_cons g1, show k - 1 + 1 = k by omega]
      simp [g1]
    have e3 : s.drop k = (s.drop k).take x.length ++ (s.drop k).drop x.length := (List.take_append_drop _ _).symm
    have e4 : (s.drop k).drop x.length = s.getD (k + x.length) 0 :: s.drop (k + x.length + 1) := by
      rw [List.drop_drop, List.drop_eq_getElem_cons h2]
      simp [h2]
    refine ⟨s.take (k - 1), s.drop (k + x.length + 1), s.getD (k - 1) 0, s.getD (k + x.length) 0, h4, h5, ?_⟩
    rw [← e4]
    conv => lhs; rw [e1, e2, e3, h3]
  · rintro ⟨a, b, d1, d2, h1, h2, rfl⟩
    refine ⟨a.length + 1, List.mem_range.2 (by simp; omega), ?_⟩
    unfold segAt
    simp only [Bool.and_eq_true, decide_eq_true_eq, beq_iff_eq, Bool.or_eq_true]
    refine ⟨⟨⟨⟨by omega, by simp; omega⟩, ?_⟩, ?_⟩, ?_⟩
    · rw [show (a ++ d1 :: (x ++ d2 :: b)).drop (a.length + 1) = x ++ d2 :: b by
          rw [← List.drop_drop, List.drop_left]
          rfl]
      simp
    · simpa using h1
    · have : (a ++ d1 :: (x ++ d2 :: b)).getD (a.length + 1 + x.length) 0 = d2 := by
        rw [List.getD_eq_getElem?_getD, List.getElem?_append_right (by omega), show a.length + 1 + x.length - a.length = x.length + 1 by omega, List.getElem?_cons_succ, List.getElem?_append_right (by omega)]
        simp
      rw [this]
      exact h2

def refX (n : List (List UInt8)) (s : List UInt8) : Nat → List (List UInt8) → BitVec 64 → BitVec 64
  | _, [], x => x
  | i, p :: r, x => refX n s (i + 1) r (if segIn p s then x ||| (1#64 <<< i) else x)
theorem refX_bit (n : List (List UInt8)) (s : List UInt8) : ∀ (r : List (List UInt8)) (k : Nat) (x : BitVec 64) (i : Nat), i < 64 → (refX n s k r x).getLsbD i = (x.getLsbD i || (decide (k ≤ i) && (match r[i - k]? with | some p => segIn p s | none => false)))
  | [], k, x, i, _ => by simp [refX]
  | p :: r, k, x, i, hi => by
    unfold refX
    rw [refX_bit n s r (k + 1) _ i hi]
    by_cases h1 : i = k
    · subst h1
      have : ¬ (i + 1 ≤ i) := by omega
      simp only [Nat.le_refl, decide_true, Bool.true_and, Nat.sub_self, List.getElem?_cons_zero, this, decide_false, Bool.false_and, Bool.or_false]
      split
      · rename_i hs
        rw [BitVec.getLsbD_or, one_bit i i hi, hs]
        simp
      · rename_i hs
        simp only [Bool.not_eq_true] at hs
        rw [hs]
        simp
    · have e : (if segIn p s then x ||| (1#64 <<< k) else x).getLsbD i = x.getLsbD i := by
        split
        · rw [BitVec.getLsbD_or, one_bit k i hi]
          simp [h1]
        · rfl
      rw [e]
      by_cases h2 : k ≤ i
      · have h3 : k + 1 ≤ i := by omega
        have e2 : i - k = (i - (k + 1)) + 1 := by omega
        simp only [h2, h3, decide_true, Bool.true_and]
        rw [e2, List.getElem?_cons_succ]
      · have h3 : ¬ (k + 1 ≤ i) := by omega
        simp [h2, h3]

theorem refX_braces {n : List (List UInt8)} {x : BitVec 64} (hf : fitsK n x = true) : refX n (braces n x) 0 n 0#64 = x := by
  have hg : goodN n = true := by
    unfold fitsK at hf
    simp only [Bool.and_eq_true] at hf
    exact hf.1
  apply BitVec.eq_of_getLsbD_eq
  intro i hi
  rw [refX_bit n _ n 0 0#64 i hi]
  simp only [BitVec.getLsbD_zero, Bool.false_or, Nat.zero_le, decide_true, Bool.true_and, Nat.sub_zero]
  have hP : ∀ p ∈ pickL x 0 n, noMark p := fun p hp => name_noMark (goodN_names hg p (pickL_mem x n 0 p hp))
  cases hn : n[i]? with
  | none =>
    cases hx : x.getLsbD i with
    | false => rfl
    | true =>
      have := fits_bit hf i hx
      rw [List.getElem?_eq_none_iff] at hn
      omega
  | some p =>
    have hk := goodN_names hg p (List.mem_of_getElem? hn)
    dsimp only
    rw [Bool.eq_iff_iff, segIn_iff]
    have hin : p ∈ pickL x 0 n ↔ x.getLsbD i = true := by
      rw [pickL_iff]
      constructor
      · rintro ⟨j, h1, h2⟩
        have e1 := idx_get (goodN_nodup hg) h1
        have e2 := idx_get (goodN_nodup hg) hn
        rw [e1] at e2
        cases e2
        simpa using h2
      · intro h
        exact ⟨i, hn, by simpa using h⟩
    rw [← hin]
    constructor
    · rintro ⟨a, b, d1, d2, h1, h2, e⟩
      refine seg_mem hP (name_noMark hk) (name_ne hk) (d1 := d1) (d2 := d2) ?_ ?_ e
      · rcases h1 with rfl | rfl <;> rfl
      · rcases h2 with rfl | rfl <;> rfl
    · intro h
      exact mem_seg (.inl rfl) h

theorem textK_eq (n : List (List UInt8)) (x : BitVec 64) : textK n x = if fitsK n x then braces n x else [] := by
  unfold textK braces
  split <;> simp

/-- What the reference reads. -/
def refParse (n : List (List UInt8)) (s : List UInt8) : BitVec 64 × Bool :=
  if goodN n && (textK n (refX n s 0 n 0#64) == s) && decide (s ≠ []) then (refX n s 0 n 0#64, true) else (0#64, false)
theorem parse_ne {n : List (List UInt8)} (hg : goodN n = true) : textK n (parseX n []) ≠ [] := by
  have : parseX n [] = 0#64 := by
    apply BitVec.eq_of_getLsbD_eq
    intro i hi
    unfold parseX
    rw [parseL_bit n _ _ i hi]
    have hp : pieces [] = [[]] := rfl
    rw [hp]
    simp only [BitVec.getLsbD_zero, Bool.false_or, List.any_cons, List.any_nil, Bool.or_false]
    cases h : idx [] n with
    | none => rfl
    | some k =>
      have := idx_at h
      exact absurd rfl (name_ne (goodN_names hg _ (List.mem_of_getElem? this)))
  rw [this, textK_eq, if_pos (fits_of hg fun i hi => by simp at hi)]
  simp [braces]
theorem parse_same (n : List (List UInt8)) (s : List UInt8) : parseK n s = refParse n s := by
  unfold parseK refParse
  cases hg : goodN n with
  | false => rfl
  | true =>
    simp only [Bool.true_and]
    by_cases h1 : textK n (parseX n s) = s
    · have hne : s ≠ [] := fun e => by
        subst e
        exact parse_ne hg h1
      have hf : fitsK n (parseX n s) = true := by
        cases hf : fitsK n (parseX n s) with
        | true => rfl
        | false =>
          rw [textK_eq, hf] at h1
          exact absurd h1.symm hne
      have hs : s = braces n (parseX n s) := by
        rw [textK_eq, if_pos hf] at h1
        exact h1.symm
      have hx : refX n s 0 n 0#64 = parseX n s := by
        have := refX_braces hf
        rw [← hs] at this
        exact this
      rw [hx]
      simp [h1, hne]
    · have h2 : ¬ (textK n (refX n s 0 n 0#64) = s ∧ s ≠ []) := fun ⟨h2, hne⟩ => by
        have hf : fitsK n (refX n s 0 n 0#64) = true := by
          cases hf : fitsK n (refX n s 0 n 0#64) with
          | true => rfl
          | false =>
            rw [textK_eq, hf] at h2
            exact absurd h2.symm hne
        have hs : s = braces n (refX n s 0 n 0#64) := by
          rw [textK_eq, if_pos hf] at h2
          exact h2.symm
        have hx : parseX n s = refX n s 0 n 0#64 := by
          have := parseX_braces hf
          rw [← hs] at this
          exact this
        rw [hx] at h1
        exact h1 h2
      have e1 : (textK n (parseX n s) == s) = false := by simpa using h1
      have e2 : (textK n (refX n s 0 n 0#64) == s && decide (s ≠ [])) = false := by
        rw [Bool.eq_false_iff]
        intro h
        simp only [Bool.and_eq_true, beq_iff_eq, decide_eq_true_eq] at h
        exact h2 h
      rw [e1, e2]
      rfl

end Go.Proofs.YtnkafagfkblfeaaDoor

namespace Go.Proofs.YtnkafagfkblfeaaDoor
open Go Sz
set_option linter.unusedSimpArgs false
attribute [local simp] seqF condF stepF callF callvF guardF trF step1F call1F callv1F guard1F seqK_n seqK_e seqK_r condK_t condK_f stK_s gdK_t gdK_f cvK_f trK_s trK1_s stK1_s gdK1_t gdK1_f cvK1_f evCode_skip evCode_reg evCode_dreg evCode_block evCode_exit evCode_ret evSteps_nil evTr_nil ldId chkTr
 evOp_mov evOp_pick evOp_box evOp_bld evOp_bsl evOp_ld evOp_st evOp_nck evOp_bin evOp_beq evOp_ceq evOp_peq evOp_not evOp_neg evOp_xor evOp_cvi evOp_cvss evOp_cvis evOp_cvsb evOp_mki evOp_mkf evOp_mkm evOp_mks evOp_sls evOp_slv evOp_fad evOp_fld1 evOp_fldn evOp_iad evOp_ixs evOp_ext evOp_lens evOp_lenv evOp_mx evOp_mn evOp_app evOp_bs0 evOp_snil evOp_clr
 FM_ev ev_const FM_put put_none FM_unwanted lk_hit lk_miss lk_nil FM_clear FM_clearB trues pick gc_FM gc_FM0 incK snds renM allM evB_fm enumA cells_agg cells_bool cells_int cells_str cells_nilp cells_ptr cells_ip cells_nils cells_sl cells_vec cells_nilm cells_map cells_nilfn cells_fn cells_nili cells_iface ldA row_mk get_mk set_mk mark_mk alloc_mk' trunc_mk binA resAll_nil resAll_cons FM_resT FM_resC oneOf finish_mk frz_undef frz_bool frz_int frz_str frz_nilp frz_ptr frz_ip frz_nils frz_sl frz_nilm frz_map frz_nilfn frz_fn frz_nili frz_iface frz_old frz_agg frz_tuple frzL_nil frzL_cons kill_nil kill_cons chunk_zero chunk_succ AV.refs AV.refsL evCall_spec lookF_nil lookF_cons callS_nil callS_oneF spK_s spK_n frK_s frK_n clones cloneS_f cloneS_nils cloneS_sl0 fillA putAt_nil putAt_cons evCode_loop bgn_mk aft_mk keeps objsAt ren renId AV.top lowObj h0 succ_le_f oldK oldAll oldLow oldRen lowCells_row lowCells_map lowCells_dead objCells topLow renObj elemsA_nils elemsA_vec elemsA_str evOp_die evOp_lkp evOp_cvbs lookA scal_bool scal_int scal_str scal_nils scal_sl scal_tuple scal_agg scal1_bool scal1_int scal1_str scal1_nils scal1_sl scal1_agg
attribute [local simp low] frz_vecR

theorem low6 (x : BitVec 64) : (x &&& 63#64).toNat < 64 := by
  rw [BitVec.toNat_and]
  exact Nat.lt_of_le_of_lt Nat.and_le_right (by decide)
theorem good6 : goodN n6 = true := by kernel_rfl
theorem fits6 {x : BitVec 64} (h : x.toNat < 64) : fitsK n6 x = true := fits_of good6 fun i hi => by
  show i < 6
  apply Classical.byContradiction
  intro hn
  have h1 : 2 ^ 6 ≤ 2 ^ i := Nat.pow_le_pow_right (by decide) (by omega)
  have h2 : x.toNat < 2 ^ i := by omega
  have h3 := Nat.testBit_lt_two_pow h2
  rw [BitVec.getLsbD, h3] at hi
  cases hi
theorem parse6 {x : BitVec 64} (h : x.toNat < 64) : parseK n6 (textK n6 x) = (x, true) := by
  have hf := fits6 h
  have e : textK n6 x = braces n6 x := by rw [textK_eq, if_pos hf]
  unfold parseK
  rw [e, parseX_braces hf, good6, e]
  simp
theorem text6_len {x : BitVec 64} (h : x.toNat < 64) : (textK n6 x).length ≤ 104 := by
  have hf := fits6 h
  rw [textK_eq, if_pos hf]
  have h1 := join_len 44 (pickL x 0 n6) fun s hs => nameK_len (goodN_names good6 s (pickL_mem x n6 0 s hs))
  have h2 := pickL_len x n6 0
  have h3 : n6.length = 6 := rfl
  simp only [braces, List.length_cons, List.length_append, List.length_nil]
  omega
theorem cutB_len (c : UInt8) : ∀ s : List UInt8, (cutB c s).length ≤ s.length + 1
  | [] => by simp [cutB]
  | b :: l => by
    have ih := cutB_len c l
    unfold cutB
    split
    · simp; omega
    · split
      · rename_i p r e
        rw [e] at ih
        simp at ih ⊢
        omega
      · simp
theorem parseC_of {s : List UInt8} (h : s.length ≤ 1000000) : parseC s := by
  have h1 := Lib.trimPrefix_le s [123]
  have h2 := Lib.trimSuffix_le (Lib.trimPrefix s [123]) [125]
  unfold parseC pieces maxStr
  rw [split_cut]
  have h3 := cutB_len 44 (Lib.trimSuffix (Lib.trimPrefix s [123]) [125])
  omega

theorem leqK_trans2 {x y z : BitVec 64} (h1 : leqK x z = true) (h2 : leqK y z = true) : leqK (joinK [x, y]) z = true := by
  rw [joinK_least]
  simp [belowK, or_eq_iff, h1, h2]
theorem meet_le1 (x y : BitVec 64) : leqK (x &&& y) x = true := by
  rw [leqK_iff]
  intro i hi
  rw [BitVec.getLsbD_and, Bool.and_eq_true] at hi
  exact hi.1
theorem meet_le2 (x y : BitVec 64) : leqK (x &&& y) y = true := by
  rw [leqK_iff]
  intro i hi
  rw [BitVec.getLsbD_and, Bool.and_eq_true] at hi
  exact hi.2
theorem le_meet {x y z : BitVec 64} (h1 : leqK z x = true) (h2 : leqK z y = true) : leqK z (x &&& y) = true := by
  rw [leqK_iff] at h1 h2 ⊢
  intro i hi
  rw [BitVec.getLsbD_and, h1 i hi, h2 i hi]
  rfl
theorem join3 (x y z : BitVec 64) : joinK [x, y, z] = joinK [z, joinK [x, y]] := by
  apply BitVec.eq_of_getLsbD_eq
  intro i _
  simp only [joinK_bit, List.any_cons, List.any_nil, Bool.or_false]
  cases x.getLsbD i <;> cases y.getLsbD i <;> cases z.getLsbD i <;> rfl

set_option maxRecDepth 100000 in
set_option maxHeartbeats 10000000 in
theorem labelLattice_prim (hT : KSpecOK Tryd.prog trimS) (a b c : BitVec 64) : PrimOK Tryd.prog 10 [labA a, labA b, labA c] (.bool true) := by
  refine prim_of (n := 100) (h' := h0) (envOf_ok (ss := [awakeS, labJoinS, meetS, textS, parseS, leqS, levelsS]) (by simp [awakeS_ok hT, labJoinS_ok, meetS_ok, textS_ok hT, parseS_ok hT, leqS_ok, levelsS_ok hT])) ?_ rfl rfl
  have h63 : (63 : Int) = labN 63#64 := rfl
  have e1 : bitsI .and .u64 (labN a) 63 = labN (a &&& 63#64) := by rw [h63, bits_and]
  have e2 : bitsI .and .u64 (labN b) 63 = labN (b &&& 63#64) := by rw [h63, bits_and]
  have e3 : bitsI .and .u64 (labN c) 63 = labN (c &&& 63#64) := by rw [h63, bits_and]
  have hx := low6 a
  have hy := low6 b
  have hz := low6 c
  generalize a &&& 63#64 = x at e1 hx
  generalize b &&& 63#64 = y at e2 hy
  generalize c &&& 63#64 = z at e3 hz
  have t1 := textS_at (.sl [.str [97], .str [98], .str [99], .str [100], .str [101], .str [102]]) n6 x rfl
  have p1 := parseS_at (.sl [.str [97], .str [98], .str [99], .str [100], .str [101], .str [102]]) n6 (textK n6 x) rfl (parseC_of (by have := text6_len hx; omega))
  rw [parse6 hx] at p1
  have v1 := levelsS_at x hx
  have hj : ∀ l, l.length ≤ 3 → labJoinS.S [.sl (l.map labA)] = some (labA (joinK l)) := fun l hl => labJoinS_at _ l (decLabs_sl l) (by omega)
  have j1 := hj [x, y] (by simp)
  have j2 := hj [x, y, z] (by simp)
  have j3 := hj [z, joinK [x, y]] (by simp)
  rw [← join3] at j3
  have m1 := meetS_at x y
  have l1 := leqS_at x (joinK [x, y])
  have l2 := leqS_at y (joinK [x, y])
  have l3 := leqS_at x z
  have l4 := leqS_at y z
  have l5 := leqS_at (joinK [x, y]) z
  have l6 := leqS_at (x &&& y) x
  have l7 := leqS_at (x &&& y) y
  have l8 := leqS_at z x
  have l9 := leqS_at z y
  have l10 := leqS_at z (x &&& y)
  rw [joinK_above _ x (by simp)] at l1
  rw [joinK_above _ y (by simp)] at l2
  rw [meet_le1] at l6
  rw [meet_le2] at l7
  have h5 : AV.refsL ((levK x).map labA) = 0 := labs_refs _
  have lp := c10_loop 98 x y z (joinK [x, y]) [.row [labA x, labA y], .dead] 64 0 99 rfl (by omega)
  have z0 : labN (BitVec.ofNat 64 0) = 0 := rfl
  have z1 : filtK x 0 = [] := rfl
  rw [z0, z1] at lp
  simp only [List.map_cons, List.map_nil] at j1 j2 j3
  simp only [List.length_nil, c10_m0, show ((0 : Nat) : Int) = 0 from rfl] at lp
  have f1 : frz ⟨2, [.row [labA x, labA y], .row [.str [97], .str [98], .str [99], .str [100], .str [101], .str [102]]], 0, 0⟩ 0 8 (.vec 0 0 6 1 6) = some (.sl [.str [97], .str [98], .str [99], .str [100], .str [101], .str [102]], [0]) := rfl
  have f2 : frz ⟨2, [.row [labA x, labA y], .row [.str [97], .str [98], .str [99], .str [100], .str [101], .str [102]]], 0, 0⟩ 0 8 (.vec 1 0 2 1 2) = some (.sl [labA x, labA y], [1]) := rfl
  generalize hjv : joinK [x, y] = j at *
  generalize hmv : x &&& y = m at *
  have c1 : leqK x z = false ∨ (leqK x z = true ∧ leqK y z = false) ∨ (leqK x z = true ∧ leqK y z = true ∧ leqK j z = true) := by
    cases q1 : leqK x z <;> cases q2 : leqK y z <;> simp
    exact hjv ▸ leqK_trans2 q1 q2
  have c2 : leqK z x = false ∨ (leqK z x = true ∧ leqK z y = false) ∨ (leqK z x = true ∧ leqK z y = true ∧ leqK z m = true) := by
    cases q1 : leqK z x <;> cases q2 : leqK z y <;> simp
    exact hmv ▸ le_meet q1 q2
  rcases c1 with q1 | ⟨q1, q2⟩ | ⟨q1, q2, q3⟩ <;> rcases c2 with r1 | ⟨r1, r2⟩ | ⟨r1, r2, r3⟩
  all_goals
    rw [q1] at l3
    try rw [q2] at l4
    try rw [q3] at l5
    rw [r1] at l8
    try rw [r2] at l9
    try rw [r3] at l10
    simp (maxSteps := 10000000) [run10, c10, c10_m0, e1, e2, e3, t1, p1, v1, j1, j2, j3, m1, l1, l2, l3, l4, l5, l6, l7, l8, l9, l10, h5, lp, awakeS_f, awakeS_at, labJoinS_f, meetS_f, textS_f, parseS_f, leqS_f, levelsS_f]

end Go.Proofs.YtnkafagfkblfeaaDoor

namespace Go.Proofs.YtnkafagfkblfeaaDoor
open Go Sz
set_option linter.unusedSimpArgs false
attribute [local simp] evCode_skip evCode_reg evCode_dreg evCode_seq evCode_cond evCode_block evCode_exit evCode_ret evSteps_nil evSteps_op evSteps_opg evSteps_call evSteps_callg evSteps_callv evSteps_callvg evTr_nil evTr_cons evStep_op evStep_opg evStep_call evStep_callg evStep_callv evStep_callvg ldId chkTr
  evOp_mov evOp_pick evOp_box evOp_bld evOp_bsl evOp_ld evOp_st evOp_nck evOp_bin evOp_beq evOp_ceq evOp_peq evOp_not evOp_neg evOp_xor evOp_cvi evOp_cvss evOp_cvis evOp_cvsb evOp_mki evOp_mkf evOp_mkm evOp_mks evOp_sls evOp_slv evOp_fad evOp_fld1 evOp_fldn evOp_iad evOp_ixs evOp_ext evOp_lens evOp_lenv evOp_mx evOp_mn evOp_app evOp_bs0 evOp_snil evOp_clr
  FM_ev ev_const FM_put put_none FM_unwanted lk_hit lk_miss lk_nil FM_clear FM_clearB trues pick gc_FM gc_FM0 incK snds renM allM evB_fm enumA cells_agg cells_bool cells_int cells_str cells_nilp cells_ptr cells_ip cells_nils cells_sl cells_vec cells_nilm cells_map cells_nilfn cells_fn cells_nili cells_iface ldA row_mk get_mk set_mk mark_mk alloc_mk' trunc_mk binA resAll_nil resAll_cons FM_resT FM_resC oneOf finish_mk frz_undef frz_bool frz_int frz_str frz_nilp frz_ptr frz_ip frz_nils frz_sl frz_nilm frz_map frz_nilfn frz_fn frz_nili frz_iface frz_old frz_agg frz_tuple frzL_nil frzL_cons kill_nil kill_cons chunk_zero chunk_succ AV.refs AV.refsL evCall_spec lookF_nil lookF_cons callS_nil callS_one clones cloneS_f cloneS_nils cloneS_sl0 fillA putAt_nil putAt_cons evCode_loop bgn_mk aft_mk keeps objsAt ren renId AV.top lowObj h0 succ_le_f elemsA_nils elemsA_vec elemsA_str evOp_die evOp_lkp evOp_cvbs lookA scal_bool scal_int scal_str scal_nils scal_sl scal_tuple scal_agg scal1_bool scal1_int scal1_str scal1_nils scal1_sl scal1_agg

/-! The reference's functions. -/

def smallS : KSpec := ⟨58, fun | [.int .u8 n] => some (.bool (decide (97 ≤ n) && decide (n ≤ 122))) | _ => none⟩
theorem smallS_f : smallS.f = 58 := (rfl)
theorem smallS_at (c : UInt8) : smallS.S [.int .u8 (c.toNat : Int)] = some (.bool (smallC c)) := by
  unfold smallS smallC
  dsimp only
  rw [show decide ((97 : Int) ≤ (c.toNat : Int)) = decide (97 ≤ c.toNat) by rw [decide_eq_decide]; omega, show decide ((c.toNat : Int) ≤ 122) = decide (c.toNat ≤ 122) by rw [decide_eq_decide]; omega]
theorem smallS_ok : KSpecOK Tryd.prog smallS := fun args v hv => by
  unfold smallS at hv ⊢
  dsimp only at hv ⊢
  split at hv
  · rename_i n
    cases hv
    refine prim_of (n := 3) (h' := h0) (envOf_ok (ss := []) (by simp)) ?_ rfl rfl
    by_cases h1 : 97 ≤ n
    · simp [run58, c58, h1]
    · simp [run58, c58, h1]
  · cases hv

def digitS : KSpec := ⟨59, fun | [.int .u8 n] => some (.bool (decide (48 ≤ n) && decide (n ≤ 57))) | _ => none⟩
theorem digitS_f : digitS.f = 59 := (rfl)
theorem digitS_at (c : UInt8) : digitS.S [.int .u8 (c.toNat : Int)] = some (.bool (digitC c)) := by
  unfold digitS digitC
  dsimp only
  rw [show decide ((48 : Int) ≤ (c.toNat : Int)) = decide (48 ≤ c.toNat) by rw [decide_eq_decide]; omega, show decide ((c.toNat : Int) ≤ 57) = decide (c.toNat ≤ 57) by rw [decide_eq_decide]; omega]
theorem digitS_ok : KSpecOK Tryd.prog digitS := fun args v hv => by
  unfold digitS at hv ⊢
  dsimp only at hv ⊢
  split at hv
  · rename_i n
    cases hv
    refine prim_of (n := 3) (h' := h0) (envOf_ok (ss := []) (by simp)) ?_ rfl rfl
    by_cases h1 : 48 ≤ n
    · simp [run59, c59, h1]
    · simp [run59, c59, h1]
  · cases hv

theorem half_lab (x : BitVec 64) : IntKind.u64.wrap ((labN x).tdiv 2) = labN (x >>> 1) := by
  have h := x.isLt
  rw [IntKind.wrap_u64]
  unfold labN
  rw [BitVec.toNat_ushiftRight, Nat.shiftRight_eq_div_pow, Int.tdiv_eq_ediv_of_nonneg (by omega)]
  omega
theorem odd_lab (x : BitVec 64) : decide ((labN x).tmod 2 = 1) = x.getLsbD 0 := by
  unfold labN
  rw [BitVec.getLsbD, Nat.testBit_zero]
  rw [decide_eq_decide, Int.tmod_eq_emod_of_nonneg (by omega)]
  omega

theorem c62_loop (C : Nat → List AV → Heap → Option (AV × Heap)) (n : Nat) : ∀ (i m : Nat) (x : BitVec 64), i < m → i ≤ 100 →
    aft 0 0 (loopH (evCode C n c62_b0) c62_m0 0 m (c62_f0 (labA x) (.int .i64 i)) ⟨0, [], 0, 0⟩) = some (.exit 0, FM 14 [(0, labA (x >>> i))], ⟨0, [], 0, 0⟩)
  | 0, m + 1, x, _, _ => by
    simp [loopH_succ, c62_b0]
  | i + 1, m + 1, x, h, hi => by
    have ih := c62_loop C n i m (x >>> 1) (by omega) (by omega)
    have h1 : IntKind.i64.wrap (i : Int) = (i : Int) := by rw [wrap_i64 (by omega) (by omega)]
    have h2 : (0 : Int) < (i : Int) + 1 := by omega
    have h3 := half_lab x
    rw [show x >>> 1 >>> i = x >>> (i + 1) by rw [Nat.add_comm, BitVec.shiftRight_add]] at ih
    rw [loopH_succ]
    simp [c62_b0, c62_m0, h1, h2, h3]
    exact ih

def hasS : KSpec := ⟨62, fun | [y, .int .i64 n] => (match decLab y with | some x => if 0 ≤ n ∧ n ≤ 100 then some (.bool (x.getLsbD n.toNat)) else none | none => none) | _ => none⟩
theorem hasS_f : hasS.f = 62 := (rfl)
theorem hasS_at (x : BitVec 64) (i : Nat) (h : i ≤ 100) : hasS.S [.int .u64 (labN x), .int .i64 (i : Int)] = some (.bool (x.getLsbD i)) := by
  unfold hasS
  dsimp only
  rw [decLab_at]
  exact if_pos (by omega)
theorem hasS_ok : KSpecOK Tryd.prog hasS := fun args v hv => by
  unfold hasS at hv ⊢
  dsimp only at hv ⊢
  split at hv
  · rename_i y n
    split at hv
    · rename_i x hx
      split at hv
      · rename_i hn
        cases hv
        rw [decLab_inv hx]
        obtain ⟨i, rfl⟩ : ∃ i : Nat, n = (i : Int) := ⟨n.toNat, by omega⟩
        refine prim_of (n := 103) (h' := h0) (envOf_ok (ss := []) (by simp)) ?_ rfl rfl
        have h := c62_loop (evCall (envOf []) 102) 102 i 102 x (by omega) (by omega)
        have h2 := odd_lab (x >>> i)
        rw [BitVec.getLsbD_ushiftRight, Nat.add_zero] at h2
        simp only [c62_m0] at h
        simp [run62, c62, c62_m0, h, h2]
      · cases hv
    · cases hv
  · cases hv

/-! Names. -/

def allR : List UInt8 → Bool
  | [] => true
  | c :: r => restC c && allR r
theorem allR_eq : ∀ s : List UInt8, allR s = s.all restC
  | [] => rfl
  | c :: r => by rw [allR, List.all_cons, allR_eq r]
theorem u8_ne95 (c : UInt8) : decide ((c.toNat : Int) = 95) = decide (c.toNat = 95) := by rw [decide_eq_decide]; omega

theorem c31_loop0 (n : Nat) (l : List (List UInt8)) (s : List UInt8) (k : Nat) (hk : l[k]? = some s) (hs : s.length ≤ 100) : ∀ post pre m, s = pre ++ post → post.length < m →
    aft 0 0 (loopH (evCode (evCall (envOf [smallS, digitS]) (n + 1)) (n + 1) c31_b0) c31_m0 0 m (c31_f0 (.sl (l.map .str)) (.int .i64 k) (.int .i64 pre.length)) ⟨0, [], 0, 0⟩) =
      if allR post then some (.exit 2, FM 85 [(0, .sl (l.map .str)), (3, .int .i64 k)], ⟨0, [], 0, 0⟩) else some (.ret, FM 85 [(2, .bool false)], ⟨0, [], 0, 0⟩)
  | [], pre, m + 1, e, _ => by
    simp at e
    subst e
    have h5 : AV.refsL (l.map .str) = 0 := strs_refs l
    simp [loopH_succ, c31_b0, h5, hk, allR]
  | c :: post, pre, m + 1, e, hm => by
    have ih := c31_loop0 n l s k hk hs post (pre ++ [c]) m (by simp [e]) (by rw [List.length_cons] at hm; omega)
    have h1 : s[pre.length]? = some c := by rw [e]; simp
    have h3 : IntKind.i64.wrap ((pre.length : Int) + 1) = (pre.length : Int) + 1 := by
      rw [wrap_succ (by rw [e] at hs; simp at hs; omega)]; simp
    have h5 : AV.refsL (l.map .str) = 0 := strs_refs l
    have h6 : (pre.length : Int) < (s.length : Int) := by rw [e, List.length_append, List.length_cons]; omega
    have s1 := smallS_at c
    have d1 := digitS_at c
    have r1 : restC c = (smallC c || digitC c || decide (c.toNat = 95)) := rfl
    have q1 := u8_ne95 c
    simp only [List.length_append, List.length_cons, List.length_nil, Nat.zero_add, Int.natCast_add, Int.natCast_one] at ih
    rw [loopH_succ]
    cases hsm : smallC c with
    | true =>
      rw [hsm] at s1 r1
      simp [c31_b0, c31_m0, hk, h1, h3, h5, h6, s1, r1, allR, smallS_f, digitS_f]
      exact ih
    | false =>
      cases hd : digitC c with
      | true =>
        rw [hsm] at s1 r1
        rw [hd] at d1 r1
        simp [c31_b0, c31_m0, hk, h1, h3, h5, h6, s1, d1, r1, allR, smallS_f, digitS_f]
        exact ih
      | false =>
        rw [hsm] at s1 r1
        rw [hd] at d1 r1
        by_cases h95 : c.toNat = 95
        · have q1 : ((c.toNat : Int) = 95) = True := eq_true (by omega)
          rw [decide_eq_true h95] at r1
          simp [c31_b0, c31_m0, hk, h1, h3, h5, h6, s1, d1, r1, q1, allR, smallS_f, digitS_f]
          exact ih
        · have q1 : ((c.toNat : Int) = 95) = False := eq_false (by omega)
          rw [decide_eq_false h95] at r1
          simp [c31_b0, c31_m0, hk, h1, h3, h5, h6, s1, d1, r1, q1, allR, smallS_f, digitS_f]

theorem c31_loop1 (C : Nat → List AV → Heap → Option (AV × Heap)) (n : Nat) (l : List (List UInt8)) (hl : l.length ≤ 70) (s : List UInt8) (k : Nat) (hk : l[k]? = some s) : ∀ post pre m, l.take k = pre ++ post → post.length < m →
    aft 0 0 (loopH (evCode C n c31_b1) c31_m1 0 m (c31_f1 (.sl (l.map .str)) (.int .i64 k) (.int .i64 pre.length)) ⟨0, [], 0, 0⟩) =
      if (idx s post).isSome then some (.ret, FM 85 [(2, .bool false)], ⟨0, [], 0, 0⟩) else some (.exit 4, FM 85 [(0, .sl (l.map .str)), (3, .int .i64 k)], ⟨0, [], 0, 0⟩)
  | [], pre, m + 1, e, _ => by
    have hkl := (List.getElem?_eq_some_iff.1 hk).1
    have hp : pre.length = k := by
      have := congrArg List.length e
      simp at this
      omega
    have h5 : AV.refsL (l.map .str) = 0 := strs_refs l
    simp [loopH_succ, c31_b1, h5, hp, idx]
  | o :: post, pre, m + 1, e, hm => by
    have hkl := (List.getElem?_eq_some_iff.1 hk).1
    have ih := c31_loop1 C n l hl s k hk post (pre ++ [o]) m (by simp [e]) (by rw [List.length_cons] at hm; omega)
    have hlen : pre.length < k := by
      have := congrArg List.length e
      simp at this
      omega
    have h1 : l[pre.length]? = some o := by
      have : (l.take k)[pre.length]? = some o := by rw [e]; simp
      rw [List.getElem?_take_of_lt hlen] at this
      exact this
    have h3 : IntKind.i64.wrap ((pre.length : Int) + 1) = (pre.length : Int) + 1 := by
      rw [wrap_succ (by omega)]; simp
    have h5 : AV.refsL (l.map .str) = 0 := strs_refs l
    have h6 : (pre.length : Int) < (k : Int) := by omega
    simp only [List.length_append, List.length_cons, List.length_nil, Nat.zero_add, Int.natCast_add, Int.natCast_one] at ih
    rw [loopH_succ]
    cases ho : o == s with
    | true =>
      have : (s == o) = true := by simp at ho ⊢; exact ho.symm
      simp [c31_b1, c31_m1, hk, h1, h3, h5, h6, ho, idx, this]
    | false =>
      have : (s == o) = false := by simp at ho ⊢; exact fun h => ho h.symm
      simp [c31_b1, c31_m1, hk, h1, h3, h5, h6, ho, idx, this]
      exact ih

set_option maxRecDepth 100000 in
set_option maxHeartbeats 4000000 in
theorem c31_loop2 (n : Nat) (l : List (List UInt8)) (hl : l.length ≤ 70) : ∀ post pre m, l = pre ++ post → post.length < m →
    aft 0 0 (loopH (evCode (evCall (envOf [smallS, digitS]) (n + 102)) (n + 102) c31_b2) c31_m2 0 m (c31_f2 (.sl (l.map .str)) (.int .i64 pre.length)) ⟨0, [], 0, 0⟩) =
      if goodP pre post then some (.exit 0, FM 85 [(0, .sl (l.map .str))], ⟨0, [], 0, 0⟩) else some (.ret, FM 85 [(2, .bool false)], ⟨0, [], 0, 0⟩)
  | [], pre, m + 1, e, _ => by
    simp at e
    subst e
    have h5 : AV.refsL (l.map .str) = 0 := strs_refs l
    simp [loopH_succ, c31_b2, h5, goodP]
  | o :: post, pre, m + 1, e, hm => by
    have ih := c31_loop2 n l hl post (pre ++ [o]) m (by simp [e]) (by rw [List.length_cons] at hm; omega)
    have h1 : l[pre.length]? = some o := by rw [e]; simp
    have h3 : IntKind.i64.wrap ((pre.length : Int) + 1) = (pre.length : Int) + 1 := by
      rw [wrap_succ (by rw [e] at hl; simp at hl; omega)]; simp
    have h5 : AV.refsL (l.map .str) = 0 := strs_refs l
    have h6 : (pre.length : Int) < (l.length : Int) := by rw [e, List.length_append, List.length_cons]; omega
    have h7 : l.take pre.length = pre := by rw [e]; simp
    have hpl : pre.length ≤ 70 := by omega
    have g : goodP pre (o :: post) = (refName o && !(idx o pre).isSome && goodP (pre ++ [o]) post) := by
      rw [← nameK_eq]; rfl
    simp only [List.length_append, List.length_cons, List.length_nil, Nat.zero_add, Int.natCast_add, Int.natCast_one] at ih
    rw [loopH_succ, g]
    cases o with
    | nil => simp [c31_b2, c31_m2, h1, h3, h5, h6, refName]
    | cons c r =>
      by_cases h16 : (16 : Int) < (r.length : Int) + 1
      · have : ¬ (r.length < 16) := by omega
        have h16' : ¬ ((r.length : Int) + 1 < 1) := by omega
        simp [c31_b2, c31_m2, h1, h3, h5, h6, refName, h16, h16', this]
      · have h16a : r.length < 16 := by omega
        have h16' : ¬ ((r.length : Int) + 1 < 1) := by omega
        have s1 := smallS_at c
        cases hsm : smallC c with
        | false =>
          rw [hsm] at s1
          simp [c31_b2, c31_m2, h1, h3, h5, h6, refName, h16, h16', h16a, hsm, s1, smallS_f, digitS_f]
        | true =>
          rw [hsm] at s1
          have l0 := c31_loop0 (n + 101) l (c :: r) pre.length h1 (by simp; omega) r [c] (n + 102) rfl (by omega)
          have l1 := c31_loop1 (evCall (envOf [smallS, digitS]) (n + 102)) (n + 102) l hl (c :: r) pre.length h1 pre [] (n + 102) (by simp [h7]) (by omega)
          simp only [List.length_cons, List.length_nil, Nat.zero_add, show ((1 : Nat) : Int) = 1 from rfl, show ((0 : Nat) : Int) = 0 from rfl, c31_m0, c31_m1] at l0 l1
          have hra := allR_eq r
          cases hr : r.all restC with
          | false =>
            rw [hra, hr] at l0
            simp at l0
            simp [c31_b2, c31_m0, c31_m1, c31_m2, h1, h3, h5, h6, refName, h16, h16', h16a, hsm, s1, hr, l0, smallS_f, digitS_f]
          | true =>
            rw [hra, hr] at l0
            cases hi : (idx (c :: r) pre).isSome with
            | true =>
              rw [hi] at l1
              simp at l0 l1
              simp [c31_b2, c31_m0, c31_m1, c31_m2, h1, h3, h5, h6, refName, h16, h16', h16a, hsm, s1, hr, l0, l1, hi, smallS_f, digitS_f]
            | false =>
              rw [hi] at l1
              simp at l0 l1
              simp [c31_b2, c31_m0, c31_m1, c31_m2, h1, h3, h5, h6, refName, h16, h16', h16a, hsm, s1, hr, l0, l1, hi, smallS_f, digitS_f]
              exact ih

def goodRS : KSpec := ⟨31, fun | [x] => (match decStrs x with | some l => if l.length ≤ 70 then some (.bool (goodN l)) else none | none => none) | _ => none⟩
theorem goodRS_f : goodRS.f = 31 := (rfl)
theorem goodRS_at (x : AV) (l : List (List UInt8)) (hx : decStrs x = some l) (hl : l.length ≤ 70) : goodRS.S [x] = some (.bool (goodN l)) := by
  simp only [goodRS, hx, if_pos hl]
theorem goodRS_ok : KSpecOK Tryd.prog goodRS := fun args v hv => by
  unfold goodRS at hv ⊢
  dsimp only at hv ⊢
  split at hv
  · rename_i x
    split at hv
    · rename_i l hx
      split at hv
      · rename_i hl
        cases hv
        rcases decStrs_inv hx with rfl | ⟨rfl, rfl⟩
        · refine prim_of (n := 203) (h' := h0) (envOf_ok (ss := [smallS, digitS]) (by simp [smallS_ok, digitS_ok])) ?_ rfl (by simp [AV.refsL, AV.refs, strs_refs])
          have h5 : AV.refsL (l.map .str) = 0 := strs_refs l
          have h := c31_loop2 100 l hl l [] 202 rfl (by omega)
          simp only [List.length_nil, c31_m2, show ((0 : Nat) : Int) = 0 from rfl] at h
          unfold goodN
          cases hg : goodP [] l with
          | false =>
            rw [hg] at h
            simp at h
            simp [run31, c31, c31_m2, h5, h, smallS_f, digitS_f]
          | true =>
            rw [hg] at h
            simp at h
            by_cases h1 : 1 ≤ l.length
            · have h1' : (1 : Int) ≤ (l.length : Int) := by omega
              by_cases h2 : l.length ≤ 64
              · have h2' : (l.length : Int) ≤ 64 := by omega
                simp [run31, c31, c31_m2, h5, h, h1, h1', h2, h2', smallS_f, digitS_f]
              · have h2' : ¬ ((l.length : Int) ≤ 64) := by omega
                simp [run31, c31, c31_m2, h5, h, h1, h1', h2, h2', smallS_f, digitS_f]
            · have h1' : ¬ ((1 : Int) ≤ (l.length : Int)) := by omega
              simp [run31, c31, c31_m2, h5, h, h1, h1', smallS_f, digitS_f]
        · refine prim_of (n := 5) (h' := h0) (envOf_ok (ss := [smallS, digitS]) (by simp [smallS_ok, digitS_ok])) ?_ rfl rfl
          simp [run31, c31, c31_m2, c31_b2, loopH_succ, goodN, smallS_f, digitS_f]
      · cases hv
    · cases hv
  · cases hv

end Go.Proofs.YtnkafagfkblfeaaDoor

namespace Go.Proofs.YtnkafagfkblfeaaDoor
open Go Sz
set_option linter.unusedSimpArgs false
attribute [local simp] evCode_skip evCode_reg evCode_dreg evCode_seq evCode_cond evCode_block evCode_exit evCode_ret evSteps_nil evSteps_op evSteps_opg evSteps_call evSteps_callg evSteps_callv evSteps_callvg evTr_nil evTr_cons evStep_op evStep_opg evStep_call evStep_callg evStep_callv evStep_callvg ldId chkTr
  evOp_mov evOp_pick evOp_box evOp_bld evOp_bsl evOp_ld evOp_st evOp_nck evOp_bin evOp_beq evOp_ceq evOp_peq evOp_not evOp_neg evOp_xor evOp_cvi evOp_cvss evOp_cvis evOp_cvsb evOp_mki evOp_mkf evOp_mkm evOp_mks evOp_sls evOp_slv evOp_fad evOp_fld1 evOp_fldn evOp_iad evOp_ixs evOp_ext evOp_lens evOp_lenv evOp_mx evOp_mn evOp_app evOp_bs0 evOp_snil evOp_clr
  FM_ev ev_const FM_put put_none FM_unwanted lk_hit lk_miss lk_nil FM_clear FM_clearB trues pick gc_FM gc_FM0 incK snds renM allM evB_fm enumA cells_agg cells_bool cells_int cells_str cells_nilp cells_ptr cells_ip cells_nils cells_sl cells_vec cells_nilm cells_map cells_nilfn cells_fn cells_nili cells_iface ldA row_mk get_mk set_mk mark_mk alloc_mk' trunc_mk binA resAll_nil resAll_cons FM_resT FM_resC oneOf finish_mk frz_undef frz_bool frz_int frz_str frz_nilp frz_ptr frz_ip frz_nils frz_sl frz_nilm frz_map frz_nilfn frz_fn frz_nili frz_iface frz_old frz_agg frz_tuple frzL_nil frzL_cons kill_nil kill_cons chunk_zero chunk_succ AV.refs AV.refsL evCall_spec lookF_nil lookF_cons callS_nil callS_one clones cloneS_f cloneS_nils cloneS_sl0 fillA putAt_nil putAt_cons evCode_loop bgn_mk aft_mk keeps objsAt ren renId AV.top lowObj h0 succ_le_f elemsA_nils elemsA_vec elemsA_str evOp_die evOp_lkp evOp_cvbs lookA scal_bool scal_int scal_str scal_nils scal_sl scal_tuple scal_agg scal1_bool scal1_int scal1_str scal1_nils scal1_sl scal1_agg

/-! The reference's Fits, LabelText, LabelParse. -/

theorem cutB_len' (c : UInt8) : ∀ s : List UInt8, (cutB c s).length ≤ s.length + 1
  | [] => by simp [cutB]
  | b :: l => by
    have ih := cutB_len' c l
    unfold cutB
    split
    · simp; omega
    · split
      · rename_i p r e
        rw [e] at ih
        simp at ih ⊢
        omega
      · simp
theorem parseC_of' {s : List UInt8} (h : s.length ≤ 1000000) : parseC s := by
  have h1 := Lib.trimPrefix_le s [123]
  have h2 := Lib.trimSuffix_le (Lib.trimPrefix s [123]) [125]
  unfold parseC pieces maxStr
  rw [split_cut]
  have h3 := cutB_len' 44 (Lib.trimSuffix (Lib.trimPrefix s [123]) [125])
  omega


def noB (x : BitVec 64) : Nat → Nat → Bool
  | 0, _ => true
  | d + 1, i => !x.getLsbD i && noB x d (i + 1)
theorem noB_iff (x : BitVec 64) : ∀ (d i : Nat), noB x d i = true ↔ ∀ j, i ≤ j → j < i + d → x.getLsbD j = false
  | 0, i => by simp [noB]; omega
  | d + 1, i => by
    unfold noB
    rw [Bool.and_eq_true, noB_iff x d (i + 1), Bool.not_eq_true']
    constructor
    · rintro ⟨h1, h2⟩ j hj hj2
      by_cases e : j = i
      · subst e; exact h1
      · exact h2 j (by omega) (by omega)
    · intro h
      exact ⟨h i (by omega) (by omega), fun j h1 h2 => h j (by omega) (by omega)⟩
theorem fits_noB {l : List (List UInt8)} (hg : goodN l = true) (x : BitVec 64) : fitsK l x = noB x (64 - l.length) l.length := by
  have := (goodN_len hg).2
  rw [Bool.eq_iff_iff, noB_iff]
  constructor
  · intro h j h1 _
    cases hx : x.getLsbD j with
    | false => rfl
    | true =>
      have := fits_bit h j hx
      omega
  · intro h
    refine fits_of hg fun i hi => ?_
    apply Classical.byContradiction
    intro hn
    have h64 : i < 64 := BitVec.lt_of_getLsbD hi
    rw [h i (by omega) (by omega)] at hi
    cases hi

theorem c34_loop (n : Nat) (l : List (List UInt8)) (x : BitVec 64) : ∀ (d i m : Nat), (i + d = 64 ∨ (d = 0 ∧ 64 ≤ i)) → d < m →
    aft 0 0 (loopH (evCode (evCall (envOf [hasS, goodRS]) (n + 1)) (n + 1) c34_b0) c34_m0 0 m (c34_f0 (.sl (l.map .str)) (labA x) (.int .i64 i)) ⟨0, [], 0, 0⟩) =
      if noB x d i then some (.exit 0, FM 17 [(0, .sl (l.map .str))], ⟨0, [], 0, 0⟩) else some (.ret, FM 17 [(4, .bool false)], ⟨0, [], 0, 0⟩)
  | 0, i, m + 1, h, _ => by
    have h5 : AV.refsL (l.map .str) = 0 := strs_refs l
    have h1 : ((i : Int) < 64) = False := eq_false (by omega)
    simp [loopH_succ, c34_b0, h1, h5, noB]
  | d + 1, i, m + 1, h, hm => by
    have ih := c34_loop n l x d (i + 1) m (by omega) (by omega)
    have h5 : AV.refsL (l.map .str) = 0 := strs_refs l
    have h1 : ((i : Int) < 64) = True := eq_true (by omega)
    have h3 : IntKind.i64.wrap ((i : Int) + 1) = (i : Int) + 1 := by
      rw [wrap_succ (by omega)]; simp
    have hb := hasS_at x i (by omega)
    simp only [Int.natCast_add, Int.natCast_one, show ((1 : Nat) : Int) = 1 from rfl] at ih
    rw [loopH_succ]
    cases hx : x.getLsbD i with
    | true =>
      rw [hx] at hb
      simp [c34_b0, c34_m0, h1, h3, h5, hb, hasS_f, goodRS_f, noB, hx]
    | false =>
      rw [hx] at hb
      simp [c34_b0, c34_m0, h1, h3, h5, hb, hasS_f, goodRS_f, noB, hx]
      exact ih

def fitsRS : KSpec := ⟨34, fun | [.sl xs, y] => (match decStrL xs, decLab y with | some l, some b => if l.length ≤ 70 then some (.bool (fitsK l b)) else none | _, _ => none) | _ => none⟩
theorem fitsRS_f : fitsRS.f = 34 := (rfl)
theorem fitsRS_at (l : List (List UInt8)) (b : BitVec 64) (hl : l.length ≤ 70) : fitsRS.S [.sl (l.map .str), .int .u64 (labN b)] = some (.bool (fitsK l b)) := by
  simp only [fitsRS, decStrL_map, decLab_at, if_pos hl]
theorem fitsRS_ok : KSpecOK Tryd.prog fitsRS := fun args v hv => by
  unfold fitsRS at hv ⊢
  dsimp only at hv ⊢
  split at hv
  · rename_i xs y
    split at hv
    · rename_i l b hx hb
      split at hv
      · rename_i hl
        cases hv
        rw [decLab_inv hb, decStrL_inv _ _ hx]
        refine prim_of (n := 72) (h' := h0) (envOf_ok (ss := [hasS, goodRS]) (by simp [hasS_ok, goodRS_ok])) ?_ rfl (by simp [AV.refsL, AV.refs, strs_refs])
        have h5 : AV.refsL (l.map .str) = 0 := strs_refs l
        have hg := goodRS_at (.sl (l.map .str)) l (decStrs_sl l) hl
        have h := c34_loop 70 l b (64 - l.length) l.length 71 (by omega) (by omega)
        simp only [c34_m0] at h
        cases hgn : goodN l with
        | false =>
          have hf : fitsK l b = false := by unfold fitsK; rw [hgn]; rfl
          rw [hgn] at hg
          cases hn : noB b (64 - l.length) l.length with
          | false =>
            rw [hn] at h
            simp at h
            simp [run34, c34, c34_m0, h5, h, hf, hg, hasS_f, goodRS_f]
          | true =>
            rw [hn] at h
            simp at h
            simp [run34, c34, c34_m0, h5, h, hf, hg, hasS_f, goodRS_f]
        | true =>
          rw [hgn] at hg
          have hf := fits_noB hgn b
          cases hn : noB b (64 - l.length) l.length with
          | false =>
            rw [hn] at h hf
            simp at h
            simp [run34, c34, c34_m0, h5, h, hf, hg, hasS_f, goodRS_f]
          | true =>
            rw [hn] at h hf
            simp at h
            simp [run34, c34, c34_m0, h5, h, hf, hg, hasS_f, goodRS_f]
      · cases hv
    · cases hv
  · cases hv

/-! Text. -/

def stepT (s p : List UInt8) : List UInt8 := (if s = [] then [] else s ++ [44]) ++ p
def foldT (s : List UInt8) : List (List UInt8) → List UInt8
  | [] => s
  | p :: r => foldT (stepT s p) r
theorem foldT_ne : ∀ (P : List (List UInt8)) (s : List UInt8), s ≠ [] → (∀ p ∈ P, p ≠ []) → foldT s P = s ++ Lib.joinTail [44] P
  | [], s, _, _ => by simp [foldT, Lib.joinTail]
  | p :: r, s, hs, hp => by
    have h2 : stepT s p ≠ [] := by
      unfold stepT
      rw [if_neg hs]
      simp
    rw [foldT, foldT_ne r _ h2 fun x hx => hp x (by simp [hx])]
    unfold stepT
    rw [if_neg hs]
    simp [Lib.joinTail]
theorem foldT_join (P : List (List UInt8)) (hp : ∀ p ∈ P, p ≠ []) : foldT [] P = Lib.join P [44] := by
  cases P with
  | nil => rfl
  | cons p r =>
    have h1 : p ≠ [] := hp p (by simp)
    have h2 : stepT [] p = p := by simp [stepT]
    rw [foldT, h2, foldT_ne r p h1 fun x hx => hp x (by simp [hx]), Lib.join_cons]

theorem c36_loop (n : Nat) (l : List (List UInt8)) (x : BitVec 64) (hl : l.length ≤ 64) (hn : ∀ s ∈ l, s.length ≤ 16) : ∀ post pre acc m, l = pre ++ post → acc.length ≤ 17 * pre.length → post.length < m →
    aft 0 0 (loopH (evCode (evCall (envOf [hasS, fitsRS]) (n + 1)) (n + 1) c36_b0) c36_m0 0 m (c36_f0 (.sl (l.map .str)) (labA x) (.str acc) (.int .i64 pre.length)) ⟨0, [], 0, 0⟩) =
      some (.exit 0, FM 33 [(5, .str (foldT acc (pickL x pre.length post)))], ⟨0, [], 0, 0⟩)
  | [], pre, acc, m + 1, e, _, _ => by
    simp at e
    subst e
    have h5 : AV.refsL (l.map .str) = 0 := strs_refs l
    simp [loopH_succ, c36_b0, h5, pickL, foldT]
  | o :: post, pre, acc, m + 1, e, ha, hm => by
    have ih := c36_loop n l x hl hn post (pre ++ [o])
    have h1 : l[pre.length]? = some o := by rw [e]; simp
    have ho : o.length ≤ 16 := hn o (by rw [e]; simp)
    have h3 : IntKind.i64.wrap ((pre.length : Int) + 1) = (pre.length : Int) + 1 := by
      rw [wrap_succ (by rw [e] at hl; simp at hl; omega)]; simp
    have h5 : AV.refsL (l.map .str) = 0 := strs_refs l
    have h6 : (pre.length : Int) < (l.length : Int) := by rw [e, List.length_append, List.length_cons]; omega
    have hpl : pre.length ≤ 64 := by omega
    have hb := hasS_at x pre.length (by omega)
    simp only [List.length_append, List.length_cons, List.length_nil, Nat.zero_add, Int.natCast_add, Int.natCast_one] at ih
    rw [loopH_succ]
    cases hx : x.getLsbD pre.length with
    | false =>
      rw [hx] at hb
      have ih := ih acc m (by simp [e]) (by omega) (by rw [List.length_cons] at hm; omega)
      simp [c36_b0, c36_m0, h1, h3, h5, h6, hb, hasS_f, fitsRS_f, pickL, hx]
      exact ih
    | true =>
      rw [hx] at hb
      cases acc with
      | nil =>
        have ih := ih (stepT [] o) m (by simp [e]) (by simp [stepT]; omega) (by rw [List.length_cons] at hm; omega)
        have g1 : o.length < 9223372036854775808 := by omega
        have g2 : stepT [] o = o := by simp [stepT]
        rw [g2] at ih
        simp [c36_b0, c36_m0, h1, h3, h5, h6, hb, hasS_f, fitsRS_f, pickL, hx, foldT, g1, g2]
        exact ih
      | cons c r =>
        have ih := ih (stepT (c :: r) o) m (by simp [e]) (by simp [stepT] at ha ⊢; omega) (by rw [List.length_cons] at hm; omega)
        have g2 : stepT (c :: r) o = c :: (r ++ 44 :: o) := by simp [stepT]
        have g3 : r.length + 1 + 1 < 9223372036854775808 := by simp at ha; omega
        have g4 : r.length + 1 + 1 + o.length < 9223372036854775808 := by simp at ha; omega
        rw [g2] at ih
        simp [c36_b0, c36_m0, h1, h3, h5, h6, hb, hasS_f, fitsRS_f, pickL, hx, foldT, g2, g3, g4]
        exact ih

def textRS : KSpec := ⟨36, fun | [.sl xs, y] => (match decStrL xs, decLab y with | some l, some b => if l.length ≤ 70 then some (.str (textK l b)) else none | _, _ => none) | _ => none⟩
theorem textRS_f : textRS.f = 36 := (rfl)
theorem textRS_at (l : List (List UInt8)) (b : BitVec 64) (hl : l.length ≤ 70) : textRS.S [.sl (l.map .str), .int .u64 (labN b)] = some (.str (textK l b)) := by
  simp only [textRS, decStrL_map, decLab_at, if_pos hl]
theorem textRS_ok : KSpecOK Tryd.prog textRS := fun args v hv => by
  unfold textRS at hv ⊢
  dsimp only at hv ⊢
  split at hv
  · rename_i xs y
    split at hv
    · rename_i l b hx hb
      split at hv
      · rename_i hl
        cases hv
        rw [decLab_inv hb, decStrL_inv _ _ hx]
        refine prim_of (n := 73) (h' := h0) (envOf_ok (ss := [hasS, fitsRS]) (by simp [hasS_ok, fitsRS_ok])) ?_ rfl (by simp [AV.refsL, AV.refs, strs_refs])
        have h5 : AV.refsL (l.map .str) = 0 := strs_refs l
        have hq := fitsRS_at l b hl
        cases hf : fitsK l b with
        | false =>
          rw [hf] at hq
          simp [run36, c36, h5, hq, hasS_f, fitsRS_f, textK, hf]
        | true =>
          rw [hf] at hq
          have hg : goodN l = true := by
            unfold fitsK at hf
            simp only [Bool.and_eq_true] at hf
            exact hf.1
          have hnm := goodN_names hg
          have h := c36_loop 71 l b (goodN_len hg).2 (fun s hs => nameK_len (hnm s hs)) l [] [] 72 rfl (by simp) (by omega)
          rw [List.length_nil, foldT_join _ fun p hp => name_ne (hnm p (pickL_mem b l 0 p hp))] at h
          simp only [c36_m0, show ((0 : Nat) : Int) = 0 from rfl] at h
          have hjl := join_len 44 (pickL b 0 l) fun s hs => nameK_len (hnm s (pickL_mem b l 0 s hs))
          have hpl := pickL_len b l 0
          have g1 : 1 + (Lib.join (pickL b 0 l) [44]).length < 9223372036854775808 := by omega
          have g1' : (Lib.join (pickL b 0 l) [44]).length + 1 < 9223372036854775808 := by omega
          have g2 : (Lib.join (pickL b 0 l) [44]).length + 1 + 1 < 9223372036854775808 := by omega
          simp [run36, c36, c36_m0, h5, hq, hasS_f, fitsRS_f, textK, hf, h, g1, g1', g2]
      · cases hv
    · cases hv
  · cases hv

/-! Parse. -/

def segFrom (p s : List UInt8) : Nat → Nat → Bool
  | 0, _ => false
  | d + 1, k => segAt p s k || segFrom p s d (k + 1)
theorem segFrom_iff (p s : List UInt8) : ∀ (d k : Nat), segFrom p s d k = true ↔ ∃ j, k ≤ j ∧ j < k + d ∧ segAt p s j = true
  | 0, k => by simp [segFrom]; omega
  | d + 1, k => by
    unfold segFrom
    rw [Bool.or_eq_true, segFrom_iff p s d (k + 1)]
    constructor
    · rintro (h | ⟨j, h1, h2, h3⟩)
      · exact ⟨k, by omega, by omega, h⟩
      · exact ⟨j, by omega, by omega, h3⟩
    · rintro ⟨j, h1, h2, h3⟩
      by_cases e : j = k
      · subst e; exact .inl h3
      · exact .inr ⟨j, by omega, by omega, h3⟩
theorem segIn_from (p s : List UInt8) : segIn p s = segFrom p s (s.length - p.length - 1) 1 := by
  rw [Bool.eq_iff_iff, segFrom_iff]
  unfold segIn
  rw [List.any_eq_true]
  constructor
  · rintro ⟨j, _, h⟩
    have h2 := h
    unfold segAt at h2
    simp only [Bool.and_eq_true, decide_eq_true_eq] at h2
    exact ⟨j, by omega, by omega, h⟩
  · rintro ⟨j, h1, h2, h3⟩
    exact ⟨j, List.mem_range.2 (by omega), h3⟩

theorem u8_eq_iff (c : UInt8) (k : Nat) (hk : k < 256) : ((c.toNat : Int) = (k : Int)) = (c = UInt8.ofNat k) := by
  apply propext
  constructor
  · intro h
    apply UInt8.toNat_inj.1
    rw [UInt8.toNat_ofNat']
    omega
  · intro h
    rw [h, UInt8.toNat_ofNat']
    omega

end Go.Proofs.YtnkafagfkblfeaaDoor

namespace Go.Proofs.YtnkafagfkblfeaaDoor
open Go Sz
set_option linter.unusedSimpArgs false
attribute [local simp] evCode_skip evCode_reg evCode_dreg evCode_seq evCode_cond evCode_block evCode_exit evCode_ret evSteps_nil evSteps_op evSteps_opg evSteps_call evSteps_callg evSteps_callv evSteps_callvg evTr_nil evTr_cons evStep_op evStep_opg evStep_call evStep_callg evStep_callv evStep_callvg ldId chkTr
  evOp_mov evOp_pick evOp_box evOp_bld evOp_bsl evOp_ld evOp_st evOp_nck evOp_bin evOp_beq evOp_ceq evOp_peq evOp_not evOp_neg evOp_xor evOp_cvi evOp_cvss evOp_cvis evOp_cvsb evOp_mki evOp_mkf evOp_mkm evOp_mks evOp_sls evOp_slv evOp_fad evOp_fld1 evOp_fldn evOp_iad evOp_ixs evOp_ext evOp_lens evOp_lenv evOp_mx evOp_mn evOp_app evOp_bs0 evOp_snil evOp_clr
  FM_ev ev_const FM_put put_none FM_unwanted lk_hit lk_miss lk_nil FM_clear FM_clearB trues pick gc_FM gc_FM0 incK snds renM allM evB_fm enumA cells_agg cells_bool cells_int cells_str cells_nilp cells_ptr cells_ip cells_nils cells_sl cells_vec cells_nilm cells_map cells_nilfn cells_fn cells_nili cells_iface ldA row_mk get_mk set_mk mark_mk alloc_mk' trunc_mk binA resAll_nil resAll_cons FM_resT FM_resC oneOf finish_mk frz_undef frz_bool frz_int frz_str frz_nilp frz_ptr frz_ip frz_nils frz_sl frz_nilm frz_map frz_nilfn frz_fn frz_nili frz_iface frz_old frz_agg frz_tuple frzL_nil frzL_cons kill_nil kill_cons chunk_zero chunk_succ AV.refs AV.refsL evCall_spec lookF_nil lookF_cons callS_nil callS_one clones cloneS_f cloneS_nils cloneS_sl0 fillA putAt_nil putAt_cons evCode_loop bgn_mk aft_mk keeps objsAt ren renId AV.top lowObj h0 succ_le_f elemsA_nils elemsA_vec elemsA_str evOp_die evOp_lkp evOp_cvbs lookA scal_bool scal_int scal_str scal_nils scal_sl scal_tuple scal_agg scal1_bool scal1_int scal1_str scal1_nils scal1_sl scal1_agg

/-! The reference's LabelParse. -/

theorem or_self_one (a b : BitVec 64) : a ||| b ||| b = a ||| b := by
  rw [BitVec.or_assoc, BitVec.or_self]

set_option maxRecDepth 100000 in
set_option maxHeartbeats 10000000 in
theorem c30_loop0 (C : Nat → List AV → Heap → Option (AV × Heap)) (n : Nat) (l : List (List UInt8)) (s p : List UInt8) (i : Nat) (hi : l[i]? = some p) (hs : s.length ≤ 300) (hp : p.length ≤ 16) (one : BitVec 64) :
    ∀ (d k : Nat) (acc : BitVec 64) (m : Nat), 1 ≤ k → (d + (k + p.length) = s.length ∨ (d = 0 ∧ s.length ≤ k + p.length)) → d < m → k ≤ 400 →
    aft 0 0 (loopH (evCode C n c30_b0) c30_m0 0 m (c30_f0 (.sl (l.map .str)) (.str s) (labA acc) (labA one) (.int .i64 i) (.int .i64 k)) ⟨0, [], 0, 0⟩) =
      some (.exit 2, FM 107 [(0, .sl (l.map .str)), (1, .str s), (6, labA (if segFrom p s d k then acc ||| one else acc)), (7, labA one), (8, .int .i64 i)], ⟨0, [], 0, 0⟩)
  | 0, k, acc, m + 1, h1, hd, _, hk => by
    have h5 : AV.refsL (l.map .str) = 0 := strs_refs l
    have w1 : IntKind.i64.wrap ((k : Int) + (p.length : Int)) = (k : Int) + (p.length : Int) := wrap_i64 (by omega) (by omega)
    have t1 : ((k : Int) + (p.length : Int) < (s.length : Int)) = False := eq_false (by omega)
    simp [loopH_succ, c30_b0, hi, h5, w1, t1, segFrom]
  | d + 1, k, acc, m + 1, h1, hd, hm, hk => by
    have h5 : AV.refsL (l.map .str) = 0 := strs_refs l
    obtain ⟨kp, hkp⟩ : ∃ kp : Nat, kp = k + p.length := ⟨_, rfl⟩
    obtain ⟨k1, hk1⟩ : ∃ k1 : Nat, k1 + 1 = k := ⟨k - 1, by omega⟩
    have w1 : IntKind.i64.wrap ((k : Int) + (p.length : Int)) = (kp : Int) := by rw [wrap_i64 (by omega) (by omega)]; omega
    have w2 : IntKind.i64.wrap ((k : Int) - 1) = (k1 : Int) := by rw [wrap_i64 (by omega) (by omega)]; omega
    have w3 : IntKind.i64.wrap ((k : Int) + 1) = (k : Int) + 1 := wrap_i64 (by omega) (by omega)
    have t1 : ((kp : Int) < (s.length : Int)) = True := eq_true (by omega)
    have g1 : s[kp]? = some (s.getD kp 0) := by rw [List.getD_eq_getElem?_getD, List.getElem?_eq_getElem (by omega)]; rfl
    have g2 : s[k1]? = some (s.getD k1 0) := by rw [List.getD_eq_getElem?_getD, List.getElem?_eq_getElem (by omega)]; rfl
    have sl : sliceB s.length (some (.int .i64 (k : Int))) (some (.int .i64 (kp : Int))) = some (k, kp) := by
      have a1 : (kp : Int) ≤ (s.length : Int) := by omega
      have a2 : (k : Int) ≤ (kp : Int) := by omega
      simp [sliceB, a1, a2]
    have sd : (s.take kp).drop k = (s.drop k).take p.length := by rw [List.drop_take, hkp, show k + p.length - k = p.length by omega]
    have hseg : segAt p s k = (((s.drop k).take p.length == p) && (s.getD k1 0 == 123 || s.getD k1 0 == 44) && (s.getD kp 0 == 44 || s.getD kp 0 == 125)) := by
      unfold segAt
      rw [decide_eq_true h1, decide_eq_true (show k + p.length < s.length by omega), show k - 1 = k1 by omega, ← hkp]
      rfl
    generalize s.getD kp 0 = e2 at g1 hseg
    generalize s.getD k1 0 = e1 at g2 hseg
    generalize (s.drop k).take p.length = q at sd hseg
    have a1 := u8_eq_iff e1 123 (by omega)
    have a2 := u8_eq_iff e1 44 (by omega)
    have a3 := u8_eq_iff e2 44 (by omega)
    have a4 := u8_eq_iff e2 125 (by omega)
    simp only [show ((123 : Nat) : Int) = 123 from rfl, show ((44 : Nat) : Int) = 44 from rfl, show ((125 : Nat) : Int) = 125 from rfl, show UInt8.ofNat 123 = 123 from rfl, show UInt8.ofNat 44 = 44 from rfl, show UInt8.ofNat 125 = 125 from rfl] at a1 a2 a3 a4
    have bo := bits_or acc one
    have fin : ∀ b : Bool, segAt p s k = b → labA (if segFrom p s d (k + 1) then (if b then acc ||| one else acc) ||| one else (if b then acc ||| one else acc)) = labA (if segFrom p s (d + 1) k then acc ||| one else acc) := fun b hb => by
      rw [show segFrom p s (d + 1) k = (segAt p s k || segFrom p s d (k + 1)) from rfl, hb]
      cases b <;> cases segFrom p s d (k + 1) <;> simp [or_self_one]
    have ihF := c30_loop0 C n l s p i hi hs hp one d (k + 1) acc m (by omega) (by omega) (by omega) (by omega)
    have ihT := c30_loop0 C n l s p i hi hs hp one d (k + 1) (acc ||| one) m (by omega) (by omega) (by omega) (by omega)
    have finF := fin false
    have finT := fin true
    simp only [Bool.false_eq_true, if_false, if_true] at finF finT
    simp only [Int.natCast_add, Int.natCast_one, show ((1 : Nat) : Int) = 1 from rfl] at ihF ihT
    rw [loopH_succ]
    cases b0 : q == p with
    | false =>
      rw [b0] at hseg
      rw [finF hseg] at ihF
      simp [c30_b0, c30_m0, hi, h5, w1, w2, w3, t1, g1, g2, sl, sd, b0]
      exact ihF
    | true =>
      rw [b0] at hseg
      by_cases c1 : e1 = 123
      · have a1' : ((e1.toNat : Int) = 123) = True := eq_true (a1 ▸ c1)
        by_cases c3 : e2 = 44
        · have a3' : ((e2.toNat : Int) = 44) = True := eq_true (a3 ▸ c3)
          rw [c1, c3] at hseg
          rw [finT hseg] at ihT
          simp [c30_b0, c30_m0, hi, h5, w1, w2, w3, t1, g1, g2, sl, sd, b0, a1', a3', bo]
          exact ihT
        · have a3' : ((e2.toNat : Int) = 44) = False := eq_false (a3 ▸ c3)
          by_cases c4 : e2 = 125
          · have a4' : ((e2.toNat : Int) = 125) = True := eq_true (a4 ▸ c4)
            rw [c1, c4] at hseg
            rw [finT hseg] at ihT
            simp [c30_b0, c30_m0, hi, h5, w1, w2, w3, t1, g1, g2, sl, sd, b0, a1', a3', a4', bo]
            exact ihT
          · have a4' : ((e2.toNat : Int) = 125) = False := eq_false (a4 ▸ c4)
            have hs2 : segAt p s k = false := by
              rw [hseg]
              simp [c3, c4]
            rw [finF hs2] at ihF
            simp [c30_b0, c30_m0, hi, h5, w1, w2, w3, t1, g1, g2, sl, sd, b0, a1', a3', a4', bo]
            exact ihF
      · have a1' : ((e1.toNat : Int) = 123) = False := eq_false (a1 ▸ c1)
        by_cases c2 : e1 = 44
        · have a2' : ((e1.toNat : Int) = 44) = True := eq_true (a2 ▸ c2)
          by_cases c3 : e2 = 44
          · have a3' : ((e2.toNat : Int) = 44) = True := eq_true (a3 ▸ c3)
            rw [c2, c3] at hseg
            rw [finT hseg] at ihT
            simp [c30_b0, c30_m0, hi, h5, w1, w2, w3, t1, g1, g2, sl, sd, b0, a1', a2', a3', bo]
            exact ihT
          · have a3' : ((e2.toNat : Int) = 44) = False := eq_false (a3 ▸ c3)
            by_cases c4 : e2 = 125
            · have a4' : ((e2.toNat : Int) = 125) = True := eq_true (a4 ▸ c4)
              rw [c2, c4] at hseg
              rw [finT hseg] at ihT
              simp [c30_b0, c30_m0, hi, h5, w1, w2, w3, t1, g1, g2, sl, sd, b0, a1', a2', a3', a4', bo]
              exact ihT
            · have a4' : ((e2.toNat : Int) = 125) = False := eq_false (a4 ▸ c4)
              have hs2 : segAt p s k = false := by
                rw [hseg]
                simp [c3, c4]
              rw [finF hs2] at ihF
              simp [c30_b0, c30_m0, hi, h5, w1, w2, w3, t1, g1, g2, sl, sd, b0, a1', a2', a3', a4', bo]
              exact ihF
        · have a2' : ((e1.toNat : Int) = 44) = False := eq_false (a2 ▸ c2)
          have hs2 : segAt p s k = false := by
            rw [hseg]
            simp [c1, c2]
          rw [finF hs2] at ihF
          simp [c30_b0, c30_m0, hi, h5, w1, w2, w3, t1, g1, g2, sl, sd, b0, a1', a2', bo]
          exact ihF

theorem dbl_lab (x : BitVec 64) : IntKind.u64.wrap (2 * labN x) = labN (x <<< 1) := by
  rw [IntKind.wrap_u64]
  unfold labN
  rw [BitVec.toNat_shiftLeft, Nat.shiftLeft_eq]
  omega

set_option maxRecDepth 100000 in
set_option maxHeartbeats 10000000 in
theorem c30_loop1 (C : Nat → List AV → Heap → Option (AV × Heap)) (n : Nat) (l : List (List UInt8)) (s : List UInt8) (hl : l.length ≤ 64) (hn : ∀ p ∈ l, p.length ≤ 16) (hs : s.length ≤ 300) (hnn : 400 < n) : ∀ post pre acc m, l = pre ++ post → post.length < m →
    aft 0 0 (loopH (evCode C n c30_b1) c30_m1 0 m (c30_f1 (.sl (l.map .str)) (.str s) (labA acc) (labA (1#64 <<< pre.length)) (.int .i64 pre.length)) ⟨0, [], 0, 0⟩) =
      some (.exit 0, FM 107 [(0, .sl (l.map .str)), (1, .str s), (6, labA (refX l s pre.length post acc))], ⟨0, [], 0, 0⟩)
  | [], pre, acc, m + 1, e, _ => by
    simp at e
    subst e
    have h5 : AV.refsL (l.map .str) = 0 := strs_refs l
    simp [loopH_succ, c30_b1, h5, refX]
  | o :: post, pre, acc, m + 1, e, hm => by
    have ih := c30_loop1 C n l s hl hn hs hnn post (pre ++ [o])
    have h1 : l[pre.length]? = some o := by rw [e]; simp
    have ho : o.length ≤ 16 := hn o (by rw [e]; simp)
    have h3 : IntKind.i64.wrap ((pre.length : Int) + 1) = (pre.length : Int) + 1 := by
      rw [wrap_succ (by rw [e] at hl; simp at hl; omega)]; simp
    have h5 : AV.refsL (l.map .str) = 0 := strs_refs l
    have h6 : (pre.length : Int) < (l.length : Int) := by rw [e, List.length_append, List.length_cons]; omega
    have l0 := c30_loop0 C n l s o pre.length h1 hs ho (1#64 <<< pre.length) (s.length - o.length - 1) 1 acc n (by omega) (by omega) (by omega) (by omega)
    rw [← segIn_from] at l0
    have hd := dbl_lab (1#64 <<< pre.length)
    rw [show 1#64 <<< pre.length <<< 1 = 1#64 <<< (pre.length + 1) by rw [BitVec.shiftLeft_add]] at hd
    have ih := ih (if segIn o s then acc ||| (1#64 <<< pre.length) else acc) m (by simp [e]) (by rw [List.length_cons] at hm; omega)
    simp only [List.length_append, List.length_cons, List.length_nil, Nat.zero_add, Int.natCast_add, Int.natCast_one] at ih
    simp only [c30_m0, show ((1 : Nat) : Int) = 1 from rfl] at l0
    rw [loopH_succ]
    simp [c30_b1, c30_m0, c30_m1, h1, h3, h5, h6, l0, hd, refX]
    exact ih

theorem textK_form {l : List (List UInt8)} {y : BitVec 64} {s : List UInt8} (h : textK l y = s) (hne : s ≠ []) : ∃ J, s = 123 :: (J ++ [125]) := by
  rw [textK_eq] at h
  split at h
  · exact ⟨_, h.symm⟩
  · exact absurd h.symm hne

def refParseS : KSpec := ⟨30, fun | [.sl xs, .str s] => (match decStrL xs with | some l => if l.length ≤ 70 ∧ s.length ≤ 300 then some (.tuple [labA (refParse l s).1, .bool (refParse l s).2]) else none | none => none) | _ => none⟩
theorem refParseS_f : refParseS.f = 30 := (rfl)
theorem refParseS_at (l : List (List UInt8)) (s : List UInt8) (h : l.length ≤ 70 ∧ s.length ≤ 300) : refParseS.S [.sl (l.map .str), .str s] = some (.tuple [labA (refParse l s).1, .bool (refParse l s).2]) := by
  simp only [refParseS, decStrL_map, if_pos h]

set_option maxRecDepth 100000 in
set_option maxHeartbeats 10000000 in
theorem refParseS_ok : KSpecOK Tryd.prog refParseS := fun args v hv => by
  unfold refParseS at hv ⊢
  dsimp only at hv ⊢
  split at hv
  · rename_i xs s
    split at hv
    · rename_i l hx
      split at hv
      · rename_i hc
        cases hv
        obtain ⟨hl, hs⟩ := hc
        rw [decStrL_inv _ _ hx]
        refine prim_of (n := 503) (h' := h0) (envOf_ok (ss := [goodRS, textRS]) (by simp [goodRS_ok, textRS_ok])) ?_ rfl (by simp [AV.refsL, AV.refs, strs_refs])
        have h5 : AV.refsL (l.map .str) = 0 := strs_refs l
        have hq := goodRS_at (.sl (l.map .str)) l (decStrs_sl l) hl
        cases hg : goodN l with
        | false =>
          have hr : refParse l s = (0#64, false) := by simp [refParse, hg]
          rw [hg] at hq
          simp [run30, c30, h5, hq, goodRS_f, textRS_f, hr, labN_zero]
        | true =>
          rw [hg] at hq
          have hnm := goodN_names hg
          have no : ∀ (hns : ¬ ∃ J, s = 123 :: (J ++ [125])), refParse l s = (0#64, false) := fun hns => by
            unfold refParse
            rw [hg, Bool.true_and]
            have : (textK l (refX l s 0 l 0#64) == s && decide (s ≠ [])) = false := by
              rw [Bool.eq_false_iff]
              intro h
              simp only [Bool.and_eq_true, beq_iff_eq, decide_eq_true_eq] at h
              exact hns (textK_form h.1 h.2)
            rw [this]
            rfl
          cases s with
          | nil =>
            have hr := no (by rintro ⟨J, h⟩; cases h)
            simp [run30, c30, h5, hq, goodRS_f, textRS_f, hr, labN_zero]
          | cons c r =>
            have hsl : r.length + 1 ≤ 300 := by simpa using hs
            by_cases h2 : r = []
            · subst h2
              have hr := no (by rintro ⟨J, h⟩; have := congrArg List.length h; simp at this)
              simp [run30, c30, h5, hq, goodRS_f, textRS_f, hr, labN_zero]
            · have hrl : r.length ≠ 0 := fun h => h2 (List.eq_nil_of_length_eq_zero h)
              have t1 : ((r.length : Int) + 1 < 2) = False := eq_false (by omega)
              have a1 := u8_eq_iff c 123 (by omega)
              simp only [show ((123 : Nat) : Int) = 123 from rfl, show UInt8.ofNat 123 = 123 from rfl] at a1
              by_cases hc : c = 123
              · have a1' : ((c.toNat : Int) = 123) = True := eq_true (a1 ▸ hc)
                have w1 : IntKind.i64.wrap ((r.length : Int) + 1 - 1) = (r.length : Int) := by rw [wrap_i64 (by omega) (by omega)]; omega
                have w1' : IntKind.i64.wrap (r.length : Int) = (r.length : Int) := wrap_i64 (by omega) (by omega)
                have a2 := u8_eq_iff ((c :: r)[r.length]'(by simp)) 125 (by omega)
                simp only [show ((125 : Nat) : Int) = 125 from rfl, show UInt8.ofNat 125 = 125 from rfl] at a2
                by_cases hd : (c :: r)[r.length]'(by simp) = 125
                · have a2' : ((((c :: r)[r.length]'(by simp)).toNat : Int) = 125) = True := eq_true (a2 ▸ hd)
                  have lp := c30_loop1 (evCall (envOf [goodRS, textRS]) 502) 502 l (c :: r) (goodN_len hg).2 (fun p hp => nameK_len (hnm p hp)) hs (by omega) l [] 0#64 502 rfl (by have := (goodN_len hg).2; omega)
                  simp only [List.length_nil, c30_m1, show ((0 : Nat) : Int) = 0 from rfl, show labA (1#64 <<< 0) = AV.int .u64 1 from rfl, show labA 0#64 = AV.int .u64 0 from rfl] at lp
                  have ht := textRS_at l (refX l (c :: r) 0 l 0#64) hl
                  have hr : refParse l (c :: r) = if textK l (refX l (c :: r) 0 l 0#64) == c :: r then (refX l (c :: r) 0 l 0#64, true) else (0#64, false) := by
                    unfold refParse
                    rw [hg]
                    simp
                  generalize refX l (c :: r) 0 l 0#64 = y at lp ht hr
                  cases he : textK l y == c :: r with
                  | true =>
                    rw [he] at hr
                    simp only [if_true] at hr
                    simp [run30, c30, c30_m1, h5, hq, goodRS_f, textRS_f, hr, t1, a1', w1, w1', a2', lp, ht, he]
                  | false =>
                    rw [he] at hr
                    simp only [Bool.false_eq_true, if_false] at hr
                    simp [run30, c30, c30_m1, h5, hq, goodRS_f, textRS_f, hr, t1, a1', w1, w1', a2', lp, ht, he, labN_zero]
                · have a2' : ((((c :: r)[r.length]'(by simp)).toNat : Int) = 125) = False := eq_false (a2 ▸ hd)
                  have hr := no (by
                    rintro ⟨J, h⟩
                    simp only [List.cons.injEq] at h
                    apply hd
                    have : r = J ++ [125] := h.2
                    subst this
                    rw [List.getElem_eq_iff]
                    simp)
                  simp [run30, c30, h5, hq, goodRS_f, textRS_f, hr, t1, a1', w1, w1', a2', labN_zero]
              · have a1' : ((c.toNat : Int) = 123) = False := eq_false (a1 ▸ hc)
                have hr := no (by rintro ⟨J, h⟩; simp only [List.cons.injEq] at h; exact hc h.1)
                simp [run30, c30, h5, hq, goodRS_f, textRS_f, hr, t1, a1', labN_zero]
      · cases hv
    · cases hv
  · cases hv

end Go.Proofs.YtnkafagfkblfeaaDoor

namespace Go.Proofs.YtnkafagfkblfeaaDoor
open Go Sz
set_option linter.unusedSimpArgs false
attribute [local simp] seqF condF stepF callF callvF guardF trF step1F call1F callv1F guard1F seqK_n seqK_e seqK_r condK_t condK_f stK_s gdK_t gdK_f cvK_f trK_s trK1_s stK1_s gdK1_t gdK1_f cvK1_f evCode_skip evCode_reg evCode_dreg evCode_block evCode_exit evCode_ret evSteps_nil evTr_nil ldId chkTr
 evOp_mov evOp_pick evOp_box evOp_bld evOp_bsl evOp_ld evOp_st evOp_nck evOp_bin evOp_beq evOp_ceq evOp_peq evOp_not evOp_neg evOp_xor evOp_cvi evOp_cvss evOp_cvis evOp_cvsb evOp_mki evOp_mkf evOp_mkm evOp_mks evOp_sls evOp_slv evOp_fad evOp_fld1 evOp_fldn evOp_iad evOp_ixs evOp_ext evOp_lens evOp_lenv evOp_mx evOp_mn evOp_app evOp_bs0 evOp_snil evOp_clr
 FM_ev ev_const FM_put put_none FM_unwanted lk_hit lk_miss lk_nil FM_clear FM_clearB trues pick gc_FM gc_FM0 incK snds renM allM evB_fm enumA cells_agg cells_bool cells_int cells_str cells_nilp cells_ptr cells_ip cells_nils cells_sl cells_vec cells_nilm cells_map cells_nilfn cells_fn cells_nili cells_iface ldA row_mk get_mk set_mk mark_mk alloc_mk' trunc_mk binA resAll_nil resAll_cons FM_resT FM_resC oneOf finish_mk frz_undef frz_bool frz_int frz_str frz_nilp frz_ptr frz_ip frz_nils frz_sl frz_nilm frz_map frz_nilfn frz_fn frz_nili frz_iface frz_old frz_agg frz_tuple frzL_nil frzL_cons kill_nil kill_cons chunk_zero chunk_succ AV.refs AV.refsL evCall_spec lookF_nil lookF_cons callS_nil callS_oneF spK_s spK_n frK_s frK_n clones cloneS_f cloneS_nils cloneS_sl0 fillA putAt_nil putAt_cons evCode_loop bgn_mk aft_mk keeps objsAt ren renId AV.top lowObj h0 succ_le_f oldK oldAll oldLow oldRen lowCells_row lowCells_map lowCells_dead objCells topLow renObj elemsA_nils elemsA_vec elemsA_str evOp_die evOp_lkp evOp_cvbs lookA scal_bool scal_int scal_str scal_nils scal_sl scal_tuple scal_agg scal1_bool scal1_int scal1_str scal1_nils scal1_sl scal1_agg
attribute [local simp low] frz_vecR

/-! LabelSays. -/

def topI : Nat → BitVec 64
  | 0 => 0#64
  | i + 1 => topI i * 2#64 + 1#64
theorem topI_all : ((List.range 65).all fun i => BitVec.allOnes 64 >>> (64 - i) == topI i) = true := by kernel_rfl
theorem topK_I {l : List (List UInt8)} (hg : goodN l = true) : topK l = topI l.length := by
  have h := (goodN_len hg).2
  have := List.all_eq_true.1 topI_all l.length (List.mem_range.2 (by omega))
  unfold topK
  rw [if_pos hg]
  simpa using this
theorem topI_step (i : Nat) : IntKind.u64.wrap (IntKind.u64.wrap (labN (topI i) * 2) + 1) = labN (topI (i + 1)) := by
  have h := (topI i).isLt
  rw [IntKind.wrap_u64, IntKind.wrap_u64]
  unfold labN
  rw [topI, BitVec.toNat_add, BitVec.toNat_mul]
  simp

set_option maxRecDepth 100000 in
set_option maxHeartbeats 10000000 in
theorem c7_loop (C : Nat → List AV → Heap → Option (AV × Heap)) (n : Nat) (l : List (List UInt8)) (hl : l.length ≤ 70) (a b y : BitVec 64) (ok : Bool) : ∀ (d i m : Nat), i + d = l.length → d < m →
    aft 0 0 (loopH (evCode C n c7_b0) c7_m0 0 m (c7_f0 (.sl (l.map .str)) (labA a) (labA b) (.sl (l.map .str)) (labA a) (labA b) (labA y) (.bool ok) (labA y) (.bool ok) (labA (topI i)) (.int .i64 i)) ⟨0, [], 0, 0⟩) =
      some (.exit 0, FM 123 [(0, .sl (l.map .str)), (1, labA a), (2, labA b), (9, .sl (l.map .str)), (10, labA a), (11, labA b), (12, labA y), (13, .bool ok), (14, labA y), (15, .bool ok), (16, labA (topI l.length))], ⟨0, [], 0, 0⟩)
  | 0, i, m + 1, h, _ => by
    have h5 : AV.refsL (l.map .str) = 0 := strs_refs l
    have e : i = l.length := by omega
    subst e
    simp [loopH_succ, c7_b0, h5]
  | d + 1, i, m + 1, h, hm => by
    have ih := c7_loop C n l hl a b y ok d (i + 1) m (by omega) (by omega)
    have h5 : AV.refsL (l.map .str) = 0 := strs_refs l
    have h1 : ((i : Int) < (l.length : Int)) = True := eq_true (by omega)
    have h3 : IntKind.i64.wrap ((i : Int) + 1) = (i : Int) + 1 := wrap_i64 (by omega) (by omega)
    have ht := topI_step i
    simp only [Int.natCast_add, Int.natCast_one, show ((1 : Nat) : Int) = 1 from rfl] at ih
    rw [loopH_succ]
    simp [c7_b0, c7_m0, h1, h3, h5, ht]
    exact ih

theorem join2 (a b : BitVec 64) : joinK [a, b] = a ||| b := by
  simp [joinK]

set_option maxRecDepth 100000 in
set_option maxHeartbeats 10000000 in
theorem labelSays_prim (hT : KSpecOK Tryd.prog trimS) (l : List (List UInt8)) (a b : BitVec 64) (s : List UInt8) : PrimOK Tryd.prog 7 [.sl (l.map .str), labA a, labA b, .str s] (.bool true) := by
  refine prim_of (n := 100) (h' := h0) (envOf_ok (ss := [awakeS, parseS, refParseS, goodRS, goodS, fitsS, fitsRS, textS, textRS, labJoinS, meetS, leqS, topS])
    (by simp [awakeS_ok hT, parseS_ok hT, refParseS_ok, goodRS_ok, goodS_ok hT, fitsS_ok hT, fitsRS_ok, textS_ok hT, textRS_ok, labJoinS_ok, meetS_ok, leqS_ok, topS_ok hT])) ?_ rfl (by simp [AV.refsL, AV.refs, strs_refs])
  have h5 : AV.refsL (l.map .str) = 0 := strs_refs l
  by_cases h70 : (70 : Int) < (l.length : Int)
  · simp [run7, c7, h5, h70, awakeS_f, awakeS_at, parseS_f, refParseS_f, goodRS_f, goodS_f, fitsS_f, fitsRS_f, textS_f, textRS_f, labJoinS_f, meetS_f, leqS_f, topS_f]
  · by_cases h300 : (300 : Int) < (s.length : Int)
    · simp [run7, c7, h5, h70, h300, awakeS_f, awakeS_at, parseS_f, refParseS_f, goodRS_f, goodS_f, fitsS_f, fitsRS_f, textS_f, textRS_f, labJoinS_f, meetS_f, leqS_f, topS_f]
    · have hl : l.length ≤ 70 := by omega
      have hs : s.length ≤ 300 := by omega
      have p1 := parseS_at (.sl (l.map .str)) l s (decStrs_sl l) (parseC_of' (by omega))
      have p2 := refParseS_at l s ⟨hl, hs⟩
      rw [parse_same] at p1
      generalize (refParse l s).1 = y at p1 p2
      generalize (refParse l s).2 = ok at p1 p2
      have g1 := goodRS_at (.sl (l.map .str)) l (decStrs_sl l) hl
      have g2 := goodS_at (.sl (l.map .str)) l (decStrs_sl l)
      have f1 := fitsS_at (.sl (l.map .str)) l a (decStrs_sl l)
      have f2 := fitsRS_at l a hl
      have t1 := textS_at (.sl (l.map .str)) l a (decStrs_sl l)
      have t2 := textRS_at l a hl
      have j1 := labJoinS_at (.sl [labA a, labA b]) [a, b] (decLabs_sl [a, b]) (by simp)
      rw [join2] at j1
      have m1 := meetS_at a b
      have l1 := leqS_at a b
      have q1 : decide (labN (a ||| b) = labN b) = leqK a b := by rw [labN_eq, or_eq_iff]
      have o1 := topS_at (.sl (l.map .str)) l (decStrs_sl l)
      have bo := bits_or a b
      have ba := bits_and a b
      cases hg : goodN l with
      | false =>
        have ht : topK l = 0#64 := by unfold topK; rw [hg]; rfl
        have hf : fitsK l a = false := by unfold fitsK; rw [hg]; rfl
        rw [hg] at g1 g2
        rw [ht] at o1
        rw [hf] at f1 f2
        simp (maxSteps := 10000000) [run7, c7, h5, h70, h300, p1, p2, g1, g2, f1, f2, t1, t2, j1, m1, l1, q1, o1, bo, ba, labN_zero, awakeS_f, awakeS_at, parseS_f, refParseS_f, goodRS_f, goodS_f, fitsS_f, fitsRS_f, textS_f, textRS_f, labJoinS_f, meetS_f, leqS_f, topS_f]
      | true =>
        have lp := c7_loop (evCall (envOf [awakeS, parseS, refParseS, goodRS, goodS, fitsS, fitsRS, textS, textRS, labJoinS, meetS, leqS, topS]) 99) 99 l hl a b y ok l.length 0 99 (by omega) (by omega)
        rw [← topK_I hg] at lp
        simp only [c7_m0, show ((0 : Nat) : Int) = 0 from rfl, show labA (topI 0) = AV.int .u64 0 from rfl] at lp
        rw [hg] at g1 g2
        simp (maxSteps := 10000000) [run7, c7, c7_m0, h5, h70, h300, p1, p2, g1, g2, f1, f2, t1, t2, j1, m1, l1, q1, o1, bo, ba, lp, awakeS_f, awakeS_at, parseS_f, refParseS_f, goodRS_f, goodS_f, fitsS_f, fitsRS_f, textS_f, textRS_f, labJoinS_f, meetS_f, leqS_f, topS_f]

end Go.Proofs.YtnkafagfkblfeaaDoor
